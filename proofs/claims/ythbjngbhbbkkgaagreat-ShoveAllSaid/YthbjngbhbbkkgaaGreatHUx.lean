/- RtPn RtPc -/
import Derived.Test.YthbjngbhbbkkgaaGreatHUv
import Derived.Test.YthbjngbhbbkkgaaGreatHUw
import Derived.Test.YthbjngbhbbkkgaaGreatHUyyzl
set_option linter.unusedVariables false
set_option linter.unusedSimpArgs false
set_option maxRecDepth 100000
set_option maxHeartbeats 16000000
namespace Go.Proofs.YthbjngbhbbkkgaaGreat
open Go.RowKit
attribute [local go_sem ↓] Go.wp_at_zero Go.wp_at_succ
attribute [local go_sem] Oper.semAt_some
theorem equalI_calls {ok ok':Nat→Prop} {v v':Value} {a b:List Int} (w:World) (h:zf w ok v a) (h':zf w ok' v' b) (hl:a.length≤20000000000000) (hl':b.length≤20000000000000):
  Calls Tryz.prog 75 #[v,v'] w fun e w'=>e=.returned (.bool (decide (a=b)))∧zG w w':=by
 obtain ⟨A,c,rfl,hc,hr⟩:=h;obtain ⟨A',c',rfl,hc',hr'⟩:=h';have HR:=zh hr;clear hr;have HR':=zh hr';clear hr';by_cases hlen:a.length=b.length
 ·have hlb:((a.length:Int) != (b.length:Int))=false:=by simp [hlen]
  have hle:a.length≤b.length:=by omega
  have hle':b.length≤a.length:=by omega
  have HL:=zh hlen;clear hlen
  go_enter Tryz.func75,Tryz.ntmps75
  go_wp2;go_loopw [13] (fun i wr=>∃k:Nat,k≤a.length∧i=.int .i64 k∧Hid (a.take k=b.take k)∧Hid (zG w wr)) (fun i _=>a.length - (intOf i).toNat)
  case atStart=>exact ⟨0,Nat.zero_le _,rfl,by simp [Hid],zG.refl _⟩
  case round=>
   obtain ⟨k,hk,rfl,heq,hq⟩:=hrel;by_cases hlt:k<a.length
   ·have hlt':k<b.length:=by omega
    obtain ⟨bA,off,rfl,_,hcell⟩:=zt (HR.out.keep (hq.out.same ok)) hlt hlt;obtain ⟨bB,off',rfl,_,hcell'⟩:=zt (HR'.out.keep (hq.out.same ok')) hlt' hlt';obtain ⟨x,hx⟩:∃x,x=a[k]:=⟨_,rfl⟩;obtain ⟨y,hy⟩:∃y,y=b[k]:=⟨_,rfl⟩;rw [←hx] at hcell;rw [←hy] at hcell';have HX:=zh hx;clear hx;have HY:=zh hy;clear hy;have hltI:(k:Int)<(a.length:Int):=by omega
    by_cases hxy:x=y
    ·have hbt:(x != y)=false:=by simp [hxy]
     have HXY:=zh hxy;clear hxy;go_wp2;go_quiet (fail)
     go_wp2;go_roundw
     case rel=>exact ⟨k+1,by omega,by go_num,(zcR hlt hlt').2 ⟨heq.out,by rw [←HX.out,←HY.out,HXY.out]⟩,hq.out.more _⟩
     case measure=>simp [intOf];omega
    ·have hbt:(x != y)=true:=by simp [hxy]
     have HXY:=zh hxy;clear hxy;go_wp2;go_quiet (fail)
     go_wp2;go_ret;refine ⟨zd ?_,hq.out.more _⟩;rw [eq_comm,decide_eq_false_iff_not];rintro rfl;exact HXY.out (HX.out.trans HY.out.symm)
   ·obtain rfl:k=a.length:=by omega
    go_wp2;go_ret;refine ⟨zd ?_,hq.out⟩;have h:=heq.out;rw [List.take_length,HL.out,List.take_length] at h;simp [h]
 ·have hlb:((a.length:Int) != (b.length:Int))=true:=by simp only [bne_iff_ne];omega
  have HL:=zh hlen;clear hlen
  go_enter Tryz.func75,Tryz.ntmps75
  go_wp2;go_ret;refine ⟨zd ?_,zG.refl _⟩;rw [eq_comm,decide_eq_false_iff_not];rintro rfl;exact HL.out rfl
theorem zcC {m:MZ} (hl:Lens m) {ps:List (List Int)} (hp:ps.length≤20000000000000) (t:Nat):Lens (zay m ps t):=by
 have hk:=keepL_len ps t;refine ⟨by show ((zat ps t).map _).length≤_;rw [List.length_map];omega,hl.up,by show ((zat ps t).map _).length≤_;rw [List.length_map];omega,fun x hx=>?_⟩;obtain ⟨k,-,rfl⟩:=List.mem_map.1 (show x∈(zat ps t).map (m.tasks.getD · ([],[])) from hx);by_cases hk:k<m.tasks.length
 ·rw [List.getD_eq_getElem?_getD,List.getElem?_eq_getElem hk];exact hl.tl _ (List.getElem_mem hk)
 ·rw [List.getD_eq_getElem?_getD,List.getElem?_eq_none (by omega)];simp
theorem loadS_nil (m:MZ):loadS m [] 0=⟨[],zae m [],0⟩:=by
 unfold loadS;simp
theorem zbK (w:World) (ok:Nat→Prop):zo w ok (.slice none 0 0) []:=⟨[],⟨none,0,rfl,Nat.le_refl _,zY.nil _ _ _ _⟩,fun i x hx=>by simp at hx⟩
theorem intss_head {w:World} {ok:Nat→Prop} {v:Value} {x:List Int} {l:List (List Int)} (h:zo w ok v (x :: l)):∃g o c v' u,v=.slice (some ⟨g,o,none⟩) (l.length+1) (c+1)∧ok g∧w.cell? ⟨g,o,none⟩=some u∧zf w ok u x∧zo w ok v' l∧
  (∀W,(Instr.sliceAt 22 (.slice (some ⟨g,o,none⟩) (l.length+1) (c+1)) (some (.int .i64 1)) none none).run Tryz.prog W=.ok v' W)∧∀W,(Instr.slice 22 (.slice (some ⟨g,o,none⟩) (l.length+1) (c+1)) (some (.int .i64 1)) none none).run Tryz.prog W=.ok v' W:=by
 obtain ⟨vs,⟨A,c,rfl,hc,hl,hr⟩,he⟩:=h;simp only [List.length_cons,Nat.mul_one] at hc hl hr;obtain ⟨c,rfl⟩:∃c',c=c'+1:=⟨c - 1,by omega⟩;obtain ⟨g,o,rfl,hg,hcell⟩:=hr (by omega);obtain ⟨u,hu,hux⟩:=he 0 x rfl;have hz:∀W,(sizeOf 23).run Tryz.prog W=.ok 1 W:=fun W=>Tryz.sizeOf23 W
 have hrun:∀W,(Instr.slice 22 (.slice (some ⟨g,o,none⟩) (l.length+1) (c+1)) (some (.int .i64 1)) none none).run Tryz.prog W=.ok (.slice (if c+1=1 then some ⟨g,o,none⟩ else some ⟨g,o+1,none⟩) l.length c) W:=fun W=>by
  have hsb:(Instr.sliceBounds true (l.length+1) (c+1) (some (.int .i64 1)) none none).run Tryz.prog W=.ok (1,l.length+1,c+1) W:=by
   unfold Instr.sliceBounds;simp only [Sem.run_bind,Sem.run_pure,Result.andThen_ok];rw [run_sliceBound _ _ _ _ _ (by omega) (by omega)]
   all_goals rfl
  unfold Instr.slice;simp only [Sem.run_bind,run_underlying Tryz.underlying22,Result.andThen_ok,hsb,hz,Sem.run_pure,Nat.add_sub_cancel,Nat.mul_one]
  split <;> simp [Addr.add]
 refine ⟨g,o,c,_,u,rfl,hg,by simpa using hcell 0 u hu,hux,?_,fun W=>(run_sliceAt_slice W 22 _ _ _ _ Tryz.underlying22).trans (hrun W),hrun⟩;refine ⟨vs.drop 1,⟨_,c,rfl,by omega,by rw [List.length_drop];omega,fun h0=>?_⟩,fun i y hy=>?_⟩
 ·refine ⟨g,o+1,by rw [if_neg (by omega)],hg,fun j z hz=>?_⟩;rw [List.getElem?_drop] at hz;have:=hcell (1+j) z hz
  rwa [←Nat.add_assoc] at this
 ·obtain ⟨z,hz,hzy⟩:=he (i+1) y (by simpa using hy);exact ⟨z,by rw [List.getElem?_drop,Nat.add_comm];exact hz,hzy⟩
structure CPB (w wr:World) (g B L:Nat) (ps:List (List Int)):Prop where
 ext:Ext w wr
 lo:w.heap.size≤g
 row:∃vs:List Value,Blk wr g 23 vs.toArray∧vs.length=ps.length∧∀(i:Nat) x,ps[i]?=some x→∃u,vs[i]?=some u∧zf wr (fun b=>b≠g∧b<B∧L≤b) u x
section
variable {w wr w':World} {g B L:Nat} {ps:List (List Int)}
theorem CPB.of (h:CP w wr g ps) (hL:L≤w.heap.size):CPB w wr g wr.heap.size L ps:=by
 obtain ⟨vs,hb,hl,he⟩:=h.row;exact ⟨h.ext,h.lo,vs,hb,hl,fun i x hx=>by obtain ⟨u,hu,hi⟩:=he i x hx;exact ⟨u,hu,hi.bound.weaken fun b hb=>⟨hb.1.1,hb.2,Nat.le_trans hL hb.1.2⟩⟩⟩
theorem CPB.intss (h:CPB w wr g B L ps) (c:Nat) (hc:ps.length≤c) (hL:L≤g):zo wr (fun b=>L≤b) (.slice (some ⟨g,0,none⟩) ps.length c) ps:=by
 obtain ⟨vs,hb,hl,he⟩:=h.row;refine ⟨vs,⟨_,c,rfl,hc,by omega,fun _=>⟨g,0,rfl,hL,fun j u hu=>?_⟩⟩,fun i x hx=>by obtain ⟨u,hu,hi⟩:=he i x hx;exact ⟨u,hu,hi.weaken fun _ h=>h.2.2⟩⟩;rw [Nat.zero_add];exact hb.cell (by simpa using hu)
theorem CPB.at_ (h:CPB w wr g B L ps) {k:Nat} (hk:k<ps.length):∃u,wr.cell? ⟨g,k,none⟩=some u∧wr.frozen? ⟨g,k,none⟩=false∧zf wr (fun b=>b≠g∧b<B∧L≤b) u ps[k]:=by
 obtain ⟨vs,hb,hl,he⟩:=h.row;obtain ⟨u,hu,hi⟩:=he k _ (List.getElem?_eq_getElem hk);exact ⟨u,hb.cell (by simpa using hu),hb.frozen k,hi⟩
theorem CPB.keep (h:CPB w wr g B L ps) (hE:Ext w w') (hS:∀b,b<B→b<wr.heap.size→w'.heap[b]?=wr.heap[b]?) (hg:g<B):CPB w w' g B L ps:=by
 obtain ⟨vs,hb,hl,he⟩:=h.row;exact ⟨hE,h.lo,vs,(hS g hg (zb hb)).trans hb,hl,fun i x hx=>by obtain ⟨u,hu,hi⟩:=he i x hx;exact ⟨u,hu,hi.keep fun b hb hlt=>hS b hb.2.1 hlt⟩⟩
theorem CPB.set (h:CPB w wr g B L ps) (k:Nat) {u:Value} {x:List Int} (hu:zf wr (fun b=>b≠g∧b<B∧L≤b) u x):CPB w (wr.setCell ⟨g,k,none⟩ u) g B L (ps.set k x):=by
 obtain ⟨vs,hb,hl,he⟩:=h.row;have hk:∀{v:Value} {l:List Int},zf wr (fun b=>b≠g∧b<B∧L≤b) v l→zf (wr.setCell ⟨g,k,none⟩ u) (fun b=>b≠g∧b<B∧L≤b) v l:=fun hi=>hi.keep fun b hb _=>Below.heap_setCell wr ⟨g,k,none⟩ u b hb.1
 refine ⟨h.ext.setCell (p:=⟨g,k,none⟩) h.lo _,h.lo,vs.set k u,?_,by simp [hl],fun i y hy=>?_⟩
 ·have:=hb.set (k:=k) u
  rwa [List.setIfInBounds_toArray] at this
 ·rw [List.getElem?_set] at hy⊢;by_cases hi:k=i
  ·subst hi;rw [if_pos rfl] at hy⊢
   split at hy
   ·rename_i hlt
    rw [if_pos (by omega)];injection hy with hy;subst hy;exact ⟨u,rfl,hk hu⟩
   ·cases hy
  ·rw [if_neg hi] at hy⊢;obtain ⟨v,hv,hvi⟩:=he i y hy;exact ⟨v,hv,hk hvi⟩
end
structure zb1 (w6 wr:World) (L go B:Nat) (ps:List (List Int)) (t k:Nat) (fd o:List (List Int)) (mv:List Int) (fdv mvv:Value):Prop where
 cb:CPB w6 wr go B L o
 len:o.length=ps.length
 same:∀j,k≤j→o.getD j []=ps.getD j []
 fdl:fd.length=(((List.range ps.length).drop k).filter (zah ps t)).length
 fds:zo wr (fun b=>L≤b∧b<w6.heap.size) fdv fd
 fdx:∀x∈fd,x.length≤1000
 lo:go<B∧B≤wr.heap.size
 mo:zy wr B mvv mv
theorem zcQ {n k:Nat} (hk:k<n):(List.range n).drop k=k :: (List.range n).drop (k+1):=by
 rw [List.drop_eq_getElem_cons (by simpa using hk)];simp
section
variable {w6 wr w':World} {L go B:Nat} {ps:List (List Int)} {t k:Nat} {fd o:List (List Int)} {mv:List Int} {fdv mvv:Value}
theorem zb1.app {r:Option Nat} {mv':List Int} {mvv':Value} (h:zb1 w6 wr L go B ps t k fd o mv fdv mvv) (hg:wr.grownBy w' r) (hr:∀b,r=some b→B≤b) (ho:zy w' B mvv' mv'):zb1 w6 w' L go B ps t k fd o mv' fdv mvv':=by
 have hS:∀b,b<B→b<wr.heap.size→w'.heap[b]?=wr.heap[b]?:=fun b hb hlt=>hg.block b hlt (fun e=>by have:=hr b e.symm;omega)
 have hw6:=h.cb.lo;have hlo:=h.lo;refine ⟨h.cb.keep ?_ hS hlo.1,h.len,h.same,h.fdl,h.fds.keep fun b hb hlt=>hS b (by omega) hlt,h.fdx,⟨hlo.1,Nat.le_trans hlo.2 hg.size⟩,ho⟩;exact ((Chg.of_ext (X:=fun b=>B≤b) h.cb.ext).grown hg (fun b hb _=>hr b hb)).below (Nat.le_refl _) (fun b hb=>by omega)
theorem zb1.more (h:zb1 w6 wr L go B ps t k fd o mv fdv mvv) (hE:Ext wr w'):zb1 w6 w' L go B ps t k fd o mv fdv mvv:=
 ⟨h.cb.keep (h.cb.ext.trans hE) (fun b _ hlt=>hE.block b hlt) h.lo.1,h.len,h.same,h.fdl,h.fds.below hE,h.fdx,⟨h.lo.1,Nat.le_trans h.lo.2 hE.size⟩,zaD h.mo hE⟩
theorem zb1.skip (h:zb1 w6 wr L go B ps t k fd o mv fdv mvv) (hk:k<ps.length) (hs:zah ps t k=false):zb1 w6 wr L go B ps t (k+1) fd o mv fdv mvv:=
 ⟨h.cb,h.len,fun j hj=>h.same j (by omega),by rw [h.fdl,zcQ hk,List.filter_cons_of_neg (by rw [hs];simp)],h.fds,h.fdx,h.lo,h.mo⟩
theorem zb1.cons (h:zb1 w6 wr L go B ps t k fd o mv fdv mvv) (hk:k<ps.length) (hs:zah ps t k=true):∃x fd',fd=x :: fd'∧fd'.length=(((List.range ps.length).drop (k+1)).filter (zah ps t)).length:=by
 have h1:=h.fdl;rw [zcQ hk,List.filter_cons_of_pos hs,List.length_cons] at h1
 match fd,h1 with
 | x :: fd',h1=>exact ⟨x,fd',rfl,by simpa using h1⟩
theorem zb1.put {x:List Int} {fd':List (List Int)} {u v':Value} (h:zb1 w6 wr L go B ps t k (x :: fd') o mv fdv mvv) (hk:k<ps.length) (hl:fd'.length=(((List.range ps.length).drop (k+1)).filter (zah ps t)).length)
  (hu:zf wr (fun b=>L≤b∧b<w6.heap.size) u x) (hv:zo wr (fun b=>L≤b∧b<w6.heap.size) v' fd'):zb1 w6 (wr.setCell ⟨go,k,none⟩ u) L go B ps t (k+1) fd' (o.set k x) mv v' mvv:=by
 have hlt:∀b,b<w6.heap.size→b≠go:=fun b hb=>by have:=h.cb.lo;omega
 refine ⟨h.cb.set k (hu.weaken fun b hb=>⟨hlt b hb.2,by have:=h.cb.lo;have:=h.lo;omega,hb.1⟩),by rw [List.length_set];exact h.len,fun j hj=>?_,hl,?_,fun y hy=>h.fdx y (List.mem_cons_of_mem _ hy),⟨h.lo.1,by simpa using h.lo.2⟩,?_⟩
 ·rw [zaJ,if_neg (by omega)];exact h.same j (by omega)
 ·exact hv.keep fun b hb _=>Below.heap_setCell wr ⟨go,k,none⟩ u b (hlt b hb.2)
 ·exact ownsRow_setCell_below h.mo (by have:=h.lo.1;exact this) u
end
def AddPost (w:World) (r:AddR) (e:Ending) (w':World):Prop:=
 ∃vp vm vw,e=.returned (.tuple #[vp,vm,vw,.int .i64 r.err])∧Ext w w'∧zo w' (fun b=>w.heap.size≤b) vp r.ps∧zf w' (fun b=>w.heap.size≤b) vm r.mv∧PrV w' (fun b=>w.heap.size≤b) vw r.why
theorem searched_calls {okm okf:Nat→Prop} {v vf:Value} {m:MZ} {ps:List (List Int)} (t:Nat) (w:World) (hm:zr w okm v m) (hl:Lens m) (hf:zo w okf vf ps) (hfx:∀x∈ps,x.length≤100000000000) (hL:zau m ps=true) (hk:zar m t=true) (h2:ps.getD t []=[]):
  Calls Tryz.prog 40 #[v,vf,.int .i64 t] w (AddPost w (zac m ps t)):=by
 obtain ⟨ns,hmn⟩:=hm.nets;have HM:=zh hmn;have HL:=zh hl;have HF:=zh hf;obtain ⟨Af,cf,Au,cu,At,ct,rfl,-,-,-⟩:=hm.parts;obtain ⟨vs,⟨Ap,cp,rfl,hcp,-⟩,-⟩:=hf;clear hm hmn hl;obtain ⟨hc0,hpl,-⟩:=zC.1 hL;obtain ⟨-,ht0,ht1⟩:=zaf.1 hk;have hsub:subO m ps t=zay m ps t:=by unfold subO;rw [hL,hk];rfl
 have G:=zh (zx.of hc0);have htk:=G.out.tk;have hp6:ps.length≤6:=by omega
 have HPT:Hid (t<ps.length):=by (show _<_);omega
 have HSG:=zh (zcB G.out hpl t);have HSC:Hid (chk (zay m ps t)=0):=zbk HSG.out;have HSL:=zh (zcC HL.out (ps:=ps) (by omega) t);have HFX:=zh hfx;have HSB:=zh hsub;clear hL hk hc0 hpl ht0 ht1 htk hfx hsub;obtain ⟨sm,hsm⟩:∃sm,sm=zay m ps t:=⟨_,rfl⟩;rw [←hsm] at HSG HSC HSL HSB;have HSM:=zh hsm;clear hsm
 go_enter Tryz.func40,Tryz.ntmps40
 go_upto_region 1 with fail;obtain ⟨hb0,r0,r1,r2,r3,r4,r5⟩:=box6 w (.int .i64 m.w) (.int .i64 m.h) (.int .i64 m.l) (.slice Af m.free.length cf) (.slice Au m.up.length cu) (.slice At m.tasks.length ct);have hs0:(w.alloc (.cells #[.int .i64 m.w,.int .i64 m.h,.int .i64 m.l,.slice Af m.free.length cf,.slice Au m.up.length cu,.slice At m.tasks.length ct] 32)).heap.size=w.heap.size+1:=by simp
 generalize w.alloc (.cells #[.int .i64 m.w,.int .i64 m.h,.int .i64 m.l,.slice Af m.free.length cf,.slice Au m.up.length cu,.slice At m.tasks.length ct] 32)=w0 at hb0 r0 r1 r2 r3 r4 r5 hs0⊢;have hBP:=Blk.new w0 #[.int .i64 0,.slice none 0 0,.slice none 0 0] 37 (g:=w0.heap.size) rfl;have hb1:Ext w0 (w0.alloc (.cells #[.int .i64 0,.slice none 0 0,.slice none 0 0] 37)):=(Ext.refl w0).alloc _;generalize w0.alloc (.cells #[.int .i64 0,.slice none 0 0,.slice none 0 0] 37)=w1 at hBP hb1⊢;rw [hs0] at hBP;obtain ⟨gm,hgm⟩:∃gm,gm=w.heap.size:=⟨_,rfl⟩;rw [←hgm] at r0 r1 r2 r3 r4 r5 hBP⊢;have HGM:Hid (gm=w.heap.size):=hgm;have HB0:=zh hb1;have r0:=fun W h=>r0 W (HB0.out.trans h)
 have r1:=fun W h=>r1 W (HB0.out.trans h)
 have r2:=fun W h=>r2 W (HB0.out.trans h)
 have r3:=fun W h=>r3 W (HB0.out.trans h)
 have r4:=fun W h=>r4 W (HB0.out.trans h)
 have r5:=fun W h=>r5 W (HB0.out.trans h)
 have HP:=zh hBP;have HW1:=zh (hb0.trans hb1);clear hgm hb0 hs0 hb1 hBP;have hx:Ext w1 w1:=Ext.refl w1
 go_wp2_with fail
 refine (sub_calls t w1 (HM.out.below HW1.out) HL.out (HF.out.below HW1.out) (by omega) (fun x hx=>by have:=HFX.out x hx;omega)).mono ?_;rw [HSB.out];rintro e w2 ⟨vm,rfl,hE2,hms⟩;have HMS:=zh hms.maze;obtain ⟨Bf,df,Bu,du,Bt,dt,rfl,-,-,-⟩:=hms.maze.parts;have HW2:=zh (HW1.out.trans hE2);have HP2:=zh (HP.out.ext hE2);clear hE2 hms r0 r1 r2 r3 r4 r5 hx;go_upto_region 2 with fail;obtain ⟨hb2,r0,r1,r2,r3,r4,r5⟩:=box6 w2 (.int .i64 sm.w) (.int .i64 sm.h) (.int .i64 sm.l) (.slice Bf sm.free.length df) (.slice Bu sm.up.length du) (.slice Bt sm.tasks.length dt);generalize w2.alloc (.cells #[.int .i64 sm.w,.int .i64 sm.h,.int .i64 sm.l,.slice Bf sm.free.length df,.slice Bu sm.up.length du,.slice Bt sm.tasks.length dt] 32)=w3 at hb2 r0 r1 r2 r3 r4 r5⊢;obtain ⟨gn,hgn⟩:∃gn,gn=w2.heap.size:=⟨_,rfl⟩;rw [←hgn] at r0 r1 r2 r3 r4 r5⊢;have HW3:=zh (HW2.out.trans hb2);have HP3:=zh (HP2.out.ext hb2);have HMS3:=zh (HMS.out.below hb2);clear hgn hb2;have hx:Ext w3 w3:=Ext.refl w3
 go_wp2_with fail
 refine (new1 w3 w3 (Ext.refl w3) HMS3.out HSL.out HSC.out).mono ?_;rintro e w4 ⟨g,rfl,hE4,hR4⟩;have hx4:Ext w3 w4:=hE4;obtain ⟨S0,hS0⟩:∃S0,S0=loadS sm [] 0:=⟨_,rfl⟩;rw [←hS0] at hR4;have hS00:S0.steps≤3000000000000000000:=by rw [hS0];unfold loadS;simp
 obtain ⟨S,hS⟩:∃S,S=RS.run sm 20000 S0:=⟨_,rfl⟩
 have HST:Hid (Calls Tryz.prog 28 #[.pointer (some ⟨g,0,none⟩),.int .i64 (20000:Nat)] w4 fun e w'=>e=.returned (.bool S.done)∧OneR w3 w' g sm S):=by
  (show Calls _ _ _ _ _)
  rw [hS];exact hR4.step 20000 (by omega) hS00
 have HES:Hid (S=endS m ps t):=by (show _=_);rw [hS,hS0,loadS_nil,HSM.out];rfl
 clear hE4 hR4 hS0 hS00 hS hx
 go_wp2_with fail
 refine HST.out.mono ?_;rintro e w5 ⟨rfl,hR5⟩;have HR5:=zh hR5;have hx5:Ext w3 w5:=hR5.ext;clear HST hx4 hR5;obtain ⟨dn,hdn⟩:∃dn,dn=S.done:=⟨_,rfl⟩;rw [←hdn];have HDN:Hid ((endS m ps t).done=dn):=by (show _=_);rw [hdn,HES.out]
 clear hdn;have HP5:=zh (HP3.out.ext hx5)
 cases dn with
 | false=>
  have HRES:Hid (zac m ps t=⟨[],[],.zero,53⟩):=by (show _=_);unfold zac;rw [if_pos HDN.out]
  have z0:=HP5.out.cell (k:=0) rfl;have z1:=HP5.out.cell (k:=1) rfl;have z2:=HP5.out.cell (k:=2) rfl;have fz:=fun j=>HP5.out.frozen j
  go_wp2_with fail
  refine zbH (P:=fun W=>bodyPost Tryz.prog Tryz.f40 _ Exit.ret _ W) (g2:=gm+1) ?_ HP5.out;intro WZ hbz hEb hkk;have y0:=hbz.cell (k:=0) rfl;have y1:=hbz.cell (k:=1) rfl;have y2:=hbz.cell (k:=2) rfl;refine bodyPost_ret (v:=.tuple #[.slice none 0 0,.slice none 0 0,.agg #[.int .i64 0,.slice none 0 0,.slice none 0 0],.int .i64 53]) (by simp [results,Tryz.results40,go_sem,y0,y1,y2]) rfl ?_;rw [HRES.out];exact ⟨_,_,_,rfl,Below.trans (HW3.out.trans hx5) (hEb.mono (by have:=HGM.out;omega)),zbK _ _,zf.nil _ _,PrV.zero _ _⟩
 | true=>
  have hFo:=HR5.out.found
  go_wp2_with fail
  refine hFo.mono ?_;rintro e w6 ⟨vfd,rfl,hE6,hfd⟩;have hx6:Ext w3 w6:=hx5.trans hE6;have HFD:=zh hfd;obtain ⟨_,⟨Afd,cfd,rfl,-,-⟩,-⟩:=hfd;obtain ⟨cm,hcm⟩:∃cm,cm=zae sm S.ch:=⟨_,rfl⟩;rw [←hcm];have HCM:=zh hcm;have HP6:=zh (HP3.out.ext hx6);have HW6S:Hid (w.heap.size≤w6.heap.size):=(HW3.out.trans hx6).size;have HL5:Hid (gm+2≤w5.heap.size):=zb HP5.out;have hE65:Hid (w5.heap.size≤w6.heap.size):=hE6.size;clear hcm hFo hE6 hx5
  cases cm with
  | false=>
   have hpm:=pmake_calls w6 (HMS3.out.below hx6) HSL.out
   go_wp2_with fail
   refine hpm.mono ?_;rintro e w7 ⟨vw,rfl,hE7,hpv⟩;have hx7:Ext w3 w7:=hx6.trans hE7;have HPV0:=zh hpv;obtain ⟨mk,hmk⟩:∃mk,mk=(zbi sm).1:=⟨_,rfl⟩;obtain ⟨wy,hwy⟩:∃wy,wy=(zbi sm).2:=⟨_,rfl⟩;rw [←hwy] at HPV0 hpv;rw [←hmk];obtain ⟨Ay,cy,Ak,ck,rfl,-⟩:=hpv.form
   have HRES:Hid (zac m ps t=if mk=0 then ⟨[],[],wy,54⟩ else ⟨[],[],.zero,mk⟩):=by
    (show _=_)
    unfold zac;rw [if_neg (by rw [HDN.out];simp),if_neg (by rw [←HES.out,←HSM.out,←HCM.out];simp),hmk,hwy,HSM.out]
   have HP7:=zh (HP3.out.ext hx7);clear hpm hE7 hpv hmk hwy hx6;go_upto_region 8 with fail;have hBY:=Blk.new w7 #[.int .i64 wy.task,.slice Ay wy.side.length cy,.slice Ak wy.kids.length ck] 37 (g:=w7.heap.size) rfl;have hE8:Ext w7 (w7.alloc (.cells #[.int .i64 wy.task,.slice Ay wy.side.length cy,.slice Ak wy.kids.length ck] 37)):=(Ext.refl w7).alloc _;generalize w7.alloc (.cells #[.int .i64 wy.task,.slice Ay wy.side.length cy,.slice Ak wy.kids.length ck] 37)=w8 at hBY hE8⊢;obtain ⟨gy,hgy⟩:∃gy,gy=w7.heap.size:=⟨_,rfl⟩;rw [←hgy] at hBY⊢;have HGY:Hid (gm+1<gy):=by show _<_;rw [hgy];exact zb HP7.out
   have HP8:=zh (HP7.out.ext hE8);have HPV:=zh (HPV0.out.ext hE8);have hx8:Ext w3 w8:=hx7.trans hE8;have rul:∀{i:Nat} {v:Value},w8.cell? ⟨gy,i,none⟩=some v→∀W,Chg (fun b=>b=gm+1) w8 W→W.cell? ⟨gy,i,none⟩=some v:=fun h W hW=>hW.cellk h (by have:=HGY.out;show ¬ (gy=gm+1);omega)
   have q0:=rul (hBY.cell (k:=0) rfl);have q1:=rul (hBY.cell (k:=1) rfl);have q2:=rul (hBY.cell (k:=2) rfl);clear rul hBY hE8 hgy hx7;by_cases h0:mk=0
   ·have HRES:Hid (zac m ps t=⟨[],[],wy,54⟩):=by (show _=_);rw [HRES.out,if_pos h0]
    subst h0;go_upto_region 10 with fail;refine wp_region_held_drew (S:=(fun W=>Chg (fun b=>b=gm+1) w8 W)) zS (Chg.of_ext (Ext.refl w8).drew) (fun zH=>?_);have hHd:Ext w8 w8.drew:=(Ext.refl w8).drew;generalize w8.drew=wd at zH hHd⊢;refine rtT 0 zH ?_;simp only [za,Act.put];refine rtT 1 zH ?_;simp only [za,Act.put];refine rtT 2 zH ?_;simp only [za,Act.put];refine rtR 3 (fun K hK=>?_);have HBZ:=zh (HP8.out.ext hHd);have z0:=HBZ.out.cell (k:=0) rfl;have z1:=HBZ.out.cell (k:=1) rfl;have z2:=HBZ.out.cell (k:=2) rfl;have hfz:∀j,wd.frozen? ⟨gm+1,j,none⟩=false:=fun j=>HBZ.out.frozen j
    go_simp;refine hK.out _ _ (Chg.set (Chg.set (Chg.set (Chg.of_ext (X:=fun b=>b=gm+1) hHd) (gm+1) 0 (.int .i64 wy.task) rfl) (gm+1) 1 (.slice Ay wy.side.length cy) rfl) (gm+1) 2 (.slice Ak wy.kids.length ck) rfl) (fun zH=>?_);clear hK K;try simp only [za,Act.put]
    refine rtR 4 (fun K hK=>?_);go_simp;refine hK.out _ _ (Chg.set (Chg.set (Chg.set (Chg.of_ext (X:=fun b=>b=gm+1) hHd) (gm+1) 0 (.int .i64 wy.task) rfl) (gm+1) 1 (.slice Ay wy.side.length cy) rfl) (gm+1) 2 (.slice Ak wy.kids.length ck) rfl) (fun zH=>?_);clear hK K;try simp only [za,Act.put]
    refine wpAnyH_done (by kernel_rfl) ?_ _;go_wp2;refine zbH (P:=fun W=>bodyPost Tryz.prog Tryz.f40 _ Exit.ret _ W) (g2:=gm+1) ?_ HBZ.out;intro WZ hbz hEb hkk;have y0:=hbz.cell (k:=0) rfl;have y1:=hbz.cell (k:=1) rfl;have y2:=hbz.cell (k:=2) rfl;refine bodyPost_ret (v:=.tuple #[.slice none 0 0,.slice none 0 0,.agg #[.int .i64 wy.task,.slice Ay wy.side.length cy,.slice Ak wy.kids.length ck],.int .i64 54]) (by simp [results,Tryz.results40,go_sem,y0,y1,y2]) rfl ?_;rw [HRES.out];exact ⟨_,_,_,rfl,Below.trans ((HW3.out.trans hx8).trans hHd) (hEb.mono (by have:=HGM.out;omega)),zbK _ _,zf.nil _ _,(HPV.out.ext hHd).keepW (fun b hb hlt=>hkk b hlt (by have h1:=zb HP6.out;omega)) (fun b hb=>Nat.le_trans HW6S.out hb)⟩
   ·have HRES:Hid (zac m ps t=⟨[],[],.zero,mk⟩):=by (show _=_);rw [HRES.out,if_neg h0]
    have hq1:(mk==0)=false:=by rw [beq_eq_false_iff_ne];exact h0
    have hq2:(mk != 0)=true:=by rw [bne_iff_ne];exact h0
    clear h0;have z0:=HP8.out.cell (k:=0) rfl;have z1:=HP8.out.cell (k:=1) rfl;have z2:=HP8.out.cell (k:=2) rfl;have fz:=fun j=>HP8.out.frozen j
    go_wp2_with fail
    refine zbH (P:=fun W=>bodyPost Tryz.prog Tryz.f40 _ Exit.ret _ W) (g2:=gm+1) ?_ HP8.out;intro WZ hbz hEb hkk;have y0:=hbz.cell (k:=0) rfl;have y1:=hbz.cell (k:=1) rfl;have y2:=hbz.cell (k:=2) rfl;refine bodyPost_ret (v:=.tuple #[.slice none 0 0,.slice none 0 0,.agg #[.int .i64 0,.slice none 0 0,.slice none 0 0],.int .i64 mk]) (by simp [results,Tryz.results40,go_sem,y0,y1,y2]) rfl ?_;rw [HRES.out];exact ⟨_,_,_,rfl,Below.trans (HW3.out.trans hx8) (hEb.mono (by have:=HGM.out;omega)),zbK _ _,zf.nil _ _,PrV.zero _ _⟩
  | true=>
   have HRES:Hid (zac m ps t=⟨(zaE ps t (List.range ps.length) (zJ sm S.ch) ps []).1,(zaE ps t (List.range ps.length) (zJ sm S.ch) ps []).2,.zero,0⟩):=by
    (show _=_)
    unfold zac;rw [if_neg (by rw [HDN.out];simp),if_pos (by rw [←HES.out,←HSM.out,←HCM.out]),HES.out,HSM.out]
   have hfe:foundL sm S.ch=zJ sm S.ch:=by unfold foundL;rw [if_pos HCM.out.symm]
   have HFL:=zh (found_len HSG.out HSL.out (HR5.out.inv.ch)).2
   have HFN:Hid ((zJ sm S.ch).length=(zat ps t).length):=by
    (show _=_)
    have h1:=right_ch HSG.out HR5.out.inv.ch HCM.out.symm;rw [(zbc.1 h1).2.1,HSM.out];simp [zay]
   rw [hfe] at HFD HFL⊢;obtain ⟨fd0,hfd0⟩:∃fd0,fd0=zJ sm S.ch:=⟨_,rfl⟩;rw [←hfd0] at HFD HFL HFN HRES⊢;clear hfe hfd0
   go_wp2_with fail
   refine (copied_calls w6 (HF.out.below (HW3.out.trans hx6)) (by omega) HFX.out).mono ?_;rintro e w7 ⟨go,rfl,hCP⟩
   have HI0:Hid (zb1 w6 w7 (gm+2) go w7.heap.size ps t 0 fd0 ps [] (.slice Afd fd0.length cfd) (.slice none 0 0)):=
    ⟨CPB.of hCP (Nat.le_trans HL5.out hE65.out),rfl,fun _ _=>rfl,by rw [HFN.out,List.drop_zero];rfl,(HFD.out.bound.weaken fun b hb=>⟨Nat.le_trans HL5.out hb.1,hb.2⟩).below hCP.ext,HFL.out,⟨hCP.lt,Nat.le_refl _⟩,World.ownsRow_nil _ _ _ _⟩
   have HW6:=zh (HW3.out.trans hx6);obtain ⟨B,hB⟩:∃B,B=w7.heap.size:=⟨_,rfl⟩;rw [←hB] at HI0;clear hB hCP
   go_wp2_with fail
   clear hx6;go_loopw [13,18,58] (fun fdv mvv i wr=>∃(k:Nat) (fd o:List (List Int)) (mv:List Int),i=.int .i64 (k:Nat)∧k≤ps.length∧Hid (mv.length≤k)∧Hid (zb1 w6 wr (gm+2) go B ps t k fd o mv fdv mvv)∧Hid (zaE ps t (List.range ps.length) fd0 ps []=zaE ps t ((List.range ps.length).drop k) fd o mv)) (fun _ _ i _=>ps.length - (intOf i).toNat)
   case atStart=>exact ⟨0,fd0,ps,[],rfl,Nat.zero_le _,Nat.le_refl _,HI0.out,by rw [List.drop_zero];rfl⟩
   clear HI0
   case round=>
    obtain ⟨k,fd,o,mv,rfl,hk,hml,hI,hfl⟩:=hrel;obtain ⟨wk,rfl⟩:∃wk:World,wk=wr:=⟨_,rfl⟩;by_cases hlt:k<ps.length
    ·have hko:k<o.length:=by rw [hI.out.len];exact hlt
     obtain ⟨uo,hcuo,-,hiu⟩:=hI.out.cb.at_ hko
     have hqe:o[k]=ps.getD k []:=by
      rw [←hI.out.same k (Nat.le_refl _),List.getD_eq_getElem?_getD,List.getElem?_eq_getElem hko];rfl
     have HQX:Hid ((ps.getD k []).length≤100000000000):=by
      (show _≤_)
      rw [List.getD_eq_getElem?_getD,List.getElem?_eq_getElem hlt];exact HFX.out _ (List.getElem_mem hlt)
     obtain ⟨q,hq⟩:∃q,q=ps.getD k []:=⟨_,rfl⟩;rw [hqe,←hq] at hiu;rw [←hq] at HQX;have HQ:=zh hq;have HIU:=zh hiu;obtain ⟨Aq,cq,rfl,-,-⟩:=hiu;have HKB:Hid (zah ps t k=(decide (k=t) || decide (q≠[]))):=by (show _=_);unfold zah;rw [HQ.out]
     have hltI:(k:Int)<(ps.length:Int):=by omega
     have kk0:(0:Int)≤(k:Int):=by omega
     have hko':(k:Int)<(o.length:Int):=by omega
     clear hqe hq;go_upto_region 16 with fail;go_cut [71] (fun v wx=>v=.bool (!zah ps t k)∧wk=wx)
     case first=>
      by_cases hkt:k=t
      ·have hd:((k:Int) != (t:Int))=false:=by simp [hkt]
       have HB:Hid (zah ps t k=true):=by (show _=_);rw [HKB.out,decide_eq_true hkt];rfl
       clear hkt
       go_wp2_with fail
       go_meet;exact ⟨by rw [HB.out];rfl,rfl⟩
      ·have hd:((k:Int) != (t:Int))=true:=by rw [bne_iff_ne];omega
       by_cases hqn:q=[]
       ·have HB:Hid (zah ps t k=false):=by (show _=_);rw [HKB.out,decide_eq_false hkt,hqn];rfl
        have hd2:((q.length:Int)==0)=true:=by rw [hqn];rfl
        clear hkt hqn
        go_wp2_with fail
        go_meet;exact ⟨by rw [HB.out];rfl,rfl⟩
       ·have HB:Hid (zah ps t k=true):=by (show _=_);rw [HKB.out,decide_eq_true hqn,Bool.or_true]
        have hd2:((q.length:Int)==0)=false:=by
         rw [beq_eq_false_iff_ne];intro h;exact hqn (List.eq_nil_of_length_eq_zero (by omega))
        clear hkt hqn
        go_wp2_with fail
        go_meet;exact ⟨by rw [HB.out];rfl,rfl⟩
     case rest=>
      obtain ⟨rfl,rfl⟩:=hcut
      cases hkb:zah ps t k with
      | false=>
       have HIN:=zh (hI.out.skip hlt hkb)
       have HFILL:Hid (zaE ps t (List.range ps.length) fd0 ps []=zaE ps t ((List.range ps.length).drop (k+1)) fd o mv):=by
        (show _=_)
        rw [hfl.out,zcQ hlt]
        conv=>lhs;unfold zaE
        rw [if_neg (by rw [hkb];simp)]
       clear hkb HKB
       go_wp2_with fail
       go_roundw
       case rel=>exact ⟨k+1,fd,o,mv,by go_num,by omega,Nat.le_succ_of_le hml.out,HIN.out,HFILL.out⟩
       case measure=>simp [intOf];omega
      | true=>
       obtain ⟨x,fd',rfl,hfd'⟩:=hI.out.cons hlt hkb;have HFDL:=zh hfd';obtain ⟨gf,of',cf',v',ux,rfl,hgf,hcx,hux,hv',hsl1,hsl2⟩:=intss_head hI.out.fds;have HUX0:=zh hux;have HV0:=zh hv';have HXL:Hid (x.length≤1000):=hI.out.fdx x (List.mem_cons_self ..)
       have HFILL:Hid (zaE ps t (List.range ps.length) fd0 ps []=zaE ps t ((List.range ps.length).drop (k+1)) fd' (o.set k x) (mvP ps t k x mv)):=by
        (show _=_)
        rw [hfl.out,zcQ hlt]
        conv=>lhs;unfold zaE
        rw [if_pos hkb];rfl
       have HMVP:Hid (mvP ps t k x mv=if k≠t∧q≠x then mv++[(k:Int)] else mv):=by (show _=_);unfold mvP;rw [HQ.out]
       have HGF:Hid (gf<w6.heap.size):=hgf.2;obtain ⟨Ax,cx,rfl,-,-⟩:=hux;have hN:(0:Int)<((fd'.length:Int)+1):=by omega
       have hN2:fd'.length+1≤20000000000000:=by
        have h1:=HFDL.out;have h2:=List.length_filter_le (zah ps t) ((List.range ps.length).drop (k+1));rw [List.length_drop,List.length_range] at h2;omega
       have hx:Ext wk wk:=Ext.refl wk;clear hkb HKB hfd' hgf hv' hsl1 hsl2;obtain ⟨bm,hbm⟩:∃bm,bm=(decide (k≠t) && !decide (q=x)):=⟨_,rfl⟩;have HBM:=zh hbm;clear hbm;go_upto_region 17 with fail;go_cut [85] (fun v wx=>v=.bool bm∧Ext wk wx)
       case first=>
        by_cases hkt:k=t
        ·have hd:((k:Int) != (t:Int))=false:=by simp [hkt]
         have HB:Hid (bm=false):=by (show _=_);rw [HBM.out,decide_eq_false (fun h=>h hkt)];rfl
         clear hkt;go_quiet (fail)
         go_wp2_with fail
         go_meet;exact ⟨by rw [HB.out],hx.drewN _⟩
        ·have hd:((k:Int) != (t:Int))=true:=by rw [bne_iff_ne];omega
         obtain ⟨eb,heb⟩:∃eb,eb=decide (q=x):=⟨_,rfl⟩
         have HEQ:Hid (∀n,Calls Tryz.prog 75 #[.slice Aq q.length cq,.slice Ax x.length cx] (wk.drewN n) fun e w'=>e=.returned (.bool eb)∧∃j,w'=(wk.drewN n).drewN j):=fun n=>by
          rw [heb];exact equalI_calls _ (HIU.out.below (hx.drewN n)) (HUX0.out.below (hx.drewN n)) (by have:=HQX.out;omega) (by have:=HXL.out;omega)
         have HB:Hid (bm=!eb):=by (show _=_);rw [HBM.out,decide_eq_true hkt,heb];rfl
         clear hkt heb;go_quiet ((go_at_call 75;exact Calls.quiet_of (HEQ.out _)))
         go_wp2_with fail
         go_meet;exact ⟨by rw [HB.out],hx.drewN _⟩
       case rest=>
        obtain ⟨rfl,hE9⟩:=hcut;obtain ⟨wd,rfl⟩:∃wd:World,wd=wc:=⟨_,rfl⟩;have HIw:=zh (hI.out.more hE9);have HOM:Hid (zy wd B u18 mv):=HIw.out.mo;have HBL:Hid (B≤wd.heap.size):=HIw.out.lo.2;clear hcuo hcx hx
        go_upto_if 85 with fail
        go_cut [18] (fun mvw wx=>Hid (zb1 w6 wx (gm+2) go B ps t k (x :: fd') o (mvP ps t k x mv) (.slice (some ⟨gf,of',none⟩) (fd'.length+1) (cf'+1)) mvw))
        case first=>
         cases bm with
         | false=>
          have HB:Hid (mvP ps t k x mv=mv):=by
           (show _=_)
           rw [HMVP.out,if_neg];rintro ⟨h1,h2⟩;have:=HBM.out;rw [decide_eq_true h1,decide_eq_false h2] at this;cases this
          go_wp2_with fail
          go_meet;rw [HB.out];exact HIw.out
         | true=>
          have HB:Hid (mvP ps t k x mv=mv++[(k:Int)]):=by
           (show _=_)
           have:=HBM.out;rw [eq_comm,Bool.and_eq_true,decide_eq_true_eq,Bool.not_eq_true',decide_eq_false_iff_not] at this;rw [HMVP.out,if_pos this]
          have hml2:=hml.out
          go_wp2_with (at_builtin;refine zan rfl _ _ rfl _ mv k B wd.heap.size 1 _ rfl rfl (HOM.out.alloc _) ?d1 ?d2 ?d3 ?_)
          (try case d1=>exact zm _ _ _ (by simp))
          (try case d2=>(first | (simp;done) | (have:=HBL.out;simp;omega) | (have:=HBL.out;omega)))
          (try case d3=>omega)
          intro mv2 wb hob hgb hbl
          have HIN:Hid (zb1 w6 wb (gm+2) go B ps t k (x :: fd') o (mvP ps t k x mv) (.slice (some ⟨gf,of',none⟩) (fd'.length+1) (cf'+1)) mv2):=by
           (show zb1 _ _ _ _ _ _ _ _ _ _ _ _ _)
           rw [HB.out];exact (HIw.out.more ((Ext.refl wd).alloc (.cells #[.int .i64 k] 3))).app hgb.out (fun b hb=>by obtain ⟨cs,h1,h2⟩:=own_blk HOM.out hb;exact h2) hob
          clear hob hgb hbl;go_wp2;go_meet;exact HIN.out
        case rest=>
         have hIm:=zh hcut.out;obtain ⟨wm,rfl⟩:∃wm:World,wm=wc:=⟨_,rfl⟩
         have HML:Hid ((mvP ps t k x mv).length≤k+1):=by
          (show _≤_)
          have:=hml.out;rw [HMVP.out]
          split
          ·rw [List.length_append,List.length_singleton];omega
          ·omega
         clear HUX0 HV0;obtain ⟨gf2,of2,cf2,v',ux,e,hgf2,hcx2,hux2,hv2,hsl1,hsl2⟩:=intss_head hcut.out.fds;injection e with e1 e2 e3;injection e1 with e1;injection e1 with e1 e4;have e3:cf'=cf2:=by omega
         subst e1 e4 e3;have HUX:=zh hux2;have HV':=zh hv2;obtain ⟨Ax2,cx2,rfl,-,-⟩:=hux2;have rul:∀W,Chg (fun b=>b=go) wm W→W.cell? ⟨gf,of',none⟩=some (.slice Ax2 x.length cx2):=fun W hW=>hW.cellk hcx2 (by have h1:=hIm.out.cb.lo;have h2:=HGF.out;show ¬ (gf=go);omega)
         clear hcut hcx2 hgf2 hv2 e2;have hd1:(0:Int)≤1:=by omega
         go_upto_region 19 with fail;refine wp_region_held_drew (S:=(fun W=>Chg (fun b=>b=go) wm W)) zS (Chg.of_ext (Ext.refl wm).drew) (fun zH=>?_);have hHd:Ext wm wm.drew:=(Ext.refl wm).drew;generalize wm.drew=wd at zH hHd⊢;refine rtT 0 zH ?_;simp only [za,Act.put];refine rtT 1 zH ?_;simp only [za,Act.put];refine rtT 2 zH ?_;simp only [za,Act.put];refine rtT 3 zH ?_;simp only [za,Act.put];refine rtT 4 zH ?_;simp only [za,Act.put];refine rtT 5 zH ?_;simp only [za,Act.put];refine rtT 6 zH ?_;simp only [za,Act.put];refine rtT 7 zH ?_;simp only [za,Act.put];refine rtR 8 (fun K hK=>?_);have HIw:=zh (hIm.out.more hHd);obtain ⟨uo,hcuo,hfuo,-⟩:=HIw.out.cb.at_ (k:=k) (by have:=HIw.out.len;omega);go_simp;clear hcuo hfuo;refine hK.out _ _ (Chg.set (Chg.of_ext (X:=fun b=>b=go) hHd) go k (.slice Ax2 x.length cx2) rfl) (fun zH=>?_);clear hK K;try simp only [za,Act.put]
         refine rtR 9 (fun K hK=>?_);go_simp;refine hK.out _ _ (Chg.set (Chg.of_ext (X:=fun b=>b=go) hHd) go k (.slice Ax2 x.length cx2) rfl) (fun zH=>?_);clear hK K;try simp only [za,Act.put]
         refine wpAnyH_done (by kernel_rfl) ?_ _;have HIN:Hid (zb1 w6 (wd.setCell ⟨go,k,none⟩ (.slice Ax2 x.length cx2)) (gm+2) go B ps t (k+1) fd' (o.set k x) (mvP ps t k x mv) v' u18):=HIw.out.put hlt HFDL.out ((HUX.out.below (Ext.refl wm)).below hHd) (HV'.out.below hHd);generalize wd.setCell ⟨go,k,none⟩ (.slice Ax2 x.length cx2)=wz at HIN⊢;go_wp2;go_roundw
         case rel=>exact ⟨k+1,fd',o.set k x,_,by go_num,by omega,HML.out,HIN.out,HFILL.out⟩
         case measure=>simp [intOf];omega
    ·obtain rfl:k=ps.length:=by omega
     have HEND:Hid (zaE ps t (List.range ps.length) fd0 ps []=(o,mv)):=by
      (show _=_)
      rw [hfl.out,List.drop_eq_nil_of_le (by simp)]
      all_goals rfl
     have HPW:=zh (HP6.out.ext hI.out.cb.ext);have z0:=HPW.out.cell (k:=0) rfl;have z1:=HPW.out.cell (k:=1) rfl;have z2:=HPW.out.cell (k:=2) rfl;have fz:=fun j=>HPW.out.frozen j
     go_wp2_with fail
     refine zbH (P:=fun W=>bodyPost Tryz.prog Tryz.f40 _ Exit.ret _ W) (g2:=gm+1) ?_ HPW.out;intro WZ hbz hEb hkk;have y0:=hbz.cell (k:=0) rfl;have y1:=hbz.cell (k:=1) rfl;have y2:=hbz.cell (k:=2) rfl;refine bodyPost_ret (v:=.tuple #[.slice (some ⟨go,0,none⟩) ps.length ps.length,u18,.agg #[.int .i64 0,.slice none 0 0,.slice none 0 0],.int .i64 0]) (by simp [results,Tryz.results40,go_sem,y0,y1,y2]) rfl ?_;rw [HRES.out,HEND.out];refine ⟨_,_,_,rfl,Below.trans (HW6.out.trans hI.out.cb.ext) (hEb.mono (by have:=HGM.out;omega)),?_,?_,PrV.zero _ _⟩
     ·have h:=hI.out.cb.intss ps.length (by rw [hI.out.len];exact Nat.le_refl _) (by have h1:=hI.out.cb.lo;have h2:=HL5.out;have h3:=hE65.out;omega);rw [hI.out.len] at h;exact h.keep (fun b hb hlt=>hkk b hlt (by omega)) |>.weaken (fun b hb=>by have:=HGM.out;omega)
     ·exact (Row.of_own hI.out.mo:zf wk _ u18 mv).keep (fun b hb hlt=>hkk b hlt (by have h1:=hI.out.lo;have h2:=hI.out.cb.lo;have h3:=zb HP6.out;omega)) |>.weaken (fun b hb=>by have h1:=hI.out.lo;have h2:=hI.out.cb.lo;have h3:=HW6S.out;omega)
end Go.Proofs.YthbjngbhbbkkgaaGreat
namespace Go.Proofs.YthbjngbhbbkkgaaGreat
open Go.RowKit
def Pref (w:World) (B:Nat) (v:Value) (l:List Int):Prop:=
 (v=.slice none 0 0∧l=[])∨∃g c cur,v=.slice (some ⟨g,0,none⟩) l.length c∧B≤g∧l.length≤c∧c≤maxLen∧Blk w g 3 cur∧c≤cur.size∧∀(j:Nat) x,l[j]?=some x→cur[j]?=some (.int .i64 x)
structure RC (lb B j:Nat) (W W':World):Prop where
 os:W'.os=W.os
 tape:W'.tape=W.tape
 output:W'.output=W.output
 size:W.heap.size≤W'.heap.size
 keep:∀b,b<B→b<W.heap.size→b≠lb→W'.heap[b]?=W.heap[b]?
 pre:∀u s,Pref W B u s→s.length≤j→Pref W' B u s
section
variable {lb B j:Nat} {W W' W'' w w':World} {v:Value} {l:List Int} {x:Int}
theorem RC.refl (lb B j:Nat) (W:World):RC lb B j W W:=⟨rfl,rfl,rfl,Nat.le_refl _,fun _ _ _ _=>rfl,fun _ _ h _=>h⟩
theorem RC.trans (h:RC lb B j W W') (h':RC lb B j W' W''):RC lb B j W W'':=
 ⟨h'.os.trans h.os,h'.tape.trans h.tape,h'.output.trans h.output,Nat.le_trans h.size h'.size,fun b hb hlt hne=>(h'.keep b hb (Nat.lt_of_lt_of_le hlt h.size) hne).trans (h.keep b hb hlt hne),fun u s hp hj=>h'.pre u s (h.pre u s hp hj) hj⟩
theorem RC.mono {i:Nat} (h:RC lb B j W W') (hi:i≤j):RC lb B i W W':=⟨h.os,h.tape,h.output,h.size,h.keep,fun u s hp hj=>h.pre u s hp (Nat.le_trans hj hi)⟩
theorem Pref.blocks (h:Pref w B v l) (hk:∀b,B≤b→b<w.heap.size→w'.heap[b]?=w.heap[b]?):Pref w' B v l:=by
 rcases h with h | ⟨g,c,cur,rfl,h1,h2,h3,hb,h4,h5⟩
 ·exact .inl h
 ·exact .inr ⟨g,c,cur,rfl,h1,h2,h3,(hk g h1 (zb hb)).trans hb,h4,h5⟩
theorem RC.ext (hE:Ext W W'):RC lb B j W W':=⟨hE.os,hE.tape,hE.output,hE.size,fun b _ hlt _=>hE.block b hlt,fun u s hp _=>hp.blocks fun b _ hlt=>hE.block b hlt⟩
theorem RC.yield (hg:W.grownBy W' (some lb)) (hl:lb<B):RC lb B j W W':=
 ⟨hg.os,hg.tape,hg.output,hg.size,fun b _ hlt hne=>hg.block b hlt (fun e=>hne (by injection e)),fun u s hp _=>hp.blocks fun b hb hlt=>hg.block b hlt (fun e=>by injection e with e;omega)⟩
theorem Pref.nil (w:World) (B:Nat):Pref w B (.slice none 0 0) []:=.inl ⟨rfl,rfl⟩
theorem Pref.ints (h:Pref w B v l):zf w (fun b=>B≤b) v l:=by
 rcases h with ⟨rfl,rfl⟩ | ⟨g,c,cur,rfl,h1,h2,h3,hb,h4,h5⟩
 ·exact zf.nil _ _
 ·refine ⟨_,c,rfl,h2,by simp,fun _=>⟨g,0,rfl,h1,fun j u hu=>?_⟩⟩;rw [List.getElem?_map] at hu
  cases hl:l[j]? with
  | none=>rw [hl] at hu;cases hu
  | some y=>
   rw [hl] at hu;rw [Nat.zero_add];have:=hb.cell (h5 j y hl);rw [this];exact hu
theorem Pref.of_own (h:zy w B v l):Pref w B v l:=by
 obtain ⟨hl,⟨rfl,h0⟩ | ⟨g,cap,cur,rfl,hg,hh,hnc,hcap,hcs,ht⟩⟩:=h
 ·exact .inl ⟨rfl,List.length_eq_zero_iff.1 h0⟩
 ·refine .inr ⟨g,cap,cur,rfl,hg,hnc,hcap,hh,by omega,fun j x hx=>?_⟩;have h1:(l.map (Value.int .i64))[j]?=some (.int .i64 x):=by rw [List.getElem?_map,hx];rfl
  rw [←ht,List.getElem?_take] at h1
  split at h1
  ·simpa using h1
  ·cases h1
theorem run_pref_app (h:Pref w B v l) (t ty:TypeId) (ht:Tryz.prog.underlying t=some (.slice 3)) {g c:Nat} (hc:w.cell? ⟨g,0,none⟩=some (.int .i64 x)) (hB:B≤w.heap.size) (hl:l.length≤1000000000000) (lb:Nat) (hlb:lb<B):
  ∃v' w',(Builtin.append_ #[t,t] ty #[v,.slice (some ⟨g,0,none⟩) 1 c]).run Tryz.prog w=.ok v' w'∧Pref w' B v' (l++[x])∧RC lb B l.length w w'∧Below B w w':=by
 obtain ⟨i0,hi,hz0,hz1,hz2⟩:=info_parts Tryz.infoInt
 have hnews:∀(j:Nat) (u:Value),[Value.int .i64 x][j]?=some u→w.cell? ((⟨g,0,none⟩:Addr).add j)=some u:=fun j u hu=>by
  match j,hu with
  | 0,hu=>
   have:u=.int .i64 x:=by simpa using hu.symm
   rw [this];exact hc
 have hone:∀u∈[Value.int .i64 x],u.oneCell'=true:=fun u hu=>by
  have:u=.int .i64 x:=by simpa using hu
  rw [this];rfl
 have grow:∀{w':World},w.grownBy w' none→RC lb B l.length w w'∧Below B w w':=fun hg=>
  ⟨⟨hg.os,hg.tape,hg.output,hg.size,fun b _ hlt _=>hg.block b hlt (by simp),fun u s hp _=>hp.blocks fun b _ hlt=>hg.block b hlt (by simp)⟩,(Below.refl B w).grown hg hB (fun k hk=>by cases hk)⟩
 rcases h with ⟨rfl,rfl⟩ | ⟨gq,cq,cur,rfl,h1,h2,h3,hb,h4,h5⟩
 ·obtain ⟨v',w',hrun,r1,r2,-⟩:=run_append_own (P:=Tryz.prog) w B t ty 3 i0 (.int .i64 0) 1 8 ht hi hz0 hz1 hz2 rfl (by decide) (.slice none 0 0) 0 [] (World.ownsRow_nil _ _ _ _) ⟨g,0,none⟩ 1 c [.int .i64 x] rfl hnews hone (by unfold maxLen;omega) (by omega) hB;have hO:zy w' B v' [x]:=r1;exact ⟨v',w',hrun,Pref.of_own hO,grow r2⟩
 ·have hcell:∀j,j<cq→∃u,w.cell? ⟨gq,j,none⟩=some u:=fun j hj=>by
   have hjc:j<cur.size:=by omega
   exact ⟨cur[j],hb.cell (by simp [hjc])⟩
  have hfr:∀j,w.frozen? ⟨gq,j,none⟩=false:=fun j=>hb.frozen j
  by_cases hroom:l.length+1≤cq
  ·have hrun:=run_append_room_cells (P:=Tryz.prog) w t ty 3 i0 ht hi gq 0 l.length cq ⟨g,0,none⟩ 1 c [.int .i64 x] (by rw [hz1];rfl) hnews hone hroom
    (fun j hj=>by
     have:j=0:=by simpa using hj
     subst this;obtain ⟨u,hu⟩:=hcell (0+l.length*i0.size+0) (by rw [hz1];omega);rw [hu];rfl) (fun j hj=>hfr _)
   have e1:w.setCells gq (0+l.length*i0.size) [.int .i64 x]=w.setCell ⟨gq,l.length,none⟩ (.int .i64 x):=by
    rw [hz1,Nat.mul_one,Nat.zero_add];rfl
   rw [e1] at hrun;have hoth:∀b,b≠gq→(w.setCell ⟨gq,l.length,none⟩ (.int .i64 x)).heap[b]?=w.heap[b]?:=fun b hne=>Below.heap_setCell w ⟨gq,l.length,none⟩ _ b hne
   have hbs:=hb.set (k:=l.length) (.int .i64 x);refine ⟨_,_,hrun,.inr ⟨gq,cq,_,by rw [List.length_append];rfl,h1,by rw [List.length_append];exact hroom,h3,hbs,by simpa using h4,fun j y hy=>?_⟩,⟨rfl,rfl,rfl,by simp,fun b hbB _ _=>hoth b (by omega),fun u s hp hj=>?_⟩,(Below.refl B w).setCell (p:=⟨gq,l.length,none⟩) h1 _⟩
   ·rw [Array.getElem?_setIfInBounds];by_cases hj:j<l.length
    ·rw [if_neg (by omega)];exact h5 j y (by rwa [List.getElem?_append_left hj] at hy)
    ·rw [List.getElem?_append_right (by omega)] at hy
     have hj0:j - l.length=0:=by
      obtain ⟨h,-⟩:=List.getElem?_eq_some_iff.1 hy;simpa using h
     have hje:j=l.length:=by omega
     subst hje;rw [if_pos rfl,if_pos (by omega)];have:x=y:=by simpa using hy
     rw [this]
   ·rcases hp with hp | ⟨gu,cu,cuu,rfl,k1,k2,k3,kb,k4,k5⟩
    ·exact .inl hp
    ·by_cases hgu:gu=gq
     ·subst hgu
      have hcc:cuu=cur:=by
       have hb1:w.heap[gu]?=_:=hb;have hb2:w.heap[gu]?=_:=kb;rw [hb1] at hb2;injection hb2 with hb2;injection hb2 with hb2;exact hb2.symm
      subst hcc;refine .inr ⟨gu,cu,_,rfl,k1,k2,k3,hbs,by simpa using k4,fun i y hy=>?_⟩;rw [Array.getElem?_setIfInBounds];have hi:i<s.length:=(List.getElem?_eq_some_iff.1 hy).1;rw [if_neg (by omega)];exact k5 i y hy
     ·exact .inr ⟨gu,cu,cuu,rfl,k1,k2,k3,(hoth gu hgu).trans kb,k4,k5⟩
  ·have holds:∀(j:Nat) u,(l.map (Value.int .i64))[j]?=some u→w.cell? ((⟨gq,0,none⟩:Addr).add j)=some u:=fun j u hu=>by
    rw [List.getElem?_map] at hu
    cases hl2:l[j]? with
    | none=>rw [hl2] at hu;cases hu
    | some y=>
     rw [hl2] at hu;rw [Addr.add_lit,Nat.zero_add,hb.cell (h5 j y hl2)];exact hu
   obtain ⟨v',w',hrun,r1,r2⟩:=run_append_arg_grows (P:=Tryz.prog) w t ty 3 i0 (.int .i64 0) 1 8 ht hi hz0 hz1 hz2 rfl (by decide) ⟨gq,0,none⟩ l.length cq (l.map (Value.int .i64)) (by simp) holds ⟨g,0,none⟩ 1 c [.int .i64 x] rfl hnews (by omega) (by unfold maxLen;omega) (by omega)
   have hO:zy w' w.heap.size v' (l++[x]):=by
    unfold zy;rw [map_snoc,List.length_append];exact r1
   have hO':zy w' B v' (l++[x]):=hO.mono hB;exact ⟨v',w',hrun,Pref.of_own hO',grow ⟨r2.os,r2.tape,r2.output,r2.size,fun k hk _=>r2.block k hk (by simp)⟩⟩
theorem zcg {o:Oper} {a:Act} {K:Act→World→Prop} {Q:Exit→Act→World→Prop} (s y:Operand)
  (ho:o.op=.call { callee:=.builtin .append,args:=#[s,y],argTypes:=#[23,23] }) (W:World) (l:List Int) (x:Int) (B g c lb:Nat) (v:Value) (hs:a.eval s=v)
  (hy:a.eval y=.slice (some ⟨g,0,none⟩) 1 c) (hown:Pref W B v l) (hc:W.cell? ⟨g,0,none⟩=some (.int .i64 x)) (hB:B≤W.heap.size) (hl:l.length≤1000000000000) (hlb:lb<B)
  (h:∀v' w',Pref w' B v' (l++[x])→RC lb B l.length W w'→Below B W w'→K (a.put o.dst v') w'):Oper.wp Tryz.prog o a W K Q:=by
 obtain ⟨v',w',hr,h2,h3,h4⟩:=run_pref_app hown 23 o.type Tryz.underlying23 (c:=c) hc hB hl lb hlb;unfold Oper.wp execOp;simp only [ho,resolve,invoke,builtin,Sem.run_bind,Sem.run_pure,Result.andThen_ok,List.map_toArray,List.map_cons,List.map_nil,hs,hy,hr];exact h v' w' h2 h3 h4
end
end Go.Proofs.YthbjngbhbbkkgaaGreat
