/- RtWe RtWf RtNw RtJa RtDr -/
import Derived.Test.YthbjngbhbbkkgaaGreatHUa
import Derived.Test.YthbjngbhbbkkgaaGreatHUb
import Derived.Test.YthbjngbhbbkkgaaGreatHUc
import Derived.Test.YthbjngbhbbkkgaaGreatHUd
import Derived.Test.YthbjngbhbbkkgaaGreatHUe
import Derived.Test.YthbjngbhbbkkgaaGreatHUf
import Derived.Test.YthbjngbhbbkkgaaGreatHUg
import Derived.Test.YthbjngbhbbkkgaaGreatHUh
import Derived.Test.YthbjngbhbbkkgaaGreatHUi
import Derived.Test.YthbjngbhbbkkgaaGreatHUj
import Derived.Test.YthbjngbhbbkkgaaGreatHUk
import Derived.Test.YthbjngbhbbkkgaaGreatHUl
import Derived.Test.YthbjngbhbbkkgaaGreatHUm
import Derived.Test.YthbjngbhbbkkgaaGreatHUn
import Derived.Deep.DeepCutAuto
set_option linter.unusedVariables false
set_option linter.unusedSimpArgs false
set_option maxRecDepth 100000
set_option maxHeartbeats 16000000
namespace Go.Proofs.YthbjngbhbbkkgaaGreat
open Go.RowKit
attribute [local go_sem ↓] Go.wp_at_zero Go.wp_at_succ
structure CP (w wr:World) (g:Nat) (ps:List (List Int)):Prop where
 ext:Ext w wr
 lo:w.heap.size≤g
 row:∃vs:List Value,Blk wr g 23 vs.toArray∧vs.length=ps.length∧∀(i:Nat) x,ps[i]?=some x→∃u,vs[i]?=some u∧zf wr (fun b=>b≠g∧w.heap.size≤b) u x
section
variable {w wr w':World} {g:Nat} {ps:List (List Int)}
theorem CP.lt (h:CP w wr g ps):g<wr.heap.size:=by obtain ⟨vs,hb,-⟩:=h.row;exact zb hb
theorem CP.more (h:CP w wr g ps) (hE:Ext wr w'):CP w w' g ps:=by
 obtain ⟨vs,hb,hl,he⟩:=h.row;exact ⟨h.ext.trans hE,h.lo,vs,hb.ext hE,hl,fun i x hx=>by obtain ⟨u,hu,hi⟩:=he i x hx;exact ⟨u,hu,hi.below hE⟩⟩
theorem CP.intss (h:CP w wr g ps) (c:Nat) (hc:ps.length≤c):zo wr (fun _=>True) (.slice (some ⟨g,0,none⟩) ps.length c) ps:=by
 obtain ⟨vs,hb,hl,he⟩:=h.row;refine ⟨vs,⟨_,c,rfl,hc,by omega,fun _=>⟨g,0,rfl,trivial,fun j u hu=>?_⟩⟩,fun i x hx=>by obtain ⟨u,hu,hi⟩:=he i x hx;exact ⟨u,hu,hi.weaken fun _ _=>trivial⟩⟩;rw [Nat.zero_add];exact hb.cell (by simpa using hu)
theorem CP.at_ (h:CP w wr g ps) {k:Nat} (hk:k<ps.length):∃u,wr.cell? ⟨g,k,none⟩=some u∧wr.frozen? ⟨g,k,none⟩=false∧zf wr (fun b=>b≠g∧w.heap.size≤b) u ps[k]:=by
 obtain ⟨vs,hb,hl,he⟩:=h.row;obtain ⟨u,hu,hi⟩:=he k _ (List.getElem?_eq_getElem hk);exact ⟨u,hb.cell (by simpa using hu),hb.frozen k,hi⟩
theorem CP.set (h:CP w wr g ps) (k:Nat) {u:Value} {x:List Int} (hu:zf wr (fun b=>b≠g∧w.heap.size≤b) u x):CP w (wr.setCell ⟨g,k,none⟩ u) g (ps.set k x):=by
 obtain ⟨vs,hb,hl,he⟩:=h.row;have hk:∀{v:Value} {l:List Int},zf wr (fun b=>b≠g∧w.heap.size≤b) v l→zf (wr.setCell ⟨g,k,none⟩ u) (fun b=>b≠g∧w.heap.size≤b) v l:=fun hi=>hi.keep fun b hb _=>Below.heap_setCell wr ⟨g,k,none⟩ u b hb.1
 refine ⟨h.ext.setCell (p:=⟨g,k,none⟩) h.lo _,h.lo,vs.set k u,?_,by simp [hl],fun i y hy=>?_⟩
 ·have:=hb.set (k:=k) u
  rwa [List.setIfInBounds_toArray] at this
 ·rw [List.getElem?_set] at hy⊢;by_cases hi:k=i
  ·subst hi;rw [if_pos rfl] at hy⊢
   split at hy
   ·rename_i hlt
    rw [if_pos (by omega)];injection hy with hy;subst hy;exact ⟨u,rfl,hk hu⟩
   ·cases hy
  ·rw [if_neg hi] at hy⊢;obtain ⟨v,hv,hvi⟩:=he i y hy;exact ⟨v,hv,hk hvi⟩
theorem CP.new (w:World) (n:Nat):CP w (w.alloc (.cells (madeCells #[.slice none 0 0] n) 23)) w.heap.size (List.replicate n []):=by
 refine ⟨(Ext.refl w).alloc _,Nat.le_refl _,List.replicate n (.slice none 0 0),?_,by simp,fun i x hx=>?_⟩
 ·have:(madeCells #[Value.slice none 0 0] n)=(List.replicate n (Value.slice none 0 0)).toArray:=by
   apply Array.ext';apply List.ext_getElem
   ·simp [madeCells]
   ·intro i h1 h2;simp [madeCells,Nat.mod_one]
  rw [this];exact Blk.new _ _ _ rfl
 ·obtain ⟨hi,e⟩:=List.getElem?_eq_some_iff.1 hx;rw [List.getElem_replicate] at e;subst e;exact ⟨.slice none 0 0,by rw [List.getElem?_replicate,if_pos (by simpa using hi)],zf.nil _ _⟩
end
theorem take_rep_succ {ps:List (List Int)} {k:Nat} (hk:k<ps.length):(ps.take k++List.replicate (ps.length - k) []).set k ps[k]=ps.take (k+1)++List.replicate (ps.length - (k+1)) []:=by
 have hl:(ps.take k).length=k:=by rw [List.length_take];omega
 rw [List.set_append_right _ _ (by omega),hl,Nat.sub_self,List.take_succ_eq_append_getElem hk,List.append_assoc];obtain ⟨r,hr⟩:∃r,ps.length - k=r+1:=⟨ps.length - k - 1,by omega⟩;have hr2:ps.length - (k+1)=r:=by omega
 rw [hr,hr2,List.replicate_succ]
 all_goals rfl
theorem copied_calls {ok:Nat→Prop} {v:Value} {ps:List (List Int)} (w:World) (h:zo w ok v ps) (hl:ps.length≤1000000) (hx:∀x∈ps,x.length≤100000000000):
  Calls Tryz.prog 39 #[v] w fun e w'=>∃g,e=.returned (.slice (some ⟨g,0,none⟩) ps.length ps.length)∧CP w w' g ps:=by
 obtain ⟨vs,⟨A,c,rfl,hc,hr⟩,he⟩:=h;have HR:=zh hr;have HE:=zh he;have HX:=zh hx;clear hr he hx;obtain ⟨n,hn⟩:∃n,n=ps.length:=⟨_,rfl⟩
 have hmk:∀W:World,(Instr.makeSlice 22 (.int .i64 (ps.length:Nat)) (.int .i64 (ps.length:Nat))).run Tryz.prog W=.ok (.slice (some ⟨W.heap.size,0,none⟩) ps.length ps.length) (W.alloc (.cells (madeCells #[.slice none 0 0] ps.length) 23)):=fun W=>
  run_make_row' 22 23 (.slice none 0 0) 24 Tryz.underlying22 Tryz.infoInts rfl .i64 .i64 ps.length (by omega) (by omega) W
 go_enter Tryz.func39,Tryz.ntmps39
 go_wp2_with fail
 have hC0:=zh (CP.new w ps.length);generalize w.alloc (.cells (madeCells #[.slice none 0 0] ps.length) 23)=w1 at hC0⊢;generalize w.heap.size=g at hC0⊢;go_loopw [11] (fun i wr=>∃k:Nat,k≤ps.length∧i=.int .i64 (k:Nat)∧Hid (CP w wr g (ps.take k++List.replicate (ps.length - k) []))) (fun i _=>ps.length - (intOf i).toNat)
 case atStart=>exact ⟨0,Nat.zero_le _,rfl,hC0⟩
 clear hC0
 case round=>
  obtain ⟨k,hk,rfl,hC⟩:=hrel;obtain ⟨wk,rfl⟩:∃wk:World,wk=wr:=⟨_,rfl⟩;by_cases hlt:k<ps.length
  ·obtain ⟨b,off,u,rfl,_,hcell0,hu⟩:=zP HR.out HE.out hlt hlt;have hcell:wk.cell? ⟨b,off+k,none⟩=some u:=hC.out.ext.cell hcell0;have hul:=HX.out _ (List.getElem_mem hlt);have HS:=zh (take_rep_succ hlt);obtain ⟨q,hq⟩:∃q,q=ps[k]:=⟨_,rfl⟩;rw [←hq] at hu hul HS;have HU:=zh (zf.below hu hC.out.ext);clear hu hq hcell0
   go_wp2_with fail
   refine (zcF wk HU.out hul).mono ?_;rintro e w9 ⟨v9,rfl,hM9⟩;obtain ⟨A9,c9,rfl,hc9⟩:=hM9.slice;have hgk:=hC.out.lt;have hC9:=zh (hC.out.more hM9.ext);have hI9:Hid (zf w9 (fun b=>b≠g∧w.heap.size≤b) (.slice A9 q.length c9) q):=hM9.ints.weaken fun b hb=>⟨by omega,Nat.le_trans hC.out.ext.size hb⟩
   clear hM9;obtain ⟨u0,hcu9,hf9,-⟩:=hC9.out.at_ (k:=k) (by simp;omega);go_wp2;go_roundw
   case rel=>exact ⟨k+1,by omega,by go_num,by rw [←HS.out];exact hC9.out.set k hI9.out⟩
   case measure=>simp [intOf];omega
  ·obtain rfl:k=ps.length:=by omega
   have hC':Hid (CP w wk g ps):=by have:=hC.out;rw [List.take_length,Nat.sub_self,List.replicate_zero,List.append_nil] at this;exact this
   go_wp2;go_ret;exact ⟨g,rfl,hC'.out⟩
theorem boolss_slice1 {w:World} {ok:Nat→Prop} {b off n c c' k:Nat} {l:List (List Bool)} (h:zaG w ok (.slice (some ⟨b,off,none⟩) n c) l) (hk:k<l.length) (hc:1≤c'):zaG w ok (.slice (some ⟨b,off+k,none⟩) 1 c') [l.getD k []]:=by
 obtain ⟨vs,⟨A,c0,e,_,hl,hr⟩,he⟩:=h;injection e with e1 e2 e3;subst e2 e3;obtain ⟨b0,off0,e0,hb,hcell⟩:=hr (by omega);rw [←e1] at e0;injection e0 with e0;injection e0 with e4 e5;subst e4 e5;obtain ⟨u,hu,hi⟩:=he k _ (List.getElem?_eq_getElem hk);refine ⟨[u],⟨_,c',rfl,hc,rfl,fun _=>⟨b,off+k,rfl,hb,fun j x hx=>?_⟩⟩,fun i x hx=>?_⟩
 ·match j,hx with
  | 0,hx=>
   have:x=u:=by simpa using hx.symm
   rw [this];exact hcell k u hu
 ·match i,hx with
  | 0,hx=>
   have:x=l.getD k []:=by simpa using hx.symm
   rw [this,List.getD_eq_getElem?_getD,List.getElem?_eq_getElem hk];exact ⟨u,rfl,hi⟩
theorem tasks_slice1 {w:World} {ok:Nat→Prop} {b off n c c' k:Nat} {l:List (List Int×List Int)} (h:zbh w ok (.slice (some ⟨b,off,none⟩) n c) l) (hk:k<l.length) (hc:1≤c'):zbh w ok (.slice (some ⟨b,off+k*3,none⟩) 1 c') [l.getD k ([],[])]:=by
 obtain ⟨vs,⟨A,c0,e,_,hl,hr⟩,he⟩:=h;injection e with e1 e2 e3;subst e2 e3;obtain ⟨b0,off0,e0,hb,hcell⟩:=hr (by omega);rw [←e1] at e0;injection e0 with e0;injection e0 with e4 e5;subst e4 e5;obtain ⟨s,u1,u2,h0,h1,h2,i1,i2⟩:=he k _ (List.getElem?_eq_getElem hk);refine ⟨[.string s,u1,u2],⟨_,c',rfl,hc,rfl,fun _=>⟨b,off+k*3,rfl,hb,fun j x hx=>?_⟩⟩,fun i x hx=>?_⟩
 ·have q0:=hcell _ _ h0;have q1:=hcell _ _ h1;have q2:=hcell _ _ h2
  match j,hx with
  | 0,hx=>
   have:x=.string s:=by simpa using hx.symm
   rw [this];exact q0
  | 1,hx=>
   have:x=u1:=by simpa using hx.symm
   rw [this,Nat.add_assoc];exact q1
  | 2,hx=>
   have:x=u2:=by simpa using hx.symm
   rw [this,Nat.add_assoc];exact q2
 ·match i,hx with
  | 0,hx=>
   have:x=l.getD k ([],[]):=by simpa using hx.symm
   rw [this,List.getD_eq_getElem?_getD,List.getElem?_eq_getElem hk];exact ⟨s,u1,u2,rfl,rfl,rfl,i1,i2⟩
theorem ints_of_cell {w:World} {ok:Nat→Prop} {v:Value} {g c:Nat} {p:List Int} (hc:w.cell? ⟨g,0,none⟩=some v) (h:zf w ok v p) (h1:1≤c):zo w (fun _=>True) (.slice (some ⟨g,0,none⟩) 1 c) [p]:=by
 refine ⟨[v],⟨_,c,rfl,h1,rfl,fun _=>⟨g,0,rfl,trivial,fun j x hx=>?_⟩⟩,fun i x hx=>?_⟩
 ·match j,hx with
  | 0,hx=>
   have:x=v:=by simpa using hx.symm
   rw [this];exact hc
 ·match i,hx with
  | 0,hx=>
   have:x=p:=by simpa using hx.symm
   rw [this];exact ⟨v,rfl,h.weaken fun _ _=>trivial⟩
def zbr (m:MZ) (ps:List (List Int)) (k:Nat):Bool:=((List.range k).all (laidK m ps)) && decide (ps.take k).flatten.Nodup
theorem laidTo_false {m:MZ} {ps:List (List Int)} {k:Nat} (hk:k≤ps.length) (h:zbr m ps k=false):zau m ps=false:=by
 unfold zbr at h;unfold zau;rw [Bool.and_eq_false_iff] at h;rcases h with h | h
 ·have:(List.range ps.length).all (laidK m ps)=false:=by
   rw [Bool.eq_false_iff] at h⊢;intro h2;rw [List.all_eq_true] at h2;exact h (List.all_eq_true.2 fun x hx=>h2 x (List.mem_range.2 (by have:=List.mem_range.1 hx;omega)))
  rw [this];simp
 ·have:¬ ps.flatten.Nodup:=fun hn=>by
   rw [decide_eq_false_iff_not] at h;apply h;have e:ps.flatten=(ps.take k).flatten++(ps.drop k).flatten:=by rw [←List.flatten_append,List.take_append_drop]
   rw [e,List.nodup_append] at hn;exact hn.1
  rw [decide_eq_false this];simp
theorem laidB_of {m:MZ} {ps:List (List Int)} (h0:chk m=0) (h1:ps.length=m.tasks.length) (h:zbr m ps ps.length=true):zau m ps=true:=by
 unfold zbr at h;unfold zau;rw [List.take_length] at h;rw [decide_eq_true h0,decide_eq_true h1,h];rfl
theorem laidB_chk {m:MZ} {ps:List (List Int)} (h:chk m≠0∨ps.length≠m.tasks.length):zau m ps=false:=by
 unfold zau;rcases h with h | h
 ·rw [decide_eq_false h];simp
 ·rw [decide_eq_false h];simp
theorem flat_succ {ps:List (List Int)} {k:Nat} (hk:k<ps.length):(ps.take (k+1)).flatten=(ps.take k).flatten++ps[k]:=by
 rw [List.take_succ_eq_append_getElem hk,List.flatten_append];simp
theorem ownM_lens {m:MZ} (hl:Lens m) (k:Nat):Lens (ownM m k):=by
 refine ⟨by simp [ownM],hl.up,by simp [ownM],fun t ht=>?_⟩;have ht':t=m.tasks.getD k ([],[]):=by simpa [ownM] using ht
 subst ht';by_cases hk:k<m.tasks.length
 ·rw [List.getD_eq_getElem?_getD,List.getElem?_eq_getElem hk];exact hl.tl _ (List.getElem_mem hk)
 ·rw [List.getD_eq_getElem?_getD,List.getElem?_eq_none (by omega)];simp
theorem laidTo_succ {m:MZ} {ps:List (List Int)} {k:Nat} {p:List Int} (h:zbr m ps k=true) (hf:(ps.take (k+1)).flatten=(ps.take k).flatten++p) (hl:laidK m ps k=true) (hn:((ps.take k).flatten++p).Nodup):zbr m ps (k+1)=true:=by
 unfold zbr at h⊢;rw [hf,List.range_succ,List.all_append,List.all_cons,List.all_nil,hl,decide_eq_true hn];rw [Bool.and_eq_true] at h;rw [h.1];rfl
theorem laidTo_no {m:MZ} {ps:List (List Int)} {k:Nat} {p:List Int} (hf:(ps.take (k+1)).flatten=(ps.take k).flatten++p) (h:laidK m ps k=false∨¬ ((ps.take k).flatten++p).Nodup):zbr m ps (k+1)=false:=by
 unfold zbr;rcases h with h | h
 ·rw [List.range_succ,List.all_append,List.all_cons,h];simp
 ·rw [hf,decide_eq_false h];simp
theorem laidTo_nd {m:MZ} {ps:List (List Int)} {k:Nat} (h:zbr m ps k=true):(ps.take k).flatten.Nodup:=by
 unfold zbr at h;rw [Bool.and_eq_true] at h;exact of_decide_eq_true h.2
theorem zcN {okm okf:Nat→Prop} {v vf:Value} {m:MZ} {ps:List (List Int)} (w:World) (hm:zr w okm v m) (hl:Lens m) (hf:zo w okf vf ps) (hfl:ps.length≤20000000000000) (hfx:∀x∈ps,x.length≤20000000000000):
  Calls Tryz.prog 11 #[v,vf] w fun e w'=>e=.returned (.bool (zau m ps))∧Ext w w':=by
 have HMZ:=zh hm;have HL:=zh hl;have HFX:=zh hfx;obtain ⟨Af,cf,Au,cu,At,ct,rfl,hmf,hmu,hmt⟩:=hm.parts;have HMF:=zh hmf;have HMU:=zh hmu;have HMT:=zh hmt;have hcf:m.free.length≤cf:=by obtain ⟨_,⟨_,_,e,h,-⟩,-⟩:=hmf;injection e with e1 e2 e3;subst e3;exact h
 have hct:m.tasks.length≤ct:=by obtain ⟨_,⟨_,_,e,h,-⟩,-⟩:=hmt;injection e with e1 e2 e3;subst e3;exact h
 obtain ⟨vfs,⟨A,c,rfl,hcc,hr⟩,hef⟩:=hf;have HR:=zh hr;have HEF:=zh hef;have hlts:=hl.ts;clear hm hl hr hef hmf hmt hmu hfx;have hmm:=@run_makeMap Tryz.prog
 go_enter Tryz.func11,Tryz.ntmps11
 go_wp2_with fail
 obtain ⟨hb1,r0,r1,r2,r3,r4,r5⟩:=box6 w (.int .i64 m.w) (.int .i64 m.h) (.int .i64 m.l) (.slice Af m.free.length cf) (.slice Au m.up.length cu) (.slice At m.tasks.length ct);generalize w.alloc (.cells #[.int .i64 m.w,.int .i64 m.h,.int .i64 m.l,.slice Af m.free.length cf,.slice Au m.up.length cu,.slice At m.tasks.length ct] 32)=w1 at hb1 r0 r1 r2 r3 r4 r5⊢;obtain ⟨gm,hgm⟩:∃gm,gm=w.heap.size:=⟨_,rfl⟩;rw [←hgm] at r0 r1 r2 r3 r4 r5⊢;clear hgm;have HE1:=zh hb1;clear hb1;have hx:Ext w1 w1:=Ext.refl w1
 go_wp2_with fail
 refine (zaM w1 (HMZ.out.below HE1.out) HL.out).mono ?_;rintro e w2 ⟨rfl,hbA⟩;clear hx;have hx:Ext w1 w2:=hbA;by_cases hc:chk m=0
 case neg=>
  have hd:(chk m != 0)=true:=by simpa using hc
  have HB:=zh (laidB_chk (ps:=ps) (.inl hc));clear hc;go_wp2;go_ret;exact ⟨zd HB.out.symm,HE1.out.trans hx⟩
 have hd:(chk m != 0)=false:=by simpa using hc
 have HC:=zh hc;clear hc;by_cases hpl:ps.length=m.tasks.length
 case neg=>
  have hd2:((ps.length:Int) != (m.tasks.length:Int))=true:=by simp;omega
  have hd3:((ps.length:Int)==(m.tasks.length:Int))=false:=by simp;omega
  have HB:=zh (laidB_chk (m:=m) (.inr hpl));clear hpl;go_wp2;go_ret;exact ⟨zd HB.out.symm,HE1.out.trans hx⟩
 have hd2:((ps.length:Int) != (m.tasks.length:Int))=false:=by simp;omega
 have G:=zh (zx.of HC.out);have HPL:=zh hpl;have htk:=G.out.tk;have hp6:ps.length≤6:=by omega
 clear hpl
 go_wp2_with fail
 have hI0:Hid (RtI w2 (w2.alloc (.map #[] 0)) w2.heap.size []):=⟨(Ext.refl w2).alloc _,Nat.le_refl _,[],zA.new w2,fun y=>Iff.rfl⟩;generalize w2.alloc (.map #[] 0)=w3 at hI0⊢;obtain ⟨gs,hgs⟩:∃gs,gs=w2.heap.size:=⟨_,rfl⟩;rw [←hgs] at hI0⊢;clear hgs;have HX2:Hid (Ext w1 w2):=hx;clear hx;go_loopw [25] (fun i wr=>∃k,k≤ps.length∧i=.int .i64 (k:Nat)∧Hid (RtI w2 wr gs (ps.take k).flatten)∧Hid (zbr m ps k=true)) (fun i _=>ps.length - (intOf i).toNat)
 case atStart=>exact ⟨0,Nat.zero_le _,rfl,hI0,by show _=_;unfold zbr;rfl⟩
 clear hI0
 case round=>
  obtain ⟨k,hk,rfl,hI,hT⟩:=hrel;obtain ⟨wk,rfl⟩:∃wk:World,wk=wr:=⟨_,rfl⟩;by_cases hlt:k<ps.length
  ·obtain ⟨b,off,u,rfl,_,hcell0,hu⟩:=zP HR.out HEF.out hlt hlt;have hcell:wk.cell? ⟨b,off+k,none⟩=some u:=(HE1.out.trans (HX2.out.trans hI.out.ext)).cell hcell0;have hul:=HFX.out _ (List.getElem_mem hlt);have hfs:=zh (flat_succ hlt);have hkd:ps.getD k []=ps[k]:=by rw [List.getD_eq_getElem?_getD,List.getElem?_eq_getElem hlt];rfl
   have hLK:Hid (laidK m ps k=(decide (ps[k]=[]) || zZ (ownM m k) [ps[k]])):=by show _=_;unfold laidK;rw [hkd]
   obtain ⟨p,hp⟩:∃p,p=ps[k]:=⟨_,rfl⟩;rw [←hp] at hu hul hfs hLK;have HU:=zh (zf.below hu (HE1.out.trans (HX2.out.trans hI.out.ext)));have HUW:=zh hu;clear hp hcell0 hkd hu;obtain ⟨Ap,cp,rfl,hcp⟩:∃Ap cp,u=.slice Ap p.length cp∧p.length≤cp:=by obtain ⟨A,c,e,h,-⟩:=HU.out;exact ⟨A,c,e,h⟩
   by_cases hp0:p.length=0
   ·have hpn:p=[]:=List.length_eq_zero_iff.1 hp0
    have HT':Hid (zbr m ps (k+1)=true):=by
     have h1:=hT.out;show _=_;unfold zbr at h1⊢;rw [hfs.out,hpn,List.append_nil,List.range_succ,List.all_append,List.all_cons,List.all_nil,hLK.out,decide_eq_true hpn];simpa using h1
    have HI':Hid (RtI w2 wk gs (ps.take (k+1)).flatten):=by rw [hfs.out,hpn,List.append_nil];exact hI.out
    have hd4:((p.length:Int)==0)=true:=by simp [hp0]
    clear hpn;have hl0:(p.length:Int)=0:=by omega
    clear hd4;go_wp2;go_roundw
    case rel=>exact ⟨k+1,by omega,by go_num,HI',HT'⟩
    case measure=>simp [intOf];omega
   ·have hd4:((p.length:Int)==0)=false:=beq_eq_false_iff_ne.2 (by omega);have hx:Ext w1 wk:=HX2.out.trans hI.out.ext;have hkt:k<m.tasks.length:=Nat.lt_of_lt_of_eq hlt HPL.out;have hkf:k<m.free.length:=by rw [G.out.fl];exact hkt
    obtain ⟨bt,offt,_,_,_,rfl,-⟩:=zam HMT.out hkt
    obtain ⟨bf,offf,rfl⟩:∃bf offf,Af=some ⟨bf,offf,none⟩:=by
     obtain ⟨_,⟨_,_,e,_,hr⟩,_⟩:=HMF.out;injection e with e1 e2 e3;obtain ⟨b,o,e0,-⟩:=hr.2 (by omega);exact ⟨b,o,e1.trans e0⟩
    have hk0:(0:Int)≤(k:Int):=by omega
    have hpl2:=HPL.out;have hfl2:=G.out.fl;have hk1:(k:Int)+1≤(ct:Int):=by omega
    have hk2:(k:Int)+1≤(cf:Int):=by omega
    have hk3:(0:Int)≤(k:Int)+1:=by omega
    have hne1:¬ ct=k:=by omega
    have hne2:¬ cf=k:=by omega
    clear hpl2 hfl2;have hkw:IntKind.i64.wrap ((k:Int)+1)=(k:Int)+1:=by rw [IntKind.wrap_i64];omega
    go_wp2_with fail
    have hB0:=zh (Blk.new wk #[.int .i64 m.w,.int .i64 m.h,.int .i64 m.l,.slice (some ⟨bf,offf,none⟩) m.free.length cf,.slice Au m.up.length cu,.slice (some ⟨bt,offt,none⟩) m.tasks.length ct] 32 (g:=wk.heap.size) rfl);have hE5:Ext wk (wk.alloc (.cells #[.int .i64 m.w,.int .i64 m.h,.int .i64 m.l,.slice (some ⟨bf,offf,none⟩) m.free.length cf,.slice Au m.up.length cu,.slice (some ⟨bt,offt,none⟩) m.tasks.length ct] 32)):=(Ext.refl wk).alloc _;generalize wk.alloc (.cells #[.int .i64 m.w,.int .i64 m.h,.int .i64 m.l,.slice (some ⟨bf,offf,none⟩) m.free.length cf,.slice Au m.up.length cu,.slice (some ⟨bt,offt,none⟩) m.tasks.length ct] 32)=w5 at hB0 hE5⊢;obtain ⟨g8,hg8⟩:∃g8,g8=wk.heap.size:=⟨_,rfl⟩;rw [←hg8] at hB0⊢;have HG8:Hid (wk.heap.size≤g8):=by show _≤_;omega
    clear hg8;have hxk:Ext w1 w5.drew:=(hx.trans hE5).drew;have k3:∀W,Ext wk W→W.cell? ⟨gm,3,none⟩=some (.slice (some ⟨bf,offf,none⟩) m.free.length cf):=fun W h=>r3 W (hx.trans h)
    have k5:∀W,Ext wk W→W.cell? ⟨gm,5,none⟩=some (.slice (some ⟨bt,offt,none⟩) m.tasks.length ct):=fun W h=>r5 W (hx.trans h)
    refine wp_region_held_drew (S:=(fun W=>Ext wk W)) zS (hE5.drew) (fun zH=>?_);have hHd:Ext wk w5.drew:=zH;have hBd:Blk w5.drew g8 32 _:=hB0.out;generalize w5.drew=wd at zH hHd hBd hxk⊢;refine rtT 0 zH ?_;simp only [za,Act.put];refine rtT 1 zH ?_;simp only [za,Act.put];refine rtT 2 zH ?_;simp only [za,Act.put];refine rtT 3 zH ?_;simp only [za,Act.put];refine rtT 4 zH ?_;simp only [za,Act.put];refine rtT 5 zH ?_;simp only [za,Act.put];refine rtT 6 zH ?_;simp only [za,Act.put];refine rtT 7 zH ?_;simp only [za,Act.put];refine rtT 8 zH ?_;simp only [za,Act.put];refine rtT 9 zH ?_;simp only [za,Act.put];refine rtT 10 zH ?_;simp only [za,Act.put];refine rtT 11 zH ?_;simp only [za,Act.put];refine rtT 12 zH ?_;simp only [za,Act.put];refine rtR 13 (fun K hK=>?_);have hc5:=hBd.cell (k:=5) rfl;have hf5:=hBd.frozen 5;go_simp;have hB6:=hBd.set (k:=5) (.slice (some ⟨bt,offt+k*3,none⟩) 1 (ct - k));have hE6:=hHd.setCell (p:=⟨g8,5,none⟩) HG8.out (.slice (some ⟨bt,offt+k*3,none⟩) 1 (ct - k));generalize wd.setCell ⟨g8,5,none⟩ (.slice (some ⟨bt,offt+k*3,none⟩) 1 (ct - k))=we at hB6 hE6⊢;refine hK.out _ _ (hE6) (fun zH=>?_);clear hK K;try simp only [za,Act.put]
    refine rtT 14 zH ?_;simp only [za,Act.put];refine rtR 15 (fun K hK=>?_);have hc3:=hB6.cell (k:=3) rfl;have hf3:=hB6.frozen 3;go_simp;have hB7:=zh (hB6.set (k:=3) (.slice (some ⟨bf,offf+k,none⟩) 1 (cf - k)));have hE7:=zh (hE6.setCell (p:=⟨g8,3,none⟩) HG8.out (.slice (some ⟨bf,offf+k,none⟩) 1 (cf - k)));generalize we.setCell ⟨g8,3,none⟩ (.slice (some ⟨bf,offf+k,none⟩) 1 (cf - k))=wf at hB7 hE7⊢;refine hK.out _ _ (hE7.out) (fun zH=>?_);clear hK K;try simp only [za,Act.put]
    refine wpAnyH_done (by kernel_rfl) ?_ _;clear hB6 hE6 hBd hHd zH;simp only [List.setIfInBounds_toArray,List.set_cons_zero,List.set_cons_succ] at hB7;obtain ⟨m0,m1,m2,m3,m4,m5⟩:=zw hB7.out;have HXF:Hid (Ext w wf):=HE1.out.trans (hx.trans hE7.out);have HIF:=zh (hI.out.more hE7.out);clear hx hxk k3 k5 hB0 hE5 hI hcell
    go_wp2_with fail
    have hc1:=zm wf (.slice Ap p.length cp) 23 (g:=wf.heap.size) rfl;have hEg:Ext wf (wf.alloc (.cells #[.slice Ap p.length cp] 23)):=(Ext.refl wf).alloc _;generalize wf.alloc (.cells #[.slice Ap p.length cp] 23)=wg at hc1 hEg⊢;have HXG:Hid (Ext w wg):=HXF.out.trans hEg;have HIG:=zh (HIF.out.more hEg)
    have HMG:Hid (zr wg okm (.agg #[.int .i64 m.w,.int .i64 m.h,.int .i64 m.l,(.slice (some ⟨bf,offf+k,none⟩) 1 (cf - k)),.slice Au m.up.length cu,(.slice (some ⟨bt,offt+k*3,none⟩) 1 (ct - k))]) (ownM m k)):=
     ⟨_,_,_,rfl,boolss_slice1 (HMF.out.below HXG.out) hkf (by omega),HMU.out.below HXG.out,tasks_slice1 (HMT.out.below HXG.out) hkt (by omega)⟩
    have HPG:=zh (ints_of_cell (c:=1) hc1 (zf.below HU.out (Ext.trans hE7.out hEg)) (Nat.le_refl _));refine (zcz wg HMG.out (ownM_lens HL.out k) HPG.out (by simp) (by intro x hx;simp at hx;subst hx;exact hul)).mono ?_;rintro e w10 ⟨rfl,hE10⟩;have HX10:Hid (Ext w w10):=HXG.out.trans hE10;have HI10:=zh (HIG.out.more hE10);clear hc1 hEg hE10 HIG HXG HIF HXF m0 m1 m2 m3 m4 m5 HMG HPG hB7 hE7;have hpn:decide (p=[])=false:=decide_eq_false (fun e=>hp0 (by rw [e];rfl));rw [hpn,Bool.false_or] at hLK;clear hpn hk0 hk1 hk2 hk3 hne1 hne2 hkw hd hd2 hd4
    cases hrb:zZ (ownM m k) [p] with
    | false=>
     have HB:=zh (laidTo_false (m:=m) (ps:=ps) (k:=k+1) (by omega) (laidTo_no hfs.out (.inl (hLK.out.trans hrb))));clear hrb;go_wp2;go_ret;exact ⟨zd HB.out.symm,HX10.out⟩
    | true=>
     have HLK:Hid (laidK m ps k=true):=hLK.out.trans hrb;clear hrb hLK
     go_wp2_with fail
     go_loopw [55] (fun i wr=>∃j:Nat,j≤p.length∧i=.int .i64 (j:Nat)∧Hid (RtI w2 wr gs ((ps.take k).flatten++p.take j))∧Hid (((ps.take k).flatten++p.take j).Nodup)) (fun i _=>p.length - (intOf i).toNat)
     case atStart=>exact ⟨0,Nat.zero_le _,rfl,by show RtI _ _ _ _;have:=HI10.out;simpa using this,by show List.Nodup _;simpa using laidTo_nd hT.out⟩
     clear HI10
     case round=>
      obtain ⟨j,hj,rfl,hI,hN⟩:=hrel;obtain ⟨wi,rfl⟩:∃wi:World,wi=wr:=⟨_,rfl⟩;by_cases hjl:j<p.length
      ·obtain ⟨A2,c2,e2,_,hr2⟩:=HUW.out;injection e2 with e2 e3 e4;subst e2 e4;clear e3;obtain ⟨b2,off2,rfl,_,hcell0⟩:=zt hr2 hjl hjl;have hcell:wi.cell? ⟨b2,off2+j,none⟩=some (.int .i64 p[j]):=(HE1.out.trans (HX2.out.trans hI.out.ext)).cell hcell0;have htk2:Hid ((ps.take k).flatten++p.take (j+1)=((ps.take k).flatten++p.take j)++[p[j]]):=by show _=_;rw [List.take_succ_eq_append_getElem hjl,List.append_assoc]
       have hpre:Hid (((ps.take k).flatten++p.take j)++[p[j]] <+: (ps.take k).flatten++p):=by
        show _ <+: _;rw [←htk2.out];exact List.prefix_append_right_inj _ |>.2 (List.take_prefix _ _)
       obtain ⟨y,hy⟩:∃y,y=p[j]:=⟨_,rfl⟩;rw [←hy] at hcell htk2 hpre;obtain ⟨s,hset,hmem⟩:=hI.out.set;have HMEM:=zh hmem;clear hy hcell0 hr2 hmem;by_cases hys:y∈s
       ·have hlk:=lookM_t hset hys
        have hnn:¬ ((ps.take k).flatten++p).Nodup:=fun hn=>by
         have h2:=hn.sublist hpre.out.sublist;rw [List.nodup_append] at h2;exact h2.2.2 y ((HMEM.out y).1 hys) y (by simp) rfl
        have HB:=zh (laidTo_false (m:=m) (ps:=ps) (k:=k+1) (by omega) (laidTo_no hfs.out (.inr hnn)));have HXI:=zh (HE1.out.trans (HX2.out.trans hI.out.ext));clear hys hnn;go_wp2;go_ret;exact ⟨zd HB.out.symm,HXI.out⟩
       ·have hlk:=lookM_f hset hys
        have HN2:Hid (((ps.take k).flatten++p.take (j+1)).Nodup):=by
         show List.Nodup _;rw [htk2.out];exact nodup_snoc hN.out (fun h=>hys ((HMEM.out y).2 h))
        clear hys
        go_wp2_with (at_mapUpdate;refine zbD rfl _ _ _ _ rfl Tryz.underlying78 gs s y rfl rfl rfl hset ?_)
        intro wa hsa hga
        have HI2:Hid (RtI w2 wa gs ((ps.take k).flatten++p.take (j+1))):=by
         show RtI _ _ _ _;rw [htk2.out];exact hI.out.add HMEM.out hsa hga
        clear hsa hga hlk hset;go_wp2;go_roundw
        case rel=>exact ⟨j+1,by omega,by go_num,HI2,HN2⟩
        case measure=>simp [intOf];omega
      ·have hje:j=p.length:=by omega
       subst hje
       have HIE:Hid (RtI w2 wi gs (ps.take (k+1)).flatten):=by
        show RtI _ _ _ _;have:=hI.out;rw [List.take_length] at this;rw [hfs.out];exact this
       have HTE:Hid (zbr m ps (k+1)=true):=laidTo_succ hT.out hfs.out HLK.out (by have:=hN.out;rwa [List.take_length] at this);go_wp2;go_roundw
       case rel=>exact ⟨k+1,by omega,by go_num,HIE,HTE⟩
       case measure=>simp [intOf];omega
  ·have hke:k=ps.length:=by omega
   subst hke;have HB:=zh (laidB_of HC.out HPL.out hT.out);have HX:=zh (HE1.out.trans (HX2.out.trans hI.out.ext));go_wp2;go_ret;exact ⟨zd HB.out.symm,HX.out⟩
end Go.Proofs.YthbjngbhbbkkgaaGreat
namespace Go.Proofs.YthbjngbhbbkkgaaGreat
open Go.RowKit
def StV (V:Nat→Value→World→Prop):Prop:=∀j x W W',Ext W W'→V j x W→V j x W'
theorem StV.ext {V:Nat→Value→World→Prop} (h:StV V) {j:Nat} {x:Value} {W W':World} (hE:Ext W W') (hx:V j x W):V j x W':=h j x W W' hE hx
structure JA (V:Nat→Value→World→Prop) (D:Nat→List Nat) (w9:World) (A:List Nat) (ja jf js:Nat) (gp:Value) (PA:Value→World→Prop) (PS:World→Prop) (e:Nat→Bool) (v:Nat→Value) (W:World):Prop where
 g:e ja=false→Ext w9 W
 gv:e ja=false→∀j∈A,e j=true→V j (v j) W
 d:e ja=true→∀j∈A,e j=true
 m:e ja=true→e js=false→PA (v ja) W
 s:e js=true→e ja=true∧PS W
 f:e jf=true→v jf=gp
 c:∀j∈A,e j=true→∀d∈D j,d∈A∧e d=true
section
variable {V:Nat→Value→World→Prop} {D:Nat→List Nat} {w9 W W':World} {A:List Nat} {ja jf js:Nat} {gp:Value} {PA:Value→World→Prop} {PS:World→Prop} {e:Nat→Bool} {v:Nat→Value} {j:Nat} {x:Value}
theorem upd_true {e:Nat→Bool} {j d:Nat} (h:e d=true):upd e j true d=true:=by
 by_cases hd:d=j
 ·subst hd;exact zaX e d true
 ·rw [zaa e true hd];exact h
theorem JA.notA (h:JA V D w9 A ja jf js gp PA PS e v W) (hj:j∈A) (he:e j=false):e ja=false:=by
 cases ha:e ja with
 | false=>rfl
 | true=>have:=h.d ha j hj;rw [he] at this;cases this
theorem JA.init (hE:Ext w9 W) (hA:ja∉A) (he:∀j,j∈ja :: jf :: js :: A→e j=false):JA V D w9 A ja jf js gp PA PS e v W:=by
 have h1:=he ja (by simp);have h2:=he jf (by simp);have h3:=he js (by simp);refine ⟨fun _=>hE,fun _ j hj hj2=>?_,fun h=>?_,fun h _=>?_,fun h=>?_,fun h=>?_,fun j hj hj2=>?_⟩
 ·rw [he j (by simp [hj])] at hj2;cases hj2
 ·rw [h1] at h;cases h
 ·rw [h1] at h;cases h
 ·rw [h3] at h;cases h
 ·rw [h2] at h;cases h
 ·rw [he j (by simp [hj])] at hj2;cases hj2
theorem JA.step (h:JA V D w9 A ja jf js gp PA PS e v W) (hj:j∈A) (he:e j=false) (hV:StV V) (hn:j≠ja∧j≠jf∧j≠js) (hD:∀d∈D j,d∈A∧e d=true) (hE:Ext W W') (hx:V j x W'):JA V D w9 A ja jf js gp PA PS (upd e j true) (upd v j x) W':=by
 have ha:=h.notA hj he
 have hs:e js=false:=by
  cases hs:e js with
  | false=>rfl
  | true=>have:=(h.s hs).1;rw [ha] at this;cases this
 have ha':upd e j true ja=false:=by rw [zaa e true (fun e=>hn.1 e.symm)];exact ha
 have hs':upd e j true js=false:=by rw [zaa e true (fun e=>hn.2.2 e.symm)];exact hs
 refine ⟨fun _=>(h.g ha).trans hE,fun _ k hk hk2=>?_,fun h=>(by rw [ha'] at h;cases h),fun h=>(by rw [ha'] at h;cases h),fun h=>(by rw [hs'] at h;cases h),fun hf=>?_,fun k hk hk2 d hd=>?_⟩
 ·by_cases hkj:k=j
  ·subst hkj;rw [zaX];exact hx
  ·rw [zaa v x hkj];rw [zaa e true hkj] at hk2;exact hV.ext hE (h.gv ha k hk hk2)
 ·rw [zaa v x (fun e=>hn.2.1 e.symm)];rw [zaa e true (fun e=>hn.2.1 e.symm)] at hf;exact h.f hf
 ·have h1:d∈A∧e d=true:=by
   by_cases hkj:k=j
   ·subst hkj;exact hD d hd
   ·rw [zaa e true hkj] at hk2;exact h.c k hk hk2 d hd
  exact ⟨h1.1,upd_true h1.2⟩
theorem JA.addr (h:JA V D w9 A ja jf js gp PA PS e v W) (hA:jf∉A) (hn:jf≠ja∧jf≠js) (hx:x=gp):JA V D w9 A ja jf js gp PA PS (upd e jf true) (upd v jf x) W:=by
 have ha':upd e jf true ja=e ja:=zaa e true (fun e=>hn.1 e.symm);have hs':upd e jf true js=e js:=zaa e true (fun e=>hn.2 e.symm)
 refine ⟨fun a=>h.g (ha' ▸ a),fun a k hk hk2=>?_,fun a k hk=>?_,fun a b=>?_,fun a=>?_,fun _=>by rw [zaX];exact hx,fun k hk hk2 d hd=>by
  rw [zaa (j:=jf) (k:=k) e true (fun q=>hA (q ▸ hk))] at hk2;obtain ⟨h1,h2⟩:=h.c k hk hk2 d hd;exact ⟨h1,upd_true h2⟩⟩
 ·have hkj:k≠jf:=fun e=>hA (e ▸ hk)
  rw [zaa v x hkj];rw [zaa e true hkj] at hk2;exact h.gv (ha' ▸ a) k hk hk2
 ·rw [zaa (j:=jf) (k:=k) e true (fun q=>hA (q ▸ hk))];exact h.d (ha' ▸ a) k hk
 ·rw [zaa v x (fun e=>hn.1 e.symm)];exact h.m (ha' ▸ a) (hs' ▸ b)
 ·obtain ⟨h1,h2⟩:=h.s (hs' ▸ a);exact ⟨by rw [ha'];exact h1,h2⟩
theorem JA.app (h:JA V D w9 A ja jf js gp PA PS e v W) (he:e ja=false) (hA:ja∉A) (hn:ja≠jf∧ja≠js) (hd:∀j∈A,e j=true) (hx:PA x W'):JA V D w9 A ja jf js gp PA PS (upd e ja true) (upd v ja x) W':=by
 have hs':upd e ja true js=e js:=zaa e true (fun e=>hn.2 e.symm)
 have hs:e js=false:=by
  cases hs:e js with
  | false=>rfl
  | true=>have:=(h.s hs).1;rw [he] at this;cases this
 refine ⟨fun a=>?_,fun a=>?_,fun _ k hk=>?_,fun _ _=>by rw [zaX];exact hx,fun a=>?_,fun a=>?_,fun k hk hk2 d hd'=>by
  rw [zaa (j:=ja) (k:=k) e true (fun q=>hA (q ▸ hk))] at hk2;obtain ⟨h1,h2⟩:=h.c k hk hk2 d hd';exact ⟨h1,upd_true h2⟩⟩
 ·rw [zaX] at a;cases a
 ·rw [zaX] at a;cases a
 ·rw [zaa (j:=ja) (k:=k) e true (fun q=>hA (q ▸ hk))];exact hd k hk
 ·rw [hs',hs] at a;cases a
 ·rw [zaa v x (fun e=>hn.1 e.symm)];exact h.f (by rwa [zaa e true (fun e=>hn.1 e.symm)] at a)
theorem JA.store (h:JA V D w9 A ja jf js gp PA PS e v W) (hA:js∉A) (hn:js≠ja∧js≠jf) (ha:e ja=true) (hx:PS W'):JA V D w9 A ja jf js gp PA PS (upd e js true) (upd v js x) W':=by
 have ha':upd e js true ja=e ja:=zaa e true (fun e=>hn.1 e.symm)
 refine ⟨fun a=>?_,fun a=>?_,fun _ k hk=>?_,fun _ b=>?_,fun _=>⟨by rw [ha'];exact ha,hx⟩,fun a=>?_,fun k hk hk2 d hd=>by
  rw [zaa (j:=js) (k:=k) e true (fun q=>hA (q ▸ hk))] at hk2;obtain ⟨h1,h2⟩:=h.c k hk hk2 d hd;exact ⟨h1,upd_true h2⟩⟩
 ·rw [ha',ha] at a;cases a
 ·rw [ha',ha] at a;cases a
 ·rw [zaa (j:=js) (k:=k) e true (fun q=>hA (q ▸ hk))];exact h.d ha k hk
 ·rw [zaX] at b;cases b
 ·rw [zaa v x (fun e=>hn.2 e.symm)];exact h.f (by rwa [zaa e true (fun e=>hn.2 e.symm)] at a)
end
def drawV (l:List Int) (k:Nat) (n:Int):Int:=if h:k<l.length then l[k] % n else 0
def drawK (l:List Int) (k:Nat):Nat:=if k<l.length then k+1 else k
theorem draw_calls {ok:Nat→Prop} {v:Value} {l:List Int} (gd k:Nat) (n:Int) (w:World) (hb:Blk w gd 108 #[v,.int .i64 k]) (h:zf w ok v l) (hg:¬ ok gd) (hl:l.length≤9223372036854775807) (hk:k≤l.length) (hn:0<n) (hn2:n≤1000000):
  Calls Tryz.prog 68 #[.pointer (some ⟨gd,0,none⟩),.int .i64 n] w fun e w'=>e=.returned (.int .i64 (drawV l k n))∧Blk w' gd 108 #[v,.int .i64 (drawK l k)]∧w.grownBy w' (some gd):=by
 obtain ⟨A,c,rfl,hc,hr⟩:=h;have hc0:=hb.cell (k:=0) rfl;have hc1:=hb.cell (k:=1) rfl;have hx:=Ext.refl w;by_cases hlt:k<l.length
 ·obtain ⟨b,off,rfl,hob,hcell⟩:=zt hr hlt hlt;have hbg:b≠gd:=fun e=>hg (e ▸ hob)
  have hv:drawV l k n=l[k] % n:=by unfold drawV;rw [dif_pos hlt]
  have hkk:drawK l k=k+1:=by unfold drawK;rw [if_pos hlt]
  rw [hv,hkk];clear hv hkk hr;obtain ⟨x,hxx⟩:∃x,x=l[k]:=⟨_,rfl⟩;rw [←hxx] at hcell⊢;clear hxx;have hf:=hb.frozen 1;have HB:=zh hb;clear hb;have hd:decide ((l.length:Int)≤(k:Int))=false:=decide_eq_false (by omega)
  go_enter Tryz.func68,Tryz.ntmps68
  go_wp2_with fail
  go_quiet (fail)
  generalize hw1:w.drewN nq=w1;have hd1:zG w w1:=⟨nq,hw1.symm⟩;have hE1:Ext w w1:=hd1.below _;have hh:w1.heap=w.heap:=by rw [←hw1];rfl
  clear hw1 hc0 hc1 hf;have hB1:Blk w1 gd 108 #[.slice (some ⟨b,off,none⟩) l.length c,.int .i64 k]:=HB.out.ext hE1;have hc0:=hB1.cell (k:=0) rfl;have hc1:=hB1.cell (k:=1) rfl;have hf:=hB1.frozen 1;have hcell1:=hE1.cell hcell;have hB2:Hid (Blk (w1.setCell ⟨gd,1,none⟩ (.int .i64 ((k:Int)+1))) gd 108 #[.slice (some ⟨b,off,none⟩) l.length c,.int .i64 ((k:Int)+1)]):=hB1.set (k:=1) _;have hcell2:(w1.setCell ⟨gd,1,none⟩ (.int .i64 ((k:Int)+1))).cell? ⟨b,off+k,none⟩=some (.int .i64 x):=(World.cell?_of_block (w:=w1) (Below.heap_setCell w1 _ _ b hbg)).trans hcell1;have HG:Hid (w.grownBy (w1.setCell ⟨gd,1,none⟩ (.int .i64 ((k:Int)+1))) (some gd)):=⟨hE1.os,hE1.tape,hE1.output,by simp [hh],fun i hi hne=>by rw [Below.heap_setCell w1 _ _ i (fun e=>hne (by rw [e])),hh]⟩;have hcb0:=hB2.out.cell (k:=0) rfl;have hcb1:=hB2.out.cell (k:=1) rfl;clear hB1 hcell;go_upto_region 4 with fail;generalize w1.setCell ⟨gd,1,none⟩ (.int .i64 ((k:Int)+1))=w2 at*;clear hc0 hc1 hf hcell1;have hx2:=Ext.refl w2;have hkl:(k:Int)<(l.length:Int):=by omega
  go_quiet ((go_at_call 32;refine (mod_calls x n _ hn hn2).mono ?_;rintro e w9 ⟨he9,rfl⟩;exact ⟨he9,⟨_,rfl⟩⟩))
  go_wp2;go_ret;refine ⟨rfl,hB2.out.ext ((Ext.refl w2).drewN _),?_⟩;have h:=HG.out;exact ⟨h.os,h.tape,h.output,h.size,h.block⟩
 ·have hv:drawV l k n=0:=by unfold drawV;rw [dif_neg hlt]
  have hkk:drawK l k=k:=by unfold drawK;rw [if_neg hlt]
  rw [hv,hkk];clear hv hkk hr;have HB:=zh hb;clear hb;have hd:decide ((l.length:Int)≤(k:Int))=true:=decide_eq_true (by omega)
  go_enter Tryz.func68,Tryz.ntmps68
  go_wp2_with fail
  go_quiet (fail)
  go_wp2;go_ret;exact ⟨rfl,HB.out,⟨rfl,rfl,rfl,Nat.le_refl _,fun _ _ _=>rfl⟩⟩
end Go.Proofs.YthbjngbhbbkkgaaGreat
