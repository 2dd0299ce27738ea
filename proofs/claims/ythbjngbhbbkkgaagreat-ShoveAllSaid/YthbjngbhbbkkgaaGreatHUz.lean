/- RtPo RtKb -/
import Derived.Test.YthbjngbhbbkkgaaGreatHUy
import Derived.Scope
import Derived.LoopIn
set_option linter.unusedVariables false
set_option linter.unusedSimpArgs false
set_option maxRecDepth 100000
set_option maxHeartbeats 16000000
namespace Go.Proofs.YthbjngbhbbkkgaaGreat
open Go.RowKit
attribute [local go_sem ↓] Go.wp_at_zero Go.wp_at_succ
attribute [local go_sem] Oper.semAt_some
structure RB (W:World) (g:Nat) (a b c0 c1 c2 d:Value):Prop where
 p:Blk W (g+3) 22 #[a]
 m:Blk W (g+4) 23 #[b]
 y:Blk W (g+5) 37 #[c0,c1,c2]
 e:Blk W (g+6) 38 #[d]
theorem RB.ext {W W':World} {g:Nat} {a b c0 c1 c2 d:Value} (h:RB W g a b c0 c1 c2 d) (hE:Ext W W'):RB W' g a b c0 c1 c2 d:=⟨h.p.ext hE,h.m.ext hE,h.y.ext hE,h.e.ext hE⟩
theorem zc5 {P:World→Prop} {W:World} {g:Nat} {a b c0 c1 c2 d a' b' c0' c1' c2' d':Value} (hR:RB W g a b c0 c1 c2 d) (h:∀WZ,RB WZ g a' b' c0' c1' c2' d'→Chg (fun k=>g+3≤k∧k≤g+6) W WZ→P WZ):
  P ((((((W.setCell ⟨g+3,0,none⟩ a').setCell ⟨g+4,0,none⟩ b').setCell ⟨g+5,0,none⟩ c0').setCell ⟨g+5,1,none⟩ c1').setCell ⟨g+5,2,none⟩ c2').setCell ⟨g+6,0,none⟩ d'):=by
 have q1:=hR.p.set (k:=0) a';have q2:=(hR.m.setOther (a:=⟨g+3,0,none⟩) (by show g+4≠g+3;omega) a').set (k:=0) b';have q3:=((((hR.y.setOther (a:=⟨g+3,0,none⟩) (by show g+5≠g+3;omega) a').setOther (a:=⟨g+4,0,none⟩) (by show g+5≠g+4;omega) b').set (k:=0) c0').set (k:=1) c1').set (k:=2) c2';have q4:=(((((hR.e.setOther (a:=⟨g+3,0,none⟩) (by show g+6≠g+3;omega) a').setOther (a:=⟨g+4,0,none⟩) (by show g+6≠g+4;omega) b').setOther (a:=⟨g+5,0,none⟩) (by show g+6≠g+5;omega) c0').setOther (a:=⟨g+5,1,none⟩) (by show g+6≠g+5;omega) c1').setOther (a:=⟨g+5,2,none⟩) (by show g+6≠g+5;omega) c2').set (k:=0) d';refine h _ ⟨?_,?_,?_,q4⟩ ((((((Chg.refl _ W).set (g+3) 0 a' (by omega)).set (g+4) 0 b' (by omega)).set (g+5) 0 c0' (by omega)).set (g+5) 1 c1' (by omega)).set (g+5) 2 c2' (by omega) |>.set (g+6) 0 d' (by omega))
 ·exact ((((q1.setOther (a:=⟨g+4,0,none⟩) (by show g+3≠g+4;omega) b').setOther (a:=⟨g+5,0,none⟩) (by show g+3≠g+5;omega) c0').setOther (a:=⟨g+5,1,none⟩) (by show g+3≠g+5;omega) c1').setOther (a:=⟨g+5,2,none⟩) (by show g+3≠g+5;omega) c2').setOther (a:=⟨g+6,0,none⟩) (by show g+3≠g+6;omega) d'
 ·exact (((q2.setOther (a:=⟨g+5,0,none⟩) (by show g+4≠g+5;omega) c0').setOther (a:=⟨g+5,1,none⟩) (by show g+4≠g+5;omega) c1').setOther (a:=⟨g+5,2,none⟩) (by show g+4≠g+5;omega) c2').setOther (a:=⟨g+6,0,none⟩) (by show g+4≠g+6;omega) d'
 ·exact q3.setOther (a:=⟨g+6,0,none⟩) (by show g+5≠g+6;omega) d'
theorem laid_lens {m:MZ} {ps:List (List Int)} (h:zau m ps=true):∀x∈ps,x.length≤300:=by
 obtain ⟨h0,h1,h2,h3⟩:=zC.1 h;intro x hx;obtain ⟨k,hk,rfl⟩:=List.getElem_of_mem hx;have hd:ps.getD k []=ps[k]:=by rw [List.getD_eq_getElem?_getD,List.getElem?_eq_getElem hk];rfl
 by_cases hn:ps[k]=[]
 ·rw [hn];simp
 ·have hp:=h2 k hk (by rw [hd];exact hn);rw [hd] at hp
  have hn2:(ps[k]).Nodup:=by
   have:=h3.1 k
   rwa [hd] at this
  have h4:=zaK hn2 m.n hp.rg;have h5:=(zx.of h0).dim.n1;unfold MZ.n at h4;omega
def zcn (ps:List (List Int)) (k:Nat):List Int:=((List.range k).filter fun k=>decide (ps.getD k []≠[])).map Int.ofNat
theorem hasTo_t {ps:List (List Int)} {k:Nat} (h:ps.getD k []≠[]):zcn ps (k+1)=zcn ps k++[(k:Int)]:=by
 unfold zcn;rw [List.range_succ,List.filter_append,List.map_append,List.filter_cons_of_pos (by simpa using h)]
 all_goals rfl
theorem hasTo_f {ps:List (List Int)} {k:Nat} (h:ps.getD k []=[]):zcn ps (k+1)=zcn ps k:=by
 unfold zcn;rw [List.range_succ,List.filter_append,List.map_append,List.filter_cons_of_neg (by rw [h];simp)];simp
theorem hasTo_len (ps:List (List Int)) (k:Nat):(zcn ps k).length≤k:=by
 unfold zcn;rw [List.length_map];exact Nat.le_trans (List.length_filter_le _ _) (by simp)
theorem zY.apartO {w:World} {ok:Nat→Prop} {size n b:Nat} {A:Option Addr} {xs:List Value} (h:zY w ok size A n xs) (hs:0<size) (ho:∀off,w.cell? ⟨b,off,none⟩=none):zY w (fun k=>ok k∧k≠b) size A n xs:=by
 refine ⟨h.1,fun hn=>?_⟩;obtain ⟨k,off,e,hk,hc⟩:=h.2 hn;have h0:0<xs.length:=by rw [h.1];exact Nat.mul_pos hn hs
 refine ⟨k,off,e,⟨hk,?_⟩,hc⟩;rintro rfl;have h1:=hc 0 _ (List.getElem?_eq_getElem h0);rw [ho] at h1;cases h1
theorem zf.apartO {w:World} {ok:Nat→Prop} {v:Value} {l:List Int} {b:Nat} (h:zf w ok v l) (ho:∀off,w.cell? ⟨b,off,none⟩=none):zf w (fun k=>ok k∧k≠b) v l:=by
 obtain ⟨A,c,e,hc,hr⟩:=h;exact ⟨A,c,e,hc,hr.apartO (by decide) ho⟩
theorem zo.apartO {w:World} {ok:Nat→Prop} {v:Value} {l:List (List Int)} {b:Nat} (h:zo w ok v l) (ho:∀off,w.cell? ⟨b,off,none⟩=none):zo w (fun k=>ok k∧k≠b) v l:=by
 obtain ⟨vs,⟨A,c,e,hc,hr⟩,he⟩:=h;exact ⟨vs,⟨A,c,e,hc,hr.apartO (by decide) ho⟩,fun i x hx=>by obtain ⟨u,hu,hi⟩:=he i x hx;exact ⟨u,hu,hi.apartO ho⟩⟩
theorem PrV.apartO {w:World} {ok:Nat→Prop} {v:Value} {p:PT} {b:Nat} (h:PrV w ok v p) (ho:∀off,w.cell? ⟨b,off,none⟩=none):PrV w (fun k=>ok k∧k≠b) v p:=by
 induction h with
 | mk h1 h2 _ ih=>
  obtain ⟨A,c,e,hc,hr⟩:=h2;exact .mk (h1.apartO ho) ⟨A,c,e,hc,hr.apartO (by decide) ho⟩ ih
structure AddX (w:World) (g L:Nat) (m:MZ) (ps:List (List Int)) (t:Nat) (W:World):Prop where
 ext:Ext w W
 res:∃vo vs o s,zaw m ps t=⟨o,s,.zero,0⟩∧RB W g vo vs (.int .i64 0) (.slice none 0 0) (.slice none 0 0) (.int .i64 0)∧zo W (fun b=>w.heap.size≤b∧b≠L) vo o∧zf W (fun b=>w.heap.size≤b∧b≠L) vs s
theorem AddX.grown {w A B:World} {g L:Nat} {m:MZ} {ps:List (List Int)} {t:Nat} (h:AddX w g L m ps t A) (hg:A.grownBy B (some L)) (hL:w.heap.size≤L) (hgL:g+6<L):AddX w g L m ps t B:=by
 obtain ⟨h1,vo,vs,o,s,h2,h3,h4,h5⟩:=h;have hS:∀b,b≠L→b<A.heap.size→B.heap[b]?=A.heap[b]?:=fun b hb hlt=>hg.block b hlt (fun e=>hb (Option.some.inj e))
 refine ⟨((Chg.of_ext (X:=fun k=>k=L) h1).grown hg (fun k hk _=>(Option.some.inj hk).symm)).below (Nat.le_refl _) (fun b hb=>by omega),vo,vs,o,s,h2,⟨?_,?_,?_,?_⟩,h4.keep fun b hb hlt=>hS b hb.2 hlt,h5.keep fun b hb hlt=>hS b hb.2 hlt⟩
 ·exact (hS _ (by omega) (zb h3.p)).trans h3.p
 ·exact (hS _ (by omega) (zb h3.m)).trans h3.m
 ·exact (hS _ (by omega) (zb h3.y)).trans h3.y
 ·exact (hS _ (by omega) (zb h3.e)).trans h3.e
theorem zdm {F:Fence} {n:Nat} {ok:Nat→Prop} {ops:Array Oper} {rest:List Oper} {o:Oper} {a:Act} {Q:Exit→Act→World→Prop} (hgd:o.guard=none) (W:World) (s x:Operand) {t e:TypeId} {z:Value} {sz bytes:Nat} (I:ElemI t e z sz bytes)
  (ho:o.op=.call { callee:=.builtin .append,args:=#[s,x],argTypes:=#[t,t] }) (base k m:Nat) (l l2:List Value) (v u:Value) (hs:a.eval s=v) (hx:a.eval x=u)
  (hown:W.ownsRow base e sz v k l) (hu:Row W ok sz u m l2) (h1:∀u∈l2,u.oneCell'=true) (hbase:base≤W.heap.size) (h63:k+m≤maxLen) (hl:(k+m)*bytes≤140737488355328)
  (h:∀v' w',w'.ownsRow base e sz v' (k+m) (l++l2)→W.grownBy w' v.ownBlock→(v'.ownBlock=v.ownBlock∨v'.ownBlock=some W.heap.size)→wpListIn F n Tryz.prog ops Q rest (a.put o.dst v') w'):wpListIn F n Tryz.prog ops Q (o :: rest) a W:=by
 refine wpListIn_plain hgd fun K hK=>?_
 obtain ⟨v',w',hr,h2,h3,h5⟩:=zcU (ok:=ok) W base t o.type e z sz bytes I v k l hown u m l2 hu h1 h63 hl hbase;unfold Oper.wpIn;refine ⟨?_,?_⟩
 ·simp [Oper.about,ho,resolve,Target.leads,Sem.run_pure]
 ·rw [Oper.semAt_plain F _ _ (by rw [ho];intro c hc';cases hc')];simp [execOp,ho,resolve,invoke,builtin,hs,hx,hr,Result.andThen];exact hK _ _ (h v' w' h2 h3 h5)
theorem CP.intssLo {w wr:World} {g:Nat} {ps:List (List Int)} (h:CP w wr g ps) (c:Nat) (hc:ps.length≤c):zo wr (fun b=>w.heap.size≤b) (.slice (some ⟨g,0,none⟩) ps.length c) ps:=by
 obtain ⟨vs,hb,hl,he⟩:=h.row;refine ⟨vs,⟨_,c,rfl,hc,by omega,fun _=>⟨g,0,rfl,h.lo,fun j u hu=>?_⟩⟩,fun i x hx=>by obtain ⟨u,hu,hi⟩:=he i x hx;exact ⟨u,hu,hi.weaken fun _ h=>h.2⟩⟩;rw [Nat.zero_add];exact hb.cell (by simpa using hu)
theorem clearP_take {ps:List (List Int)} {s:List Int} {j:Nat} (hj:j<s.length):zba ps (s.take (j+1))=(zba ps (s.take j)).set (s[j]).toNat []:=by
 unfold zba;rw [List.take_succ_eq_append_getElem hj,List.foldl_append]
 all_goals rfl
theorem sub_set {ps:List (List Int)} {k:Nat} (hk:k<(zav (zaV ps)).length):((zav (zaV ps)).getD k []).length≤ps.length∧∀x∈(zav (zaV ps)).getD k [],∃i:Nat,x=(i:Int)∧i<ps.length:=by
 have hm:(zav (zaV ps)).getD k []∈zav (zaV ps):=by rw [List.getD_eq_getElem?_getD,List.getElem?_eq_getElem hk];exact List.getElem_mem hk
 have hs:=subsP_sub hm;refine ⟨Nat.le_trans hs.length_le (hasTo_len ps ps.length),fun x hx=>?_⟩;obtain ⟨i,h1,h2,-⟩:=mem_laidL.1 (hs.subset hx);exact ⟨i,h2,h1⟩
theorem path_len {m:MZ} {t:Int} {o:List (List Int)} {p:List Int} (h:za9 m t o=some p):p.length≤300:=by
 obtain ⟨h0,-,h1⟩:=pathP_ok h;have h4:=zaK h1.nd m.n h1.rg;have h5:=(zx.of h0).dim.n1;unfold MZ.n at h4;omega
theorem set_lens {o:List (List Int)} (h:∀x∈o,x.length≤300) (k:Nat) {p:List Int} (hp:p.length≤300):∀x∈o.set k p,x.length≤300:=fun x hx=>by
 rcases List.mem_or_eq_of_mem_set hx with h1 | h1
 ·exact h x h1
 ·rw [h1];exact hp
theorem clear_lens:∀(s:List Int) {ps:List (List Int)},(∀x∈ps,x.length≤300)→∀x∈zba ps s,x.length≤300
 | [],ps,h=>h
 | k :: s,ps,h=>by
  have:zba ps (k :: s)=zba (ps.set k.toNat []) s:=rfl;rw [this];exact clear_lens s (set_lens h _ (by simp))
theorem addP_found {m:MZ} {ps:List (List Int)} {t:Nat} {k:Nat} {o:List (List Int)} (hL:zau m ps=true) (hk:zar m t=true) (h2:ps.getD t []=[]) (hlt:k<(zav (zaV ps)).length) (hn:∀j,j<k→zbW m ps t ((zav (zaV ps)).getD j [])=none)
  (ho:zbW m ps t ((zav (zaV ps)).getD k [])=some o):zaw m ps t=⟨o,(zav (zaV ps)).getD k [],.zero,0⟩:=by
 unfold zaw;rw [hL,hk,Int.toNat_natCast,decide_eq_true h2];simp only [Bool.and_self,if_true]
 have:(zav (zaV ps)).findSome? (fun s=>(zbW m ps t s).map fun o=>(o,s))=some (o,(zav (zaV ps)).getD k []):=by
  obtain ⟨L,hLL⟩:∃L,L=zav (zaV ps):=⟨_,rfl⟩;rw [←hLL] at hlt hn ho⊢;clear hLL
  induction L generalizing k with
  | nil=>simp at hlt
  | cons a L ih=>
   cases k with
   | zero=>
    have ho':zbW m ps t a=some o:=by simpa using ho
    rw [List.findSome?_cons,ho'];simp
   | succ k=>
    have h0:zbW m ps t a=none:=by simpa using hn 0 (by omega)
    rw [List.findSome?_cons,h0];simp only [Option.map_none];have:=ih (k:=k) (by simpa using ho) (fun j hj=>by simpa using hn (j+1) (by omega)) (by simpa using hlt);simpa using this
 rw [this]
theorem addP_search {m:MZ} {ps:List (List Int)} {t:Nat} (hL:zau m ps=true) (hk:zar m t=true) (h2:ps.getD t []=[]) (hn:∀j,j<(zav (zaV ps)).length→zbW m ps t ((zav (zaV ps)).getD j [])=none):zaw m ps t=zac m ps t:=by
 unfold zaw;rw [hL,hk,Int.toNat_natCast,decide_eq_true h2];simp only [Bool.and_self,if_true]
 have:(zav (zaV ps)).findSome? (fun s=>(zbW m ps t s).map fun o=>(o,s))=none:=by
  rw [List.findSome?_eq_none_iff];intro s hs;obtain ⟨j,hj,rfl⟩:=List.getElem_of_mem hs;have:=hn j hj;rw [List.getD_eq_getElem?_getD,List.getElem?_eq_getElem hj,Option.getD_some] at this;rw [this];rfl
 rw [this]
theorem add_ext {w W WZ:World} {g:Nat} (hg:g=w.heap.size) (hE:Ext w W) (hc:Chg (fun k=>g+3≤k∧k≤g+6) W WZ):Ext w WZ:=
 ((Chg.of_ext (X:=fun k=>g≤k) hE).trans hc (fun k _ h=>by omega)).below (Nat.le_refl _) (fun b hb=>by rw [hg] at hb;exact hb)
theorem zcK {okm okf:Nat→Prop} {v vf:Value} {m:MZ} {ps:List (List Int)} (t:Int) (w:World) (hm:zr w okm v m) (hl:Lens m) (hf:zo w okf vf ps) (hpl:ps.length≤20000000000000) (hfx:∀x∈ps,x.length≤20000000000000):
  Calls Tryz.prog 10 #[v,vf,.int .i64 t] w (AddPost w (zaw m ps t)):=by
 have HM:=zh hm;have HL:=zh hl;have HF:=zh hf;obtain ⟨Af,cf,Au,cu,At,ct,rfl,-,-,-⟩:=hm.parts;obtain ⟨vs,⟨Ap,cp,rfl,hcp,-⟩,-⟩:=hf;clear hm hl;refine (callsIn_wide (n:=6)).1 ?_;refine callsIn_of_wp_marks Tryz.func10 rfl trivial ?_ rfl;simp only [Tryz.ntmps10,List.size_toArray,List.length_cons,List.length_nil,Nat.reduceAdd,Nat.reduceSub,Array.replicate_succ,Array.replicate_zero,List.push_toArray,List.append_toArray,List.nil_append,List.cons_append];refine wpIn_wide.2 ?_;go_upto_region 1 with fail;refine wp_scope_straight ?_;obtain ⟨W7,hW7⟩:∃W7,W7=(((((((w.alloc (.cells #[.int .i64 m.w,.int .i64 m.h,.int .i64 m.l,.slice Af m.free.length cf,.slice Au m.up.length cu,.slice At m.tasks.length ct] 32)).alloc (.cells #[.slice Ap ps.length cp] 22)).alloc (.cells #[.int .i64 t] 3)).alloc (.cells #[.slice none 0 0] 22)).alloc (.cells #[.slice none 0 0] 23)).alloc (.cells #[.int .i64 0,.slice none 0 0,.slice none 0 0] 37)).alloc (.cells #[.int .i64 0] 38)):=⟨_,rfl⟩;rw [←hW7];have hE7:Ext w W7:=by rw [hW7];exact zcD [_,_,_,_,_,_,_] w
 have hB7:∀(i:Nat) o,[Obj.cells #[.int .i64 m.w,.int .i64 m.h,.int .i64 m.l,.slice Af m.free.length cf,.slice Au m.up.length cu,.slice At m.tasks.length ct] 32,Obj.cells #[.slice Ap ps.length cp] 22,Obj.cells #[.int .i64 t] 3,Obj.cells #[.slice none 0 0] 22,Obj.cells #[.slice none 0 0] 23,Obj.cells #[.int .i64 0,.slice none 0 0,.slice none 0 0] 37,Obj.cells #[.int .i64 0] 38][i]?=some o→W7.heap[w.heap.size+i]?=some o:=fun i o h=>by rw [hW7];exact allocs_at _ w i o h
 clear hW7;obtain ⟨g,hg⟩:∃g,g=w.heap.size:=⟨_,rfl⟩;rw [←hg] at hB7⊢;have HG:Hid (g=w.heap.size):=hg;have HW7:=zh hE7;have bm:Blk W7 g 32 _:=hB7 0 _ rfl;have r0:=Ext.rule (bm.cell (k:=0) rfl);have r1:=Ext.rule (bm.cell (k:=1) rfl);have r2:=Ext.rule (bm.cell (k:=2) rfl);have r3:=Ext.rule (bm.cell (k:=3) rfl);have r4:=Ext.rule (bm.cell (k:=4) rfl);have r5:=Ext.rule (bm.cell (k:=5) rfl);have rp:=Ext.rule ((show Blk W7 (g+1) 22 _ from hB7 1 _ rfl).cell (k:=0) rfl);have rt:=Ext.rule ((show Blk W7 (g+2) 3 _ from hB7 2 _ rfl).cell (k:=0) rfl);have HRB:Hid (RB W7 g (.slice none 0 0) (.slice none 0 0) (.int .i64 0) (.slice none 0 0) (.slice none 0 0) (.int .i64 0)):=⟨hB7 3 _ rfl,hB7 4 _ rfl,hB7 5 _ rfl,hB7 6 _ rfl⟩;clear hg hE7 hB7 bm;simp only [Nat.add_assoc,Nat.reduceAdd];have hx:Ext W7 W7:=Ext.refl W7
 go_wp2_with fail
 refine (zcN W7 (HM.out.below HW7.out) HL.out (HF.out.below HW7.out) hpl hfx).mono ?_;rintro e w8 ⟨rfl,hE8⟩;clear hx;have hx:Ext W7 w8:=hE8;clear hE8
 cases hLB:zau m ps with
 | false=>
  have HRES:Hid (zaw m ps t=⟨[],[],.zero,1⟩):=by (show _=_);unfold zaw;rw [hLB];rfl
  clear hLB;have HRW:=zh (HRB.out.ext hx);have s3:=HRW.out.p.cell (k:=0) rfl;have s4:=HRW.out.m.cell (k:=0) rfl;have s50:=HRW.out.y.cell (k:=0) rfl;have s51:=HRW.out.y.cell (k:=1) rfl;have s52:=HRW.out.y.cell (k:=2) rfl;have s6:=HRW.out.e.cell (k:=0) rfl;have f3:=HRW.out.p.frozen 0;have f4:=HRW.out.m.frozen 0;have f5:=fun j=>HRW.out.y.frozen j
  have f6:=HRW.out.e.frozen 0
  go_wp2_with fail
  refine zc5 (P:=fun W=>Exit.noGoto (bodyPostM Fence.wide 6 Tryz.prog Tryz.f10 _) Exit.ret _ W) (g:=g) HRW.out ?_;intro WZ hz hc;have y3:=hz.p.cell (k:=0) rfl;have y4:=hz.m.cell (k:=0) rfl;have y50:=hz.y.cell (k:=0) rfl;have y51:=hz.y.cell (k:=1) rfl;have y52:=hz.y.cell (k:=2) rfl;have y6:=hz.e.cell (k:=0) rfl;refine ⟨.tuple #[.slice none 0 0,.slice none 0 0,.agg #[.int .i64 0,.slice none 0 0,.slice none 0 0],.int .i64 1],by simp [results,Tryz.results10,go_sem,y3,y4,y50,y51,y52,y6],?_⟩;rw [HRES.out];exact ⟨_,_,_,rfl,add_ext HG.out (HW7.out.trans hx) hc,zbK _ _,zf.nil _ _,PrV.zero _ _⟩
 | true=>
  go_wp2_with fail
  refine (zda t w8 (HM.out.below (HW7.out.trans hx)) HL.out).mono ?_;rintro e w9 ⟨rfl,hE9⟩;have hx:Ext W7 w9:=hx.trans hE9;clear hE9
  cases hKB:zar m t with
  | false=>
   have HRES:Hid (zaw m ps t=⟨[],[],.zero,1⟩):=by (show _=_);unfold zaw;rw [hLB,hKB];rfl
   clear hLB hKB;have HRW:=zh (HRB.out.ext hx);have s3:=HRW.out.p.cell (k:=0) rfl;have s4:=HRW.out.m.cell (k:=0) rfl;have s50:=HRW.out.y.cell (k:=0) rfl;have s51:=HRW.out.y.cell (k:=1) rfl;have s52:=HRW.out.y.cell (k:=2) rfl;have s6:=HRW.out.e.cell (k:=0) rfl;have f3:=HRW.out.p.frozen 0;have f4:=HRW.out.m.frozen 0;have f5:=fun j=>HRW.out.y.frozen j
   have f6:=HRW.out.e.frozen 0
   go_wp2_with fail
   refine zc5 (P:=fun W=>Exit.noGoto (bodyPostM Fence.wide 6 Tryz.prog Tryz.f10 _) Exit.ret _ W) (g:=g) HRW.out ?_;intro WZ hz hc;have y3:=hz.p.cell (k:=0) rfl;have y4:=hz.m.cell (k:=0) rfl;have y50:=hz.y.cell (k:=0) rfl;have y51:=hz.y.cell (k:=1) rfl;have y52:=hz.y.cell (k:=2) rfl;have y6:=hz.e.cell (k:=0) rfl;refine ⟨.tuple #[.slice none 0 0,.slice none 0 0,.agg #[.int .i64 0,.slice none 0 0,.slice none 0 0],.int .i64 1],by simp [results,Tryz.results10,go_sem,y3,y4,y50,y51,y52,y6],?_⟩;rw [HRES.out];exact ⟨_,_,_,rfl,add_ext HG.out (HW7.out.trans hx) hc,zbK _ _,zf.nil _ _,PrV.zero _ _⟩
  | true=>
   obtain ⟨hc0,hplen,-⟩:=zC.1 hLB;obtain ⟨-,ht0,ht1⟩:=zaf.1 hKB;obtain ⟨tn,rfl⟩:∃tn:Nat,t=tn:=⟨t.toNat,by omega⟩;have G:=zh (zx.of hc0);have htk:=G.out.tk;have hp6:ps.length≤6:=by omega
   have htn:tn<ps.length:=by omega
   obtain ⟨vs,⟨A',c',e,-,hrp⟩,hep⟩:=HF.out;injection e with e1 e2 e3;subst e1 e3;obtain ⟨bp,offp,up,rfl,-,hcp0,hup⟩:=zP hrp hep htn htn;have hpd:ps.getD tn []=ps[tn]:=by rw [List.getD_eq_getElem?_getD,List.getElem?_eq_getElem htn];rfl
   have HRP:=zh hrp;have HEP:=zh hep;obtain ⟨q,hq⟩:∃q,q=ps[tn]:=⟨_,rfl⟩;rw [←hq] at hup hpd;have HPD:=zh hpd;obtain ⟨Aq,cq,rfl,-,-⟩:=hup;have rq:=Ext.rule (HW7.out.cell hcp0);have htI0:(0:Int)≤(tn:Int):=by omega
   have htI:(tn:Int)<(ps.length:Int):=by omega
   have HLB:=zh hLB;have HKB:=zh hKB;have hfx0:=hfx;clear hLB hKB hc0 hplen ht0 ht1 htk hrp hep hcp0 hpd hq;by_cases hqn:q=[]
   ·have hql:(0:Int)<(q.length:Int)↔False:=by rw [hqn];simp
    have hql2:q.length=0:=by rw [hqn];rfl
    have HQN:Hid (ps.getD tn []=[]):=by (show _=_);rw [HPD.out,hqn]
    have HFX6:Hid (∀x∈ps,x.length≤300):=laid_lens HLB.out;clear hql hqn HPD
    go_wp2_with fail
    have HX9:=zh hx;have HM0:=zh (Mk.nil w9);have HTN:Hid (tn<ps.length):=htn;clear hql2 hx htn htI htI0;go_loopw [10,42] (fun v i wr=>∃k:Nat,k≤ps.length∧i=.int .i64 (k:Nat)∧Hid (Mk w9 wr v (zcn ps k))) (fun _ i _=>ps.length - (intOf i).toNat)
    case atStart=>exact ⟨0,Nat.zero_le _,rfl,HM0.out⟩
    clear HM0
    case round=>
     obtain ⟨k,hk,rfl,hM⟩:=hrel;obtain ⟨wk,rfl⟩:∃wk:World,wk=wr:=⟨_,rfl⟩;have hx:Ext W7 wk:=HX9.out.trans hM.out.ext;by_cases hlt:k<ps.length
     ·obtain ⟨bk,offk,uk,ebk,-,hck0,huk⟩:=zP HRP.out HEP.out hlt hlt;injection ebk with ebk;injection ebk with eb1 eb2;subst eb1 eb2;have hkd:ps.getD k []=ps[k]:=by rw [List.getD_eq_getElem?_getD,List.getElem?_eq_getElem hlt];rfl
      obtain ⟨x,hxx⟩:∃x,x=ps[k]:=⟨_,rfl⟩;rw [←hxx] at huk hkd;have HKD:=zh hkd;obtain ⟨Ak,ck,rfl,-,-⟩:=huk;have rk:=Ext.rule (HW7.out.cell hck0);have hkI:(k:Int)<(ps.length:Int):=by omega
      have hkI0:(0:Int)≤(k:Int):=by omega
      clear hck0 hkd hxx;have hln:=hasTo_len ps k;by_cases hxn:x=[]
      ·have hxl2:x.length=0:=by rw [hxn];rfl
       have HS:Hid (zcn ps (k+1)=zcn ps k):=hasTo_f (by rw [HKD.out,hxn]);clear hxn
       go_wp2_with fail
       go_roundw
       case rel=>exact ⟨k+1,by omega,by go_num,by rw [HS.out];exact hM⟩
       case measure=>simp [intOf];omega
      ·have hxl:(0:Int)<(x.length:Int):=by
        have:x.length≠0:=fun h=>hxn (List.eq_nil_of_length_eq_zero h)
        omega
       have hxl2:0<x.length:=by omega
       have HS:Hid (zcn ps (k+1)=zcn ps k++[(k:Int)]):=hasTo_t (by rw [HKD.out];exact hxn);clear hxn;obtain ⟨l,hle⟩:∃l,l=zcn ps k:=⟨_,rfl⟩;rw [←hle] at hM hln HS;clear hle;have hx9:=hM.out.ext.size
       go_wp2_with (at_builtin;refine zan rfl _ _ rfl _ l k w9.heap.size wk.heap.size 1 _ rfl rfl (hM.out.own.alloc _) ?d1 ?d2 ?d3 ?_)
       (try case d1=>exact zm _ _ _ (by simp))
       (try case d2=>(first | (simp;done) | (simp;omega) | omega))
       (try case d3=>omega)
       intro v' wb hob hgb hbl;have hM':=zh ((hM.out.alloc _).app hob hgb);clear hob hgb hbl;go_wp2;go_roundw
       case rel=>exact ⟨k+1,by omega,by go_num,by rw [HS.out];exact hM'⟩
       case measure=>simp [intOf];omega
     ·obtain rfl:k=ps.length:=by omega
      have hLL:Hid (zcn ps ps.length=zaV ps):=rfl;have hll:=hasTo_len ps ps.length;have hI:=hM.out.ints;have HMI:Hid (zf wk (fun _=>True) u10 (zaV ps)):=hI.weaken fun _ _=>trivial
      have hsl:=subsets_calls wk HMI.out (by rw [←hLL.out];omega);clear hI
      go_wp2_with fail
      refine wp_label ?_
      go_wp2_with fail
      refine hsl.mono ?_;rintro e w0 ⟨gl,rfl,hE0,hgv⟩;have HGV:=zh hgv;have HX0:Hid (Ext W7 w0):=hx.trans hE0;clear hsl hgv hE0 hx hM HMI hll;have HGW:Hid (g+6<w0.heap.size):=zb (HRB.out.ext HX0.out).e
      go_wp2_with fail
      refine (wpIn_wide (n:=6)).1 ?_
      refine wpIn_loopX (gf:=72) (lb:=#[.pointer (some ⟨gl,0,none⟩)]) rfl (enters_of Tryz.func72 (by kernel_rfl) rfl) (HGV.out w0 (Ext.refl w0) _) (Ext.refl w0) (fun _=>rfl)
       (fun k W=>Ext w0 W∧∀j,j<k→zbW m ps tn ((zav (zaV ps)).getD j [])=none)
       (fun c W=>c=.ret∧AddX w g (w0.heap.size+1) m ps tn W)
       ?hI ?hIx ?hG ⟨Ext.refl w0,fun _ h=>absurd h (by omega)⟩ ?a1 ?assign ?body ?done ?stop
      case assign=>
       intro l x W K hK
       gi_wp2
       exact hK
      case hI=>
       rintro k A B ⟨h1,h2⟩ hAB;exact ⟨Below.trans h1 hAB,h2⟩
      case hIx=>
       rintro c A B ⟨rfl,h⟩ hAB;have h1:=(HW7.out.trans HX0.out).size;exact ⟨rfl,h.grown hAB (by omega) (by have:=HGW.out;omega)⟩
      case hG=>
       rintro k x A l h1 hl1 hl2 ⟨r,hr⟩ o;exact ((h1.apart hr).keep fun b hb hlt=>World.putObj_heap_other hb.2).weaken fun _ h=>h.1
      case body=>
       rintro l k x W hk ⟨hE0,hall⟩ hs hsz ⟨rl,hrl⟩;have hsA:=hs.apart hrl;obtain ⟨hsl,hsx⟩:=sub_set hk;obtain ⟨s,hse⟩:∃s,s=(zav (zaV ps)).getD k []:=⟨_,rfl⟩;rw [←hse] at hs hsA hsl hsx;have HSE:=zh hse;have HSX:=zh hsx;have HSA:=zh hsA;have HALL:=zh hall;have HKK:=zh hk;have HSZ:Hid (w0.heap.size+1<W.heap.size):=zb hrl;obtain ⟨As,cs,rfl,-,hrs⟩:=hs;have HRS:=zh hrs;have HE0:=zh hE0;have hx:Ext W7 W:=HX0.out.trans hE0;have HXW:=zh hx;have hcp:=copied_calls W (HF.out.below (HW7.out.trans hx)) (by omega) (fun x hx=>by have:=HFX6.out x hx;omega);clear hse hsA hsx hall hk hsz hrl hrs hE0
       gi_wp2_with fail
       refine ⟨trivial,?_⟩;refine (CallsIn.inRound l (callsIn_wide.2 hcp)).mono ?_;rintro e W1 ⟨go,rfl,hCP⟩;have HCP:=zh hCP;clear hcp hCP hx
       gi_wp2_with fail
       gi_loopw [62] (fun i wr=>∃j:Nat,j≤s.length∧i=.int .i64 j∧Hid (CP W wr go (zba ps (s.take j)))) (fun i _=>s.length - (intOf i).toNat)
       case atStart=>exact ⟨0,Nat.zero_le _,rfl,HCP.out⟩
       case round=>
        obtain ⟨j,hj,rfl,hC⟩:=hrel;obtain ⟨wj,rfl⟩:∃wj:World,wj=wr:=⟨_,rfl⟩;by_cases hlt:j<s.length
        ·obtain ⟨bs,offs,rfl,-,hcs0⟩:=zt HRS.out hlt hlt;obtain ⟨i,hi,hip⟩:=HSX.out _ (List.getElem_mem hlt);have hct:=clearP_take (ps:=ps) hlt;rw [hi] at hcs0;rw [hi,Int.toNat_natCast] at hct;have HCT:=zh hct;have hcs:wj.cell? ⟨bs,offs+j,none⟩=some (.int .i64 i):=hC.out.ext.cell hcs0;have hjI:(j:Int)<(s.length:Int):=by omega
         have hjI0:(0:Int)≤(j:Int):=by omega
         have hiI:(i:Int)<(ps.length:Int):=by omega
         have hiI0:(0:Int)≤(i:Int):=by omega
         obtain ⟨uo,hcuo,hfuo,-⟩:=hC.out.at_ (k:=i) (by rw [zbJ];exact hip)
         have HCN:Hid (CP W (wj.setCell ⟨go,i,none⟩ (.slice none 0 0)) go (zba ps (s.take (j+1)))):=by
          (show CP _ _ _ _)
          rw [HCT.out];exact hC.out.set i (zf.nil _ _)
         clear hct hi hcs0
         gi_wp2_with fail
         go_roundw
         case rel=>exact ⟨j+1,by omega,by go_num,HCN.out⟩
         case measure=>simp [intOf];omega
        ·obtain rfl:j=s.length:=by omega
         have HC2:Hid (CP W wj go (zba ps s)):=by have:=hC.out;rwa [List.take_length] at this
         have HCL:Hid (∀x∈zba ps s,x.length≤300):=clear_lens s HFX6.out;clear hC;have hxj:Ext W7 wj:=HXW.out.trans HC2.out.ext;have hsj:zf wj (fun _=>True) (.slice As s.length cs) s:=HSA.out.below HC2.out.ext |>.weaken fun _ _=>trivial
         have HSJ:=zh hsj;have hO:=ownOne wj wj.heap.size 3 (.int .i64 tn) (Nat.le_refl _);have HO:=zh hO;have HGO:Hid (go<wj.heap.size∧W.heap.size≤go):=⟨HC2.out.lt,HC2.out.lo⟩;clear hsj hO
         gi_wp2_with (gi_at_builtin;refine zdm (ok:=fun _=>True) rfl _ _ _ eInt rfl wj.heap.size 1 s.length [.int .i64 tn] (s.map (Value.int .i64)) _ _ rfl rfl HO.out (HSJ.out.below ((Ext.refl wj).alloc _)) (fun u hu=>by obtain ⟨z,-,rfl⟩:=List.mem_map.1 hu;rfl) (by simp) (by unfold maxLen;omega) (by omega) ?_)
         intro vt w2 ho hg hv;have hE2:Ext wj w2:=((Chg.of_ext (X:=fun k=>wj.heap.size≤k) ((Ext.refl wj).alloc _)).grown hg (fun k hk _=>by have h:some wj.heap.size=some k:=hk;injection h with h;omega)).below (Nat.le_refl _) (fun b hb=>hb);obtain ⟨T,hT⟩:∃T:List Int,T=(tn:Int) :: s:=⟨_,rfl⟩
         have hTI:zf w2 (fun b=>wj.heap.size≤b) vt T:=by
          have h:=Row.of_own ho;rw [hT];unfold zf;rw [List.length_cons,Nat.add_comm];exact h
         have HTI:=zh hTI
         have HTX:Hid (∀x∈T,∃i:Nat,x=(i:Int)∧i<ps.length):=fun x hx=>by
          rw [hT] at hx;rcases List.mem_cons.1 hx with rfl | hx
          ·exact ⟨tn,rfl,HTN.out⟩
          ·exact HSX.out x hx
         have HPU:Hid (zbW m ps tn s=pushL m (T.drop 0) (zba ps s)):=by (show _=_);rw [hT];rfl
         have hTl:T.length=s.length+1:=by rw [hT];rfl
         have HC3:=zh (HC2.out.more hE2);have HOL:Hid ((zba ps s).length=ps.length):=zbJ s ps;obtain ⟨AT,cT,rfl,-,hrt⟩:=hTI;have HRT:=zh hrt;have HCT:=zh hTl;have hT7:T.length≤7:=by omega
         clear ho hg hv hT hTl hrt hxj HC2 HSJ HO;have HE2:=zh hE2;clear hE2
         gi_wp2_with fail
         gi_loopw [75] (fun i wr=>∃(j:Nat) (o:List (List Int)),j≤T.length∧i=.int .i64 j∧Hid (CP W wr go o)∧Hid (o.length=ps.length)∧Hid (∀x∈o,x.length≤300)∧Hid (zbW m ps tn s=pushL m (T.drop j) o)∧Hid (Chg (fun b=>b=go) w2 wr)) (fun i _=>T.length - (intOf i).toNat)
         case atStart=>exact ⟨0,_,Nat.zero_le _,rfl,HC3.out,HOL.out,HCL.out,HPU.out,Chg.refl _ _⟩
         clear HC3 HOL HCL HPU
         case round=>
          obtain ⟨j,o,hj,rfl,hC,hol,hox,hpu,hch⟩:=hrel;obtain ⟨wq,rfl⟩:∃wq:World,wq=wr:=⟨_,rfl⟩;have hx:Ext W7 wq:=HXW.out.trans hC.out.ext;by_cases hlt2:j<T.length
          ·obtain ⟨bt,offt,rfl,hbt,hct0⟩:=zt HRT.out hlt2 hlt2;obtain ⟨i,hi,hip⟩:=HTX.out _ (List.getElem_mem hlt2);have HTD:Hid (T.drop j=(i:Int) :: T.drop (j+1)):=by (show _=_);rw [List.drop_eq_getElem_cons hlt2,hi]
           rw [hi] at hct0;have hct:wq.cell? ⟨bt,offt+j,none⟩=some (.int .i64 i):=hch.out.cellk hct0 (by have h1:=HGO.out;show ¬ (bt=go);omega);have hjI:(j:Int)<(T.length:Int):=by omega
           have hjI0:(0:Int)≤(j:Int):=by omega
           have hiI:(i:Int)<(ps.length:Int):=by omega
           have hiI0:(0:Int)≤(i:Int):=by omega
           have HPC:Hid (Calls Tryz.prog 18 #[.agg #[.int .i64 m.w,.int .i64 m.h,.int .i64 m.l,.slice Af m.free.length cf,.slice Au m.up.length cu,.slice At m.tasks.length ct],.int .i64 i,.slice (some ⟨go,0,none⟩) ps.length ps.length] wq fun e w'=>∃v',e=.returned (.tuple #[v',.bool (za9 m i o).isSome])∧Mk wq w' v' ((za9 m i o).getD [])):=by
            (show Calls _ _ _ _ _)
            have h:=hC.out.intss ps.length (by rw [hol.out];exact Nat.le_refl _);rw [hol.out] at h;exact zcO i wq (HM.out.below (HW7.out.trans hx)) HL.out h (by have:=hol.out;omega) (fun x hx=>by have:=hox.out x hx;omega)
           clear hct0 hi hbt
           gi_wp2_with fail
           refine ⟨trivial,?_⟩;refine (CallsIn.inRound l (callsIn_wide.2 HPC.out)).mono ?_;rintro e w5 ⟨v5,rfl,hM5⟩;have HX5:Hid (Ext wq w5):=hM5.ext;have HI5:=zh hM5.ints;obtain ⟨A5,c5,rfl,-⟩:=hM5.slice;have HC5:=zh (hC.out.more HX5.out);have HCH5:Hid (Chg (fun b=>b=go) w2 w5):=hch.out.trans (Chg.of_ext (X:=fun b=>b=go) HX5.out) (fun _ _ h=>h);obtain ⟨po,hpo⟩:∃po,po=za9 m i o:=⟨_,rfl⟩;rw [←hpo] at HI5⊢;have HPO:=zh hpo;have HWQ:Hid (w2.heap.size≤wq.heap.size):=hch.out.size;clear hM5 HPC hpo hch hC hct
           cases po with
           | none=>
            have HNO:Hid (zbW m ps tn s=none):=by
             (show _=_)
             rw [hpu.out,HTD.out];unfold pushL;rw [←HPO.out]
            simp only [Option.isSome_none,Option.getD_none,List.length_nil]
            gi_wp2_with fail
            refine ⟨HC5.out.ext,HE0.out.trans HC5.out.ext,fun j' hj'=>?_⟩;rcases Nat.lt_or_ge j' k with h | h
            ·exact HALL.out j' h
            ·obtain rfl:j'=k:=by omega
             rw [←HSE.out];exact HNO.out
           | some p=>
            have HPL:Hid (p.length≤300):=path_len HPO.out.symm;simp only [Option.isSome_some,Option.getD_some] at HI5⊢;obtain ⟨uo,hcuo,hfuo,-⟩:=HC5.out.at_ (k:=i) (by rw [hol.out];exact hip);have HCN:Hid (CP W (w5.setCell ⟨go,i,none⟩ (.slice A5 p.length c5)) go (o.set i p)):=HC5.out.set i (HI5.out.weaken fun b hb=>by have h1:=HGO.out;have h2:=HCH5.out.size;have h3:=HE2.out.size;have h4:=HWQ.out;omega);have HCHN:Hid (Chg (fun b=>b=go) w2 (w5.setCell ⟨go,i,none⟩ (.slice A5 p.length c5))):=HCH5.out.set go i _ rfl
            have HPN:Hid (zbW m ps tn s=pushL m (T.drop (j+1)) (o.set i p)):=by
             (show _=_)
             rw [hpu.out,HTD.out]
             conv=>lhs;unfold pushL
             rw [←HPO.out];simp
            gi_wp2_with fail
            go_roundw
            case rel=>exact ⟨j+1,o.set i p,by omega,by go_num,HCN.out,by rw [List.length_set];exact hol.out,set_lens hox.out i HPL.out,HPN.out,HCHN.out⟩
            case measure=>simp [intOf];omega
          ·obtain rfl:j=T.length:=by omega
           have HSO:Hid (zbW m ps tn s=some o):=by
            (show _=_)
            rw [hpu.out,List.drop_length]
            all_goals rfl
           have HADD:Hid (zaw m ps tn=⟨o,s,.zero,0⟩):=by
            (show _=_)
            rw [addP_found HLB.out HKB.out HQN.out HKK.out HALL.out (by rw [←HSE.out];exact HSO.out),←HSE.out]
           have HRQ:=zh (HRB.out.ext hx);have HXQ:=zh hx;clear hx;have s3:=HRQ.out.p.cell (k:=0) rfl;have s4:=HRQ.out.m.cell (k:=0) rfl;have s50:=HRQ.out.y.cell (k:=0) rfl;have s51:=HRQ.out.y.cell (k:=1) rfl;have s52:=HRQ.out.y.cell (k:=2) rfl;have s6:=HRQ.out.e.cell (k:=0) rfl;have f3:=HRQ.out.p.frozen 0;have f4:=HRQ.out.m.frozen 0;have f5:=fun j=>HRQ.out.y.frozen j
           have f6:=HRQ.out.e.frozen 0
           gi_wp2_with fail
           refine zc5 (P:=fun W'=>postB _ _ _ _ W Exit.ret _ W') (g:=g) HRQ.out ?_;intro WZ hz hc;have hgw:=HGW.out;have hwz:=HSZ.out;refine ⟨fun b h1 h2=>(hc.block b (Nat.lt_of_lt_of_le h2 hC.out.ext.size) (by omega)).trans (hC.out.ext.block b h2),rfl,add_ext HG.out (HW7.out.trans HXQ.out) hc,_,_,o,s,HADD.out,hz,?_,?_⟩
           ·have h:=hC.out.intssLo ps.length (by rw [hol.out];exact Nat.le_refl _);rw [hol.out] at h;exact (h.keep fun b hb hlt=>hc.block b hlt (by omega)).weaken fun b hb=>by have h1:=(HW7.out.trans HXW.out).size;omega
           ·exact ((HSA.out.below hC.out.ext).keep fun b hb hlt=>hc.block b hlt (by omega)).weaken fun b hb=>⟨by have h1:=(HW7.out.trans HX0.out).size;omega,hb.2⟩
      case done=>
       rintro D Wd hD ⟨hE,hall⟩ hK;have HADD:Hid (zaw m ps tn=zac m ps tn):=addP_search HLB.out HKB.out HQN.out hall;have hx:Ext W7 Wd:=HX0.out.trans hE;have HWD:Hid (w0.heap.size≤Wd.heap.size∧w.heap.size≤Wd.heap.size):=⟨hE.size,(HW7.out.trans hx).size⟩;have HSC:=zh (searched_calls tn Wd (HM.out.below (HW7.out.trans hx)) HL.out (HF.out.below (HW7.out.trans hx)) (fun x hx=>by have:=HFX6.out x hx;omega) HLB.out HKB.out HQN.out);have HKD:=zh hK;have HDD:Hid (w0.heap.size≤D):=hD;have HXQ:=zh hx;clear hall hE hD
       go_wp2_with fail
       refine HSC.out.mono ?_;rintro e W2 ⟨vp,vm,vw,rfl,hE2,hp2,hm2,hw2⟩;have HP2:=zh hp2;have HM2:=zh hm2;have HW2:=zh hw2;have HX2:=zh (HXQ.out.trans hE2);have HK2:Hid (W2.heap[D]?=some (.deferred (some []))):=(hE2.block D (zb hK)).trans hK;obtain ⟨_,⟨Avp,cvp,rfl,-,-⟩,-⟩:=hp2;obtain ⟨Avm,cvm,rfl,-,-⟩:=hm2;obtain ⟨Aw,cw,Akw,ckw,rfl,-⟩:=hw2.form;have HRQ:=zh (HRB.out.ext HX2.out);clear hE2 hw2 hK hx HSC;have s3:=HRQ.out.p.cell (k:=0) rfl;have s4:=HRQ.out.m.cell (k:=0) rfl;have s50:=HRQ.out.y.cell (k:=0) rfl;have s51:=HRQ.out.y.cell (k:=1) rfl;have s52:=HRQ.out.y.cell (k:=2) rfl;have s6:=HRQ.out.e.cell (k:=0) rfl;have f3:=HRQ.out.p.frozen 0;have f4:=HRQ.out.m.frozen 0;have f5:=fun j=>HRQ.out.y.frozen j
       have f6:=HRQ.out.e.frozen 0
       go_wp2_with fail
       refine zc5 (P:=fun W'=>Exit.noGoto (bodyPostM Fence.wide 6 Tryz.prog Tryz.f10 _) Exit.ret _ W') (g:=g) HRQ.out ?_;intro W hrb hc;have hgw:=HGW.out;have hdd:=HDD.out;have hK:W.heap[D]?=some (.deferred (some [])):=(hc.block D (zb HK2.out) (by omega)).trans HK2.out;refine ⟨by simp,.inl ⟨_,_,rfl,run_takeDeferred hK,?_⟩⟩;have hno:∀off,W2.cell? ⟨D,off,none⟩=none:=fun off=>by unfold World.cell?;simp only [HK2.out]
       have hS:∀b,b≠D→(W.putObj D (.deferred none)).heap[b]?=W.heap[b]?:=fun b hb=>World.putObj_heap_other hb
       have y3:=(show Blk (W.putObj D (.deferred none)) (g+3) _ _ from (hS _ (by omega)).trans hrb.p).cell (k:=0) rfl;have y4:=(show Blk (W.putObj D (.deferred none)) (g+4) _ _ from (hS _ (by omega)).trans hrb.m).cell (k:=0) rfl;have y50:=(show Blk (W.putObj D (.deferred none)) (g+5) _ _ from (hS _ (by omega)).trans hrb.y).cell (k:=0) rfl;have y51:=(show Blk (W.putObj D (.deferred none)) (g+5) _ _ from (hS _ (by omega)).trans hrb.y).cell (k:=1) rfl;have y52:=(show Blk (W.putObj D (.deferred none)) (g+5) _ _ from (hS _ (by omega)).trans hrb.y).cell (k:=2) rfl;have y6:=(show Blk (W.putObj D (.deferred none)) (g+6) _ _ from (hS _ (by omega)).trans hrb.e).cell (k:=0) rfl;refine ⟨.tuple #[.slice Avp (zac m ps tn).ps.length cvp,.slice Avm (zac m ps tn).mv.length cvm,.agg #[.int .i64 (zac m ps tn).why.task,.slice Aw (zac m ps tn).why.side.length cw,.slice Akw (zac m ps tn).why.kids.length ckw],.int .i64 (zac m ps tn).err],by simp [results,Tryz.results10,go_sem,y3,y4,y50,y51,y52,y6],?_⟩;rw [HADD.out];have hwd:=HWD.out;have hq:∀b,Wd.heap.size≤b∧b≠D→b<W2.heap.size→(W.putObj D (.deferred none)).heap[b]?=W2.heap[b]?:=fun b hb hlt=>(hS b hb.2).trans (hc.block b hlt (by omega))
       refine ⟨_,_,_,rfl,?_,?_,?_,?_⟩
       ·exact Below.trans (add_ext HG.out (HW7.out.trans HX2.out) hc) (belowK_b (w:=w) (Nat.le_refl _) _ D _ _ (by have:=(HW7.out.trans HX0.out).size;omega) hK rfl rfl)
       ·exact ((HP2.out.apartO hno).keep fun b hb hlt=>hq b hb hlt).weaken fun b hb=>by omega
       ·exact ((HM2.out.apartO hno).keep fun b hb hlt=>hq b hb hlt).weaken fun b hb=>by omega
       ·exact (HW2.out.apartO hno).keepW (fun b hb hlt=>hq b hb hlt) fun b hb=>by omega
      case stop=>
       rintro D c W hD ⟨rfl,⟨hE,vo,vs',o,s,hadd,hrb,hvo,hvs⟩⟩ hK
       gi_wp2
       refine ⟨by simp,.inl ⟨_,_,rfl,run_takeDeferred hK,?_⟩⟩;have hno:∀off,W.cell? ⟨D,off,none⟩=none:=fun off=>by unfold World.cell?;simp only [hK]
       have hgw:=HGW.out;have hS:∀b,b≠D→(W.putObj D (.deferred none)).heap[b]?=W.heap[b]?:=fun b hb=>World.putObj_heap_other hb
       have y3:=(show Blk (W.putObj D (.deferred none)) (g+3) _ _ from (hS _ (by omega)).trans hrb.p).cell (k:=0) rfl;have y4:=(show Blk (W.putObj D (.deferred none)) (g+4) _ _ from (hS _ (by omega)).trans hrb.m).cell (k:=0) rfl;have y50:=(show Blk (W.putObj D (.deferred none)) (g+5) _ _ from (hS _ (by omega)).trans hrb.y).cell (k:=0) rfl;have y51:=(show Blk (W.putObj D (.deferred none)) (g+5) _ _ from (hS _ (by omega)).trans hrb.y).cell (k:=1) rfl;have y52:=(show Blk (W.putObj D (.deferred none)) (g+5) _ _ from (hS _ (by omega)).trans hrb.y).cell (k:=2) rfl;have y6:=(show Blk (W.putObj D (.deferred none)) (g+6) _ _ from (hS _ (by omega)).trans hrb.e).cell (k:=0) rfl;obtain ⟨_,⟨Avp,cvp,rfl,-,-⟩,-⟩:=id hvo;obtain ⟨Avm,cvm,rfl,-,-⟩:=id hvs;refine ⟨.tuple #[.slice Avp o.length cvp,.slice Avm s.length cvm,.agg #[.int .i64 0,.slice none 0 0,.slice none 0 0],.int .i64 0],by simp [results,Tryz.results10,go_sem,y3,y4,y50,y51,y52,y6],?_⟩;rw [hadd];refine ⟨_,_,_,rfl,?_,?_,?_,PrV.zero _ _⟩
       ·exact Below.trans hE (belowK_b (w:=w) (Nat.le_refl _) _ D _ _ (by have:=(HW7.out.trans HX0.out).size;omega) hK rfl rfl)
       ·exact ((hvo.apartO hno).keep fun b hb _=>hS b hb.2).weaken fun _ h=>h.1.1
       ·exact ((hvs.apartO hno).keep fun b hb _=>hS b hb.2).weaken fun _ h=>h.1.1
   ·have hql:(0:Int)<(q.length:Int):=by
     have:q.length≠0:=fun h=>hqn (List.eq_nil_of_length_eq_zero h)
     omega
    have hql2:0<q.length:=by omega
    have HRES:Hid (zaw m ps (tn:Int)=⟨[],[],.zero,1⟩):=by
     (show _=_)
     unfold zaw;rw [Int.toNat_natCast,HPD.out,decide_eq_false hqn,Bool.and_false,Bool.and_false]
     all_goals rfl
    clear hqn;have HRW:=zh (HRB.out.ext hx);have s3:=HRW.out.p.cell (k:=0) rfl;have s4:=HRW.out.m.cell (k:=0) rfl;have s50:=HRW.out.y.cell (k:=0) rfl;have s51:=HRW.out.y.cell (k:=1) rfl;have s52:=HRW.out.y.cell (k:=2) rfl;have s6:=HRW.out.e.cell (k:=0) rfl;have f3:=HRW.out.p.frozen 0;have f4:=HRW.out.m.frozen 0;have f5:=fun j=>HRW.out.y.frozen j
    have f6:=HRW.out.e.frozen 0
    go_wp2_with fail
    refine zc5 (P:=fun W=>Exit.noGoto (bodyPostM Fence.wide 6 Tryz.prog Tryz.f10 _) Exit.ret _ W) (g:=g) HRW.out ?_;intro WZ hz hc;have y3:=hz.p.cell (k:=0) rfl;have y4:=hz.m.cell (k:=0) rfl;have y50:=hz.y.cell (k:=0) rfl;have y51:=hz.y.cell (k:=1) rfl;have y52:=hz.y.cell (k:=2) rfl;have y6:=hz.e.cell (k:=0) rfl;refine ⟨.tuple #[.slice none 0 0,.slice none 0 0,.agg #[.int .i64 0,.slice none 0 0,.slice none 0 0],.int .i64 1],by simp [results,Tryz.results10,go_sem,y3,y4,y50,y51,y52,y6],?_⟩;rw [HRES.out];exact ⟨_,_,_,rfl,add_ext HG.out (HW7.out.trans hx) hc,zbK _ _,zf.nil _ _,PrV.zero _ _⟩
end Go.Proofs.YthbjngbhbbkkgaaGreat
namespace Go.Proofs.YthbjngbhbbkkgaaGreat
open Go.RowKit
attribute [local go_sem ↓] Go.wp_at_zero Go.wp_at_succ
theorem zcZ {okm okf okw okq:Nat→Prop} {v vf vw vq:Value} {m:MZ} {ps want:List (List Int)} {mv:List Int} (t:Int) (w:World) (hm:zr w okm v m) (hl:Lens m) (hf:zo w okf vf ps) (hpl:ps.length≤20000000000000) (hfx:∀x∈ps,x.length≤20000000000000) (hw:zo w okw vw want) (hwl:want.length≤20000000000000) (hwx:∀x∈want,x.length≤20000000000000) (hq:zf w okq vq mv) (hql:mv.length≤20000000000000) (hal:(zaw m ps t).ps.length≤20000000000000) (hax:∀x∈(zaw m ps t).ps,x.length≤20000000000000) (haq:(zaw m ps t).mv.length≤20000000000000):
  Calls Tryz.prog 34 #[v,vf,.int .i64 t,vw,vq] w fun e w'=>e=.returned (.bool (decide ((zaw m ps t).err=0) && (decide ((zaw m ps t).ps=want) && decide ((zaw m ps t).mv=mv))))∧Ext w w':=by
 have HM:=zh hm;have HF:=zh hf;have HWW:=zh hw;have HQ:=zh hq
 go_enter Tryz.func34,Tryz.ntmps34
 obtain ⟨r,hr⟩:∃r,r=zaw m ps t:=⟨_,rfl⟩;rw [←hr] at hal hax haq⊢;obtain ⟨b1,hb1⟩:∃b,b=decide (r.ps=want):=⟨_,rfl⟩;obtain ⟨b2,hb2⟩:∃b,b=decide (r.mv=mv):=⟨_,rfl⟩;rw [←hb1,←hb2];have HB1:Hid (b1=decide (r.ps=want)):=hb1;have HB2:Hid (b2=decide (r.mv=mv)):=hb2;clear hb1 hb2;have HR:=zh hr;clear hr
 have hadd:Hid (∀W,Ext w W→Calls Tryz.prog 10 #[v,vf,.int .i64 t] W (AddPost W r)):=fun W hE=>by
  have h:=zcK t W (hm.below hE) hl (hf.below hE) hpl hfx;rw [←HR.out] at h;exact h
 obtain ⟨Am,cm,Au,cu,At,ct,rfl,-,-,-⟩:=hm.parts;obtain ⟨_,⟨Ap,cp,rfl,-,-⟩,-⟩:=id hf;obtain ⟨_,⟨Aw,cw,rfl,-,-⟩,-⟩:=id hw;obtain ⟨Aq,cq,rfl,-,-⟩:=id hq;clear hm hf hw hq
 go_wp2_with fail
 refine (hadd.out _ ((Ext.refl w).alloc _)).mono ?_;rintro e w2 ⟨vp,vmm,vy,rfl,hE2,hp2,hm2,hy2⟩;obtain ⟨As,cs,Ak,ck,rfl,-⟩:=hy2.form;have hW2:Ext w w2:=((Ext.refl w).alloc _).trans hE2;have HP2:=zh hp2;have HM2:=zh hm2;have HW2:=zh hW2;obtain ⟨_,⟨Bp,dp,rfl,-,-⟩,-⟩:=id hp2;obtain ⟨Bm,dm,rfl,-,-⟩:=id hm2;clear hp2 hm2 hy2 hE2 hW2;have hx2:∀o,Ext w2 (w2.alloc o):=fun o=>(Ext.refl w2).alloc o
 by_cases h0:r.err=0
 ·rw [h0]
  go_wp2_with fail
  refine (samePaths_calls _ (HP2.out.below (hx2 _)) (HWW.out.below (HW2.out.trans (hx2 _))) hal hwl hax hwx).mono ?_;rw [←HB1.out];rintro e w3 ⟨rfl,hD3⟩;have hE3:Ext w2 w3:=(hx2 _).trans (hD3.below _);clear hD3;cases b1
  ·go_wp2;refine bodyPost_ret (v:=.bool false) (by simp [results,Tryz.results34,go_sem]) rfl ?_;exact ⟨by simp,HW2.out.trans hE3⟩
  ·go_wp2_with fail
   refine (zcs _ (HM2.out.below hE3) (HQ.out.below (HW2.out.trans hE3)) haq hql).mono ?_;rw [←HB2.out];rintro e w4 ⟨rfl,hD4⟩;have hE4:Ext w2 w4:=hE3.trans (hD4.below _);clear hD4 hE3;go_wp2;refine bodyPost_ret (v:=.bool b2) (by simp [results,Tryz.results34,go_sem]) rfl ?_;exact ⟨by simp [h0],HW2.out.trans hE4⟩
 ·have hd0:decide (r.err=0)=false:=by simp [h0]
  go_wp2;refine bodyPost_ret (v:=.bool false) (by simp [results,Tryz.results34,go_sem]) rfl ?_;exact ⟨by simp [h0],HW2.out.trans (hx2 _)⟩
end Go.Proofs.YthbjngbhbbkkgaaGreat
