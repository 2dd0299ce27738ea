import Derived.Test.YthbjngbhbbkkgaaGreatHRzb
import Derived.Test.YthbjngbhbbkkgaaGreatHRzf
import Derived.Test.YthbjngbhbbkkgaaGreatHRzg
import Derived.Scope
import Derived.LoopIn
set_option linter.unusedVariables false
set_option linter.unusedSimpArgs false
set_option maxRecDepth 100000
set_option maxHeartbeats 16000000
namespace Go.Proofs.YthbjngbhbbkkgaaGreat
variable {o ps:List (List Int)} {p:List Int} {m:MZ} {g k n t:Nat} {ok okf okm:Nat->Prop} {v vf:Value} {W w:World}
section
open Go.RowKit
attribute [local go_sem ↓] Go.wp_at_zero Go.wp_at_succ
attribute [local go_sem] Oper.semAt_some
structure RB (W:World) (g:Nat) (a b c0 c1 c2 d:Value):Prop where
 p:zk W (g+3) 22 #[a]
 m:zk W (g+4) 23 #[b]
 y:zk W (g+5) 37 #[c0,c1,c2]
 e:zk W (g+6) 38 #[d]
theorem RB.ext {W W':World} {g:Nat} {a b c0 c1 c2 d:Value} (h:RB W g a b c0 c1 c2 d) (z:zb W W'):RB W' g a b c0 c1 c2 d:=⟨h.p.ext z,h.m.ext z,h.y.ext z,h.e.ext z⟩
theorem DG {P:World->Prop} {a b c0 c1 c2 d a' b' c0' c1' c2' d':Value} (z:RB W g a b c0 c1 c2 d) (h:∀WZ,RB WZ g a' b' c0' c1' c2' d'->zp (fun k=>g+3<=k/\k<=g+6) W WZ->P WZ):
  P ((((((W.setCell ⟨g+3,0,none⟩ a').setCell ⟨g+4,0,none⟩ b').setCell ⟨g+5,0,none⟩ c0').setCell ⟨g+5,1,none⟩ c1').setCell ⟨g+5,2,none⟩ c2').setCell ⟨g+6,0,none⟩ d'):=by
 have q1:=z.p.set (k:=0) a';have q2:=(z.m.setOther (a:=⟨g+3,0,none⟩) (by show g+4≠g+3;omega) a').set (k:=0) b';have q3:=((((z.y.setOther (a:=⟨g+3,0,none⟩) (by show g+5≠g+3;omega) a').setOther (a:=⟨g+4,0,none⟩) (by show g+5≠g+4;omega) b').set (k:=0) c0').set (k:=1) c1').set (k:=2) c2';have q4:=(((((z.e.setOther (a:=⟨g+3,0,none⟩) (by show g+6≠g+3;omega) a').setOther (a:=⟨g+4,0,none⟩) (by show g+6≠g+4;omega) b').setOther (a:=⟨g+5,0,none⟩) (by show g+6≠g+5;omega) c0').setOther (a:=⟨g+5,1,none⟩) (by show g+6≠g+5;omega) c1').setOther (a:=⟨g+5,2,none⟩) (by show g+6≠g+5;omega) c2').set (k:=0) d';refine h _ ⟨?_,?_,?_,q4⟩ ((((((zp.refl _ W).set (g+3) 0 a' (by omega)).set (g+4) 0 b' (by omega)).set (g+5) 0 c0' (by omega)).set (g+5) 1 c1' (by omega)).set (g+5) 2 c2' (by omega) |>.set (g+6) 0 d' (by omega))
 ·exact ((((q1.setOther (a:=⟨g+4,0,none⟩) (by show g+3≠g+4;omega) b').setOther (a:=⟨g+5,0,none⟩) (by show g+3≠g+5;omega) c0').setOther (a:=⟨g+5,1,none⟩) (by show g+3≠g+5;omega) c1').setOther (a:=⟨g+5,2,none⟩) (by show g+3≠g+5;omega) c2').setOther (a:=⟨g+6,0,none⟩) (by show g+3≠g+6;omega) d'
 ·exact (((q2.setOther (a:=⟨g+5,0,none⟩) (by show g+4≠g+5;omega) c0').setOther (a:=⟨g+5,1,none⟩) (by show g+4≠g+5;omega) c1').setOther (a:=⟨g+5,2,none⟩) (by show g+4≠g+5;omega) c2').setOther (a:=⟨g+6,0,none⟩) (by show g+4≠g+6;omega) d'
 ·exact q3.setOther (a:=⟨g+6,0,none⟩) (by show g+5≠g+6;omega) d'
theorem laid_lens (h:By m ps=true):∀x∈ps,x.length<=300:=by
 obtain ⟨h0,h1,h2,h3⟩:=AN.1 h;intro x I;obtain ⟨k,D,rfl⟩:=Fm I;have z:ps.getD k []=ps[k]:=zgd D
 by_cases E:ps[k]=[]
 ·rw [E];simp
 ·have hp:=h2 k D (by rw [z];exact E);rw [z] at hp
  have B:(ps[k]).Nodup:=by
   have:=h3.1 k
   rwa [z] at this
  have G:=Bo B m.n hp.rg;have J:=(zC.of h0).dim.n1;unfold MZ.n at G;omega
def Dr (ps:List (List Int)) (k:Nat):List Int:=((List.range k).filter fun k=>decide (ps.getD k []≠[])).map Int.ofNat
theorem hasTo_t (h:ps.getD k []≠[]):Dr ps (k+1)=Dr ps k++[(k:Int)]:=by
 unfold Dr;rw [List.range_succ,Fv,Fz,FB (by simpa using h)];rfl
theorem hasTo_f (h:ps.getD k []=[]):Dr ps (k+1)=Dr ps k:=by
 unfold Dr;rw [List.range_succ,Fv,Fz,Fp (by rw [h];simp)];simp
theorem hasTo_len (ps:List (List Int)) (k:Nat):(Dr ps k).length<=k:=by
 unfold Dr;rw [Fr];exact EI (Fi _ _) (by simp)
theorem Ae.apartO {size b:Nat} {A:Option Addr} {xs:List Value} (h:Ae w ok size A n xs) (G:0<size) (E:∀off,w.cell? ⟨b,off,none⟩=none):Ae w (fun k=>ok k/\k≠b) size A n xs:=by
 refine ⟨h.1,fun B=>?_⟩;obtain ⟨k,off,e,D,z⟩:=h.2 B;have h0:0<xs.length:=by rw [h.1];exact Nat.mul_pos B G
 refine ⟨k,off,e,⟨D,?_⟩,z⟩;rintro rfl;have h1:=z 0 _ (EE h0);rw [E] at h1;cases h1
theorem zj.apartO {w:World} {ok:Nat->Prop} {v:Value} {l:List Int} {b:Nat} (h:zj w ok v l) (B:∀off,w.cell? ⟨b,off,none⟩=none):zj w (fun k=>ok k/\k≠b) v l:=by
 obtain ⟨A,c,e,z,D⟩:=h;exact ⟨A,c,e,z,D.apartO (by decide) B⟩
theorem zv.apartO {w:World} {ok:Nat->Prop} {v:Value} {l:List (List Int)} {b:Nat} (h:zv w ok v l) (z:∀off,w.cell? ⟨b,off,none⟩=none):zv w (fun k=>ok k/\k≠b) v l:=by
 obtain ⟨vs,⟨A,c,e,B,E⟩,he⟩:=h;exact ⟨vs,⟨A,c,e,B,E.apartO (by decide) z⟩,fun i x I=>by obtain ⟨u,G,D⟩:=he i x I;exact ⟨u,G,D.apartO z⟩⟩
theorem Dz.apartO {w:World} {ok:Nat->Prop} {v:Value} {p:PT} {b:Nat} (h:Dz w ok v p) (z:∀off,w.cell? ⟨b,off,none⟩=none):Dz w (fun k=>ok k/\k≠b) v p:=by
 induction h with
 | mk h1 h2 _ ih=>
  obtain ⟨A,c,e,B,D⟩:=h2;exact .mk (h1.apartO z) ⟨A,c,e,B,D.apartO (by decide) z⟩ ih
structure AddX (w:World) (g L:Nat) (m:MZ) (ps:List (List Int)) (t:Nat) (W:World):Prop where
 ext:zb w W
 res:∃vo vs o s,BW m ps t=⟨o,s,.zero,0⟩/\RB W g vo vs (.int .i64 0) (.slice none 0 0) (.slice none 0 0) (.int .i64 0)/\zv W (fun b=>w.heap.size<=b/\b≠L) vo o/\zj W (fun b=>w.heap.size<=b/\b≠L) vs s
theorem AddX.grown {w A B:World} {g L:Nat} {m:MZ} {ps:List (List Int)} {t:Nat} (h:AddX w g L m ps t A) (G:A.grownBy B (some L)) (Q:w.heap.size<=L) (M:g+6<L):AddX w g L m ps t B:=by
 obtain ⟨h1,vo,vs,o,s,h2,h3,I,J⟩:=h;have D:∀b,b≠L->b<A.heap.size->B.heap[b]?=A.heap[b]?:=fun b E z=>G.block b z (fun e=>E (Option.some.inj e))
 refine ⟨((zp.of_ext (X:=fun k=>k=L) h1).grown G (fun k O _=>(Option.some.inj O).symm)).below (EG _) (fun b E=>by omega),vo,vs,o,s,h2,⟨?_,?_,?_,?_⟩,I.keep fun b E z=>D b E.2 z,J.keep fun b E z=>D b E.2 z⟩
 ·exact (D _ (by omega) (zd h3.p)).trans h3.p
 ·exact (D _ (by omega) (zd h3.m)).trans h3.m
 ·exact (D _ (by omega) (zd h3.y)).trans h3.y
 ·exact (D _ (by omega) (zd h3.e)).trans h3.e
theorem EB {F:Fence} {ops:Array Oper} {rest:List Oper} {o:Oper} {a:Act} {Q:Exit->Act->World->Prop} (J:o.guard=none) (W:World) (s x:Operand) {t e:TypeId} {z:Value} {sz bytes:Nat} (I:ElemI t e z sz bytes)
  (L:o.op=.call { callee:=.builtin .append,args:=#[s,x],argTypes:=#[t,t] }) (base k m:Nat) (l l2:List Value) (v u:Value) (V:a.eval s=v) (hx:a.eval x=u)
  (D:W.ownsRow base e sz v k l) (hu:AI W ok sz u m l2) (h1:∀u∈l2,u.oneCell'=true) (B:base<=W.heap.size) (E:k+m<=maxLen) (T:(k+m)*bytes<=140737488355328)
  (h:∀v' w',w'.ownsRow base e sz v' (k+m) (l++l2)->W.grownBy w' v.ownBlock->(v'.ownBlock=v.ownBlock\/v'.ownBlock=some W.heap.size)->wpListIn F n Tryz.prog ops Q rest (a.put o.dst v') w'):wpListIn F n Tryz.prog ops Q (o :: rest) a W:=by
 refine wpListIn_plain J fun K O=>?_
 obtain ⟨v',w',U,h2,h3,M⟩:=Ee (ok:=ok) W base t o.type e z sz bytes I v k l D u m l2 hu h1 E T B;unfold Oper.wpIn;refine ⟨?_,?_⟩
 ·simp [Oper.about,L,resolve,Target.leads,Sem.run_pure]
 ·rw [Oper.semAt_plain F _ _ (by rw [L];intro c G;cases G)];simp [execOp,L,resolve,invoke,builtin,V,hx,U,Result.andThen];exact O _ _ (h v' w' h2 h3 M)
theorem CP.intssLo {wr:World} (h:CP w wr g ps) (c:Nat) (D:ps.length<=c):zv wr (fun b=>w.heap.size<=b) (.slice (some ⟨g,0,none⟩) ps.length c) ps:=by
 obtain ⟨vs,B,I,he⟩:=h.row;refine ⟨vs,⟨_,c,rfl,D,by omega,fun _=>⟨g,0,rfl,h.lo,fun j u z=>?_⟩⟩,fun i x G=>by obtain ⟨u,z,E⟩:=he i x G;exact ⟨u,z,E.weaken fun _ h=>h.2⟩⟩;rw [Nat.zero_add];exact B.cell (by simpa using z)
theorem clearP_take {s:List Int} {j:Nat} (z:j<s.length):Cn ps (s.take (j+1))=(Cn ps (s.take j)).set (s[j]).toNat []:=by
 unfold Cn;rw [EN z,List.foldl_append];rfl
theorem sub_set (z:k<(AV (BX ps)).length):((AV (BX ps)).getD k []).length<=ps.length/\∀x∈(AV (BX ps)).getD k [],∃i:Nat,x=(i:Int)/\i<ps.length:=by
 have hm:(AV (BX ps)).getD k []∈AV (BX ps):=by rw [EF,EE z];exact EH z
 have B:=subsP_sub hm;refine ⟨EI B.length_le (hasTo_len ps ps.length),fun x D=>?_⟩;obtain ⟨i,h1,h2,-⟩:=mem_laidL.1 (B.subset D);exact ⟨i,h2,h1⟩
theorem path_len {t:Int} (h:BM m t o=some p):p.length<=300:=by
 obtain ⟨h0,-,h1⟩:=pathP_ok h;have z:=Bo h1.nd m.n h1.rg;have B:=(zC.of h0).dim.n1;unfold MZ.n at z;omega
theorem set_lens (h:∀x∈o,x.length<=300) (k:Nat) (hp:p.length<=300):∀x∈o.set k p,x.length<=300:=fun x z=>by
 rcases List.mem_or_eq_of_mem_set z with h1 | h1
 ·exact h x h1
 ·rw [h1];exact hp
theorem clear_lens:∀(s:List Int) {ps:List (List Int)},(∀x∈ps,x.length<=300)->∀x∈Cn ps s,x.length<=300
 | [],ps,h=>h
 | k :: s,ps,h=>by
  have:Cn ps (k :: s)=Cn (ps.set k.toNat []) s:=rfl;rw [this];exact clear_lens s (set_lens h _ (by simp))
theorem addP_found (I:By m ps=true) (J:AM m t=true) (h2:ps.getD t []=[]) (z:k<(AV (BX ps)).length) (D:∀j,j<k->Dv m ps t ((AV (BX ps)).getD j [])=none)
  (E:Dv m ps t ((AV (BX ps)).getD k [])=some o):BW m ps t=⟨o,(AV (BX ps)).getD k [],.zero,0⟩:=by
 unfold BW;rw [I,J,Fy,EJ h2];simp only [Bool.and_self,if_true]
 have:(AV (BX ps)).findSome? (fun s=>(Dv m ps t s).map fun o=>(o,s))=some (o,(AV (BX ps)).getD k []):=by
  obtain ⟨L,B⟩:=zad (AV (BX ps));rw [<-B] at z D E⊢;clear B
  induction L generalizing k with
  | nil=>simp at z
  | cons a L ih=>
   cases k with
   | zero=>
    have G:Dv m ps t a=some o:=by simpa using E
    rw [List.findSome?_cons,G];simp
   | succ k=>
    have h0:Dv m ps t a=none:=by simpa using D 0 (by omega)
    rw [List.findSome?_cons,h0];simp only [Option.map_none];have:=ih (k:=k) (by simpa using E) (fun j M=>by simpa using D (j+1) (by omega)) (by simpa using z);simpa using this
 rw [this]
theorem addP_search (B:By m ps=true) (D:AM m t=true) (h2:ps.getD t []=[]) (E:∀j,j<(AV (BX ps)).length->Dv m ps t ((AV (BX ps)).getD j [])=none):BW m ps t=AD m ps t:=by
 unfold BW;rw [B,D,Fy,EJ h2];simp only [Bool.and_self,if_true]
 have:(AV (BX ps)).findSome? (fun s=>(Dv m ps t s).map fun o=>(o,s))=none:=by
  rw [List.findSome?_eq_none_iff];intro s G;obtain ⟨j,z,rfl⟩:=Fm G;have:=E j z;rw [EF,EE z,Fl] at this;rw [this];rfl
 rw [this]
theorem add_ext {WZ:World} (E:g=w.heap.size) (B:zb w W) (D:zp (fun k=>g+3<=k/\k<=g+6) W WZ):zb w WZ:=
 ((zp.of_ext (X:=fun k=>g<=k) B).trans D (fun k _ h=>by omega)).below (EG _) (fun b z=>by rw [E] at z;exact z)
theorem hadd_calls (t:Int) (w:World) (hm:zw w okm v m) (hl:Lens m) (hf:zv w okf vf ps) (s9:ps.length<=20000000000000) (m0:∀x∈ps,x.length<=20000000000000):
  Calls Tryz.prog 10 #[v,vf,.int .i64 t] w (AddPost w (BW m ps t)):=by
 have HM:=zh hm;have HL:=zh hl;have HF:=zh hf;obtain ⟨Af,cf,Au,cu,At,ct,rfl,-,-,-⟩:=hm.parts;obtain ⟨vs,⟨Ap,cp,rfl,g6,-⟩,-⟩:=hf;clear hm hl;refine (callsIn_wide (n:=6)).1 ?_;refine callsIn_of_wp_marks Tryz.func10 rfl trivial ?_ rfl;simp only [Tryz.ntmps10,List.size_toArray,zab,zac,Nat.reduceAdd,Nat.reduceSub,Array.replicate_succ,Array.replicate_zero,List.push_toArray,List.append_toArray,List.nil_append,List.cons_append];refine wpIn_wide.2 ?_;go_upto_region 1 with fail;refine wp_scope_straight ?_;obtain ⟨W7,d6⟩:=zad ((((((((w.alloc (.cells #[.int .i64 m.w,.int .i64 m.h,.int .i64 m.l,.slice Af m.free.length cf,.slice Au m.up.length cu,.slice At m.tasks.length ct] 32)).alloc (.cells #[.slice Ap ps.length cp] 22)).alloc (.cells #[.int .i64 t] 3)).alloc (.cells #[.slice none 0 0] 22)).alloc (.cells #[.slice none 0 0] 23)).alloc (.cells #[.int .i64 0,.slice none 0 0,.slice none 0 0] 37)).alloc (.cells #[.int .i64 0] 38)));rw [<-d6];have l0:zb w W7:=by rw [d6];exact DO [_,_,_,_,_,_,_] w
 have U:∀(i:Nat) o,[Obj.cells #[.int .i64 m.w,.int .i64 m.h,.int .i64 m.l,.slice Af m.free.length cf,.slice Au m.up.length cu,.slice At m.tasks.length ct] 32,Obj.cells #[.slice Ap ps.length cp] 22,Obj.cells #[.int .i64 t] 3,Obj.cells #[.slice none 0 0] 22,Obj.cells #[.slice none 0 0] 23,Obj.cells #[.int .i64 0,.slice none 0 0,.slice none 0 0] 37,Obj.cells #[.int .i64 0] 38][i]?=some o->W7.heap[w.heap.size+i]?=some o:=fun i o h=>by rw [d6];exact allocs_at _ w i o h
 clear d6;obtain ⟨g,hg⟩:=zad w.heap.size;rw [<-hg] at U⊢;have HG:Hid (g=w.heap.size):=hg;have L:=zh l0;have bm:zk W7 g 32 _:=U 0 _ rfl;have r0:=zb.rule (bm.cell (k:=0) rfl);have r1:=zb.rule (bm.cell (k:=1) rfl);have r2:=zb.rule (bm.cell (k:=2) rfl);have r3:=zb.rule (bm.cell (k:=3) rfl);have r4:=zb.rule (bm.cell (k:=4) rfl);have r5:=zb.rule (bm.cell (k:=5) rfl);have rp:=zb.rule ((show zk W7 (g+1) 22 _ from U 1 _ rfl).cell (k:=0) rfl);have rt:=zb.rule ((show zk W7 (g+2) 3 _ from U 2 _ rfl).cell (k:=0) rfl);have b2:Hid (RB W7 g (.slice none 0 0) (.slice none 0 0) (.int .i64 0) (.slice none 0 0) (.slice none 0 0) (.int .i64 0)):=⟨U 3 _ rfl,U 4 _ rfl,U 5 _ rfl,U 6 _ rfl⟩;clear hg l0 U bm;simp only [Nat.add_assoc,Nat.reduceAdd];have hx:zb W7 W7:=zb.refl W7
 go_wp2_with fail
 refine (laid_calls W7 (HM.out.below L.out) HL.out (HF.out.below L.out) s9 m0).mono ?_;rintro e w8 ⟨rfl,l1⟩;clear hx;have hx:zb W7 w8:=l1;clear l1
 cases a5:By m ps with
 | false=>
  have V:Hid (BW m ps t=⟨[],[],.zero,1⟩):=by (show _=_);unfold BW;rw [a5];rfl
  clear a5;have E:=zh (b2.out.ext hx);have s3:=E.out.p.cell (k:=0) rfl;have s4:=E.out.m.cell (k:=0) rfl;have s50:=E.out.y.cell (k:=0) rfl;have s51:=E.out.y.cell (k:=1) rfl;have s52:=E.out.y.cell (k:=2) rfl;have s6:=E.out.e.cell (k:=0) rfl;have f3:=E.out.p.frozen 0;have f4:=E.out.m.frozen 0;have f5:=fun j=>E.out.y.frozen j
  have f6:=E.out.e.frozen 0
  go_wp2_with fail
  refine DG (P:=fun W=>Exit.noGoto (bodyPostM Fence.wide 6 Tryz.prog Tryz.f10 _) Exit.ret _ W) (g:=g) E.out ?_;intro WZ Q hc;have y3:=Q.p.cell (k:=0) rfl;have y4:=Q.m.cell (k:=0) rfl;have y50:=Q.y.cell (k:=0) rfl;have y51:=Q.y.cell (k:=1) rfl;have y52:=Q.y.cell (k:=2) rfl;have y6:=Q.e.cell (k:=0) rfl;refine ⟨.tuple #[.slice none 0 0,.slice none 0 0,.agg #[.int .i64 0,.slice none 0 0,.slice none 0 0],.int .i64 1],by simp [results,Tryz.results10,go_sem,y3,y4,y50,y51,y52,y6],?_⟩;rw [V.out];exact ⟨_,_,_,rfl,add_ext HG.out (L.out.trans hx) hc,CL _ _,zj.nil _ _,Dz.zero _ _⟩
 | true=>
  go_wp2_with fail
  refine (Ek t w8 (HM.out.below (L.out.trans hx)) HL.out).mono ?_;rintro e w9 ⟨rfl,l2⟩;have hx:zb W7 w9:=hx.trans l2;clear l2
  cases b9:AM m t with
  | false=>
   have V:Hid (BW m ps t=⟨[],[],.zero,1⟩):=by (show _=_);unfold BW;rw [a5,b9];rfl
   clear a5 b9;have E:=zh (b2.out.ext hx);have s3:=E.out.p.cell (k:=0) rfl;have s4:=E.out.m.cell (k:=0) rfl;have s50:=E.out.y.cell (k:=0) rfl;have s51:=E.out.y.cell (k:=1) rfl;have s52:=E.out.y.cell (k:=2) rfl;have s6:=E.out.e.cell (k:=0) rfl;have f3:=E.out.p.frozen 0;have f4:=E.out.m.frozen 0;have f5:=fun j=>E.out.y.frozen j
   have f6:=E.out.e.frozen 0
   go_wp2_with fail
   refine DG (P:=fun W=>Exit.noGoto (bodyPostM Fence.wide 6 Tryz.prog Tryz.f10 _) Exit.ret _ W) (g:=g) E.out ?_;intro WZ Q hc;have y3:=Q.p.cell (k:=0) rfl;have y4:=Q.m.cell (k:=0) rfl;have y50:=Q.y.cell (k:=0) rfl;have y51:=Q.y.cell (k:=1) rfl;have y52:=Q.y.cell (k:=2) rfl;have y6:=Q.e.cell (k:=0) rfl;refine ⟨.tuple #[.slice none 0 0,.slice none 0 0,.agg #[.int .i64 0,.slice none 0 0,.slice none 0 0],.int .i64 1],by simp [results,Tryz.results10,go_sem,y3,y4,y50,y51,y52,y6],?_⟩;rw [V.out];exact ⟨_,_,_,rfl,add_ext HG.out (L.out.trans hx) hc,CL _ _,zj.nil _ _,Dz.zero _ _⟩
  | true=>
   obtain ⟨l7,h7,-⟩:=AN.1 a5;obtain ⟨-,t2,t3⟩:=AX.1 b9;obtain ⟨tn,rfl⟩:∃tn:Nat,t=tn:=⟨t.toNat,by omega⟩;have G:=zh (zC.of l7);have t5:=G.out.tk;have x1:ps.length<=6:=by omega
   have c7:tn<ps.length:=by omega
   obtain ⟨vs,⟨A',c',e,-,i1⟩,g7⟩:=HF.out;injection e with e1 e2 e3;subst e1 e3;obtain ⟨bp,offp,up,rfl,-,e6,n7⟩:=Ai i1 g7 c7 c7;have h6:ps.getD tn []=ps[tn]:=zgd c7
   have p9:=zh i1;have p1:=zh g7;obtain ⟨q,hq⟩:=zad (ps[tn]);rw [<-hq] at n7 h6;have f7:=zh h6;obtain ⟨Aq,cq,rfl,-,-⟩:=n7;have rq:=zb.rule (L.out.cell e6);have n5:(0:Int)<=(tn:Int):=by omega
   have t4:(tn:Int)<(ps.length:Int):=by omega
   have d4:=zh a5;have f1:=zh b9;have v1:=m0;clear a5 b9 l7 h7 t2 t3 t5 i1 g7 e6 h6 hq;by_cases a7:q=[]
   ·have n1:(0:Int)<(q.length:Int)↔False:=by rw [a7];simp
    have e7:q.length=0:=by rw [a7];rfl
    have f9:Hid (ps.getD tn []=[]):=by (show _=_);rw [f7.out,a7]
    have b8:Hid (∀x∈ps,x.length<=300):=laid_lens d4.out;clear n1 a7 f7
    go_wp2_with fail
    have r6:=zh hx;have j5:=zh (Mk.nil w9);have q5:Hid (tn<ps.length):=c7;clear e7 hx c7 t4 n5;go_loopw [10,42] (fun v i wr=>∃k:Nat,k<=ps.length/\i=.int .i64 (k:Nat)/\Hid (Mk w9 wr v (Dr ps k))) (fun _ i _=>ps.length - (intOf i).toNat)
    case atStart=>exact ⟨0,EU _,rfl,j5.out⟩
    clear j5
    case round=>
     obtain ⟨k,hk,rfl,hM⟩:=hrel;obtain ⟨wk,rfl⟩:∃wk:World,wk=wr:=⟨_,rfl⟩;have hx:zb W7 wk:=r6.out.trans hM.out.ext;by_cases J:k<ps.length
     ·obtain ⟨bk,offk,uk,ebk,-,e5,n6⟩:=Ai p9.out p1.out J J;injection ebk with ebk;injection ebk with eb1 eb2;subst eb1 eb2;have h5:ps.getD k []=ps[k]:=zgd J
      obtain ⟨x,o1⟩:=zad (ps[k]);rw [<-o1] at n6 h5;have f2:=zh h5;obtain ⟨Ak,ck,rfl,-,-⟩:=n6;have rk:=zb.rule (L.out.cell e5);have w6:(k:Int)<(ps.length:Int):=by omega
      have v2:(0:Int)<=(k:Int):=by omega
      clear e5 h5 o1;have s8:=hasTo_len ps k;by_cases b6:x=[]
      ·have o0:x.length=0:=by rw [b6];rfl
       have HS:Hid (Dr ps (k+1)=Dr ps k):=hasTo_f (by rw [f2.out,b6]);clear b6
       go_wp2_with fail
       go_roundw
       case rel=>exact ⟨k+1,by omega,by go_num,by rw [HS.out];exact hM⟩
       case measure=>simp [intOf];omega
      ·have x8:(0:Int)<(x.length:Int):=by
        have:x.length≠0:=fun h=>b6 (EX h)
        omega
       have o0:0<x.length:=by omega
       have HS:Hid (Dr ps (k+1)=Dr ps k++[(k:Int)]):=hasTo_t (by rw [f2.out];exact b6);clear b6;obtain ⟨l,m6⟩:=zad (Dr ps k);rw [<-m6] at hM s8 HS;clear m6;have x7:=hM.out.ext.size
       go_wp2_with (at_builtin;refine AQ rfl _ _ rfl _ l k w9.heap.size wk.heap.size 1 _ rfl rfl (hM.out.own.alloc _) ?d1 ?d2 ?d3 ?_)
       (try case d1=>exact zr _ _ _ (by simp))
       (try case d2=>(first | (simp;done) | (simp;omega) | omega))
       (try case d3=>omega)
       intro v' wb m8 m1 s0;have r9:=zh ((hM.out.alloc _).app m8 m1);clear m8 m1 s0;go_wp2;go_roundw
       case rel=>exact ⟨k+1,by omega,by go_num,by rw [HS.out];exact r9⟩
       case measure=>simp [intOf];omega
     ·obtain rfl:k=ps.length:=by omega
      have r8:Hid (Dr ps ps.length=BX ps):=rfl;have s7:=hasTo_len ps ps.length;have hI:=hM.out.ints;have j6:Hid (zj wk (fun _=>True) u10 (BX ps)):=hI.weaken fun _ _=>trivial
      have d8:=subsets_calls wk j6.out (by rw [<-r8.out];omega);clear hI
      go_wp2_with fail
      refine wp_label ?_
      go_wp2_with fail
      refine d8.mono ?_;rintro e w0 ⟨gl,rfl,b3,m2⟩;have p2:=zh m2;have a3:Hid (zb W7 w0):=hx.trans b3;clear d8 m2 b3 hx hM j6 s7;have c9:Hid (g+6<w0.heap.size):=zd (b2.out.ext a3.out).e
      go_wp2_with fail
      refine (wpIn_wide (n:=6)).1 ?_
      refine wpIn_loopX (gf:=72) (lb:=#[.pointer (some ⟨gl,0,none⟩)]) rfl (enters_of Tryz.func72 (by kernel_rfl) rfl) (p2.out w0 (zb.refl w0) _) (zb.refl w0) (fun _=>rfl)
       (fun k W=>zb w0 W/\∀j,j<k->Dv m ps tn ((AV (BX ps)).getD j [])=none)
       (fun c W=>c=.ret/\AddX w g (w0.heap.size+1) m ps tn W)
       ?hI ?hIx ?hG ⟨zb.refl w0,fun _ h=>absurd h (by omega)⟩ ?a1 ?assign ?body ?done ?stop
      case assign=>
       intro l x W K hK
       gi_wp2
       exact hK
      case hI=>
       rintro k A B ⟨h1,h2⟩ g5;exact ⟨Below.trans h1 g5,h2⟩
      case hIx=>
       rintro c A B ⟨rfl,h⟩ g5;have h1:=(L.out.trans a3.out).size;exact ⟨rfl,h.grown g5 (by omega) (by have:=c9.out;omega)⟩
      case hG=>
       rintro k x A l h1 w7 x0 ⟨r,hr⟩ o;exact ((h1.apart hr).keep fun b M J=>World.putObj_heap_other M.2).weaken fun _ h=>h.1
      case body=>
       rintro l k x W hk ⟨b3,a0⟩ hs t1 ⟨rl,i0⟩;have i2:=hs.apart i0;obtain ⟨d8,i4⟩:=sub_set hk;obtain ⟨s,i3⟩:=zad ((AV (BX ps)).getD k []);rw [<-i3] at hs i2 d8 i4;have g0:=zh i3;have k4:=zh i4;have k1:=zh i2;have d9:=zh a0;have p3:=zh hk;have q4:Hid (w0.heap.size+1<W.heap.size):=zd i0;obtain ⟨As,cs,rfl,-,n2⟩:=hs;have q1:=zh n2;have o8:=zh b3;have hx:zb W7 W:=a3.out.trans b3;have g4:=zh hx;have g6:=copied_calls W (HF.out.below (L.out.trans hx)) (by omega) (fun x hx=>by have:=b8.out x hx;omega);clear i3 i2 i4 a0 hk t1 i0 n2 b3
       gi_wp2_with fail
       refine ⟨trivial,?_⟩;refine (CallsIn.inRound l (callsIn_wide.2 g6)).mono ?_;rintro e W1 ⟨go,rfl,k8⟩;have o6:=zh k8;clear g6 k8 hx
       gi_wp2_with fail
       gi_loopw [62] (fun i wr=>∃j:Nat,j<=s.length/\i=.int .i64 j/\Hid (CP W wr go (Cn ps (s.take j)))) (fun i _=>s.length - (intOf i).toNat)
       case atStart=>exact ⟨0,EU _,rfl,o6.out⟩
       case round=>
        obtain ⟨j,hj,rfl,hC⟩:=hrel;obtain ⟨wj,rfl⟩:∃wj:World,wj=wr:=⟨_,rfl⟩;by_cases J:j<s.length
        ·obtain ⟨bs,offs,rfl,-,c0⟩:=zy q1.out J J;obtain ⟨i,hi,g9⟩:=k4.out _ (EH J);have c4:=clearP_take (ps:=ps) J;rw [hi] at c0;rw [hi,Fy] at c4;have j2:=zh c4;have v8:wj.cell? ⟨bs,offs+j,none⟩=some (.int .i64 i):=hC.out.ext.cell c0;have s5:(j:Int)<(s.length:Int):=by omega
         have m5:(0:Int)<=(j:Int):=by omega
         have s2:(i:Int)<(ps.length:Int):=by omega
         have m4:(0:Int)<=(i:Int):=by omega
         obtain ⟨uo,l8,l9,-⟩:=hC.out.at_ (k:=i) (by rw [clearP_len];exact g9)
         have e8:Hid (CP W (wj.setCell ⟨go,i,none⟩ (.slice none 0 0)) go (Cn ps (s.take (j+1)))):=by
          (show CP _ _ _ _)
          rw [j2.out];exact hC.out.set i (zj.nil _ _)
         clear c4 hi c0
         gi_wp2_with fail
         go_roundw
         case rel=>exact ⟨j+1,by omega,by go_num,e8.out⟩
         case measure=>simp [intOf];omega
        ·obtain rfl:j=s.length:=by omega
         have b1:Hid (CP W wj go (Cn ps s)):=by have:=hC.out;rwa [ER] at this
         have j1:Hid (∀x∈Cn ps s,x.length<=300):=clear_lens s b8.out;clear hC;have t6:zb W7 wj:=g4.out.trans b1.out.ext;have n4:zj wj (fun _=>True) (.slice As s.length cs) s:=k1.out.below b1.out.ext |>.weaken fun _ _=>trivial
         have k3:=zh n4;have hO:=ownOne wj wj.heap.size 3 (.int .i64 tn) (EG _);have HO:=zh hO;have j4:Hid (go<wj.heap.size/\W.heap.size<=go):=⟨b1.out.lt,b1.out.lo⟩;clear n4 hO
         gi_wp2_with (gi_at_builtin;refine EB (ok:=fun _=>True) rfl _ _ _ eInt rfl wj.heap.size 1 s.length [.int .i64 tn] (s.map (Value.int .i64)) _ _ rfl rfl HO.out (k3.out.below ((zb.refl wj).alloc _)) (fun u hu=>by obtain ⟨z,-,rfl⟩:=FH.1 hu;rfl) (by simp) (by unfold maxLen;omega) (by omega) ?_)
         intro vt w2 ho hg hv;have a4:zb wj w2:=((zp.of_ext (X:=fun k=>wj.heap.size<=k) ((zb.refl wj).alloc _)).grown hg (fun k hk _=>by have h:some wj.heap.size=some k:=hk;injection h with h;omega)).below (EG _) (fun b M=>M);obtain ⟨T,hT⟩:∃T:List Int,T=(tn:Int) :: s:=⟨_,rfl⟩
         have l4:zj w2 (fun b=>wj.heap.size<=b) vt T:=by
          have h:=AI.of_own ho;rw [hT];unfold zj;rw [zab,Nat.add_comm];exact h
         have v6:=zh l4
         have q6:Hid (∀x∈T,∃i:Nat,x=(i:Int)/\i<ps.length):=fun x hx=>by
          rw [hT] at hx;rcases Fw.1 hx with rfl | hx
          ·exact ⟨tn,rfl,q5.out⟩
          ·exact k4.out x hx
         have j9:Hid (Dv m ps tn s=pushL m (T.drop 0) (Cn ps s)):=by (show _=_);rw [hT];rfl
         have l5:T.length=s.length+1:=by rw [hT];rfl
         have i9:=zh (b1.out.more a4);have j7:Hid ((Cn ps s).length=ps.length):=clearP_len s ps;obtain ⟨AT,cT,rfl,-,n3⟩:=l4;have q2:=zh n3;have j2:=zh l5;have v7:T.length<=7:=by omega
         clear ho hg hv hT l5 n3 t6 b1 k3 HO;have o9:=zh a4;clear a4
         gi_wp2_with fail
         gi_loopw [75] (fun i wr=>∃(j:Nat) (o:List (List Int)),j<=T.length/\i=.int .i64 j/\Hid (CP W wr go o)/\Hid (o.length=ps.length)/\Hid (∀x∈o,x.length<=300)/\Hid (Dv m ps tn s=pushL m (T.drop j) o)/\Hid (zp (fun b=>b=go) w2 wr)) (fun i _=>T.length - (intOf i).toNat)
         case atStart=>exact ⟨0,_,EU _,rfl,i9.out,j7.out,j1.out,j9.out,zp.refl _ _⟩
         clear i9 j7 j1 j9
         case round=>
          obtain ⟨j,o,hj,rfl,hC,a6,m9,h9,d7⟩:=hrel;obtain ⟨wq,rfl⟩:∃wq:World,wq=wr:=⟨_,rfl⟩;have hx:zb W7 wq:=g4.out.trans hC.out.ext;by_cases b0:j<T.length
          ·obtain ⟨bt,offt,rfl,s1,c6⟩:=zy q2.out b0 b0;obtain ⟨i,hi,g9⟩:=q6.out _ (EH b0);have k5:Hid (T.drop j=(i:Int) :: T.drop (j+1)):=by (show _=_);rw [List.drop_eq_getElem_cons b0,hi]
           rw [hi] at c6;have c4:wq.cell? ⟨bt,offt+j,none⟩=some (.int .i64 i):=d7.out.cellk c6 (by have h1:=j4.out;show ¬ (bt=go);omega);have s5:(j:Int)<(T.length:Int):=by omega
           have m5:(0:Int)<=(j:Int):=by omega
           have s2:(i:Int)<(ps.length:Int):=by omega
           have m4:(0:Int)<=(i:Int):=by omega
           have j8:Hid (Calls Tryz.prog 18 #[.agg #[.int .i64 m.w,.int .i64 m.h,.int .i64 m.l,.slice Af m.free.length cf,.slice Au m.up.length cu,.slice At m.tasks.length ct],.int .i64 i,.slice (some ⟨go,0,none⟩) ps.length ps.length] wq fun e w'=>∃v',e=.returned (.tuple #[v',.bool (BM m i o).isSome])/\Mk wq w' v' ((BM m i o).getD [])):=by
            (show Calls _ _ _ _ _)
            have h:=hC.out.intss ps.length (by rw [a6.out];exact EG _);rw [a6.out] at h;exact path_calls i wq (HM.out.below (L.out.trans hx)) HL.out h (by have:=a6.out;omega) (fun x hx=>by have:=m9.out x hx;omega)
           clear c6 hi s1
           gi_wp2_with fail
           refine ⟨trivial,?_⟩;refine (CallsIn.inRound l (callsIn_wide.2 j8.out)).mono ?_;rintro e w5 ⟨v5,rfl,d5⟩;have k7:Hid (zb wq w5):=d5.ext;have e9:=zh d5.ints;obtain ⟨A5,c5,rfl,-⟩:=d5.slice;have c8:=zh (hC.out.more k7.out);have e0:Hid (zp (fun b=>b=go) w2 w5):=d7.out.trans (zp.of_ext (X:=fun b=>b=go) k7.out) (fun _ _ h=>h);obtain ⟨po,h8⟩:=zad (BM m i o);rw [<-h8] at e9⊢;have f8:=zh h8;have q9:Hid (w2.heap.size<=wq.heap.size):=d7.out.size;clear d5 j8 h8 d7 hC c4
           cases po with
           | none=>
            have p5:Hid (Dv m ps tn s=none):=by
             (show _=_)
             rw [h9.out,k5.out];unfold pushL;rw [<-f8.out]
            simp only [Option.isSome_none,Option.getD_none,zac]
            gi_wp2_with fail
            refine ⟨c8.out.ext,o8.out.trans c8.out.ext,fun j' w4=>?_⟩;rcases Fc j' k with h | h
            ·exact d9.out j' h
            ·obtain rfl:j'=k:=by omega
             rw [<-g0.out];exact p5.out
           | some p=>
            have p7:Hid (p.length<=300):=path_len f8.out.symm;simp only [Option.isSome_some,Fl] at e9⊢;obtain ⟨uo,l8,l9,-⟩:=c8.out.at_ (k:=i) (by rw [a6.out];exact g9);have e8:Hid (CP W (w5.setCell ⟨go,i,none⟩ (.slice A5 p.length c5)) go (o.set i p)):=c8.out.set i (e9.out.weaken fun b M=>by have h1:=j4.out;have h2:=e0.out.size;have h3:=o9.out.size;have h4:=q9.out;omega);have j0:Hid (zp (fun b=>b=go) w2 (w5.setCell ⟨go,i,none⟩ (.slice A5 p.length c5))):=e0.out.set go i _ rfl
            have p8:Hid (Dv m ps tn s=pushL m (T.drop (j+1)) (o.set i p)):=by
             (show _=_)
             rw [h9.out,k5.out]
             conv=>lhs;unfold pushL
             rw [<-f8.out];simp
            gi_wp2_with fail
            go_roundw
            case rel=>exact ⟨j+1,o.set i p,by omega,by go_num,e8.out,by rw [List.length_set];exact a6.out,set_lens m9.out i p7.out,p8.out,j0.out⟩
            case measure=>simp [intOf];omega
          ·obtain rfl:j=T.length:=by omega
           have q3:Hid (Dv m ps tn s=some o):=by
            (show _=_)
            rw [h9.out,FJ];rfl
           have b7:Hid (BW m ps tn=⟨o,s,.zero,0⟩):=by
            (show _=_)
            rw [addP_found d4.out f1.out f9.out p3.out d9.out (by rw [<-g0.out];exact q3.out),<-g0.out]
           have I:=zh (b2.out.ext hx);have g3:=zh hx;clear hx;have s3:=I.out.p.cell (k:=0) rfl;have s4:=I.out.m.cell (k:=0) rfl;have s50:=I.out.y.cell (k:=0) rfl;have s51:=I.out.y.cell (k:=1) rfl;have s52:=I.out.y.cell (k:=2) rfl;have s6:=I.out.e.cell (k:=0) rfl;have f3:=I.out.p.frozen 0;have f4:=I.out.m.frozen 0;have f5:=fun j=>I.out.y.frozen j
           have f6:=I.out.e.frozen 0
           gi_wp2_with fail
           refine DG (P:=fun W'=>postB _ _ _ _ W Exit.ret _ W') (g:=g) I.out ?_;intro WZ Q hc;have m3:=c9.out;have x6:=q4.out;refine ⟨fun b h1 h2=>(hc.block b (Fh h2 hC.out.ext.size) (by omega)).trans (hC.out.ext.block b h2),rfl,add_ext HG.out (L.out.trans g3.out) hc,_,_,o,s,b7.out,Q,?_,?_⟩
           ·have h:=hC.out.intssLo ps.length (by rw [a6.out];exact EG _);rw [a6.out] at h;exact (h.keep fun b M J=>hc.block b J (by omega)).weaken fun b M=>by have h1:=(L.out.trans g4.out).size;omega
           ·exact ((k1.out.below hC.out.ext).keep fun b M J=>hc.block b J (by omega)).weaken fun b M=>⟨by have h1:=(L.out.trans a3.out).size;omega,M.2⟩
      case done=>
       rintro D Wd hD ⟨hE,a0⟩ hK;have b7:Hid (BW m ps tn=AD m ps tn):=addP_search d4.out f1.out f9.out a0;have hx:zb W7 Wd:=a3.out.trans hE;have q8:Hid (w0.heap.size<=Wd.heap.size/\w.heap.size<=Wd.heap.size):=⟨hE.size,(L.out.trans hx).size⟩;have k2:=zh (searched_calls tn Wd (HM.out.below (L.out.trans hx)) HL.out (HF.out.below (L.out.trans hx)) (fun x hx=>by have:=b8.out x hx;omega) d4.out f1.out f9.out);have f2:=zh hK;have o7:Hid (w0.heap.size<=D):=hD;have g3:=zh hx;clear a0 hE hD
       go_wp2_with fail
       refine k2.out.mono ?_;rintro e W2 ⟨vp,vm,vw,rfl,a4,n0,m7,i5⟩;have p6:=zh n0;have p4:=zh m7;have q7:=zh i5;have k6:=zh (g3.out.trans a4);have f0:Hid (W2.heap[D]?=some (.deferred (some []))):=(a4.block D (zd hK)).trans hK;obtain ⟨_,⟨Avp,cvp,rfl,-,-⟩,-⟩:=n0;obtain ⟨Avm,cvm,rfl,-,-⟩:=m7;obtain ⟨Aw,cw,Akw,ckw,rfl,-⟩:=i5.form;have I:=zh (b2.out.ext k6.out);clear a4 i5 hK hx k2;have s3:=I.out.p.cell (k:=0) rfl;have s4:=I.out.m.cell (k:=0) rfl;have s50:=I.out.y.cell (k:=0) rfl;have s51:=I.out.y.cell (k:=1) rfl;have s52:=I.out.y.cell (k:=2) rfl;have s6:=I.out.e.cell (k:=0) rfl;have f3:=I.out.p.frozen 0;have f4:=I.out.m.frozen 0;have f5:=fun j=>I.out.y.frozen j
       have f6:=I.out.e.frozen 0
       go_wp2_with fail
       refine DG (P:=fun W'=>Exit.noGoto (bodyPostM Fence.wide 6 Tryz.prog Tryz.f10 _) Exit.ret _ W') (g:=g) I.out ?_;intro W O hc;have m3:=c9.out;have v9:=o7.out;have hK:W.heap[D]?=some (.deferred (some [])):=(hc.block D (zd f0.out) (by omega)).trans f0.out;refine ⟨by simp,.inl ⟨_,_,rfl,run_takeDeferred hK,?_⟩⟩;have b5:∀off,W2.cell? ⟨D,off,none⟩=none:=fun off=>by unfold World.cell?;simp only [f0.out]
       have hS:∀b,b≠D->(W.putObj D (.deferred none)).heap[b]?=W.heap[b]?:=fun b M=>World.putObj_heap_other M
       have y3:=(show zk (W.putObj D (.deferred none)) (g+3) _ _ from (hS _ (by omega)).trans O.p).cell (k:=0) rfl;have y4:=(show zk (W.putObj D (.deferred none)) (g+4) _ _ from (hS _ (by omega)).trans O.m).cell (k:=0) rfl;have y50:=(show zk (W.putObj D (.deferred none)) (g+5) _ _ from (hS _ (by omega)).trans O.y).cell (k:=0) rfl;have y51:=(show zk (W.putObj D (.deferred none)) (g+5) _ _ from (hS _ (by omega)).trans O.y).cell (k:=1) rfl;have y52:=(show zk (W.putObj D (.deferred none)) (g+5) _ _ from (hS _ (by omega)).trans O.y).cell (k:=2) rfl;have y6:=(show zk (W.putObj D (.deferred none)) (g+6) _ _ from (hS _ (by omega)).trans O.e).cell (k:=0) rfl;refine ⟨.tuple #[.slice Avp (AD m ps tn).ps.length cvp,.slice Avm (AD m ps tn).mv.length cvm,.agg #[.int .i64 (AD m ps tn).why.task,.slice Aw (AD m ps tn).why.side.length cw,.slice Akw (AD m ps tn).why.kids.length ckw],.int .i64 (AD m ps tn).err],by simp [results,Tryz.results10,go_sem,y3,y4,y50,y51,y52,y6],?_⟩;rw [b7.out];have x5:=q8.out;have hq:∀b,Wd.heap.size<=b/\b≠D->b<W2.heap.size->(W.putObj D (.deferred none)).heap[b]?=W2.heap[b]?:=fun b M J=>(hS b M.2).trans (hc.block b J (by omega))
       refine ⟨_,_,_,rfl,?_,?_,?_,?_⟩
       ·exact Below.trans (add_ext HG.out (L.out.trans k6.out) hc) (belowK_b (w:=w) (EG _) _ D _ _ (by have:=(L.out.trans a3.out).size;omega) hK rfl rfl)
       ·exact ((p6.out.apartO b5).keep fun b M J=>hq b M J).weaken fun b M=>by omega
       ·exact ((p4.out.apartO b5).keep fun b M J=>hq b M J).weaken fun b M=>by omega
       ·exact (q7.out.apartO b5).keepW (fun b M J=>hq b M J) fun b M=>by omega
      case stop=>
       rintro D c W hD ⟨rfl,⟨hE,vo,vs',o,s,l6,O,n8,n9⟩⟩ hK
       gi_wp2
       refine ⟨by simp,.inl ⟨_,_,rfl,run_takeDeferred hK,?_⟩⟩;have b5:∀off,W.cell? ⟨D,off,none⟩=none:=fun off=>by unfold World.cell?;simp only [hK]
       have m3:=c9.out;have hS:∀b,b≠D->(W.putObj D (.deferred none)).heap[b]?=W.heap[b]?:=fun b M=>World.putObj_heap_other M
       have y3:=(show zk (W.putObj D (.deferred none)) (g+3) _ _ from (hS _ (by omega)).trans O.p).cell (k:=0) rfl;have y4:=(show zk (W.putObj D (.deferred none)) (g+4) _ _ from (hS _ (by omega)).trans O.m).cell (k:=0) rfl;have y50:=(show zk (W.putObj D (.deferred none)) (g+5) _ _ from (hS _ (by omega)).trans O.y).cell (k:=0) rfl;have y51:=(show zk (W.putObj D (.deferred none)) (g+5) _ _ from (hS _ (by omega)).trans O.y).cell (k:=1) rfl;have y52:=(show zk (W.putObj D (.deferred none)) (g+5) _ _ from (hS _ (by omega)).trans O.y).cell (k:=2) rfl;have y6:=(show zk (W.putObj D (.deferred none)) (g+6) _ _ from (hS _ (by omega)).trans O.e).cell (k:=0) rfl;obtain ⟨_,⟨Avp,cvp,rfl,-,-⟩,-⟩:=id n8;obtain ⟨Avm,cvm,rfl,-,-⟩:=id n9;refine ⟨.tuple #[.slice Avp o.length cvp,.slice Avm s.length cvm,.agg #[.int .i64 0,.slice none 0 0,.slice none 0 0],.int .i64 0],by simp [results,Tryz.results10,go_sem,y3,y4,y50,y51,y52,y6],?_⟩;rw [l6];refine ⟨_,_,_,rfl,?_,?_,?_,Dz.zero _ _⟩
       ·exact Below.trans hE (belowK_b (w:=w) (EG _) _ D _ _ (by have:=(L.out.trans a3.out).size;omega) hK rfl rfl)
       ·exact ((n8.apartO b5).keep fun b M _=>hS b M.2).weaken fun _ h=>h.1.1
       ·exact ((n9.apartO b5).keep fun b M _=>hS b M.2).weaken fun _ h=>h.1.1
   ·have n1:(0:Int)<(q.length:Int):=by
     have:q.length≠0:=fun h=>a7 (EX h)
     omega
    have e7:0<q.length:=by omega
    have V:Hid (BW m ps (tn:Int)=⟨[],[],.zero,1⟩):=by
     (show _=_)
     unfold BW;rw [Fy,f7.out,EK a7,Bool.and_false,Bool.and_false];rfl
    clear a7;have E:=zh (b2.out.ext hx);have s3:=E.out.p.cell (k:=0) rfl;have s4:=E.out.m.cell (k:=0) rfl;have s50:=E.out.y.cell (k:=0) rfl;have s51:=E.out.y.cell (k:=1) rfl;have s52:=E.out.y.cell (k:=2) rfl;have s6:=E.out.e.cell (k:=0) rfl;have f3:=E.out.p.frozen 0;have f4:=E.out.m.frozen 0;have f5:=fun j=>E.out.y.frozen j
    have f6:=E.out.e.frozen 0
    go_wp2_with fail
    refine DG (P:=fun W=>Exit.noGoto (bodyPostM Fence.wide 6 Tryz.prog Tryz.f10 _) Exit.ret _ W) (g:=g) E.out ?_;intro WZ Q hc;have y3:=Q.p.cell (k:=0) rfl;have y4:=Q.m.cell (k:=0) rfl;have y50:=Q.y.cell (k:=0) rfl;have y51:=Q.y.cell (k:=1) rfl;have y52:=Q.y.cell (k:=2) rfl;have y6:=Q.e.cell (k:=0) rfl;refine ⟨.tuple #[.slice none 0 0,.slice none 0 0,.agg #[.int .i64 0,.slice none 0 0,.slice none 0 0],.int .i64 1],by simp [results,Tryz.results10,go_sem,y3,y4,y50,y51,y52,y6],?_⟩;rw [V.out];exact ⟨_,_,_,rfl,add_ext HG.out (L.out.trans hx) hc,CL _ _,zj.nil _ _,Dz.zero _ _⟩
end
section
open Go.RowKit
attribute [local go_sem ↓] Go.wp_at_zero Go.wp_at_succ
theorem Ej {okw okq:Nat->Prop} {vw vq:Value} {want:List (List Int)} {mv:List Int} (t:Int) (w:World) (hm:zw w okm v m) (hl:Lens m) (hf:zv w okf vf ps) (b0:ps.length<=20000000000000) (a9:∀x∈ps,x.length<=20000000000000) (hw:zv w okw vw want) (b7:want.length<=20000000000000) (b8:∀x∈want,x.length<=20000000000000) (hq:zj w okq vq mv) (b4:mv.length<=20000000000000) (U:(BW m ps t).ps.length<=20000000000000) (a0:∀x∈(BW m ps t).ps,x.length<=20000000000000) (V:(BW m ps t).mv.length<=20000000000000):
  Calls Tryz.prog 34 #[v,vf,.int .i64 t,vw,vq] w fun e w'=>e=.returned (.bool (decide ((BW m ps t).err=0) && (decide ((BW m ps t).ps=want) && decide ((BW m ps t).mv=mv))))/\zb w w':=by
 have HM:=zh hm;have HF:=zh hf;have a7:=zh hw;have HQ:=zh hq
 go_enter Tryz.func34,Tryz.ntmps34
 obtain ⟨r,hr⟩:=zad (BW m ps t);rw [<-hr] at U a0 V⊢;obtain ⟨b1,E⟩:∃b,b=decide (r.ps=want):=⟨_,rfl⟩;obtain ⟨b2,G⟩:∃b,b=decide (r.mv=mv):=⟨_,rfl⟩;rw [<-E,<-G];have a3:Hid (b1=decide (r.ps=want)):=E;have a4:Hid (b2=decide (r.mv=mv)):=G;clear E G;have HR:=zh hr;clear hr
 have T:Hid (∀W,zb w W->Calls Tryz.prog 10 #[v,vf,.int .i64 t] W (AddPost W r)):=fun W hE=>by
  have h:=hadd_calls t W (hm.below hE) hl (hf.below hE) b0 a9;rw [<-HR.out] at h;exact h
 obtain ⟨Am,cm,Au,cu,At,ct,rfl,-,-,-⟩:=hm.parts;obtain ⟨_,⟨Ap,cp,rfl,-,-⟩,-⟩:=id hf;obtain ⟨_,⟨Aw,cw,rfl,-,-⟩,-⟩:=id hw;obtain ⟨Aq,cq,rfl,-,-⟩:=id hq;clear hm hf hw hq
 go_wp2_with fail
 refine (T.out _ ((zb.refl w).alloc _)).mono ?_;rintro e w2 ⟨vp,vmm,vy,rfl,O,J,I,a1⟩;obtain ⟨As,cs,Ak,ck,rfl,-⟩:=a1.form;have Q:zb w w2:=((zb.refl w).alloc _).trans O;have a6:=zh J;have a5:=zh I;have z:=zh Q;obtain ⟨_,⟨Bp,dp,rfl,-,-⟩,-⟩:=id J;obtain ⟨Bm,dm,rfl,-,-⟩:=id I;clear J I a1 O Q;have D:∀o,zb w2 (w2.alloc o):=fun o=>(zb.refl w2).alloc o
 by_cases h0:r.err=0
 ·rw [h0]
  go_wp2_with fail
  refine (samePaths_calls _ (a6.out.below (D _)) (a7.out.below (z.out.trans (D _))) U b7 a0 b8).mono ?_;rw [<-a3.out];rintro e w3 ⟨rfl,L⟩;have B:zb w2 w3:=(D _).trans (L.below _);clear L;cases b1
  ·go_wp2;refine FC (v:=.bool false) (by simp [results,Tryz.results34,go_sem]) rfl ?_;exact ⟨by simp,z.out.trans B⟩
  ·go_wp2_with fail
   refine (Ea _ (a5.out.below B) (HQ.out.below (z.out.trans B)) V b4).mono ?_;rw [<-a4.out];rintro e w4 ⟨rfl,M⟩;have a8:zb w2 w4:=B.trans (M.below _);clear M B;go_wp2;refine FC (v:=.bool b2) (by simp [results,Tryz.results34,go_sem]) rfl ?_;exact ⟨by simp [h0],z.out.trans a8⟩
 ·have c5:decide (r.err=0)=false:=by simp [h0]
  go_wp2;refine FC (v:=.bool false) (by simp [results,Tryz.results34,go_sem]) rfl ?_;exact ⟨by simp [h0],z.out.trans (D _)⟩
end
end Go.Proofs.YthbjngbhbbkkgaaGreat
