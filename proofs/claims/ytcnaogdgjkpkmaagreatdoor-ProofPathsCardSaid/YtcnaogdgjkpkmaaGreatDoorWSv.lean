import Derived.Test.YtcnaogdgjkpkmaaGreatDoorWSu
import Derived.Deep.CutBlock
set_option linter.unusedVariables false
set_option linter.unusedSimpArgs false
set_option maxRecDepth 100000
set_option maxHeartbeats 16000000
namespace Go.Proofs.YtcnaogdgjkpkmaaGreatDoor
variable {ch s:List Int} {m:MZ} {k:Nat}
section
open Go.RowKit
attribute [local go_sem ↓] Go.wp_at_zero Go.wp_at_succ
theorem odd29_calls:∀(N:Nat) (w:World) (ok:Nat->Prop) (v:Value) (p:PT) (c:Nat) (q0 q1 q2:Int),Ay w ok v p->p.LenN c->c<=1000000000000->p.size<=N->
  Calls Tryz.prog 10 #[v,.agg #[.int .i64 q0,.int .i64 q1,.int .i64 q2]] w (OddR w ok c p)
 | 0,w,ok,v,.node t s ks,c,q0,q1,q2,h,hL,hc,hN=>by unfold PT.size at hN;omega
 | N+1,w,ok,v,.node t s ks,c,q0,q1,q2,h,hL,hc,hN=>by
  have IH:=zh (odd29_calls N)
  cases h.bound with
  | mk hs U he=>
   rename_i vs vk cs
   have HS:=zh hs;have HL:=zh hL
   have h8:Hid (∀k∈ks,k.size<=N/\k.LenN c):=fun k U=>by
    unfold PT.LenN at hL;unfold PT.size at hN;have:=size_mem29 k U;exact ⟨by omega,lenNL_mem hL.2.2 k U⟩
   have l0:s.length<=1000000000000/\ks.length<=1000000000000:=by unfold PT.LenN at hL;omega
   obtain ⟨As,cs',rfl,-,-⟩:=hs;obtain ⟨Ak,ck,rfl,i8,g4⟩:=U;have h4:=zh (show An w (fun b=>ok b/\b<w.heap.size) 3 (.slice Ak ks.length ck) ks.length cs from ⟨Ak,ck,rfl,i8,g4⟩);have d5:=zh he;obtain ⟨j1,j2⟩:=l0;have f6:cs.length=ks.length*3:=g4.1;have g7:=zh f6;clear h hL hN g4 he f6
   go_enter Tryz.func10,Tryz.ntmps10
   go_upto_region 1 with fail;refine fin_wp29 w [_,_,_] fun w1 a6 hB=>?_
   have a7:zj w1 w.heap.size 27 #[.int .i64 t,.slice As s.length cs',.slice Ak ks.length ck]:=hB 0 _ rfl;have a8:zj w1 (w.heap.size+1) 23 #[.int .i64 q0,.int .i64 q1,.int .i64 q2]:=hB 1 _ rfl;have b8:zj w1 (w.heap.size+2) 27 #[.int .i64 0,.slice none 0 0,.slice none 0 0]:=hB 2 _ rfl;have b5:=zb b8;obtain ⟨b4,g0⟩:∃b,b=w.heap.size+2:=⟨_,rfl⟩;obtain ⟨b3,f9⟩:∃b,b=w.heap.size+1:=⟨_,rfl⟩;obtain ⟨b2,f8⟩:∃b,b=w.heap.size:=⟨_,rfl⟩;rw [<-f8] at a7;rw [<-f9] at a8;rw [<-g0] at b8 b5;rw [<-g0,<-f9,<-f8];have g8:=zh a6;have d7:Hid (w.heap.size<=b4/\b4<w1.heap.size):=⟨by omega,b5⟩;have HZ:=zh b8;have p0:=zc.rule (a7.cell (k:=0) rfl);have p1:=zc.rule (a7.cell (k:=1) rfl);have p2:=zc.rule (a7.cell (k:=2) rfl);have i0:∀W,zc w1 W->W.cell? ⟨b3,0,none⟩=some (.int .i64 q0):=zc.rule (a8.cell (k:=0) rfl);have i1:∀W,zc w1 W->W.cell? ⟨b3,1,none⟩=some (.int .i64 q1):=zc.rule (a8.cell (k:=1) rfl);have i2:∀W,zc w1 W->W.cell? ⟨b3,2,none⟩=some (.int .i64 q2):=zc.rule (a8.cell (k:=2) rfl);have h5:Hid (zn w1 (fun b=>ok b/\b<w.heap.size) (.slice As s.length cs') s):=HS.out.below a6;have g9:Hid (An w1 (fun b=>ok b/\b<w.heap.size) 3 (.slice Ak ks.length ck) ks.length cs):=An.below h4.out a6;have h3:Hid (∀(i:Nat) (hi:i<ks.length),Ay w1 (fun b=>ok b/\b<w.heap.size) (.agg #[cs.getD (i*3) undef,cs.getD (i*3+1) undef,cs.getD (i*3+2) undef]) ks[i]):=fun i hi=>(d5.out i hi).ext a6
   have c0:Hid (∀u∈cs,u.oneCell'=true):=prv_ones g7.out d5.out;have l1:zc w1 w1:=zc.refl w1;clear a6 hB a7 a8 b8 b5 g0 f9 f8 HS h4 d5 i8;refine DT (S:=(fun _=>True)) (by kernel_rfl) (trivial) fun zH=>?_;refine Bi [0,1,2,3,4,5,6,7,8,9,10,11,12] (fun e v W=>JB (VQ w1.heap.size b2 t (.slice As s.length cs') (.slice Ak ks.length ck) s ks.length cs) DQ w1 [0,1,2,3,4,5,6,7,8,9,10,11] 12 XQ (fun v W=>∃g vS vK,OQ w1 W (fun b=>ok b/\b<w.heap.size) g t s ks cs vS vK/\v 11=.pointer (some ⟨g,0,none⟩)) e v W) (F:=?F37) (by kernel_rfl) (by kernel_rfl) (by decide) zH (fun v=>?hF37) ?init37 (by kernel_rfl) ?steps37 ?fin37
   case hF37=>(simp only [zE,Bt,List.getElem?_toArray,List.getElem?_cons_succ,List.getElem?_cons_zero,Option.bind,Act.put,List.setIfInBounds_toArray,List.set_cons_succ,List.set_cons_zero];rfl)
   case init37=>(intro e v he;exact JB.init (zc.refl w1).drew (fun j hj=>he j (by simp at hj⊢;omega)) (fun h=>by rw [he 11 (by simp)] at h;cases h))
   case steps37=>
    refine zi.cons rfl (fun e v W K o hW he L G=>?_) ?_
    ·simp only [za] at L G⊢;have E:=o.notS (j:=0) (by simp) he;have I:zc w1 W:=o.g E;go_simp;exact G.out _ _ _ (by rfl) trivial (o.step (j:=0) (by simp) he VQ.st (by decide) (by simp [DQ]) (zc.refl _) rfl ((o.x E).other (by simp)))
    refine zi.cons rfl (fun e v W K o hW he L G=>?_) ?_
    ·simp only [za] at L G⊢;have E:=o.notS (j:=1) (by simp) he;have I:zc w1 W:=o.g E;have B:=zo L [0] (by kernel_rfl);have v0:v 0=.pointer (some ⟨b2,0,none⟩):=o.gv E 0 (by simp) (B 0 (by simp));go_simp;exact G.out _ _ _ (by simp [Act.put,v0]) trivial (o.step (j:=1) (by simp) he VQ.st (by decide) (fun d M=>⟨by simp [DQ] at M⊢;omega,B d (by simp [DQ] at M⊢;omega)⟩) (zc.refl _) rfl ((o.x E).other (by simp)))
    refine zi.cons rfl (fun e v W K o hW he L G=>?_) ?_
    ·simp only [za] at L G⊢;have E:=o.notS (j:=2) (by simp) he;have I:zc w1 W:=o.g E;go_simp;exact G.out _ _ _ (by rfl) trivial (o.step (j:=2) (by simp) he VQ.st (by decide) (by simp [DQ]) ((zc.refl W).alloc _) ⟨_,rfl,own_emptyT W _ 3 _ I.size⟩ ((o.x E).other (by simp)))
    refine zi.cons rfl (fun e v W K o hW he L G=>?_) ?_
    ·simp only [za] at L G⊢;have E:=o.notS (j:=3) (by simp) he;have I:zc w1 W:=o.g E;go_simp;exact G.out _ _ _ (by rfl) trivial (o.step (j:=3) (by simp) he VQ.st (by decide) (by simp [DQ]) (zc.refl _) rfl ((o.x E).other (by simp)))
    refine zi.cons rfl (fun e v W K o hW he L G=>?_) ?_
    ·simp only [za] at L G⊢;have E:=o.notS (j:=4) (by simp) he;have I:zc w1 W:=o.g E;have B:=zo L [3] (by kernel_rfl);have v3:v 3=.pointer (some ⟨b2,1,none⟩):=o.gv E 3 (by simp) (B 3 (by simp));go_simp;exact G.out _ _ _ (by simp [Act.put,v3]) trivial (o.step (j:=4) (by simp) he VQ.st (by decide) (fun d M=>⟨by simp [DQ] at M⊢;omega,B d (by simp [DQ] at M⊢;omega)⟩) (zc.refl _) rfl ((o.x E).other (by simp)))
    refine zi.cons rfl (fun e v W K o hW he L G=>?_) ?_
    ·simp only [za] at L G⊢;have E:=o.notS (j:=5) (by simp) he;have I:zc w1 W:=o.g E;have B:=zo L [2,4] (by kernel_rfl);obtain ⟨gg,v2,o2⟩:=(show ∃g,v 2=.slice (some ⟨g,0,none⟩) 0 0/\W.ownsRow w1.heap.size 3 1 (v 2) 0 [] from o.gv E 2 (by simp) (B 2 (by simp)));have v4:v 4=.slice As s.length cs':=o.gv E 4 (by simp) (B 4 (by simp));rw [if_pos (by simp [Region.wanted])];refine Dj (ok:=fun b=>ok b/\b<w.heap.size) W (.tmp 9) (.tmp 11) eInt rfl w1.heap.size s.length gg (s.map (Value.int .i64)) (v 2) (v 4) rfl v2 rfl o2 (by rw [v4];exact zn.below h5.out I) intsOne29 I.size (by unfold maxLen;omega) (by omega) ?_;intro x w' ho hE j3;exact G.out _ _ _ (by simp [Act.put]) trivial (o.step (j:=5) (by simp) he VQ.st (by decide) (fun d M=>⟨by simp [DQ] at M⊢;omega,B d (by simp [DQ] at M⊢;omega)⟩) hE ho ((o.x E).other (by simp)))
    refine zi.cons rfl (fun e v W K o hW he L G=>?_) ?_
    ·simp only [za] at L G⊢;have E:=o.notS (j:=6) (by simp) he;have I:zc w1 W:=o.g E
     have J:e 11=true->∀g,pbk (v 11)=some g->g<W.heap.size:=fun h g Q=>by
      obtain ⟨g',e',-,hb⟩:=(show ∃g,v 11=.pointer (some ⟨g,0,none⟩)/\w1.heap.size<=g/\zj W g 27 #[.int .i64 0,.slice none 0 0,.slice none 0 0] from o.gv E 11 (by simp) h);rw [e'] at Q;injection Q with Q;subst Q;exact zb hb
     go_simp;exact G.out _ _ _ (by rfl) trivial (o.step (j:=6) (by simp) he VQ.st (by decide) (by simp [DQ]) ((zc.refl W).alloc _) ⟨_,rfl,own_emptyT W _ 27 _ I.size⟩ ((o.x E).kid (by simp) fun h g Q=>by have:=J h g Q;simp [obk,Value.ownBlock];omega))
    refine zi.cons rfl (fun e v W K o hW he L G=>?_) ?_
    ·simp only [za] at L G⊢;have E:=o.notS (j:=7) (by simp) he;have I:zc w1 W:=o.g E;go_simp;exact G.out _ _ _ (by rfl) trivial (o.step (j:=7) (by simp) he VQ.st (by decide) (by simp [DQ]) (zc.refl _) rfl ((o.x E).other (by simp)))
    refine zi.cons rfl (fun e v W K o hW he L G=>?_) ?_
    ·simp only [za] at L G⊢;have E:=o.notS (j:=8) (by simp) he;have I:zc w1 W:=o.g E;have B:=zo L [7] (by kernel_rfl);have v7:v 7=.pointer (some ⟨b2,2,none⟩):=o.gv E 7 (by simp) (B 7 (by simp));go_simp;exact G.out _ _ _ (by simp [Act.put,v7]) trivial (o.step (j:=8) (by simp) he VQ.st (by decide) (fun d M=>⟨by simp [DQ] at M⊢;omega,B d (by simp [DQ] at M⊢;omega)⟩) (zc.refl _) rfl ((o.x E).other (by simp)))
    refine zi.cons rfl (fun e v W K o hW he L G=>?_) ?_
    ·simp only [za] at L G⊢;have E:=o.notS (j:=9) (by simp) he;have I:zc w1 W:=o.g E
     have J:e 11=true->∀g,pbk (v 11)=some g->g<W.heap.size:=fun h g Q=>by
      obtain ⟨g',e',-,hb⟩:=(show ∃g,v 11=.pointer (some ⟨g,0,none⟩)/\w1.heap.size<=g/\zj W g 27 #[.int .i64 0,.slice none 0 0,.slice none 0 0] from o.gv E 11 (by simp) h);rw [e'] at Q;injection Q with Q;subst Q;exact zb hb
     have B:=zo L [6,8] (by kernel_rfl);obtain ⟨gg,v6,o6⟩:=(show ∃g,v 6=.slice (some ⟨g,0,none⟩) 0 0/\W.ownsRow w1.heap.size 27 3 (v 6) 0 [] from o.gv E 6 (by simp) (B 6 (by simp)));have v8:v 8=.slice Ak ks.length ck:=o.gv E 8 (by simp) (B 8 (by simp));rw [if_pos (by simp [Region.wanted])];refine Dj (ok:=fun b=>ok b/\b<w.heap.size) W (.tmp 13) (.tmp 15) eProof rfl w1.heap.size ks.length gg cs (v 6) (v 8) rfl v6 rfl o6 (by rw [v8];exact An.below g9.out I) c0.out I.size (by unfold maxLen;omega) (by omega) ?_;intro x w' ho hE j3
     have l2:e 11=true->∀g,pbk (v 11)=some g->obk 9 x≠some g:=fun h g Q=>by
      have h6:=o.x E h 6 (by simp) (B 6 (by simp)) g Q;have g1:=J h g Q;rw [v6] at h6;have h7:gg≠g:=fun e=>h6 (by rw [e];rfl)
      have e9:obk 9 x=x.ownBlock:=by obtain ⟨A9,c9,rfl,-⟩:=An.of_own ho;rfl
      rw [e9];intro hc;rcases j3 with h | h
      ·rw [hc] at h;injection h with h;exact h7 h.symm
      ·rw [hc] at h;injection h with h;omega
     exact G.out _ _ _ (by simp [Act.put]) trivial (o.step (j:=9) (by simp) he VQ.st (by decide) (fun d M=>⟨by simp [DQ] at M⊢;omega,B d (by simp [DQ] at M⊢;omega)⟩) hE ho ((o.x E).kid (by simp) l2))
    refine zi.cons rfl (fun e v W K o hW he L G=>?_) ?_
    ·simp only [za] at L G⊢;have E:=o.notS (j:=10) (by simp) he;have I:zc w1 W:=o.g E;have B:=zo L [1,5,9] (by kernel_rfl);have v1:v 1=.int .i64 t:=o.gv E 1 (by simp) (B 1 (by simp));have o5:zF W w1.heap.size (v 5) s:=o.gv E 5 (by simp) (B 5 (by simp));have o9:W.ownsRow w1.heap.size 27 3 (v 9) ks.length cs:=o.gv E 9 (by simp) (B 9 (by simp));have d4:=fun h g Q=>o.x E h 9 (by simp) (B 9 (by simp)) g Q
     obtain ⟨A5,c5,v5,-⟩:=AC o5;obtain ⟨A9,c9,v9,-⟩:=An.of_own o9;rw [v5] at o5;rw [v9] at o9 d4;go_simp;exact G.out _ _ _ (by simp [Act.put,v1,v5,v9]) trivial (o.step (j:=10) (by simp) he VQ.st (by decide) (fun d M=>⟨by simp [DQ] at M⊢;omega,B d (by simp [DQ] at M⊢;omega)⟩) (zc.refl _) ⟨_,_,rfl,o5,o9⟩ ((o.x E).kid (by simp) fun h g Q=>by have:=d4 h g Q;simpa [obk] using this))
    refine zi.cons rfl (fun e v W K o hW he L G=>?_) ?_
    ·simp only [za] at L G⊢;have E:=o.notS (j:=11) (by simp) he;have I:zc w1 W:=o.g E;go_simp
     exact G.out _ (.pointer (some ⟨W.heap.size,0,none⟩)) _ (by rfl) trivial (o.step (j:=11) (by simp) he VQ.st (by decide) (by simp [DQ]) ((zc.refl W).alloc _) ⟨_,rfl,I.size,zj.new _ _ _ rfl⟩ (XQ.box fun k U f7 g Q=>by
      have Q:W.heap.size=g:=by injection Q
      subst Q;intro hc
      have g1:∀b,obk k (v k)=some b->b<W.heap.size:=fun b hb=>by
       simp at U;rcases U with rfl | rfl | rfl
       ·obtain ⟨gg,v6,o6⟩:=(show ∃g,v 6=.slice (some ⟨g,0,none⟩) 0 0/\W.ownsRow w1.heap.size 27 3 (v 6) 0 [] from o.gv E 6 (by simp) f7);rw [v6] at hb o6;exact (World.ownsRow.lt o6 b hb).2
       ·have o9:W.ownsRow w1.heap.size 27 3 (v 9) ks.length cs:=o.gv E 9 (by simp) f7;obtain ⟨A9,c9,v9,-⟩:=An.of_own o9;rw [v9] at hb o9;exact (World.ownsRow.lt o9 b hb).2
       ·obtain ⟨y,z,v10,-,o9⟩:=(show ∃y z,v 10=.agg #[.int .i64 t,y,z]/\zF W w1.heap.size y s/\W.ownsRow w1.heap.size 27 3 z ks.length cs from o.gv E 10 (by simp) f7);rw [v10] at hb;exact (World.ownsRow.lt o9 b hb).2
      have:=g1 _ hc;omega))
    refine zi.cons rfl (fun e v W K o hW he L G=>?_) ?_
    ·simp only [za] at L G⊢;have B:=zo L [10,11] (by kernel_rfl);have I:zc w1 W:=o.g he;have e10:=B 10 (by simp);have e11:=B 11 (by simp);obtain ⟨y,z,v10,o5,o9⟩:=(show ∃y z,v 10=.agg #[.int .i64 t,y,z]/\zF W w1.heap.size y s/\W.ownsRow w1.heap.size 27 3 z ks.length cs from o.gv he 10 (by simp) e10);obtain ⟨g,v11,k8,J⟩:=(show ∃g,v 11=.pointer (some ⟨g,0,none⟩)/\w1.heap.size<=g/\zj W g 27 #[.int .i64 0,.slice none 0 0,.slice none 0 0] from o.gv he 11 (by simp) e11);have l3:z.ownBlock≠some g:=by have:=o.x he e11 10 (by simp) e10 g (by rw [v11];rfl);rw [v10] at this;simpa [obk] using this
     have e1:=(o.c 10 (by simp) e10 1 (by simp [DQ])).2;have e5:=(o.c 10 (by simp) e10 5 (by simp [DQ])).2;have e9:=(o.c 10 (by simp) e10 9 (by simp [DQ])).2;have e0:=(o.c 1 (by simp) e1 0 (by simp [DQ])).2;have e2:=(o.c 5 (by simp) e5 2 (by simp [DQ])).2;have e4:=(o.c 5 (by simp) e5 4 (by simp [DQ])).2;have e3:=(o.c 4 (by simp) e4 3 (by simp [DQ])).2;have e6:=(o.c 9 (by simp) e9 6 (by simp [DQ])).2;have e8:=(o.c 9 (by simp) e9 8 (by simp [DQ])).2;have e7:=(o.c 8 (by simp) e8 7 (by simp [DQ])).2;have i7:∀j∈[0,1,2,3,4,5,6,7,8,9,10,11],e j=true:=fun j hj=>by simp at hj;rcases hj with rfl | rfl | rfl | rfl | rfl | rfl | rfl | rfl | rfl | rfl | rfl | rfl <;> assumption
     obtain ⟨A5,c5,rfl,-⟩:=AC o5;obtain ⟨A9,c9,rfl,-⟩:=An.of_own o9;have y0:=J.cell (k:=0) rfl;have y1:=J.cell (k:=1) rfl;have y2:=J.cell (k:=2) rfl;have yf:∀j,W.frozen? ⟨g,j,none⟩=false:=fun j=>J.frozen j
     have hq:OQ w1 (((W.setCell ⟨g,0,none⟩ (.int .i64 t)).setCell ⟨g,1,none⟩ (.slice A5 s.length c5)).setCell ⟨g,2,none⟩ (.slice A9 ks.length c9)) (fun b=>ok b/\b<w.heap.size) g t s ks cs (.slice A5 s.length c5) (.slice A9 ks.length c9):=OQ.begin I k8 J o5 o9 (fun i hi=>(h3.out i hi).ext I) l3 (fun b hb=>by have:=d7.out;omega);go_simp;exact G.out _ undef _ (by simp [Act.put,v10,v11]) trivial (o.store (by decide) i7 ⟨g,_,_,hq,v11⟩)
    exact zi.nil
   case fin37=>
    intro v W o _;obtain ⟨g,vS,vK,hq,c8⟩:=(o.d rfl).2;clear o p0 p1 p2 h5 g9 h3 c0 l1 g7;rw [c8];obtain ⟨AS,cS,rfl,-⟩:=AC hq.side;obtain ⟨AK,cK,rfl,-⟩:=An.of_own hq.own;have HQ:=zh hq;have hx:zc w1 W:=hq.ext;clear c8;have m0:W.cell? ⟨g,0,none⟩=some (.int .i64 t):=HQ.out.box.cell (k:=0) rfl;have m1:W.cell? ⟨g,1,none⟩=some (.slice AS s.length cS):=HQ.out.box.cell (k:=1) rfl;have m2:W.cell? ⟨g,2,none⟩=some (.slice AK ks.length cK):=HQ.out.box.cell (k:=2) rfl;have mf:∀j,W.frozen? ⟨g,j,none⟩=false:=fun j=>HQ.out.box.frozen j
    clear hq
    go_wp2_with fail
    refine (CP q1 60 W (by omega) (by omega)).mono ?_;rintro e w' ⟨rfl,rfl⟩;obtain ⟨k,U⟩:=EH (q1 % 60);have i9:0<=k:=by rw [U];exact Int.emod_nonneg q1 (by omega)
    have j0:k<60:=by rw [U];exact Int.emod_lt_of_pos q1 (by omega)
    rw [<-U];clear U;go_upto_region 3 with fail;go_cut [30] (fun v wx=>∃r:Bool,v=.bool r/\(r=true->0<ks.length)/\W=wx)
    case first=>
     rcases Em ks.length with hz | hz
     ·have l4:decide ((0:Int)<(ks.length:Int))=false:=DG (by omega);have l5:decide (0<ks.length)=false:=DG (by omega);clear hz
      go_wp2_with fail
      go_meet;exact ⟨false,rfl,(fun h=>by cases h),rfl⟩
     ·have l4:decide ((0:Int)<(ks.length:Int))=true:=DF (by omega);have l5:decide (0<ks.length)=true:=DF hz
      go_wp2_with fail
      refine (CP q2 4 W (by omega) (by omega)).mono ?_;rintro e w' ⟨rfl,rfl⟩;generalize q2 % 4=e4;have k4:=zh hz;clear hz
      go_wp2_with fail
      go_meet;exact ⟨_,rfl,(fun _=>k4.out),rfl⟩
    case rest=>
     obtain ⟨r,rfl,hr,rfl⟩:=hcut
     cases r with
     | true=>
      have hz:=hr rfl;clear hr;go_upto_region 4 with fail;have n0:ks≠[]:=fun e=>by rw [e] at hz;simp at hz
      obtain ⟨gK,cK',e,m6,-⟩:=World.ownsRow.form HQ.out.own (by omega);injection e with e1 e2 e3;subst e1 e3;clear e2;have m3:=AN HQ.out.own;have f6:cs.length=ks.length*3:=HQ.out.own.1;have kc:∀j,j<ks.length*3->W.cell? ⟨gK,j,none⟩=some (cs.getD j undef):=fun j hj=>by rw [World.ownsRow.cellAt HQ.out.own j hj,DB,DA (by omega)];rfl
      have b9:=HQ.out.kq rfl;obtain ⟨i,hi,m7,m8,m9⟩:=rem29 hz i9 j0;have b0:=b9.each i hi;have xa0:=zc.rule (kc (i*3) (by omega));have xa1:=zc.rule (kc (i*3+1) (by omega));have xa2:=zc.rule (kc (i*3+2) (by omega));obtain ⟨a0,i4⟩:∃a,a=cs.getD (i*3) undef:=⟨_,rfl⟩;rw [<-i4] at xa0 b0;clear i4;obtain ⟨a1,i5⟩:∃a,a=cs.getD (i*3+1) undef:=⟨_,rfl⟩;rw [<-i5] at xa1 b0;clear i5;obtain ⟨a2,i6⟩:∃a,a=cs.getD (i*3+2) undef:=⟨_,rfl⟩;rw [<-i6] at xa2 b0;clear i6;have j8:Hid (w1.heap.size<=gK/\gK<W.heap.size):=World.ownsRow.lt HQ.out.own gK rfl;have m2:=zc.rule m2;have i0:∀W',zc W W'->W'.cell? ⟨b3,0,none⟩=some (.int .i64 q0):=fun W' h=>i0 W' (hx.trans h)
      have i1:∀W',zc W W'->W'.cell? ⟨b3,1,none⟩=some (.int .i64 q1):=fun W' h=>i1 W' (hx.trans h)
      have i2:∀W',zc W W'->W'.cell? ⟨b3,2,none⟩=some (.int .i64 q2):=fun W' h=>i2 W' (hx.trans h)
      have g6:Hid (∀W' q0 q1 q2,zc W W'->Calls Tryz.prog 10 #[.agg #[a0,a1,a2],.agg #[.int .i64 q0,.int .i64 q1,.int .i64 q2]] W' (OddR W' (fun b=>((ok b/\b<w.heap.size)\/w1.heap.size<=b)/\b≠gK) c ks[i])):=fun W' q0 q1 q2 h=>IH.out W' _ _ _ c q0 q1 q2 (b0.ext h) (h8.out _ (DD hi)).2 hc (h8.out _ (DD hi)).1
      have j9:=zh b9;clear b0 kc;refine wp_dark (fun Q' O k6=>?_) (fun c a a' w L h=>by obtain ⟨t,d⟩:=a;obtain ⟨t',d'⟩:=a';cases L;exact h);refine CB (S:=(fun W'=>zc W W')) zN ((zc.refl W).drew) fun zH=>?_;generalize W.drew=wd at zH⊢;refine zd (i:=0) (v:=?v11) rfl (by kernel_rfl) (by kernel_rfl) (by kernel_rfl) (by kernel_rfl) (fun _ _ _ h=>O _ _ _ _ (by rfl) h) (Or.inl ⟨?w11,?y11⟩) zH ?r11
      case w11=>rfl
      case y11=>(intro w D;go_simp;try with_reducible rfl)
      simp only [za,Dz];refine zd (i:=1) (v:=?v12) rfl (by kernel_rfl) (by kernel_rfl) (by kernel_rfl) (by kernel_rfl) (fun _ _ _ h=>O _ _ _ _ (by rfl) h) (Or.inl ⟨?w12,?y12⟩) zH ?r12
      case w12=>rfl
      case y12=>(intro w D;go_simp;try with_reducible rfl)
      simp only [za,Dz];refine zd (i:=2) (v:=?v13) rfl (by kernel_rfl) (by kernel_rfl) (by kernel_rfl) (by kernel_rfl) (fun _ _ _ h=>O _ _ _ _ (by rfl) h) (Or.inl ⟨?w13,?y13⟩) zH ?r13
      case w13=>rfl
      case y13=>(intro w D;go_simp;try with_reducible rfl)
      simp only [za,Dz];refine zd (i:=3) (v:=?v14) rfl (by kernel_rfl) (by kernel_rfl) (by kernel_rfl) (by kernel_rfl) (fun _ _ _ h=>O _ _ _ _ (by rfl) h) (Or.inl ⟨?w14,?y14⟩) zH ?r14
      case w14=>rfl
      case y14=>(intro w D;go_simp;try with_reducible rfl)
      simp only [za,Dz];refine zd (i:=4) (v:=?v15) rfl (by kernel_rfl) (by kernel_rfl) (by kernel_rfl) (by kernel_rfl) (fun _ _ _ h=>O _ _ _ _ (by rfl) h) (Or.inl ⟨?w15,?y15⟩) zH ?r15
      case w15=>rfl
      case y15=>(intro w D;go_simp;try with_reducible rfl)
      simp only [za,Dz];refine zd (i:=5) (v:=?v16) rfl (by kernel_rfl) (by kernel_rfl) (by kernel_rfl) (by kernel_rfl) (fun _ _ _ h=>O _ _ _ _ (by rfl) h) (Or.inl ⟨?w16,?y16⟩) zH ?r16
      case w16=>rfl
      case y16=>(intro w D;go_simp;try with_reducible rfl)
      simp only [za,Dz];refine zd (i:=6) (v:=?v17) rfl (by kernel_rfl) (by kernel_rfl) (by kernel_rfl) (by kernel_rfl) (fun _ _ _ h=>O _ _ _ _ (by rfl) h) (Or.inl ⟨?w17,?y17⟩) zH ?r17
      case w17=>rfl
      case y17=>(intro w D;go_simp;try with_reducible rfl)
      simp only [za,Dz];refine zd (i:=7) (v:=?v18) rfl (by kernel_rfl) (by kernel_rfl) (by kernel_rfl) (by kernel_rfl) (fun _ _ _ h=>O _ _ _ _ (by rfl) h) (Or.inl ⟨?w18,?y18⟩) zH ?r18
      case w18=>rfl
      case y18=>(intro w D;go_simp;try with_reducible rfl)
      simp only [za,Dz];refine zd (i:=8) (v:=?v19) rfl (by kernel_rfl) (by kernel_rfl) (by kernel_rfl) (by kernel_rfl) (fun _ _ _ h=>O _ _ _ _ (by rfl) h) (Or.inl ⟨?w19,?y19⟩) zH ?r19
      case w19=>rfl
      case y19=>(intro w D;go_simp;try with_reducible rfl)
      simp only [za,Dz];refine zd (i:=9) (v:=?v20) rfl (by kernel_rfl) (by kernel_rfl) (by kernel_rfl) (by kernel_rfl) (fun _ _ _ h=>O _ _ _ _ (by rfl) h) (Or.inl ⟨?w20,?y20⟩) zH ?r20
      case w20=>rfl
      case y20=>(intro w D;go_simp;try with_reducible rfl)
      simp only [za,Dz];refine zd (i:=10) (v:=?v21) rfl (by kernel_rfl) (by kernel_rfl) (by kernel_rfl) (by kernel_rfl) (fun _ _ _ h=>O _ _ _ _ (by rfl) h) (Or.inl ⟨?w21,?y21⟩) zH ?r21
      case w21=>rfl
      case y21=>(intro w D;go_simp;try with_reducible rfl)
      simp only [za,Dz];refine zd (i:=11) (v:=?v22) rfl (by kernel_rfl) (by kernel_rfl) (by kernel_rfl) (by kernel_rfl) (fun _ _ _ h=>O _ _ _ _ (by rfl) h) (Or.inl ⟨?w22,?y22⟩) zH ?r22
      case w22=>rfl
      case y22=>(intro w D;go_simp;try with_reducible rfl)
      simp only [za,Dz];refine zd (i:=12) (v:=?v23) rfl (by kernel_rfl) (by kernel_rfl) (by kernel_rfl) (by kernel_rfl) (fun _ _ _ h=>O _ _ _ _ (by rfl) h) (Or.inl ⟨?w23,?y23⟩) zH ?r23
      case w23=>rfl
      case y23=>(intro w D;go_simp;try with_reducible rfl)
      simp only [za,Dz];refine zd (i:=13) (v:=?v24) rfl (by kernel_rfl) (by kernel_rfl) (by kernel_rfl) (by kernel_rfl) (fun _ _ _ h=>O _ _ _ _ (by rfl) h) (Or.inl ⟨?w24,?y24⟩) zH ?r24
      case w24=>rfl
      case y24=>(intro w D;go_simp;try with_reducible rfl)
      simp only [za,Dz];refine zd (i:=14) (v:=?v25) rfl (by kernel_rfl) (by kernel_rfl) (by kernel_rfl) (by kernel_rfl) (fun _ _ _ h=>O _ _ _ _ (by rfl) h) (Or.inl ⟨?w25,?y25⟩) zH ?r25
      case w25=>rfl
      case y25=>(intro w D;go_simp;try with_reducible rfl)
      simp only [za,Dz];refine zd (i:=15) (v:=?v26) rfl (by kernel_rfl) (by kernel_rfl) (by kernel_rfl) (by kernel_rfl) (fun _ _ _ h=>O _ _ _ _ (by rfl) h) (Or.inl ⟨?w26,?y26⟩) zH ?r26
      case w26=>rfl
      case y26=>(intro w D;go_simp;try with_reducible rfl)
      simp only [za,Dz];refine zd (i:=16) (v:=?v27) rfl (by kernel_rfl) (by kernel_rfl) (by kernel_rfl) (by kernel_rfl) (fun _ _ _ h=>O _ _ _ _ (by rfl) h) (Or.inl ⟨?w27,?y27⟩) zH ?r27
      case w27=>rfl
      case y27=>(intro w D;go_simp;try with_reducible rfl)
      simp only [za,Dz];refine zd (i:=17) (v:=?v28) rfl (by kernel_rfl) (by kernel_rfl) (by kernel_rfl) (by kernel_rfl) (fun _ _ _ h=>O _ _ _ _ (by rfl) h) (Or.inl ⟨?w28,?y28⟩) zH ?r28
      case w28=>rfl
      case y28=>(intro w D;go_simp;try with_reducible rfl)
      simp only [za,Dz];refine zd (i:=18) (v:=?v29) rfl (by kernel_rfl) (by kernel_rfl) (by kernel_rfl) (by kernel_rfl) (fun _ _ _ h=>O _ _ _ _ (by rfl) h) (Or.inl ⟨?w29,?y29⟩) zH ?r29
      case w29=>rfl
      case y29=>(intro w D;go_simp;try with_reducible rfl)
      simp only [za,Dz];refine zd (i:=19) (v:=?v30) rfl (by kernel_rfl) (by kernel_rfl) (by kernel_rfl) (by kernel_rfl) (fun _ _ _ h=>O _ _ _ _ (by rfl) h) (Or.inl ⟨?w30,?y30⟩) zH ?r30
      case w30=>rfl
      case y30=>(intro w D;go_simp;try with_reducible rfl)
      simp only [za,Dz];refine zd (i:=20) (v:=?v31) rfl (by kernel_rfl) (by kernel_rfl) (by kernel_rfl) (by kernel_rfl) (fun _ _ _ h=>O _ _ _ _ (by rfl) h) (Or.inl ⟨?w31,?y31⟩) zH ?r31
      case w31=>rfl
      case y31=>(intro w D;go_simp;try with_reducible rfl)
      simp only [za,Dz];refine zd (i:=21) (v:=?v32) rfl (by kernel_rfl) (by kernel_rfl) (by kernel_rfl) (by kernel_rfl) (fun _ _ _ h=>O _ _ _ _ (by rfl) h) (Or.inl ⟨?w32,?y32⟩) zH ?r32
      case w32=>rfl
      case y32=>(intro w D;go_simp;try with_reducible rfl)
      simp only [za,Dz];refine zd (i:=22) (v:=?v33) rfl (by kernel_rfl) (by kernel_rfl) (by kernel_rfl) (by kernel_rfl) (fun _ _ _ h=>O _ _ _ _ (by rfl) h) (Or.inl ⟨?w33,?y33⟩) zH ?r33
      case w33=>rfl
      case y33=>(intro w D;go_simp;try with_reducible rfl)
      simp only [za,Dz];refine zd (i:=23) (v:=?v34) rfl (by kernel_rfl) (by kernel_rfl) (by kernel_rfl) (by kernel_rfl) (fun _ _ _ h=>O _ _ _ _ (by rfl) h) (Or.inl ⟨?w34,?y34⟩) zH ?r34
      case w34=>rfl
      case y34=>(intro w D;go_simp;try with_reducible rfl)
      simp only [za,Dz];refine zd (i:=24) (v:=?v35) rfl (by kernel_rfl) (by kernel_rfl) (by kernel_rfl) (by kernel_rfl) (fun _ _ _ h=>O _ _ _ _ (by rfl) h) (Or.inl ⟨?w35,?y35⟩) zH ?r35
      case w35=>rfl
      case y35=>(intro w D;go_simp;try with_reducible rfl)
      simp only [za,Dz];refine zY (rs:=[25]) (by kernel_rfl) (by simp) ?_;refine zv.cons rfl (fun K G=>?_) zv.nil;go_simp;go_at_call 10;refine (g6.out _ _ _ _ zH).mono ?_;rintro e w9 ⟨v9,p9,rfl,h9,f3,i3⟩;obtain ⟨As9,cs9,Ak9,ck9,rfl,-⟩:=f3.form;have b7:zc W w9:=zH.trans h9
      have c6:Ay w9 (fun b=>((ok b/\b<w.heap.size)\/w1.heap.size<=b)/\b≠gK) (.agg #[.int .i64 p9.task,.slice As9 p9.side.length cs9,.slice Ak9 p9.kids.length ck9]) p9:=f3.wk fun b hb g1=>by
       rcases hb with hb | hb
       ·exact hb
       ·have h1:=j8.out;have h2:=zH.size;exact ⟨.inr (by omega),by omega⟩
      have d8:=zh ((b9.ex b7).set hi c6);have k3:=zh i3;have kf:∀j,w9.frozen? ⟨gK,j,none⟩=false:=fun j=>World.ownsRow.frozenAt (Ag HQ.out.own b7) j
      clear f3 c6 i3 h9;go_simp;refine EI G (b7) fun zH=>?_;clear G K;try simp only [za,Dz]
      refine zd (i:=26) (v:=?v36) rfl (by kernel_rfl) (by kernel_rfl) (by kernel_rfl) (by kernel_rfl) (fun _ _ _ h=>O _ _ _ _ (by rfl) h) (Or.inl ⟨?w36,?y36⟩) zH ?r36
      case w36=>rfl
      case y36=>(intro w D;go_simp;try with_reducible rfl)
      simp only [za,Dz];refine zY (rs:=[27]) (by kernel_rfl) (by simp) ?_;refine zv.last rfl (by kernel_rfl) fun K G=>?_;go_simp;refine G.out _ _ ?_;clear G K;refine CG (by kernel_rfl) ?_ _;subst k6;clear kf zH b7 xa0 xa1 xa2 i0 i1 i2;generalize (((w9.setCell ⟨gK,i*3,none⟩ (.int .i64 p9.task)).setCell ⟨gK,i*3+1,none⟩ (.slice As9 p9.side.length cs9)).setCell ⟨gK,i*3+2,none⟩ (.slice Ak9 p9.kids.length ck9))=wz at d8⊢;have a5:=zh (d8.out.fin (odd_kid HL.out hi k3.out));clear d8 m0 m1 m2 mf hx HQ j9 b9 g6;obtain ⟨As',cs'',Ak',ck',p',J,b1,V,a9⟩:=a5.out;have y0:=J.cell (k:=0) rfl;have y1:=J.cell (k:=1) rfl;have y2:=J.cell (k:=2) rfl;have hZ:=HZ.out.ext V;have z0:=hZ.cell (k:=0) rfl;have z1:=hZ.cell (k:=1) rfl;have z2:=hZ.cell (k:=2) rfl;have zf:∀j,wz.frozen? ⟨b4,j,none⟩=false:=fun j=>hZ.frozen j
      have f0:=zh b1;have d6:=zh V;have d9:=zh a9;have f1:=zh hZ;clear b1 V a9 hZ J a5
      go_wp2_with fail
      refine case_fin29 (P:=fun W=>bodyPost Tryz.prog Tryz.f10 _ Exit.ret _ W) (g2:=b4) ?_ f1.out;intro WZ f4 f2 U;exact odd_end rfl rfl f4 (odd_fin g8.out d7.out d6.out f0.out f2 U d9.out)
     | false=>
      clear hr
      go_wp2_with fail
      refine (CP q0 8 W (by omega) (by omega)).mono ?_;rintro e w' ⟨rfl,rfl⟩;obtain ⟨d,L⟩:=EH (q0 % 8);have k7:d=0\/d=1\/d=2\/d=3\/d=4\/d=5\/d=6\/d=7:=by have:=Int.emod_nonneg q0 (show (8:Int)≠0 by omega);have:=Int.emod_lt_of_pos q0 (show (0:Int)<8 by omega);omega
      rw [<-L];clear L i0 i1 i2
      go_upto_block 0 with fail
      refine wp_cast (c':=oddB) (by kernel_rfl) ?_;refine sw_wp k7 i9 j0 j1 j2 HQ.out HL.out (fun c a a' w L h=>by obtain ⟨t,d⟩:=a;obtain ⟨t',d'⟩:=a';cases L;exact h) fun wz c7 _ _ _ _ _ _ _ _ _ _ _ _ _ _ _ _ _ _ _ _ _ _ _ _ _ _ _ _ _ _ _ _ _ _ _ _ _ _ _ _ _ _ _ _ _ _ _ _ _ _ _ _ _ _ _ _ _ _ _ _ _ _ _ _ _ _ _ _ _ _ _ _ _ _ _ _ _ _ _ _ _ _ _ _ _ _ _ _ _ _ _ _ _ _ _ _ _ _ _ _ _=>?_;have a5:=zh c7;clear c7 m0 m1 m2 mf hx HQ;obtain ⟨As',cs'',Ak',ck',p',J,b1,V,a9⟩:=a5.out;have y0:=J.cell (k:=0) rfl;have y1:=J.cell (k:=1) rfl;have y2:=J.cell (k:=2) rfl;have hZ:=HZ.out.ext V;have z0:=hZ.cell (k:=0) rfl;have z1:=hZ.cell (k:=1) rfl;have z2:=hZ.cell (k:=2) rfl;have zf:∀j,wz.frozen? ⟨b4,j,none⟩=false:=fun j=>hZ.frozen j
      have f0:=zh b1;have d6:=zh V;have d9:=zh a9;have f1:=zh hZ;clear b1 V a9 hZ J a5
      go_wp2_with fail
      refine case_fin29 (P:=fun W=>bodyPost Tryz.prog Tryz.f10 _ Exit.ret _ W) (g2:=b4) ?_ f1.out;intro WZ f4 f2 U;exact odd_end rfl rfl f4 (odd_fin g8.out d7.out d6.out f0.out f2 U d9.out)
theorem box3 (w:World) (a0 a1 a2:Value):zc w (w.alloc (.cells #[a0,a1,a2] 27))/\
  (∀W,zc (w.alloc (.cells #[a0,a1,a2] 27)) W->W.cell? ⟨w.heap.size,0,none⟩=some a0)/\(∀W,zc (w.alloc (.cells #[a0,a1,a2] 27)) W->W.cell? ⟨w.heap.size,1,none⟩=some a1)/\(∀W,zc (w.alloc (.cells #[a0,a1,a2] 27)) W->W.cell? ⟨w.heap.size,2,none⟩=some a2):=by
 have d:=zj.new w #[a0,a1,a2] 27 rfl;exact ⟨(zc.refl w).alloc _,zc.rule (d.cell (k:=0) rfl),zc.rule (d.cell (k:=1) rfl),zc.rule (d.cell (k:=2) rfl)⟩
def CK (N:Int) (tg s:List Int) (i:Nat):Prop:=0<=s.getD i 0/\s.getD i 0<N/\(0<i->s.getD (i - 1) 0<s.getD i 0)/\s.getD i 0∉tg
theorem incB_iff {N:Int}:∀{l:List Int} {b:Int},incB N b l=true↔∀i,i<l.length->(b :: l).getD i 0<l.getD i 0/\l.getD i 0<N
 | [],b=>by simp [incB]
 | x :: l,b=>by
  unfold incB;rw [DO,DO,DM,DM,incB_iff];constructor
  ·rintro ⟨h1,h2,o⟩ i d
   cases i with
   | zero=>exact ⟨by simpa using h1,by simpa using h2⟩
   | succ i=>simpa using o i (by simpa using d)
  ·intro h;refine ⟨by simpa using (h 0 (by simp)).1,by simpa using (h 0 (by simp)).2,fun i d=>?_⟩;simpa using h (i+1) (by simpa using d)
theorem side_iff {N:Int} {tg:List Int}:(incB N (-1) s && !(s.any fun n=>decide (n∈tg)))=true↔∀i,i<s.length->CK N tg s i:=by
 rw [DO,incB_iff,Bool.not_eq_true',<-Bool.not_eq_true,EC];constructor
 ·rintro ⟨h1,h2⟩ i d;have o:s.getD i 0∈s:=by rw [DB,DA d];exact DD d
  have r:∀j,j<s.length->0<=s.getD j 0:=by
   intro j
   induction j with
   | zero=>intro B;have:=(h1 0 B).1;simp at this⊢;omega
   | succ j ih=>intro B;have:=(h1 (j+1) B).1;have G:=ih (by omega);rw [List.getD_cons_succ] at this;omega
  refine ⟨r i d,(h1 i d).2,fun h0=>?_,fun h=>h2 ⟨_,o,by simpa using h⟩⟩;have:=(h1 i d).1;obtain ⟨j,rfl⟩:∃j,i=j+1:=⟨i - 1,by omega⟩;rw [List.getD_cons_succ] at this;simpa using this
 ·intro h;refine ⟨fun i d=>⟨?_,(h i d).2.1⟩,?_⟩
  ·cases i with
   | zero=>have:=(h 0 d).1;simp at this⊢;omega
   | succ j=>have:=(h (j+1) d).2.2.1 (by omega);rw [List.getD_cons_succ];simpa using this
  ·rintro ⟨x,E,D⟩;obtain ⟨i,d,rfl⟩:=Ei E;refine (h i d).2.2.2 ?_;rw [DB,DA d];simpa using D
theorem nextO_len (m:MZ) (x:Int):(BN m x).length<=6:=by
 unfold BN
 split
 ·exact BV m x
 ·simp
theorem nextO_rng (g:Am m) {x y:Int} (h:y∈BN m x):0<=y/\y<m.n:=by
 unfold BN at h
 split at h
 ·next h1=>exact Bx g.dim h1.2.1 h1.2.2 h
 ·cases h
theorem headP_le {t:Nat} (d:Lens m) (ht:t<m.tasks.length):(AH m ch t).length<=20000000000000:=by
 unfold AH
 split
 ·cases ((zq m ch).getD t []).getLast? <;> simp
 ·refine DE (Ef _ _) ?_;rw [DB,DA ht];have:=(d.tl _ (DD ht)).1;show (m.tasks[t]).1.length<=_;omega
end
section
open Go.RowKit
attribute [local go_sem ↓] Go.wp_at_zero Go.wp_at_succ
attribute [local go_sem] Oper.semAt_some
mutual
def PT.Lens:PT->Prop
 | .node _ s ks=>s.length<=20000000000000/\ks.length<=20000000000000/\PT.LensL ks
def PT.LensL:List PT->Prop
 | []=>True
 | k :: ks=>k.Lens/\PT.LensL ks
end
theorem lensL_mem:∀{ks:List PT},PT.LensL ks->∀k∈ks,k.Lens
 | [],_,k,hk=>by cases hk
 | a :: ks,h,k,hk=>by
  unfold PT.LensL at h;rcases Ep.1 hk with rfl | hk
  ·exact h.1
  ·exact lensL_mem h.2 k hk
theorem size_mem:∀{ks:List PT},∀k∈ks,k.size<=PT.sizeL ks
 | [],k,hk=>by cases hk
 | a :: ks,k,hk=>by
  unfold PT.sizeL;rcases Ep.1 hk with rfl | hk
  ·omega
  ·have:=size_mem k hk;omega
theorem kidsAt {w:World} {ok:Nat->Prop} {A:Option Addr} {n:Nat} {cs:List Value} (h:AG w ok 3 A n cs) (B:k<n):∃b off,A=some ⟨b,off,none⟩/\w.cell? ⟨b,off+k*3,none⟩=some (cs.getD (k*3) undef)/\w.cell? ⟨b,off+k*3+1,none⟩=some (cs.getD (k*3+1) undef)/\w.cell? ⟨b,off+k*3+2,none⟩=some (cs.getD (k*3+2) undef):=by
 obtain ⟨D,d⟩:=h;obtain ⟨b,off,rfl,-,d⟩:=d (by omega);have o:∀j,j<cs.length->cs[j]?=some (cs.getD j undef):=fun j r=>by rw [DA r,DB,DA r];rfl
 exact ⟨b,off,rfl,d _ _ (o _ (by omega)),by rw [Nat.add_assoc];exact d _ _ (o _ (by omega)),by rw [Nat.add_assoc];exact d _ _ (o _ (by omega))⟩
theorem holdsT_node {t:Int} {ks:List PT} (h:¬ m.tasks.length<=zS m ch):AP m (.node t s ks) ch=if t≠zS m ch\/s≠[] then cutB m ch t s ks.length else AI m ks ch (zT m ch):=by
 unfold AP;rw [if_neg h]
theorem holdsL_len {m:MZ} {ch:List Int}:∀{ks:List PT} {l:List Int},ks.length≠l.length->AI m ks ch l=false
 | [],[],h=>absurd rfl h
 | k :: ks,n :: l,h=>by
  unfold AI;rw [holdsL_len (by simpa using h),Bool.and_false]
 | [],_ :: _,_=>by unfold AI;rfl
 | _ :: _,[],_=>by unfold AI;rfl
theorem holdsL_drop {ks:List PT} {l:List Int} (h1:k<ks.length) (h2:k<l.length):AI m (ks.drop k) ch (l.drop k)=(AP m ks[k] (ch++[l[k]]) && AI m (ks.drop (k+1)) ch (l.drop (k+1))):=by
 rw [List.drop_eq_getElem_cons h1,List.drop_eq_getElem_cons h2]
 conv=>lhs;unfold AI
theorem holdsT_done {p:PT} (h:m.tasks.length<=zS m ch):AP m p ch=false:=by
 cases p
 unfold AP;rw [if_pos h]
end
end Go.Proofs.YtcnaogdgjkpkmaaGreatDoor
