import Derived.Test.YthbjngbhbbkkgaaGreatHPo
set_option linter.unusedVariables false
set_option linter.unusedSimpArgs false
set_option maxRecDepth 100000
set_option maxHeartbeats 16000000
namespace Go.Proofs.YthbjngbhbbkkgaaGreat
variable {cs:Array Value} {A Y:Int} {l:List Bool} {news vs xs:List Value} {cap g k n n' sz:Nat} {o:Obj} {u v x:Value} {w5:World}
section
open Go.RowKit
attribute [local go_sem ↓] Go.wp_at_zero Go.wp_at_succ
structure SubR (w w0 wr:World) (ok:Nat->Prop) (g7:Nat) (m:MZ) (ns:List ByteArray) (vU bF bT vF vT:Value) (lF lT:List Nat):Prop where
 ext:zb w0 wr
 lo:w0.heap.size<=g7
 box:zg wr g7 32 #[.int .i64 m.w,.int .i64 m.h,.int .i64 m.l,bF,vU,bT]
 fr:∃vs,wr.ownsRow w0.heap.size 29 1 vF lF.length vs/\∀(i k:Nat),lF[i]?=some k->∃u,vs[i]?=some u/\An w ok u (m.free.getD k [])
 tk:∃us,wr.ownsRow w0.heap.size 56 3 vT lT.length us/\∀(i k:Nat),lT[i]?=some k->∃u1 u2,us[i*3]?=some (.string (ns.getD k ⟨#[]⟩))/\us[i*3+1]?=some u1/\us[i*3+2]?=some u2/\zi w ok u1 (m.tasks.getD k ([],[])).1/\zi w ok u2 (m.tasks.getD k ([],[])).2
section
variable {w w0 wr w':World} {ok:Nat->Prop} {g7:Nat} {m:MZ} {ns:List ByteArray} {vU bF bT vF vT v':Value} {lF lT:List Nat}
theorem SubR.more (h:SubR w w0 wr ok g7 m ns vU bF bT vF vT lF lT) (s:zb wr w'):SubR w w0 w' ok g7 m ns vU bF bT vF vT lF lT:=by
 obtain ⟨vs,D,he⟩:=h.fr;obtain ⟨us,hp,z⟩:=h.tk;exact ⟨h.ext.trans s,h.lo,h.box.ext s,⟨vs,AH D s,he⟩,us,AH hp s,z⟩
theorem SubR.addT (h:SubR w w0 wr ok g7 m ns vU bF bT vF vT lF lT) {us:List Value} {u1 u2:Value} (M:∀(i k:Nat),lT[i]?=some k->∃u1 u2,us[i*3]?=some (.string (ns.getD k ⟨#[]⟩))/\us[i*3+1]?=some u1/\us[i*3+2]?=some u2/\zi w ok u1 (m.tasks.getD k ([],[])).1/\zi w ok u2 (m.tasks.getD k ([],[])).2)
  (U:us.length=lT.length*3) (L:wr.ownsRow w0.heap.size 56 3 vT lT.length us) (h1:zi w ok u1 (m.tasks.getD k ([],[])).1) (h2:zi w ok u2 (m.tasks.getD k ([],[])).2) (T:w'.ownsRow w0.heap.size 56 3 v' (lT.length+1) (us++[.string (ns.getD k ⟨#[]⟩),u1,u2])) (E:wr.grownBy w' vT.ownBlock):
  SubR w w0 w' ok g7 m ns vU bF bT vF v' lF (lT++[k]):=by
 have J:∀b,vT.ownBlock=some b->∃t cs,zg wr b t cs/\t=56:=fun b D=>by obtain ⟨cs,s,-⟩:=Do L D;exact ⟨_,cs,s,rfl⟩
 obtain ⟨vs,I,he⟩:=h.fr;refine ⟨h.ext.grown E h.ext.size (fun k Q=>by obtain ⟨cs,-,s⟩:=Do L Q;exact s),h.lo,?_,⟨vs,zQ I E (fun b D=>by obtain ⟨t,cs,s,rfl⟩:=J b D;exact ⟨_,cs,s,by decide⟩),he⟩,us++[.string (ns.getD k ⟨#[]⟩),u1,u2],by rw [EV];exact T,fun i y z=>?_⟩
 ·refine (E.block g7 (zd h.box) (fun e=>?_)).trans h.box;obtain ⟨t,cs,s,rfl⟩:=J g7 e.symm;exact zg.ne_ s h.box (by decide) rfl
 ·by_cases O:i<lT.length
  ·rw [ES O] at z;obtain ⟨u1',u2',q0,q1,q2,i1,i2⟩:=M i y z;exact ⟨u1',u2',by rw [ES (by omega)];exact q0,by rw [ES (by omega)];exact q1,by rw [ES (by omega)];exact q2,i1,i2⟩
  ·have G:i=lT.length:=by
    obtain ⟨h,-⟩:=FM.1 z;rw [EV,Fo] at h;omega
   subst G;rw [ET (EN _),Nat.sub_self] at z;have e1:k=y:=by simpa using z
   subst e1;refine ⟨u1,u2,?_,?_,?_,h1,h2⟩
   ·rw [ET (by omega),show lT.length*3 - us.length=0 by omega];rfl
   ·rw [ET (by omega),show lT.length*3+1 - us.length=1 by omega];rfl
   ·rw [ET (by omega),show lT.length*3+2 - us.length=2 by omega];rfl
theorem SubR.addF (h:SubR w w0 wr ok g7 m ns vU bF bT vF vT lF lT) (he:∀(i k:Nat),lF[i]?=some k->∃u,vs[i]?=some u/\An w ok u (m.free.getD k []))
  (J:vs.length=lF.length) (M:wr.ownsRow w0.heap.size 29 1 vF lF.length vs) (h1:An w ok u (m.free.getD k [])) (U:w'.ownsRow w0.heap.size 29 1 v' (lF.length+1) (vs++[u])) (E:wr.grownBy w' vF.ownBlock):
  SubR w w0 w' ok g7 m ns vU bF bT v' vT (lF++[k]) lT:=by
 have L:∀b,vF.ownBlock=some b->∃t cs,zg wr b t cs/\t=29:=fun b D=>by obtain ⟨cs,s,-⟩:=Do M D;exact ⟨_,cs,s,rfl⟩
 obtain ⟨us,I,O⟩:=h.tk;refine ⟨h.ext.grown E h.ext.size (fun k T=>by obtain ⟨cs,-,s⟩:=Do M T;exact s),h.lo,?_,⟨vs++[u],by rw [EV];exact U,fun i y z=>?_⟩,us,zQ I E (fun b D=>by obtain ⟨t,cs,s,rfl⟩:=L b D;exact ⟨_,cs,s,by decide⟩),O⟩
 ·refine (E.block g7 (zd h.box) (fun e=>?_)).trans h.box;obtain ⟨t,cs,s,rfl⟩:=L g7 e.symm;exact zg.ne_ s h.box (by decide) rfl
 ·by_cases Q:i<lF.length
  ·rw [ES Q] at z;obtain ⟨u',q0,i1⟩:=he i y z;exact ⟨u',by rw [ES (by omega)];exact q0,i1⟩
  ·have G:i=lF.length:=by
    obtain ⟨h,-⟩:=FM.1 z;rw [EV,Fo] at h;omega
   subst G;rw [ET (EN _),Nat.sub_self] at z;have e1:k=y:=by simpa using z
   subst e1;exact ⟨u,by rw [ET (by omega),J,Nat.sub_self];rfl,h1⟩
theorem SubR.setT (h:SubR w w0 wr ok g7 m ns vU bF bT vF vT lF lT):SubR w w0 (wr.setCell ⟨g7,5,none⟩ vT) ok g7 m ns vU bF vT vF vT lF lT:=by
 obtain ⟨vs,E,he⟩:=h.fr;obtain ⟨us,hp,D⟩:=h.tk;have z:=BZ wr g7 5 vT;exact ⟨h.ext.setCell (p:=⟨g7,5,none⟩) h.lo _,h.lo,h.box.set (k:=5) vT,⟨vs,zQ E z (fun b s=>by injection s with s;subst s;exact ⟨_,_,h.box,by decide⟩),he⟩,us,zQ hp z (fun b s=>by injection s with s;subst s;exact ⟨_,_,h.box,by decide⟩),D⟩
theorem SubR.setF (h:SubR w w0 wr ok g7 m ns vU bF bT vF vT lF lT):SubR w w0 (wr.setCell ⟨g7,3,none⟩ vF) ok g7 m ns vU vF bT vF vT lF lT:=by
 obtain ⟨vs,E,he⟩:=h.fr;obtain ⟨us,hp,D⟩:=h.tk;have z:=BZ wr g7 3 vF;exact ⟨h.ext.setCell (p:=⟨g7,3,none⟩) h.lo _,h.lo,h.box.set (k:=3) vF,⟨vs,zQ E z (fun b s=>by injection s with s;subst s;exact ⟨_,_,h.box,by decide⟩),he⟩,us,zQ hp z (fun b s=>by injection s with s;subst s;exact ⟨_,_,h.box,by decide⟩),D⟩
theorem SubR.maze (h:SubR w w0 wr ok g7 m ns vU vF vT vF vT lF lF) (I:An w ok vU m.up) (E:zb w wr):Cn wr (fun b=>b<w.heap.size\/w0.heap.size<=b) (.agg #[.int .i64 m.w,.int .i64 m.h,.int .i64 m.l,vF,vU,vT]) ⟨m.w,m.h,m.l,lF.map (m.free.getD · []),m.up,lF.map (m.tasks.getD · ([],[]))⟩ (lF.map (ns.getD · ⟨#[]⟩)):=by
 obtain ⟨vs,M,he⟩:=h.fr;obtain ⟨us,hp,L⟩:=h.tk;refine ⟨_,_,_,rfl,⟨vs,?_,fun i x D=>?_⟩,(I.bound.below E).weaken fun _ h=>.inl h.2,by simp,us,?_,fun i x s D z=>?_⟩
 ·have:=(zV.of_own M).weaken (ok':=fun b=>b<w.heap.size\/w0.heap.size<=b) fun _ h=>.inr h
  simpa using this
 ·rw [Fx] at D;obtain ⟨k,G,rfl⟩:=Option.map_eq_some_iff.1 D;obtain ⟨u,O,J⟩:=he i k G;exact ⟨u,O,(J.bound.below E).weaken fun _ h=>.inl h.2⟩
 ·have:=(zV.of_own hp).weaken (ok':=fun b=>b<w.heap.size\/w0.heap.size<=b) fun _ h=>.inr h
  simpa using this
 ·rw [Fx] at D z;obtain ⟨k,G,rfl⟩:=Option.map_eq_some_iff.1 D;rw [G] at z;have z:ns.getD k ⟨#[]⟩=s:=by simpa using z
  subst z;obtain ⟨u1,u2,q0,q1,q2,i1,i2⟩:=L i k G;exact ⟨u1,u2,q0,q1,q2,(i1.bound.below E).weaken fun _ h=>.inl h.2,(i2.bound.below E).weaken fun _ h=>.inl h.2⟩
end
theorem qsub_calls {okm okf:Nat->Prop} {vf:Value} {m:MZ} {ps:List (List Int)} {ns:List ByteArray} (t:Int) (w:World) (hm:Cn w okm v m ns) (hl:Lens m) (hf:zq w okf vf ps) (n4:ps.length<=1000000000000) (i7:∀x∈ps,x.length<=20000000000000):
  Calls Tryz.prog 23 #[v,vf,.int .i64 t] w fun e w'=>∃v',e=.returned v'/\zb w w'/\Cn w' (fun _=>True) v' (subO m ps t) (subN m ps t ns):=by
 have l6:=zh hm.maze;have HL:=zh hl;have l1:=zh i7;have l0:=zh hf;obtain ⟨_,_,_,rfl,j4,j6,j5⟩:=hm;have l2:=zh j4;have l5:=zh j6;have l4:=zh j5;obtain ⟨_,⟨Af,cf,rfl,p7,-⟩,-⟩:=j4;obtain ⟨Au,cu,rfl,p9,-⟩:=j6;obtain ⟨-,_,⟨At,ct,rfl,p8,-⟩,-⟩:=j5;obtain ⟨vfs,⟨A,c,rfl,m8,hr⟩,i5⟩:=hf;have HR:=zh hr;have k9:=zh i5;have o4:=hl.ts;clear hl hr i5 i7
 go_enter Tryz.func23,Tryz.ntmps23
 go_upto_region 1 with fail;obtain ⟨f9,r0,r1,r2,r3,r4,r5⟩:=CG w (.int .i64 m.w) (.int .i64 m.h) (.int .i64 m.l) (.slice Af m.free.length cf) (.slice Au m.up.length cu) (.slice At m.tasks.length ct);have b7:(w.alloc (.cells #[.int .i64 m.w,.int .i64 m.h,.int .i64 m.l,.slice Af m.free.length cf,.slice Au m.up.length cu,.slice At m.tasks.length ct] 32)).heap.size=w.heap.size+1:=by simp
 generalize w.alloc _=w1 at f9 r0 r1 r2 r3 r4 r5 b7⊢;have z:=zg.new w1 #[.int .i64 0,.int .i64 0,.int .i64 0,.slice none 0 0,.slice none 0 0,.slice none 0 0] 32 (g:=w1.heap.size) rfl;have e6:zb w1 (w1.alloc (.cells #[.int .i64 0,.int .i64 0,.int .i64 0,.slice none 0 0,.slice none 0 0,.slice none 0 0] 32)):=(zb.refl w1).alloc _;have e8:(w1.alloc (.cells #[.int .i64 0,.int .i64 0,.int .i64 0,.slice none 0 0,.slice none 0 0,.slice none 0 0] 32)).heap.size=w1.heap.size+1:=by simp
 generalize w1.alloc _=w2 at z e6 e8⊢;obtain ⟨gm,j0⟩:=zak w.heap.size;rw [<-j0] at r0 r1 r2 r3 r4 r5 b7⊢;obtain ⟨gz,g0⟩:=zak (gm+1);rw [<-g0] at b7
 try rw [<-g0]
 rw [b7] at z e8
 try rw [b7]
 have HZ:=zh z;have c7:Hid (gz=w.heap.size+1/\w2.heap.size=gz+1):=⟨by omega,e8⟩;have a1:=zh e6;have b4:=zh (f9.trans e6);have r0:=fun W h=>r0 W (a1.out.trans h)
 have r1:=fun W h=>r1 W (a1.out.trans h)
 have r2:=fun W h=>r2 W (a1.out.trans h)
 have r3:=fun W h=>r3 W (a1.out.trans h)
 have r4:=fun W h=>r4 W (a1.out.trans h)
 have r5:=fun W h=>r5 W (a1.out.trans h)
 clear j0 g0 b7 e8 z f9 e6;have V:zb w2 w2:=zb.refl w2
 go_wp2_with fail
 refine (qlaid_calls w2 (l6.out.below b4.out) HL.out (l0.out.below b4.out) n4 l1.out).mono ?_;rintro e w3 ⟨rfl,l7⟩;clear V;have V:zb w2 w3:=l7
 cases a0:AV m ps with
 | false=>
  have HO:Hid (subO m ps t=CU/\subN m ps t ns=[]):=⟨by unfold subO;rw [a0];rfl,by unfold subN;rw [a0];rfl⟩;clear a0;have z:zg w3 gz 32 #[.int .i64 0,.int .i64 0,.int .i64 0,.slice none 0 0,.slice none 0 0,.slice none 0 0]:=HZ.out.ext V;have z0:w3.cell? ⟨gz,0,none⟩=some (.int .i64 0):=z.cell (k:=0) rfl;have z1:w3.cell? ⟨gz,1,none⟩=some (.int .i64 0):=z.cell (k:=1) rfl;have z2:w3.cell? ⟨gz,2,none⟩=some (.int .i64 0):=z.cell (k:=2) rfl;have z3:w3.cell? ⟨gz,3,none⟩=some (.slice none 0 0):=z.cell (k:=3) rfl;have z4:w3.cell? ⟨gz,4,none⟩=some (.slice none 0 0):=z.cell (k:=4) rfl;have z5:w3.cell? ⟨gz,5,none⟩=some (.slice none 0 0):=z.cell (k:=5) rfl;have hfz:∀j,w3.frozen? ⟨gz,j,none⟩=false:=fun j=>z.frozen j
  have a8:=zh z;have d5:=zh (b4.out.trans V);clear z
  go_wp2_with fail
  refine zX (P:=fun W=>bodyPost Tryz.prog Tryz.f23 _ Exit.ret _ W) (g2:=gz) ?_ a8.out;intro WZ D b0 hk;have y0:WZ.cell? ⟨gz,0,none⟩=some (.int .i64 0):=D.cell (k:=0) rfl;have y1:WZ.cell? ⟨gz,1,none⟩=some (.int .i64 0):=D.cell (k:=1) rfl;have y2:WZ.cell? ⟨gz,2,none⟩=some (.int .i64 0):=D.cell (k:=2) rfl;have y3:WZ.cell? ⟨gz,3,none⟩=some (.slice none 0 0):=D.cell (k:=3) rfl;have y4:WZ.cell? ⟨gz,4,none⟩=some (.slice none 0 0):=D.cell (k:=4) rfl;have y5:WZ.cell? ⟨gz,5,none⟩=some (.slice none 0 0):=D.cell (k:=5) rfl;refine FK (v:=.agg #[.int .i64 0,.int .i64 0,.int .i64 0,.slice none 0 0,.slice none 0 0,.slice none 0 0]) (by simp [results,Tryz.results23,go_sem,y0,y1,y2,y3,y4,y5]) rfl ⟨_,rfl,Below.trans d5.out (b0.mono (by have:=c7.out.1;omega)),?_⟩;rw [HO.out.1,HO.out.2];exact ⟨_,_,_,rfl,⟨[],⟨none,0,rfl,EN _,zN.nil _ _ _ _⟩,fun i x V=>by simp [CU] at V⟩,⟨none,0,rfl,EN _,zN.nil _ _ _ _⟩,rfl,[],⟨none,0,rfl,EN _,zN.nil _ _ _ _⟩,fun i x s V=>by simp [CU] at V⟩
 | true=>
  have e7:AY m=0:=(AS.1 a0).1;by_cases r7:t<0
  ·have HO:Hid (subO m ps t=CU/\subN m ps t ns=[]):=by
    have hk:AM m t=false:=by rw [<-Bool.not_eq_true,Be];omega
    exact ⟨by unfold subO;rw [hk,Bool.and_false];rfl,by unfold subN;rw [hk,Bool.and_false];rfl⟩
   clear a0;have z:zg w3 gz 32 #[.int .i64 0,.int .i64 0,.int .i64 0,.slice none 0 0,.slice none 0 0,.slice none 0 0]:=HZ.out.ext V;have z0:w3.cell? ⟨gz,0,none⟩=some (.int .i64 0):=z.cell (k:=0) rfl;have z1:w3.cell? ⟨gz,1,none⟩=some (.int .i64 0):=z.cell (k:=1) rfl;have z2:w3.cell? ⟨gz,2,none⟩=some (.int .i64 0):=z.cell (k:=2) rfl;have z3:w3.cell? ⟨gz,3,none⟩=some (.slice none 0 0):=z.cell (k:=3) rfl;have z4:w3.cell? ⟨gz,4,none⟩=some (.slice none 0 0):=z.cell (k:=4) rfl;have z5:w3.cell? ⟨gz,5,none⟩=some (.slice none 0 0):=z.cell (k:=5) rfl;have hfz:∀j,w3.frozen? ⟨gz,j,none⟩=false:=fun j=>z.frozen j
   have a8:=zh z;have d5:=zh (b4.out.trans V);clear z
   go_wp2_with fail
   refine zX (P:=fun W=>bodyPost Tryz.prog Tryz.f23 _ Exit.ret _ W) (g2:=gz) ?_ a8.out;intro WZ D b0 hk;have y0:WZ.cell? ⟨gz,0,none⟩=some (.int .i64 0):=D.cell (k:=0) rfl;have y1:WZ.cell? ⟨gz,1,none⟩=some (.int .i64 0):=D.cell (k:=1) rfl;have y2:WZ.cell? ⟨gz,2,none⟩=some (.int .i64 0):=D.cell (k:=2) rfl;have y3:WZ.cell? ⟨gz,3,none⟩=some (.slice none 0 0):=D.cell (k:=3) rfl;have y4:WZ.cell? ⟨gz,4,none⟩=some (.slice none 0 0):=D.cell (k:=4) rfl;have y5:WZ.cell? ⟨gz,5,none⟩=some (.slice none 0 0):=D.cell (k:=5) rfl;refine FK (v:=.agg #[.int .i64 0,.int .i64 0,.int .i64 0,.slice none 0 0,.slice none 0 0,.slice none 0 0]) (by simp [results,Tryz.results23,go_sem,y0,y1,y2,y3,y4,y5]) rfl ⟨_,rfl,Below.trans d5.out (b0.mono (by have:=c7.out.1;omega)),?_⟩;rw [HO.out.1,HO.out.2];exact ⟨_,_,_,rfl,⟨[],⟨none,0,rfl,EN _,zN.nil _ _ _ _⟩,fun i x V=>by simp [CU] at V⟩,⟨none,0,rfl,EN _,zN.nil _ _ _ _⟩,rfl,[],⟨none,0,rfl,EN _,zN.nil _ _ _ _⟩,fun i x s V=>by simp [CU] at V⟩
  ·by_cases r8:(m.tasks.length:Int)<=t
   ·have HO:Hid (subO m ps t=CU/\subN m ps t ns=[]):=by
     have hk:AM m t=false:=by rw [<-Bool.not_eq_true,Be];omega
     exact ⟨by unfold subO;rw [hk,Bool.and_false];rfl,by unfold subN;rw [hk,Bool.and_false];rfl⟩
    clear a0;have z:zg w3 gz 32 #[.int .i64 0,.int .i64 0,.int .i64 0,.slice none 0 0,.slice none 0 0,.slice none 0 0]:=HZ.out.ext V;have z0:w3.cell? ⟨gz,0,none⟩=some (.int .i64 0):=z.cell (k:=0) rfl;have z1:w3.cell? ⟨gz,1,none⟩=some (.int .i64 0):=z.cell (k:=1) rfl;have z2:w3.cell? ⟨gz,2,none⟩=some (.int .i64 0):=z.cell (k:=2) rfl;have z3:w3.cell? ⟨gz,3,none⟩=some (.slice none 0 0):=z.cell (k:=3) rfl;have z4:w3.cell? ⟨gz,4,none⟩=some (.slice none 0 0):=z.cell (k:=4) rfl;have z5:w3.cell? ⟨gz,5,none⟩=some (.slice none 0 0):=z.cell (k:=5) rfl;have hfz:∀j,w3.frozen? ⟨gz,j,none⟩=false:=fun j=>z.frozen j
    have a8:=zh z;have d5:=zh (b4.out.trans V);clear z
    go_wp2_with fail
    refine zX (P:=fun W=>bodyPost Tryz.prog Tryz.f23 _ Exit.ret _ W) (g2:=gz) ?_ a8.out;intro WZ D b0 hk;have y0:WZ.cell? ⟨gz,0,none⟩=some (.int .i64 0):=D.cell (k:=0) rfl;have y1:WZ.cell? ⟨gz,1,none⟩=some (.int .i64 0):=D.cell (k:=1) rfl;have y2:WZ.cell? ⟨gz,2,none⟩=some (.int .i64 0):=D.cell (k:=2) rfl;have y3:WZ.cell? ⟨gz,3,none⟩=some (.slice none 0 0):=D.cell (k:=3) rfl;have y4:WZ.cell? ⟨gz,4,none⟩=some (.slice none 0 0):=D.cell (k:=4) rfl;have y5:WZ.cell? ⟨gz,5,none⟩=some (.slice none 0 0):=D.cell (k:=5) rfl;refine FK (v:=.agg #[.int .i64 0,.int .i64 0,.int .i64 0,.slice none 0 0,.slice none 0 0,.slice none 0 0]) (by simp [results,Tryz.results23,go_sem,y0,y1,y2,y3,y4,y5]) rfl ⟨_,rfl,Below.trans d5.out (b0.mono (by have:=c7.out.1;omega)),?_⟩;rw [HO.out.1,HO.out.2];exact ⟨_,_,_,rfl,⟨[],⟨none,0,rfl,EN _,zN.nil _ _ _ _⟩,fun i x V=>by simp [CU] at V⟩,⟨none,0,rfl,EN _,zN.nil _ _ _ _⟩,rfl,[],⟨none,0,rfl,EN _,zN.nil _ _ _ _⟩,fun i x s V=>by simp [CU] at V⟩
   ·obtain ⟨tn,rfl⟩:∃tn:Nat,t=tn:=⟨t.toNat,by omega⟩;have f8:AM m (tn:Int)=true:=Be.2 ⟨e7,by omega,by omega⟩;have HO:Hid (subO m ps (tn:Int)=CK m ps tn/\subN m ps (tn:Int) ns=(Dj ps tn).map (ns.getD · ⟨#[]⟩)):=⟨by unfold subO;rw [a0,f8,FF];rfl,by unfold subN;rw [a0,f8,FF];rfl⟩;have j8:=(AS.1 a0).2.1;have HC:=zh e7;have G:=zh (zI.of e7);have n6:=G.out.dim.n1;have h4:=G.out.tk;have q9:ps.length<=6:=by omega
    have o6:decide ((tn:Int)<0)=false:=ER (by omega);have o7:decide ((m.tasks.length:Int)<=(tn:Int))=false:=ER (by omega);have o8:decide (m.tasks.length<=tn)=false:=ER (by omega);have o9:¬ m.tasks.length<=tn:=by omega
    have i0:=zh j8;clear e7 a0 f8 n6 j8;have a9:Hid (zb w w3):=b4.out.trans V;have e3:=zh V;have k3:=fun W h=>r3 W (e3.out.trans h)
    have k5:=fun W h=>r5 W (e3.out.trans h)
    go_upto_region 4 with fail;have a6:=zg.new w3 #[.int .i64 m.w,.int .i64 m.h,.int .i64 m.l,.slice Af m.free.length cf,.slice Au m.up.length cu,.slice At m.tasks.length ct] 32 (g:=w3.heap.size) rfl;have f7:zb w3 (w3.alloc (.cells #[.int .i64 m.w,.int .i64 m.h,.int .i64 m.l,.slice Af m.free.length cf,.slice Au m.up.length cu,.slice At m.tasks.length ct] 32)):=(zb.refl w3).alloc _;generalize w3.alloc _=w4 at a6 f7⊢;obtain ⟨g7,i8⟩:∃g,g=w3.heap.size:=⟨_,rfl⟩;rw [<-i8] at a6⊢;have f4:Hid (w3.heap.size<=g7):=by (show _<=_);omega
    have z5:=a6.frozen 5;have z3:=a6.frozen 3;have c5:=a6.cell (k:=5) rfl;have c3:=a6.cell (k:=3) rfl;clear i8 V r0 r1 r2 r3 r4 r5;go_upto_region 6 with fail;have f6:zg ((w4.setCell ⟨g7,5,none⟩ (.slice none 0 0)).setCell ⟨g7,3,none⟩ (.slice none 0 0)) g7 32 #[.int .i64 m.w,.int .i64 m.h,.int .i64 m.l,.slice none 0 0,.slice Au m.up.length cu,.slice none 0 0]:=(a6.set (k:=5) _).set (k:=3) _;have e4:zb w3 ((w4.setCell ⟨g7,5,none⟩ (.slice none 0 0)).setCell ⟨g7,3,none⟩ (.slice none 0 0)):=Below.setCell (Below.setCell f7 (p:=⟨g7,5,none⟩) f4.out _) (p:=⟨g7,3,none⟩) f4.out _;generalize ((w4.setCell ⟨g7,5,none⟩ (.slice none 0 0)).setCell ⟨g7,3,none⟩ (.slice none 0 0))=w5 at f6 e4⊢;have i1:Hid (SubR w w3 w5 okm g7 m ns (.slice Au m.up.length cu) (.slice none 0 0) (.slice none 0 0) (.slice none 0 0) (.slice none 0 0) (zP ps tn 0) (zP ps tn 0)):=⟨e4,f4.out,f6,⟨[],World.ownsRow_nil _ _ _ _,fun i k h=>by cases h⟩,[],World.ownsRow_nil _ _ _ _,fun i k h=>by cases h⟩;have n7:zb w3 w5:=e4;clear a6 f7 z5 z3 c5 c3 f6 e4
    go_wp2_with fail
    clear n7;go_loopw [8] (fun i wr=>∃k:Nat,k<=m.tasks.length/\i=.int .i64 (k:Nat)/\Hid (∃vF vT,SubR w w3 wr okm g7 m ns (.slice Au m.up.length cu) vF vT vF vT (zP ps tn k) (zP ps tn k))) (fun i _=>m.tasks.length - (intOf i).toNat)
    case atStart=>exact ⟨0,Fb _,rfl,_,_,i1.out⟩
    clear i1
    case round=>
     obtain ⟨k,hk,rfl,hS⟩:=hrel;obtain ⟨wk,rfl⟩:∃wk:World,wk=wr:=⟨_,rfl⟩;have f1:zb w3 wk:=by obtain ⟨_,_,h⟩:=hS.out;exact h.ext
     by_cases a5:k<m.tasks.length
     ·obtain ⟨bt,offt,u1,u2,rfl,t0,t1,t2,j1,j2⟩:=tasksNAt l4.out a5;have d6:m.tasks.getD k ([],[])=m.tasks[k]:=zgd a5
      have g3:zi w okm u1 (m.tasks.getD k ([],[])).1:=by rw [d6];exact j1
      have g4:zi w okm u2 (m.tasks.getD k ([],[])).2:=by rw [d6];exact j2
      have h6:=zh g3;have h7:=zh g4;generalize h4:m.tasks.getD k ([],[])=tk at g3 g4;have p6:Hid (m.tasks.getD k ([],[])=tk):=h4;obtain ⟨A1,c1,rfl,-,-⟩:=g3;obtain ⟨A2,c2,rfl,-,-⟩:=g4;have g8:k<m.free.length:=by rw [G.out.fl];exact a5
      obtain ⟨vff,⟨_,_,e1,-,j9⟩,f3⟩:=l2.out;injection e1 with e1 eqn eqc;subst e1;clear eqn eqc;obtain ⟨bf,offf,uf,rfl,-,f0,i6⟩:=zO j9 f3 g8 g8;have i9:m.free.getD k []=m.free[k]:=zgd g8
      have g5:An w okm uf (m.free.getD k []):=by rw [i9];exact i6
      have h8:=zh g5;generalize n3:m.free.getD k []=fk at g5;obtain ⟨A3,c3,rfl,-,-⟩:=g5;obtain ⟨s,g9⟩:=zak (ns.getD k ⟨#[]⟩);rw [<-g9] at t0;have i2:=zh g9;have d7:k<ps.length:=by have:=i0.out;omega
      obtain ⟨bp,offp,up,rfl,_,f2,k4⟩:=zO HR.out k9.out d7 d7;have j7:ps.getD k []=ps[k]:=zgd d7
      have d9:Hid (Bx ps tn k=(decide ((k:Int)=(tn:Int)) || decide (0<ps[k].length))):=by
       show _=_;unfold Bx;rw [j7];congr 1
       ·rw [decide_eq_decide];omega
       ·rw [decide_eq_decide,Ne,<-List.length_eq_zero_iff];omega
      generalize hq:ps[k]'d7=q at k4 d9;obtain ⟨Aq,cq,rfl,-,-⟩:=k4;have rp:∀W,zb w3 W->W.cell? ⟨bp,offp+k,none⟩=some (.slice Aq q.length cq):=zb.rule (a9.out.cell f2);have rt0:∀W,zb w3 W->W.cell? ⟨bt,offt+k*3,none⟩=some (.string s):=zb.rule (a9.out.cell t0);have rt1:∀W,zb w3 W->W.cell? ⟨bt,offt+k*3+1,none⟩=_:=zb.rule (a9.out.cell t1);have rt2:∀W,zb w3 W->W.cell? ⟨bt,offt+k*3+2,none⟩=_:=zb.rule (a9.out.cell t2);have rf0:∀W,zb w3 W->W.cell? ⟨bf,offf+k,none⟩=_:=zb.rule (a9.out.cell f0);have q6:(k:Int)<(ps.length:Int):=by omega
      have q7:(k:Int)<(m.tasks.length:Int):=by omega
      have q5:(k:Int)<(m.free.length:Int):=by omega
      have q4:(0:Int)<=(k:Int):=by omega
      have p3:Hid (ps.length<=c):=m8;clear h4 n3 t0 t1 t2 j1 j2 d6 j9 f3 f0 i6 i9 g9 f2 j7 hq d7;go_upto_region 9 with fail;obtain ⟨kb,g6⟩:∃b,b=Bx ps tn k:=⟨_,rfl⟩;rw [<-g6] at d9;have h9:=zh g6;clear g6;go_cut [45] (fun v wx=>v=.bool kb/\wk=wx)
      case first=>
       by_cases b6:(k:Int)=(tn:Int)
       ·have hd:((k:Int)==(tn:Int))=true:=by simp [b6]
        have m9:(k==tn)=true:=by rw [beq_iff_eq];omega
        have HD:Hid (kb=true):=by show _=_;rw [d9.out,EQ b6];rfl
        clear b6
        go_wp2_with fail
        go_meet;exact ⟨by rw [HD.out],rfl⟩
       ·have hd:((k:Int)==(tn:Int))=false:=by rw [Fa];exact b6
        have m9:(k==tn)=false:=by rw [Fa];omega
        have HD:Hid (kb=decide (0<q.length)):=by show _=_;rw [d9.out,ER b6];rfl
        clear b6
        go_wp2_with fail
        go_meet;refine ⟨?_,rfl⟩;rw [HD.out]
        all_goals (first | rfl | (congr 1;done) | (congr 1;rw [decide_eq_decide];omega))
      case rest=>
       obtain ⟨rfl,rfl⟩:=hcut
       cases kb with
       | false=>
        have HK:=zh (keepTo_f (show Bx ps tn k=false from h9.out.symm))
        go_wp2_with fail
        go_roundw
        case rel=>exact ⟨k+1,a5,by go_num,by rw [HK.out];exact hS.out⟩
        case measure=>simp [intOf];omega
       | true=>
        have HK:=zh (keepTo_t (show Bx ps tn k=true from h9.out.symm));obtain ⟨vF,vT,L⟩:=hS.out;have c6:=zh L;obtain ⟨us,b8,k2⟩:=L.tk;obtain ⟨vs,a7,e9⟩:=L.fr;obtain ⟨AT,nT,cT,rfl⟩:∃A n c,vT=.slice A n c:=by obtain ⟨A,c,e,-⟩:=zV.of_own b8;exact ⟨A,_,c,e⟩
        obtain ⟨AF,nF,cF,rfl⟩:∃A n c,vF=.slice A n c:=by obtain ⟨A,c,e,-⟩:=zV.of_own a7;exact ⟨A,_,c,e⟩
        have d4:=zh b8;have f5:=zh k2;have q8:=keepTo_len ps tn k;clear hS L b8 k2 a7 e9;have o3:(zP ps tn k).length<=6:=by omega
        go_upto_region 10 with fail;go_cut [46] (fun v wx=>Hid (∃A n c,SubR w w3 wx okm g7 m ns (.slice Au m.up.length cu) (.slice AF nF cF) (.slice A n c) (.slice AF nF cF) (.slice A n c) (zP ps tn k) (zP ps tn k++[k])))
        case first=>
         refine Fd (S:=(fun W=>zb w3 W)) zU (f1.drew) fun zH=>?_;have a3:zb w3 wk.drew:=zH;have a4:zb wk wk.drew:=(zb.refl wk).drew;generalize wk.drew=wd at zH a3 a4⊢;refine ze 0 zH ?_;refine ze 2 zH ?_;simp only [za,EK];refine ze 3 zH ?_;refine ze 4 zH ?_;simp only [za,EK];refine ze 5 zH ?_;refine ze 6 zH ?_;simp only [za,EK];refine rdA [1,7] ?_;refine Fp rfl (fun K E=>?_) ?_
         ·have l9:=(c6.out.more a4).box.cell (k:=5) rfl;go_simp;refine zal E (a3) fun zH=>?_;clear E K;try simp only [za,EK]
          refine zx 7 fun K E=>?_;go_simp;have b3:=zg.new wd #[.string s,.slice A1 tk.1.length c1,.slice A2 tk.2.length c2] 56 (g:=wd.heap.size) rfl;have Q:zb w3 (wd.alloc (.cells #[.string s,.slice A1 tk.1.length c1,.slice A2 tk.2.length c2] 56)):=zb.alloc (a3) _;have O:zb wk (wd.alloc (.cells #[.string s,.slice A1 tk.1.length c1,.slice A2 tk.2.length c2] 56)):=zb.alloc (a4) _;generalize wd.alloc _=wb at*;generalize wd.heap.size=gb at*;refine zal E (Q) fun zH=>?_;clear E K;try simp only [za,EK]
          refine zx 8 fun K E=>?_;have T:=zh (c6.out.more O);have I:=AH d4.out O;refine zB (ok:=fun _=>True) (by rfl) wb _ _ eTask (by rfl) w3.heap.size (zP ps tn k).length 1 us [.string s,.slice A1 tk.1.length c1,.slice A2 tk.2.length c2] _ _ (by rfl) (by rfl) I (row1 b3 rfl) (fun u hu=>by simp at hu;rcases hu with rfl | rfl | rfl <;> rfl) (Below.size (Q)) (by unfold maxLen;omega) (by omega) ?_;intro v8 w8 M U _;have J:=zh (T.out.addT (k:=k) f5.out (by have:=d4.out.1;omega) I h6.out h7.out (by rw [<-i2.out];exact M) U);have b1:zb w3 w8:=J.out.ext;obtain ⟨A8,n8,c8,rfl⟩:∃A n c,v8=.slice A n c:=by obtain ⟨A,c,e,-⟩:=zV.of_own M;exact ⟨A,_,c,e⟩
          clear M U I T;refine zal E (b1) fun zH=>?_;clear E K;try simp only [za,EK]
          refine ze 9 zH ?_;simp only [za,EK];refine zx 10 fun K E=>?_;have n2:=J.out.box.frozen 5;have m7:=J.out.box.cell (k:=5) rfl;go_simp;have Z:=zh J.out.setT;have b2:=Z.out.ext;refine zal E (b2) fun zH=>?_;clear E K;try simp only [za,EK]
          refine Fs (by kernel_rfl) ?_ _
          go_wp2_with fail
          go_meet;exact ⟨_,_,_,Z.out⟩
         refine Fp rfl (fun K E=>?_) .nil;go_simp;have b3:=zg.new wd #[.string s,.slice A1 tk.1.length c1,.slice A2 tk.2.length c2] 56 (g:=wd.heap.size) rfl;have Q:zb w3 (wd.alloc (.cells #[.string s,.slice A1 tk.1.length c1,.slice A2 tk.2.length c2] 56)):=zb.alloc (a3) _;have O:zb wk (wd.alloc (.cells #[.string s,.slice A1 tk.1.length c1,.slice A2 tk.2.length c2] 56)):=zb.alloc (a4) _;generalize wd.alloc _=wb at*;generalize wd.heap.size=gb at*;refine zal E (Q) fun zH=>?_;clear E K;try simp only [za,EK]
         refine zx 1 fun K E=>?_;have l9:=(c6.out.more O).box.cell (k:=5) rfl;go_simp;refine zal E (Q) fun zH=>?_;clear E K;try simp only [za,EK]
         refine zx 8 fun K E=>?_;have T:=zh (c6.out.more O);have I:=AH d4.out O;refine zB (ok:=fun _=>True) (by rfl) wb _ _ eTask (by rfl) w3.heap.size (zP ps tn k).length 1 us [.string s,.slice A1 tk.1.length c1,.slice A2 tk.2.length c2] _ _ (by rfl) (by rfl) I (row1 b3 rfl) (fun u hu=>by simp at hu;rcases hu with rfl | rfl | rfl <;> rfl) (Below.size (Q)) (by unfold maxLen;omega) (by omega) ?_;intro v8 w8 M U _;have J:=zh (T.out.addT (k:=k) f5.out (by have:=d4.out.1;omega) I h6.out h7.out (by rw [<-i2.out];exact M) U);have b1:zb w3 w8:=J.out.ext;obtain ⟨A8,n8,c8,rfl⟩:∃A n c,v8=.slice A n c:=by obtain ⟨A,c,e,-⟩:=zV.of_own M;exact ⟨A,_,c,e⟩
         clear M U I T;refine zal E (b1) fun zH=>?_;clear E K;try simp only [za,EK]
         refine ze 9 zH ?_;simp only [za,EK];refine zx 10 fun K E=>?_;have n2:=J.out.box.frozen 5;have m7:=J.out.box.cell (k:=5) rfl;go_simp;have Z:=zh J.out.setT;have b2:=Z.out.ext;refine zal E (b2) fun zH=>?_;clear E K;try simp only [za,EK]
         refine Fs (by kernel_rfl) ?_ _
         go_wp2_with fail
         go_meet;exact ⟨_,_,_,Z.out⟩
        case rest=>
         obtain ⟨A9,n9,c9,e5⟩:=hcut.out;have Z:=zh e5;obtain ⟨vs,a7,e9⟩:=e5.fr;have e0:=zh a7;have i3:=zh e9;have o0:zb w3 wc:=e5.ext;clear hcut e5 a7 e9 f1 c6 d4 f5;go_upto_region 11 with fail;refine Fd (S:=(fun W=>zb w3 W)) zU (o0.drew) fun zH=>?_;have a3:zb w3 wc.drew:=zH;have a4:zb wc wc.drew:=(zb.refl wc).drew;generalize wc.drew=wd at zH a3 a4⊢;refine ze 0 zH ?_;refine ze 2 zH ?_;simp only [za,EK];refine ze 3 zH ?_;refine ze 4 zH ?_;simp only [za,EK];refine ze 5 zH ?_;refine ze 6 zH ?_;simp only [za,EK];refine rdA [1,7] ?_;refine Fp rfl (fun K E=>?_) ?_
         ·have l8:=(Z.out.more a4).box.cell (k:=3) rfl;go_simp;refine zal E (a3) fun zH=>?_;clear E K;try simp only [za,EK]
          refine zx 7 fun K E=>?_;go_simp;have b3:=zg.new wd #[.slice A3 fk.length c3] 29 (g:=wd.heap.size) rfl;have Q:zb w3 (wd.alloc (.cells #[.slice A3 fk.length c3] 29)):=zb.alloc (a3) _;have O:zb wc (wd.alloc (.cells #[.slice A3 fk.length c3] 29)):=zb.alloc (a4) _;generalize wd.alloc _=wb at*;generalize wd.heap.size=gb at*;refine zal E (Q) fun zH=>?_;clear E K;try simp only [za,EK]
          refine zx 8 fun K E=>?_;have T:=zh (Z.out.more O);have I:=AH e0.out O;refine zB (ok:=fun _=>True) (by rfl) wb _ _ eBools (by rfl) w3.heap.size (zP ps tn k).length 1 vs [.slice A3 fk.length c3] _ _ (by rfl) (by rfl) I (row1 b3 rfl) (fun u hu=>by simp at hu;rcases hu with rfl;rfl) (Below.size (Q)) (by unfold maxLen;omega) (by omega) ?_;intro v8 w8 M U _;have J:=zh (T.out.addF (k:=k) i3.out (by have:=e0.out.1;omega) I h8.out M U);have b1:zb w3 w8:=J.out.ext;obtain ⟨A8,n8,c8,rfl⟩:∃A n c,v8=.slice A n c:=by obtain ⟨A,c,e,-⟩:=zV.of_own M;exact ⟨A,_,c,e⟩
          clear M U I T;refine zal E (b1) fun zH=>?_;clear E K;try simp only [za,EK]
          refine ze 9 zH ?_;simp only [za,EK];refine zx 10 fun K E=>?_;have n0:=J.out.box.frozen 3;have m6:=J.out.box.cell (k:=3) rfl;go_simp;have c4:=zh J.out.setF;have b2:=c4.out.ext;refine zal E (b2) fun zH=>?_;clear E K;try simp only [za,EK]
          refine Fs (by kernel_rfl) ?_ _
          go_wp2_with fail
          go_roundw
          case rel=>exact ⟨k+1,a5,by go_num,by rw [HK.out];exact ⟨_,_,c4.out⟩⟩
          case measure=>simp [intOf];omega
         refine Fp rfl (fun K E=>?_) .nil;go_simp;have b3:=zg.new wd #[.slice A3 fk.length c3] 29 (g:=wd.heap.size) rfl;have Q:zb w3 (wd.alloc (.cells #[.slice A3 fk.length c3] 29)):=zb.alloc (a3) _;have O:zb wc (wd.alloc (.cells #[.slice A3 fk.length c3] 29)):=zb.alloc (a4) _;generalize wd.alloc _=wb at*;generalize wd.heap.size=gb at*;refine zal E (Q) fun zH=>?_;clear E K;try simp only [za,EK]
         refine zx 1 fun K E=>?_;have l8:=(Z.out.more O).box.cell (k:=3) rfl;go_simp;refine zal E (Q) fun zH=>?_;clear E K;try simp only [za,EK]
         refine zx 8 fun K E=>?_;have T:=zh (Z.out.more O);have I:=AH e0.out O;refine zB (ok:=fun _=>True) (by rfl) wb _ _ eBools (by rfl) w3.heap.size (zP ps tn k).length 1 vs [.slice A3 fk.length c3] _ _ (by rfl) (by rfl) I (row1 b3 rfl) (fun u hu=>by simp at hu;rcases hu with rfl;rfl) (Below.size (Q)) (by unfold maxLen;omega) (by omega) ?_;intro v8 w8 M U _;have J:=zh (T.out.addF (k:=k) i3.out (by have:=e0.out.1;omega) I h8.out M U);have b1:zb w3 w8:=J.out.ext;obtain ⟨A8,n8,c8,rfl⟩:∃A n c,v8=.slice A n c:=by obtain ⟨A,c,e,-⟩:=zV.of_own M;exact ⟨A,_,c,e⟩
         clear M U I T;refine zal E (b1) fun zH=>?_;clear E K;try simp only [za,EK]
         refine ze 9 zH ?_;simp only [za,EK];refine zx 10 fun K E=>?_;have n0:=J.out.box.frozen 3;have m6:=J.out.box.cell (k:=3) rfl;go_simp;have c4:=zh J.out.setF;have b2:=c4.out.ext;refine zal E (b2) fun zH=>?_;clear E K;try simp only [za,EK]
         refine Fs (by kernel_rfl) ?_ _
         go_wp2_with fail
         go_roundw
         case rel=>exact ⟨k+1,a5,by go_num,by rw [HK.out];exact ⟨_,_,c4.out⟩⟩
         case measure=>simp [intOf];omega
     ·obtain rfl:k=m.tasks.length:=by omega
      obtain ⟨vF,vT,L⟩:=hS.out;have j3:zP ps tn m.tasks.length=Dj ps tn:=by unfold zP Dj;rw [i0.out]
      rw [j3] at L;have l3:Hid (Cn wk (fun b=>b<w.heap.size\/w3.heap.size<=b) (.agg #[.int .i64 m.w,.int .i64 m.h,.int .i64 m.l,vF,.slice Au m.up.length cu,vT]) (CK m ps tn) ((Dj ps tn).map (ns.getD · ⟨#[]⟩))):=L.maze l5.out (a9.out.trans f1);obtain ⟨us,b8,-⟩:=L.tk;obtain ⟨vs,a7,-⟩:=L.fr;obtain ⟨AT,nT,cT,rfl⟩:∃A n c,vT=.slice A n c:=by obtain ⟨A,c,e,-⟩:=zV.of_own b8;exact ⟨A,_,c,e⟩
      obtain ⟨AF,nF,cF,rfl⟩:∃A n c,vF=.slice A n c:=by obtain ⟨A,c,e,-⟩:=zV.of_own a7;exact ⟨A,_,c,e⟩
      have i4:=zh f1;have z:zg wk gz 32 #[.int .i64 0,.int .i64 0,.int .i64 0,.slice none 0 0,.slice none 0 0,.slice none 0 0]:=HZ.out.ext (e3.out.trans i4.out);have z0:wk.cell? ⟨gz,0,none⟩=some (.int .i64 0):=z.cell (k:=0) rfl;have z1:wk.cell? ⟨gz,1,none⟩=some (.int .i64 0):=z.cell (k:=1) rfl;have z2:wk.cell? ⟨gz,2,none⟩=some (.int .i64 0):=z.cell (k:=2) rfl;have z3:wk.cell? ⟨gz,3,none⟩=some (.slice none 0 0):=z.cell (k:=3) rfl;have z4:wk.cell? ⟨gz,4,none⟩=some (.slice none 0 0):=z.cell (k:=4) rfl;have z5:wk.cell? ⟨gz,5,none⟩=some (.slice none 0 0):=z.cell (k:=5) rfl;have hfz:∀j,wk.frozen? ⟨gz,j,none⟩=false:=fun j=>z.frozen j
      have m0:wk.cell? ⟨g7,0,none⟩=some (.int .i64 m.w):=L.box.cell (k:=0) rfl;have m1:wk.cell? ⟨g7,1,none⟩=some (.int .i64 m.h):=L.box.cell (k:=1) rfl;have m2:wk.cell? ⟨g7,2,none⟩=some (.int .i64 m.l):=L.box.cell (k:=2) rfl;have m3:wk.cell? ⟨g7,3,none⟩=some (.slice AF nF cF):=L.box.cell (k:=3) rfl;have m4:wk.cell? ⟨g7,4,none⟩=some (.slice Au m.up.length cu):=L.box.cell (k:=4) rfl;have m5:wk.cell? ⟨g7,5,none⟩=some (.slice AT nT cT):=L.box.cell (k:=5) rfl;have a8:=zh z;clear z L a7 b8 a5 hk hS j3
      go_wp2_with fail
      refine zX (P:=fun W=>bodyPost Tryz.prog Tryz.f23 _ Exit.ret _ W) (g2:=gz) ?_ a8.out;intro WZ D b0 hk;have y0:WZ.cell? ⟨gz,0,none⟩=some (.int .i64 m.w):=D.cell (k:=0) rfl;have y1:WZ.cell? ⟨gz,1,none⟩=some (.int .i64 m.h):=D.cell (k:=1) rfl;have y2:WZ.cell? ⟨gz,2,none⟩=some (.int .i64 m.l):=D.cell (k:=2) rfl;have y3:WZ.cell? ⟨gz,3,none⟩=some (.slice AF nF cF):=D.cell (k:=3) rfl;have y4:WZ.cell? ⟨gz,4,none⟩=some (.slice Au m.up.length cu):=D.cell (k:=4) rfl;have y5:WZ.cell? ⟨gz,5,none⟩=some (.slice AT nT cT):=D.cell (k:=5) rfl;refine FK (v:=.agg #[.int .i64 m.w,.int .i64 m.h,.int .i64 m.l,.slice AF nF cF,.slice Au m.up.length cu,.slice AT nT cT]) (by simp [results,Tryz.results23,go_sem,y0,y1,y2,y3,y4,y5]) rfl ⟨_,rfl,Below.trans (a9.out.trans i4.out) (b0.mono (by have:=c7.out.1;omega)),?_⟩;rw [HO.out.1,HO.out.2];exact l3.out.keepW (fun b hb a5=>hk b a5 (by have h1:=c7.out;have h2:=e3.out.size;rcases hb with hb | hb <;> omega)) (fun _ _=>trivial)
end
section
open Go.RowKit
structure OB (m:MZ) (A Y:Int) (K:Nat):Prop where
 w:-A<=m.w/\m.w<=A
 h:-Y<=m.h/\m.h<=Y
 l:-A<=m.l/\m.l<=A
 fr:m.free.length<=K
 up:m.up.length<=K
 tk:m.tasks.length<=K
 te:∀t∈m.tasks,t.1.length<=K/\t.2.length<=K
theorem OB.lens {m:MZ} {K:Nat} (h:OB m A Y K) (z:K<=1000):Lens m:=
 ⟨by have:=h.fr;omega,by have:=h.up;omega,by have:=h.tk;omega,fun t s=>by have:=h.te t s;omega⟩
def Ce (w:World) (A Y:Int) (K:Nat) (e:Ending) (w':World):Prop:=∃v' m',e=.returned v'/\zb w w'/\zt w' (fun _=>True) v' m'/\OB m' A Y K
def OdS (wA wx:World) (b:Nat) (A Y:Int) (K:Nat):Prop:=
 ∃m' vF vU vT,zg wx b 32 #[.int .i64 m'.w,.int .i64 m'.h,.int .i64 m'.l,vF,vU,vT]/\zt wx (fun b=>b+1≠wA.heap.size) (.agg #[.int .i64 m'.w,.int .i64 m'.h,.int .i64 m'.l,vF,vU,vT]) m'/\OB m' A Y K/\zb wA wx
theorem tasks_one {w:World} {ok:Nat->Prop} {l:List (List Int×List Int)} (E:zV w ok 3 v n vs) (J:n=l.length) (he:∀(i:Nat) x,l[i]?=some x->∃s u1 u2,vs[i*3]?=some (.string s)/\vs[i*3+1]?=some u1/\vs[i*3+2]?=some u2/\zi w ok u1 x.1/\zi w ok u2 x.2):
  ∀u∈vs,u.oneCell'=true:=by
 intro u G;obtain ⟨j,D,rfl⟩:=Fu G;obtain ⟨A,c,_,_,I,_⟩:=E;have z:j / 3<l.length:=by omega
 obtain ⟨s,u1,u2,h0,h1,h2,i1,i2⟩:=he (j / 3) _ (EL z);have h3:vs[j]?=some vs[j]:=EL D;rcases (show j=j / 3*3\/j=j / 3*3+1\/j=j / 3*3+2 by omega) with h | h | h
 ·rw [<-h,h3] at h0;injection h0 with h0;rw [h0];rfl
 ·rw [<-h,h3] at h1;injection h1 with h1;rw [h1];exact CO i1
 ·rw [<-h,h3] at h2;injection h2 with h2;rw [h2];exact CO i2
theorem bools_oneCell {w:World} {ok:Nat->Prop} (h:An w ok v l):v.oneCell'=true:=by
 obtain ⟨A,c,rfl,_⟩:=h;rfl
theorem each_one {α:Type} {R:Value->α->Prop} {w:World} {ok:Nat->Prop} {l:List α} (z:zV w ok 1 v l.length vs) (he:∀(i:Nat) x,l[i]?=some x->∃u,vs[i]?=some u/\R u x) (h1:∀u x,R u x->u.oneCell'=true):∀u∈vs,u.oneCell'=true:=by
 intro u D;obtain ⟨j,s,rfl⟩:=Fu D;obtain ⟨A,c,_,_,E,_⟩:=z;obtain ⟨u,h2,h3⟩:=he j _ (EL (show j<l.length by omega));rw [EL s] at h2;injection h2 with h2;rw [h2];exact h1 _ _ h3
def FI (w:World) (B:Nat) (u:Value):Prop:=∃l,An w (fun b=>b+1<B) u l\/BW w B u l
def TI (w:World) (B K:Nat) (u:Value):Prop:=∃l,l.length<=K/\(zi w (fun b=>b+1<B) u l\/zA w B u l)
structure Bo (B:Nat) (w w':World):Prop where
 old:∀b,b<B->b<w.heap.size->w'.heap[b]?=w.heap[b]?
 typ:∀g ty cs,zg w g ty cs->ty=3\/ty=4->w'.heap[g]?=w.heap[g]?
theorem Bo.of_ext {B:Nat} {w w':World} (h:zb w w'):Bo B w w':=⟨fun b _ s=>h.block b s,fun g ty cs s _=>h.block g (zd s)⟩
theorem Bo.trans {B:Nat} {a b c:World} (h:Bo B a b) (I:a.heap.size<=b.heap.size) (D:Bo B b c):Bo B a c:=
 ⟨fun k E G=>(D.old k E (Fq G I)).trans (h.old k E G),fun g ty cs s z=>(D.typ g ty cs ((h.typ g ty cs s z).trans s) z).trans (h.typ g ty cs s z)⟩
theorem Bo.set {B:Nat} {w:World} {ty:TypeId} (D:zg w g ty cs) (G:B<=g) (z:ty≠3/\ty≠4) (v:Value):Bo B w (w.setCell ⟨g,k,none⟩ v):=
 ⟨fun b s _=>EW w ⟨g,k,none⟩ v b (by show b≠g;omega),fun g' ty' cs' s E=>EW w ⟨g,k,none⟩ v g' (zg.ne_ s D (by rcases E with rfl | rfl;exact Ne.symm z.1;exact Ne.symm z.2))⟩
theorem Bo.grown {B:Nat} {w w':World} {e:TypeId} (E:w.ownsRow B e sz v n xs) (z:e≠3/\e≠4) (D:(w.alloc o).grownBy w' v.ownBlock):Bo B w w':=
 ⟨fun b J G=>(D.block b (by simp;omega) (fun e'=>by have:=(E.lt b e'.symm).1;omega)).trans (Ff _ _ _ G),
 fun g' ty' cs' s I=>(D.block g' (by have:=zd s;simp;omega) (fun e'=>zj E s (by rcases I with rfl | rfl;exact z.1;exact z.2) e'.symm)).trans (Ff _ _ _ (zd s))⟩
theorem FI.keep {B:Nat} {w w':World} {u:Value} (h:FI w B u) (D:Bo B w w'):FI w' B u:=by
 obtain ⟨l,h | h⟩:=h
 ·exact ⟨l,.inl (h.keep fun b I s=>D.old b (by omega) s)⟩
 ·refine ⟨l,.inr ?_⟩;obtain ⟨s,h0 | ⟨g,cap,cur,rfl,E,z,G⟩⟩:=h
  ·exact ⟨s,.inl h0⟩
  ·exact ⟨s,.inr ⟨g,cap,cur,rfl,E,(D.typ g _ cur z (.inr rfl)).trans z,G⟩⟩
theorem TI.keep {B K:Nat} {w w':World} {u:Value} (h:TI w B K u) (D:Bo B w w'):TI w' B K u:=by
 obtain ⟨l,s,h | h⟩:=h
 ·exact ⟨l,s,.inl (h.keep fun b z E=>D.old b (by omega) E)⟩
 ·refine ⟨l,s,.inr ?_⟩;exact BT h fun g cs _ z=>D.typ g _ cs z (.inl rfl)
theorem FI.bools {B:Nat} {w:World} {u:Value} (h:FI w B u):∃l,An w (fun b=>b+1≠B) u l:=by
 obtain ⟨l,h | h⟩:=h
 ·exact ⟨l,h.weaken fun _ _=>by omega⟩
 ·exact ⟨l,h.bools.weaken fun _ _=>by omega⟩
theorem TI.ints {B K:Nat} {w:World} (h:TI w B K u):∃l,l.length<=K/\zi w (fun b=>b+1≠B) u l:=by
 obtain ⟨l,s,h | h⟩:=h
 ·exact ⟨l,s,h.weaken fun _ _=>by omega⟩
 ·exact ⟨l,s,zi.weaken (zV.of_own h) fun _ _=>by omega⟩
def TD (w:World) (B K n:Nat) (ts:List Value):Prop:=∀j,j<n->∃s u1 u2,ts[j*3]?=some (.string s)/\ts[j*3+1]?=some u1/\ts[j*3+2]?=some u2/\TI w B K u1/\TI w B K u2
theorem TD.keep {B K n:Nat} {w w':World} {ts:List Value} (h:TD w B K n ts) (z:Bo B w w'):TD w' B K n ts:=fun j E=>by
 obtain ⟨s,u1,u2,h0,h1,h2,h3,D⟩:=h j E;exact ⟨s,u1,u2,h0,h1,h2,h3.keep z,D.keep z⟩
theorem TD.more {B K K':Nat} {w:World} {ts:List Value} (h:TD w B K n ts) (z:K<=K'):TD w B K' n ts:=fun j I=>by
 obtain ⟨s,u1,u2,h0,h1,h2,⟨l1,h3,D⟩,⟨l2,E,G⟩⟩:=h j I;exact ⟨s,u1,u2,h0,h1,h2,⟨l1,EP h3 z,D⟩,⟨l2,EP E z,G⟩⟩
theorem TD.tasks {B K:Nat} {w:World} {ts:List Value} (h:TD w B K n ts) (I:zV w (fun b=>b+1≠B) 3 v n ts):∃l,BX w (fun b=>b+1≠B) v l/\l.length=n/\∀t∈l,t.1.length<=K/\t.2.length<=K:=by
 obtain ⟨l,E,hp⟩:=chooseL (p:=fun j (x:List Int×List Int)=>∃s u1 u2,ts[j*3]?=some (.string s)/\ts[j*3+1]?=some u1/\ts[j*3+2]?=some u2/\zi w (fun b=>b+1≠B) u1 x.1/\zi w (fun b=>b+1≠B) u2 x.2/\x.1.length<=K/\x.2.length<=K) n (fun j D=>by
  obtain ⟨s,u1,u2,h0,h1,h2,h3,z⟩:=h j D;obtain ⟨l1,k1,i1⟩:=h3.ints;obtain ⟨l2,k2,i2⟩:=z.ints;exact ⟨(l1,l2),s,u1,u2,h0,h1,h2,i1,i2,k1,k2⟩)
 refine ⟨l,⟨ts,by rw [E];exact I,fun i x L=>?_⟩,E,fun t J=>?_⟩
 ·obtain ⟨s,u1,u2,h0,h1,h2,h3,z,_⟩:=hp i x L;exact ⟨s,u1,u2,h0,h1,h2,h3,z⟩
 ·obtain ⟨j,D,rfl⟩:=Fu J;obtain ⟨_,_,_,_,_,_,_,_,G⟩:=hp j _ (EL D);exact G
theorem fds {B:Nat} {w:World} {fs:List Value} (h:∀u∈fs,FI w B u) (E:zV w (fun b=>b+1≠B) 1 v n fs):∃l,Bn w (fun b=>b+1≠B) v l/\l.length=n:=by
 have D:fs.length=n:=by
  obtain ⟨_,_,_,_,h1,_⟩:=E;omega
 obtain ⟨l,z,hp⟩:=chooseL (p:=fun j (x:List Bool)=>∃u,fs[j]?=some u/\An w (fun b=>b+1≠B) u x) n (fun j G=>by
  obtain ⟨x,s⟩:=(h fs[j] (EO _)).bools;exact ⟨x,_,EL _,s⟩)
 exact ⟨l,⟨fs,by rw [z];exact E,fun i x s=>hp i x s⟩,z⟩
structure OS (wA wx:World) (B b5 nF nT K:Nat) (a b c:Int) (vF vU vT:Value) (fs ts:List Value):Prop where
 hB:B=wA.heap.size
 h5:B<=b5
 ext:zb wA wx
 blk:zg wx b5 32 #[.int .i64 a,.int .i64 b,.int .i64 c,vF,vU,vT]
 F:wx.ownsRow B 29 1 vF nF fs
 T:wx.ownsRow B 56 3 vT nT ts
 fd:∀u∈fs,FI wx B u
 td:TD wx B K nT ts
 U:∃l,l.length<=K/\(An wx (fun b=>b+1<B) vU l\/BW wx B vU l)
 kF:nF<=K
 kT:nT<=K
section
variable {wA wx w':World} {B b5 nF nT K:Nat} {a b c:Int} {vF vU vT:Value} {fs ts:List Value}
theorem U_keep {w w':World} (h:∃l,l.length<=K/\(An w (fun b=>b+1<B) u l\/BW w B u l)) (E:Bo B w w'):∃l,l.length<=K/\(An w' (fun b=>b+1<B) u l\/BW w' B u l):=by
 obtain ⟨l,D,h | h⟩:=h
 ·exact ⟨l,D,.inl (h.keep fun b J s=>E.old b (by omega) s)⟩
 ·refine ⟨l,D,.inr ?_⟩;obtain ⟨s,h0 | ⟨g,cap,cur,rfl,G,z,I⟩⟩:=h
  ·exact ⟨s,.inl h0⟩
  ·exact ⟨s,.inr ⟨g,cap,cur,rfl,G,(E.typ g _ cur z (.inr rfl)).trans z,I⟩⟩
theorem OS.fin (h:OS wA wx B b5 nF nT K a b c vF vU vT fs ts) (G:-A<=a/\a<=A) (I:-Y<=b/\b<=Y) (J:-A<=c/\c<=A):OdS wA wx b5 A Y K:=by
 obtain ⟨fr,h1,h2⟩:=fds h.fd (zV.weaken (zV.of_own h.F) fun _ _=>by omega);obtain ⟨tk,h3,L,s⟩:=h.td.tasks (zV.weaken (zV.of_own h.T) fun _ _=>by omega);obtain ⟨up,z,h7⟩:=h.U
 have D:An wx (fun b=>b+1≠B) vU up:=by
  rcases h7 with h7 | h7
  ·exact h7.weaken fun _ _=>by omega
  ·exact h7.bools.weaken fun _ _=>by omega
 have E:=h.hB;subst E;exact ⟨⟨a,b,c,fr,up,tk⟩,vF,vU,vT,h.blk,⟨vF,vU,vT,rfl,h1,D,h3⟩,⟨G,I,J,by have:=h.kF;show fr.length<=K;omega,z,by have:=h.kT;show tk.length<=K;omega,s⟩,h.ext⟩
theorem OS.more {K':Nat} (h:OS wA wx B b5 nF nT K a b c vF vU vT fs ts) (s:K<=K'):OS wA wx B b5 nF nT K' a b c vF vU vT fs ts:=by
 obtain ⟨l,h1,h2⟩:=h.U;exact ⟨h.hB,h.h5,h.ext,h.blk,h.F,h.T,h.fd,h.td.more s,⟨l,EP h1 s,h2⟩,EP h.kF s,EP h.kT s⟩
theorem OS.grow (h:OS wA wx B b5 nF nT K a b c vF vU vT fs ts) (s:zb wx w'):OS wA w' B b5 nF nT K a b c vF vU vT fs ts:=
 ⟨h.hB,h.h5,h.ext.trans s,h.blk.ext s,Ai h.F fun g z=>s.block g (h.F.lt g z).2,Ai h.T fun g z=>s.block g (h.T.lt g z).2,fun u D=>(h.fd u D).keep (Bo.of_ext s),h.td.keep (Bo.of_ext s),U_keep h.U (Bo.of_ext s),h.kF,h.kT⟩
theorem AQ {w:World} {e:TypeId} {ty:TypeId} (h:w.ownsRow B e sz v n xs) (z:zg w g ty cs) (s:e≠ty):(w.setCell ⟨g,k,none⟩ x).ownsRow B e sz v n xs:=
 Ai h fun g' D=>EW w ⟨g,k,none⟩ x g' (fun e'=>zj h z s (by rw [D];exact congrArg some e'))
theorem OS.setI (h:OS wA wx B b5 nF nT K a b c vF vU vT fs ts) (k:Nat) (x:Int) {a' b' c':Int} (z:(#[.int .i64 a,.int .i64 b,.int .i64 c,vF,vU,vT]:Array Value).setIfInBounds k (.int .i64 x)=#[.int .i64 a',.int .i64 b',.int .i64 c',vF,vU,vT]):
  OS wA (wx.setCell ⟨b5,k,none⟩ (.int .i64 x)) B b5 nF nT K a' b' c' vF vU vT fs ts:=by
 have s:=Bo.set (k:=k) h.blk h.h5 (by decide) (.int .i64 x);exact ⟨h.hB,h.h5,h.ext.setCell (p:=⟨b5,k,none⟩) (show wA.heap.size<=b5 by have:=h.hB;have:=h.h5;omega) _,by have:=h.blk.set (k:=k) (.int .i64 x);rwa [z] at this,AQ h.F h.blk (by decide),AQ h.T h.blk (by decide),fun u D=>(h.fd u D).keep s,h.td.keep s,U_keep h.U s,h.kF,h.kT⟩
theorem OS.addT (h:OS wA wx B b5 nF nT K a b c vF vU vT fs ts) {vT':Value} (ho:w5.ownsRow B 56 3 vT' n' (ts++news)) (z:(wx.alloc o).grownBy w5 vT.ownBlock) (Z:n'<=K) (M:∀w2,Bo B wx w2->wx.heap.size<=w2.heap.size->TD w2 B K n' (ts++news)):
  OS wA (w5.setCell ⟨b5,5,none⟩ vT') B b5 nF n' K a b c vF vU vT' fs (ts++news):=by
 have L:=Bo.grown h.T (by decide) z;have E:wx.heap.size<=w5.heap.size:=EP (by simp) z.size;have s:zg w5 b5 32 #[.int .i64 a,.int .i64 b,.int .i64 c,vF,vU,vT]:=((z.block b5 (by have:=zd h.blk;simp;omega) (fun e=>zj h.T h.blk (by decide) e.symm)).trans (Ff _ _ _ (zd h.blk))).trans h.blk
 have J:w5.ownsRow B 29 1 vF nF fs:=by
  obtain ⟨O,h0 | ⟨g,cap,cur,e,Q,G,V⟩⟩:=h.F
  ·exact ⟨O,.inl h0⟩
  ·exact ⟨O,.inr ⟨g,cap,cur,e,Q,((z.block g (by have:=zd G;simp;omega) (fun e=>zj h.T G (by decide) e.symm)).trans (Ff _ _ _ (zd G))).trans G,V⟩⟩
 have D:Bo B wx (w5.setCell ⟨b5,5,none⟩ vT'):=L.trans E (Bo.set s h.h5 (by decide) _);have I:zb wA w5:=(h.ext.alloc o).grown z (EP h.ext.size (by simp)) (fun k D=>by have:=(h.T.lt k D).1;have:=h.hB;omega);refine ⟨h.hB,h.h5,I.setCell (p:=⟨b5,5,none⟩) (show wA.heap.size<=b5 by have:=h.hB;have:=h.h5;omega) _,s.set (k:=5) vT',AQ J s (by decide),AQ ho s (by decide),fun u hu=>(h.fd u hu).keep D,M _ D (by simpa [World.setCell] using E),U_keep h.U D,h.kF,Z⟩
theorem OS.addF (h:OS wA wx B b5 nF nT K a b c vF vU vT fs ts) {vF':Value} (ho:w5.ownsRow B 29 1 vF' n' (fs++news)) (D:(wx.alloc o).grownBy w5 vF.ownBlock) (Z:n'<=K) (L:∀w2,Bo B wx w2->wx.heap.size<=w2.heap.size->∀u∈news,FI w2 B u):
  OS wA (w5.setCell ⟨b5,3,none⟩ vF') B b5 n' nT K a b c vF' vU vT (fs++news) ts:=by
 have M:=Bo.grown h.F (by decide) D;have E:wx.heap.size<=w5.heap.size:=EP (by simp) D.size;have s:zg w5 b5 32 #[.int .i64 a,.int .i64 b,.int .i64 c,vF,vU,vT]:=((D.block b5 (by have:=zd h.blk;simp;omega) (fun e=>zj h.F h.blk (by decide) e.symm)).trans (Ff _ _ _ (zd h.blk))).trans h.blk
 have J:w5.ownsRow B 56 3 vT nT ts:=by
  obtain ⟨O,h0 | ⟨g,cap,cur,e,Q,G,V⟩⟩:=h.T
  ·exact ⟨O,.inl h0⟩
  ·exact ⟨O,.inr ⟨g,cap,cur,e,Q,((D.block g (by have:=zd G;simp;omega) (fun e=>zj h.F G (by decide) e.symm)).trans (Ff _ _ _ (zd G))).trans G,V⟩⟩
 have z:Bo B wx (w5.setCell ⟨b5,3,none⟩ vF'):=M.trans E (Bo.set s h.h5 (by decide) _);have I:zb wA w5:=(h.ext.alloc o).grown D (EP h.ext.size (by simp)) (fun k z=>by have:=(h.F.lt k z).1;have:=h.hB;omega);refine ⟨h.hB,h.h5,I.setCell (p:=⟨b5,3,none⟩) (show wA.heap.size<=b5 by have:=h.hB;have:=h.h5;omega) _,s.set (k:=3) vF',AQ ho s (by decide),AQ J s (by decide),fun u hu=>?_,h.td.keep z,U_keep h.U z,Z,h.kT⟩;rcases FE.1 hu with hu | hu
 ·exact (h.fd u hu).keep z
 ·exact L _ z (by simpa [World.setCell] using E) u hu
theorem OS.start {w6 w7:World} {o1 o2:Obj} {vF0 vT0:Value} (U:B=wA.heap.size) (h5:B<=b5) (E:zb wA w5) (I:zg w5 b5 32 #[.int .i64 a,.int .i64 b,.int .i64 c,vF0,vU,vT0])
  (a6:w6.ownsRow B 56 3 vT nT ts) (G:(w5.alloc o1).grownBy w6 (some w5.heap.size)) (a5:w7.ownsRow B 29 1 vF nF fs) (M:((w6.setCell ⟨b5,5,none⟩ vT).alloc o2).grownBy w7 (some w6.heap.size))
  (a1:∀u∈fs,∃l,An wA (fun b=>b+1<B) u l) (a7:TD wA B K nT ts) (hU:∃l,l.length<=K/\An wA (fun b=>b+1<B) vU l) (a3:nF<=K) (a4:nT<=K):OS wA (w7.setCell ⟨b5,3,none⟩ vF) B b5 nF nT K a b c vF vU vT fs ts:=by
 have l5:=zd I;have a9:=E.size;have J:zb wA w6:=(E.alloc o1).grown G (EP E.size (by simp)) (fun k O=>by injection O with O;omega);have h6:zg w6 b5 32 #[.int .i64 a,.int .i64 b,.int .i64 c,vF0,vU,vT0]:=((G.block b5 (by simp;omega) (fun e=>by injection e with e;omega)).trans (Ff _ _ _ l5)).trans I;have s6:w5.heap.size+1<=w6.heap.size:=by have:=G.size;simpa using this
 have Q:zg (w6.setCell ⟨b5,5,none⟩ vT) b5 32 #[.int .i64 a,.int .i64 b,.int .i64 c,vF0,vU,vT]:=h6.set (k:=5) vT;have L:(w6.setCell ⟨b5,5,none⟩ vT).ownsRow B 56 3 vT nT ts:=AQ a6 h6 (by decide);have z:zb wA (w6.setCell ⟨b5,5,none⟩ vT):=J.setCell (p:=⟨b5,5,none⟩) (show wA.heap.size<=b5 by omega) _;have z6:(w6.setCell ⟨b5,5,none⟩ vT).heap.size=w6.heap.size:=by simp [World.setCell]
 have V:zb wA w7:=(z.alloc o2).grown M (EP z.size (by simp)) (fun k O=>by injection O with O;have:=J.size;omega);have D:∀g,g<w6.heap.size->w7.heap[g]?=(w6.setCell ⟨b5,5,none⟩ vT).heap[g]?:=fun g hg=>(M.block g (by simp [z6];omega) (fun e=>by injection e with e;omega)).trans (Ff _ _ _ (by omega))
 have T:zg w7 b5 32 #[.int .i64 a,.int .i64 b,.int .i64 c,vF0,vU,vT]:=(D b5 (by omega)).trans Q;have Z:w7.ownsRow B 56 3 vT nT ts:=Ai L fun g hg=>D g (by have:=(L.lt g hg).2;omega)
 have s:zb wA (w7.setCell ⟨b5,3,none⟩ vF):=V.setCell (p:=⟨b5,3,none⟩) (show wA.heap.size<=b5 by omega) _;obtain ⟨l,hl,hU⟩:=hU;refine ⟨U,h5,s,T.set (k:=3) vF,AQ a5 T (by decide),AQ Z T (by decide),fun u hu=>?_,fun j hj=>?_,⟨l,hl,.inl (hU.below s)⟩,a3,a4⟩
 ·obtain ⟨x,hx⟩:=a1 u hu;exact ⟨x,.inl (hx.below s)⟩
 ·exact a7.keep (Bo.of_ext s) j hj
theorem OS.setT (h:OS wA wx B b5 nF nT K a b c vF vU vT fs ts) {j r:Nat} (Z:vT=.slice (some ⟨g,0,none⟩) nT cap) (hj:j<nT) (Q:r=1\/r=2) (hx:TI wx B K x):
  OS wA (wx.setCell ⟨g,j*3+r,none⟩ x) B b5 nF nT K a b c vF vU vT fs (ts.set (j*3+r) x):=by
 subst Z;have I:=h.T.lt g rfl;obtain ⟨cs,E⟩:=DU h.T;have D:=Bo.set (k:=j*3+r) E I.1 (by decide) x;have J:=h.T.stored (j*3+r) x;have M:ts.length=nT*3:=h.T.1;refine ⟨h.hB,h.h5,h.ext.setCell (p:=⟨g,j*3+r,none⟩) (show wA.heap.size<=g by have:=h.hB;omega) _,(EW wx ⟨g,j*3+r,none⟩ x b5 (zg.ne_ h.blk E (by decide))).trans h.blk,AQ h.F E (by decide),J.1,fun u V=>(h.fd u V).keep D,fun i O=>?_,U_keep h.U D,h.kF,h.kT⟩;obtain ⟨s,u1,u2,h0,h1,h2,h3,L⟩:=h.td.keep D i O;have z:=hx.keep D;by_cases G:i=j
 ·subst G;rcases Q with rfl | rfl
  ·exact ⟨s,x,u2,by rw [List.getElem?_set_ne (by omega)];exact h0,by rw [List.getElem?_set_self (by omega)],by rw [List.getElem?_set_ne (by omega)];exact h2,z,L⟩
  ·exact ⟨s,u1,x,by rw [List.getElem?_set_ne (by omega)];exact h0,by rw [List.getElem?_set_ne (by omega)];exact h1,by rw [List.getElem?_set_self (by omega)],h3,z⟩
 ·exact ⟨s,u1,u2,by rw [List.getElem?_set_ne (by omega)];exact h0,by rw [List.getElem?_set_ne (by omega)];exact h1,by rw [List.getElem?_set_ne (by omega)];exact h2,h3,L⟩
theorem OS.setU (h:OS wA wx B b5 nF nT K a b c vF vU vT fs ts) {vU':Value} (z:l.length<=K) (D:BW wx B vU' l):OS wA (wx.setCell ⟨b5,4,none⟩ vU') B b5 nF nT K a b c vF vU' vT fs ts:=by
 have s:=Bo.set (k:=4) h.blk h.h5 (by decide) vU';exact ⟨h.hB,h.h5,h.ext.setCell (p:=⟨b5,4,none⟩) (show wA.heap.size<=b5 by have:=h.hB;have:=h.h5;omega) _,h.blk.set (k:=4) vU',AQ h.F h.blk (by decide),AQ h.T h.blk (by decide),fun u E=>(h.fd u E).keep s,h.td.keep s,⟨l,z,.inr (AQ D h.blk (by decide))⟩,h.kF,h.kT⟩
theorem OS.drop1 (h:OS wA wx B b5 nF nT K a b c vF vU vT fs ts) (Z:vF=.slice (some ⟨g,0,none⟩) nF cap) (hp:0<nF) (M:-A<=a/\a<=A) (O:-Y<=b/\b<=Y) (Q:-A<=c/\c<=A):
  OdS wA (wx.setCell ⟨b5,3,none⟩ (.slice (some ⟨g,1,none⟩) (nF - 1) (cap - 1))) b5 A Y K:=by
 subst Z;have D:=Bo.set (k:=3) h.blk h.h5 (by decide) (.slice (some ⟨g,1,none⟩) (nF - 1) (cap - 1));obtain ⟨tk,h3,h4,G⟩:=(h.td.keep D).tasks (zV.weaken (zV.of_own (AQ h.T h.blk (k:=3) (x:=.slice (some ⟨g,1,none⟩) (nF - 1) (cap - 1)) (by decide))) fun _ _=>by omega);obtain ⟨up,I,h7⟩:=U_keep h.U D
 have J:An (wx.setCell ⟨b5,3,none⟩ (.slice (some ⟨g,1,none⟩) (nF - 1) (cap - 1))) (fun b=>b+1≠B) vU up:=by
  rcases h7 with h7 | h7
  ·exact h7.weaken fun _ _=>by omega
  ·exact h7.bools.weaken fun _ _=>by omega
 have hF:=AQ h.F h.blk (k:=3) (x:=.slice (some ⟨g,1,none⟩) (nF - 1) (cap - 1)) (by decide);have z:fs.length=nF:=by have:=h.F.1;omega
 have E:=BG h.F;have V:=(h.F.lt g rfl).1
 obtain ⟨fr,h1,h2⟩:=fds (v:=.slice (some ⟨g,1,none⟩) (nF - 1) (cap - 1)) (n:=nF - 1) (fs:=fs.drop 1) (B:=B) (fun u s=>(h.fd u (List.mem_of_mem_drop s)).keep D)
  ⟨_,_,rfl,by omega,by simp [z],fun _=>⟨g,1,rfl,by omega,fun j u s=>by
   rw [List.getElem?_drop] at s
   have hj:1+j<fs.length:=by
    rcases Fk (1+j) fs.length with h9 | h9
    ·exact h9
    ·rw [Fg h9] at s;cases s
   exact (hF.cellAt (1+j) (by omega)).trans s⟩⟩
 have L:=h.hB;subst L;exact ⟨⟨a,b,c,fr,up,tk⟩,_,vU,vT,h.blk.set (k:=3) _,⟨_,vU,vT,rfl,h1,J,h3⟩,⟨M,O,Q,by have:=h.kF;show fr.length<=K;omega,I,by have:=h.kT;show tk.length<=K;omega,G⟩,h.ext.setCell (p:=⟨b5,3,none⟩) h.h5 _⟩
theorem OS.drop0 (h:OS wA wx B b5 nF nT K a b c vF vU vT fs ts) (A0:Option Addr) (c0:Nat) (I:-A<=a/\a<=A) (J:-Y<=b/\b<=Y) (L:-A<=c/\c<=A):
  OdS wA (wx.setCell ⟨b5,3,none⟩ (.slice A0 0 c0)) b5 A Y K:=by
 have s:=Bo.set (k:=3) h.blk h.h5 (by decide) (.slice A0 0 c0);obtain ⟨tk,h3,O,z⟩:=(h.td.keep s).tasks (zV.weaken (zV.of_own (AQ h.T h.blk (k:=3) (x:=.slice A0 0 c0) (by decide))) fun _ _=>by omega);obtain ⟨up,D,h7⟩:=U_keep h.U s
 have E:An (wx.setCell ⟨b5,3,none⟩ (.slice A0 0 c0)) (fun b=>b+1≠B) vU up:=by
  rcases h7 with h7 | h7
  ·exact h7.weaken fun _ _=>by omega
  ·exact h7.bools.weaken fun _ _=>by omega
 have G:=h.hB;subst G;exact ⟨⟨a,b,c,[],up,tk⟩,_,vU,vT,h.blk.set (k:=3) _,⟨_,vU,vT,rfl,⟨[],⟨A0,c0,rfl,Fb _,zN.nil _ _ _ _⟩,fun i x M=>by simp at M⟩,E,h3⟩,⟨I,J,L,Fb _,D,by have:=h.kT;show tk.length<=K;omega,z⟩,h.ext.setCell (p:=⟨b5,3,none⟩) h.h5 _⟩
end
theorem own_one (W:World) (B:Nat) (e:TypeId) (x:Value) (s:B<=W.heap.size):(W.alloc (.cells #[x] e)).ownsRow B e 1 (.slice (some ⟨W.heap.size,0,none⟩) 1 1) 1 [x]:=
 ⟨by simp,.inr ⟨W.heap.size,1,#[x],rfl,s,FB W _,EN _,by decide,by simp,by simp⟩⟩
theorem intsOne {l:List Int}:∀u∈l.map (Value.int .i64),u.oneCell'=true:=by
 intro u s;obtain ⟨_,_,rfl⟩:=zac.1 s;rfl
theorem prodB {x y a b:Int} (E:-a<=x/\x<=a) (G:-b<=y/\y<=b) (s:0<=a) (z:0<=b):-(a*b)<=x*y/\x*y<=a*b:=by
 have h1:x.natAbs<=a.natAbs:=by omega
 have h2:y.natAbs<=b.natAbs:=by omega
 have h3:(x*y).natAbs<=(a*b).natAbs:=by rw [Int.natAbs_mul,Int.natAbs_mul];exact Nat.mul_le_mul h1 h2
 have D:0<=a*b:=Int.mul_nonneg s z;omega
theorem row3 (W:World) (a b c:Value) (t:TypeId):zV (W.alloc (.cells #[a,b,c] t)) (fun _=>True) 3 (.slice (some ⟨W.heap.size,0,none⟩) 1 1) 1 [a,b,c]:=
 ⟨_,_,rfl,EN _,rfl,fun _=>⟨_,0,rfl,trivial,fun j u s=>by have:=cells3n W a b c t j u s;rwa [Addr.add_lit] at this⟩⟩
theorem own_made (W:World) (B N:Nat) (s:B<=W.heap.size) (z:N<=1000):BW (W.alloc (.cells (madeCells #[.bool false] N) 4)) B (.slice (some ⟨W.heap.size,0,none⟩) N N) (List.replicate N false):=by
 have h1:(madeCells #[Value.bool false] N).toList=(List.replicate N false).map Value.bool:=by
  apply List.ext_getElem
  ·simp [madeCells]
  ·intro i h2 h3;simp [madeCells,Nat.mod_one]
 unfold BW;rw [List.length_replicate];exact ⟨by simp,.inr ⟨W.heap.size,N,madeCells #[.bool false] N,rfl,s,FB W _,EN _,by unfold maxLen;omega,by rw [<-Array.length_toList,h1];simp,by rw [h1];simp⟩⟩
end
end Go.Proofs.YthbjngbhbbkkgaaGreat
