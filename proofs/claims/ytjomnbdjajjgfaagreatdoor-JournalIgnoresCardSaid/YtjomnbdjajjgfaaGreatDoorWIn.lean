import Derived.Test.YtjomnbdjajjgfaaGreatDoorWIj
import Derived.StillTailTactics
set_option linter.unusedVariables false
set_option linter.unusedSimpArgs false
set_option maxRecDepth 100000
set_option maxHeartbeats 16000000
namespace Go.Proofs.YtjomnbdjajjgfaaGreatDoor
variable {cs:Array Value} {g k:Nat}
section
open Go.RowKit
structure MadeM (m:MZ):Prop where
 good:AG m
 w:2<=m.w/\m.w<=4
 h:1<=m.h/\m.h<=4
 l:1<=m.l/\m.l<=2
 n:2<=m.n/\m.n<=16
 tk:1<=m.tasks.length/\m.tasks.length<=3
 te:∀t∈m.tasks,(t.1≠[]/\t.2≠[])/\t.1.length<=2/\t.2.length<=2
 lens:Lens m
theorem dims {W H L:Int} (hW:2<=W/\W<=4) (o:1<=H/\H<=4) (hL:L=1\/(L=2/\W<=3/\H<=2)):2<=W*H/\W*H<=16/\2<=W*H*L/\W*H*L<=16:=by
 have h1:W=2\/W=3\/W=4:=by omega
 have h2:H=1\/H=2\/H=3\/H=4:=by omega
 rcases h1 with rfl | rfl | rfl <;> rcases h2 with rfl | rfl | rfl | rfl <;> rcases hL with rfl | ⟨rfl,h3,d⟩ <;> omega
theorem chooseL {β:Type} {p:Nat->β->Prop}:∀(n:Nat),(∀i,i<n->∃b,p i b)->∃l:List β,l.length=n/\∀i b,l[i]?=some b->p i b
 | 0,_=>⟨[],rfl,fun i b h=>by simp at h⟩
 | n+1,h=>by
  obtain ⟨l,D,h1⟩:=chooseL n (fun i hi=>h i (by omega));obtain ⟨b,E⟩:=h n (by omega);refine ⟨l++[b],by simp [D],fun i x d=>?_⟩;rcases Ev i l.length with hi | hi
  ·rw [Ed hi] at d;exact h1 i x d
  ·have o:i=l.length:=by
    rcases Ev i (l++[b]).length with h2 | h2
    ·simp at h2;omega
    ·rw [Es h2] at d;cases d
   subst o;rw [Ee (DY _),Nat.sub_self] at d;have:b=x:=by simpa using d
   subst this;rw [D];exact E
structure RU (w1:World) (B:Nat) (w:World) (S gm gd:Nat) (W H L:Int) (n tF tT:Nat) (vF vU vT:Value) (fs ts:List Value) (us:List Bool):Prop where
 hB:B=w1.heap.size
 hBS:B<=S
 ms:MS B w S gm gd W H L n tF tT vF vU vT fs ts
 ow:OwnB w S vU us
 ex:za w1 w
section
variable {w1 w w':World} {B S gm gd:Nat} {W H L:Int} {n tF tT:Nat} {vF vU vU' vT:Value} {fs ts:List Value} {us:List Bool}
theorem RU.ext (h:RU w1 B w S gm gd W H L n tF tT vF vU vT fs ts us) (d:za w w'):RU w1 B w' S gm gd W H L n tF tT vF vU vT fs ts us:=
 ⟨h.hB,h.hBS,h.ms.extS d,AP h.ow fun g o=>d.block g (World.ownsRow.lt h.ow g o).2,h.ex.trans d⟩
theorem RU.drawn (h:RU w1 B w S gm gd W H L n tF tT vF vU vT fs ts us) (G:zT B w' gd) (o:w.grownBy w' (some gd)):RU w1 B w' S gm gd W H L n tF tT vF vU vT fs ts us:=by
 obtain ⟨cs,E⟩:=h.ms.dr.blk;refine ⟨h.hB,h.hBS,h.ms.drawn G o,AP h.ow fun g d=>o.block g (World.ownsRow.lt h.ow g d).2 (fun e=>?_),Below.grown h.ex o h.ex.size (fun k D=>by injection D with D;have:=h.ms.dr.1;have:=h.hB;omega)⟩;injection e with e;exact zf h.ow E (by decide) (d.trans (congrArg some e))
theorem RU.add (h:RU w1 B w S gm gd W H L n tF tT vF vU vT fs ts us) {x:Bool} {w5:World} {o:Obj} (D:w5.ownsRow S 4 1 vU' (us.length+1) (us.map Value.bool++[.bool x])) (d:(w.alloc o).grownBy w5 vU.ownBlock):
  RU w1 B (w5.setCell ⟨gm,4,none⟩ vU') S gm gd W H L n tF tT vF vU' vT fs ts (us++[x]):=by
 obtain ⟨h1,h2,h3⟩:=h.ms.addU h.hBS h.ow D d;exact ⟨h.hB,h.hBS,h1,h2,Below.trans h.ex (h.hB ▸ h3)⟩
theorem RU.maze {t:Nat} (h:RU w1 B w S gm gd W H L n t t vF vU vT fs ts us) (hW:2<=W/\W<=4) (hH:1<=H/\H<=4) (hL:L=1\/(L=2/\W<=3/\H<=2)) (U:(n:Int)=W*H*L) (ht:1<=t/\t<=3) (hu:us.length=n):
  ∃m ns,Bt w (fun b=>B<=b) (.agg #[.int .i64 W,.int .i64 H,.int .i64 L,vF,vU,vT]) m ns/\MadeM m/\∀s∈ns,s.size<=1:=by
 obtain ⟨d1,d2,d3,d4⟩:=dims hW hH hL
 obtain ⟨fr,Q,O⟩:=chooseL (p:=fun j (l:List Bool)=>∃u,fs[j]?=some u/\Be w (fun b=>B<=b) u l/\l.length=n) t (fun j d=>by
  obtain ⟨u,h1,l,h2,h3,_⟩:=h.ms.fd j d;exact ⟨l,u,h1,h2.bools,h3⟩)
 obtain ⟨tk,a0,D⟩:=chooseL (p:=fun j (l:List Int×List Int)=>∃(s:NetS) (u1 u2:Value),ts[j*3]?=some (.string s)/\ts[j*3+1]?=some u1/\ts[j*3+2]?=some u2/\zk w (fun b=>B<=b) u1 l.1/\zk w (fun b=>B<=b) u2 l.2/\(l.1≠[]/\l.2≠[])/\(l.1.length<=2/\l.2.length<=2)/\(∀x,x∈l.1\/x∈l.2->0<=x/\x<(n:Int))) t (fun j d=>by
  obtain ⟨s,u1,u2,h1,h2,h3,l1,l2,G,I,J,K,M,_⟩:=h.ms.td j d;exact ⟨(l1,l2),s,u1,u2,h1,h2,h3,Bv.of_own G,Bv.of_own I,J,K,M⟩)
 obtain ⟨nl,a6,V⟩:=chooseL (p:=fun j (s:NetS)=>ts[j*3]?=some (.string s)) t (fun j d=>by
  obtain ⟨s,u1,u2,h1,_⟩:=h.ms.td j d;exact ⟨s,h1⟩)
 have E:∀x∈tk,∃j,tk[j]?=some x:=fun x o=>by
  obtain ⟨j,d,rfl⟩:=EE o;exact ⟨j,DW d⟩
 have hg:AG ⟨W,H,L,fr,us,tk⟩:=by
  refine ⟨⟨by show 1<=W;omega,by show W<=300;omega,by show 1<=H;omega,by show H<=300;omega,by show 1<=L;omega,by show L<=300;omega,by show W*H*L<=300;omega,?_⟩,?_,?_,?_,?_⟩
  ·show (us.length:Int)=W*H*L;rw [hu,U]
  ·show fr.length=tk.length;omega
  ·intro f hf;obtain ⟨j,d,rfl⟩:=EE hf;obtain ⟨u,_,_,h3⟩:=O j _ (DW d);show ((fr[j]).length:Int)=W*H*L;rw [h3,U]
  ·show tk.length<=6;omega
  ·intro x o y hy;obtain ⟨j,d⟩:=E x o;obtain ⟨s,u1,u2,h1,h2,h3,G,I,J,K,M⟩:=D j x d;have:=M y hy;show 0<=y/\y<W*H*L;rw [<-U];exact this
 refine ⟨⟨W,H,L,fr,us,tk⟩,nl.map (fun s=>s.1),⟨vF,vU,vT,rfl,?_,?_,?_⟩,⟨hg,hW,hH,by show 1<=L/\L<=2;omega,by show 2<=W*H*L/\W*H*L<=16;omega,by show 1<=tk.length/\tk.length<=3;omega,fun x o=>?_,⟨by show fr.length<=_;omega,by show us.length<=_;omega,by show tk.length<=_;omega,fun x o=>?_⟩⟩,fun x o=>?_⟩
 ·refine ⟨fs,by show Bv w _ 1 vF fr.length fs;rw [Q];exact Bv.of_own h.ms.F,fun i x o=>?_⟩;obtain ⟨u,h1,h2,_⟩:=O i x o;exact ⟨u,h1,h2⟩
 ·exact (OwnB.bools h.ow).weaken fun b hb=>Ea h.hBS hb
 ·refine ⟨by rw [EI];show nl.length=tk.length;omega,ts,by show Bv w _ 3 vT tk.length ts;rw [a0];exact Bv.of_own h.ms.T,fun i x s o hs=>?_⟩;obtain ⟨s',u1,u2,-,h2,h3,G,I,_⟩:=D i x o;rw [EH] at hs;obtain ⟨y,hy,rfl⟩:=Option.map_eq_some_iff.1 hs;exact ⟨u1,u2,V i y hy,h2,h3,G,I⟩
 ·obtain ⟨j,d⟩:=E x o;obtain ⟨s,u1,u2,h1,h2,h3,G,I,J,K,M⟩:=D j x d;exact ⟨J,K⟩
 ·obtain ⟨j,d⟩:=E x o;obtain ⟨s,u1,u2,h1,h2,h3,G,I,J,K,M⟩:=D j x d;exact ⟨by omega,by omega⟩
 ·obtain ⟨y,-,rfl⟩:=List.mem_map.1 o;exact y.2
end
theorem case_fin {P:World->Prop} {W:World} {g2:Nat} {t:TypeId} {a b c d e f z0 z1 z2 z3 z4 z5:Value} (h:∀WZ,zl WZ g2 t #[a,b,c,d,e,f]->Below g2 W WZ->(∀k,k<W.heap.size->k≠g2->WZ.heap[k]?=W.heap[k]?)->P WZ) (E:zl W g2 t #[z0,z1,z2,z3,z4,z5]):
  P ((((((W.setCell ⟨g2,0,none⟩ a).setCell ⟨g2,1,none⟩ b).setCell ⟨g2,2,none⟩ c).setCell ⟨g2,3,none⟩ d).setCell ⟨g2,4,none⟩ e).setCell ⟨g2,5,none⟩ f):=by
 refine h _ ?_ ((((((Below.refl g2 W).setCell (p:=⟨g2,0,none⟩) (DY _) _).setCell (p:=⟨g2,1,none⟩) (DY _) _).setCell (p:=⟨g2,2,none⟩) (DY _) _).setCell (p:=⟨g2,3,none⟩) (DY _) _).setCell (p:=⟨g2,4,none⟩) (DY _) _ |>.setCell (p:=⟨g2,5,none⟩) (DY _) _) fun k _ o=>?_
 ·have D:=(((((E.set (k:=0) a).set (k:=1) b).set (k:=2) c).set (k:=3) d).set (k:=4) e).set (k:=5) f;exact D
 ·exact (Eh _ ⟨g2,5,none⟩ _ k o).trans ((Eh _ ⟨g2,4,none⟩ _ k o).trans ((Eh _ ⟨g2,3,none⟩ _ k o).trans ((Eh _ ⟨g2,2,none⟩ _ k o).trans ((Eh _ ⟨g2,1,none⟩ _ k o).trans (Eh _ ⟨g2,0,none⟩ _ k o)))))
def SB (w W:World):Prop:=∀g ty cs,zl w g ty cs->ty≠4->W.heap[g]?=w.heap[g]?
theorem SB.rule {w:World} {ty:TypeId} {v:Value} (o:zl w g ty cs) (d:ty≠4) (D:w.cell? ⟨g,k,none⟩=some v):∀W,SB w W->W.cell? ⟨g,k,none⟩=some v:=
 fun W h=>(En (a:=⟨g,k,none⟩) (h g ty cs o d)).trans D
theorem SB.set {w W:World} (h:SB w W) (D:zl w g 4 cs) (x:Value):SB w (W.setCell ⟨g,k,none⟩ x):=
 fun g' ty' cs' d o=>(Eh W ⟨g,k,none⟩ x g' (zl.ne_ d D o)).trans (h g' ty' cs' d o)
theorem SB.drew (w:World):SB w w.drew:=fun _ _ _ _ _=>rfl
def AD (w:World) (e:Ending) (w':World):Prop:=∃v' m ns,e=.returned v'/\za w w'/\Bt w' (fun b=>w.heap.size<=b) v' m ns/\MadeM m/\∀s∈ns,s.size<=1
end
end Go.Proofs.YtjomnbdjajjgfaaGreatDoor
