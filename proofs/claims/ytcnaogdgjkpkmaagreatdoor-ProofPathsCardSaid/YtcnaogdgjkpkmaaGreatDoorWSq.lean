import Derived.Test.YtcnaogdgjkpkmaaGreatDoorWSp
set_option linter.unusedVariables false
set_option linter.unusedSimpArgs false
set_option maxRecDepth 100000
set_option maxHeartbeats 16000000
namespace Go.Proofs.YtcnaogdgjkpkmaaGreatDoor
variable {ch:List Int} {m:MZ} {B cap g:Nat} {ok:Nat->Prop} {f ts u vc vp:Value} {w:World}
section
open Go.RowKit Go.Shelf Go.Sort
attribute [local go_sem ↓] Go.wp_at_zero Go.wp_at_succ
def dfLA_ren:Go.Shelf.Ren:=⟨fun | 10=>106 | 6=>134 | n=>n,fun | 22=>22 | 23=>24 | 25=>142 | 3=>3 | 4=>4 | 0=>0 | n=>n,fun | n=>n⟩
theorem dfLA:Go.Proofs.SlLaysH.n10 Tryz.prog dfLA_ren:={
 mixed:=by kernel_rfl
 f6:=⟨Tryz.f134.name,by decide,Tryz.func134.trans (congrArg some (by kernel_rfl))⟩
 f10:=⟨Tryz.f106.name,by decide,Tryz.func106.trans (congrArg some (by kernel_rfl))⟩
 t0:=Tryz.underlying0
 a0:=Tryz.isAgg0
 z0:=Tryz.sizeOf0
 v0:=Tryz.zeroValue0
 t3:=Tryz.underlying3
 a3:=Tryz.isAgg3
 z3:=Tryz.sizeOf3
 v3:=Tryz.zeroValue3
 t4:=Tryz.underlying4
 a4:=Tryz.isAgg4
 z4:=Tryz.sizeOf4
 v4:=Tryz.zeroValue4
 t22:=Tryz.underlying22
 a22:=Tryz.isAgg22
 z22:=Tryz.sizeOf22
 v22:=Tryz.zeroValue22
 a23:=Tryz.isAgg24
 z23:=Tryz.sizeOf24
 t25:=Tryz.underlying142
 a25:=Tryz.isAgg142
 z25:=Tryz.sizeOf142
 v25:=Tryz.zeroValue142 }
abbrev SlV:={ v:Value // ∃A n c,v=.slice A n c }
def slLen (v:Value):Nat:=match v with | .slice _ n _=>n | _=>0
theorem holds_sl {l:List SlV} [Inhabited SlV] (h:OwnL w B (.slice (some ⟨g,0,none⟩) (l.map (·.1)).length cap) (l.map (·.1))):Holds (fun x:SlV=>x.1) w g 0 l.toArray:=by
 intro j o;have d:j<l.length:=by simpa using o
 refine ⟨?_,by have:=World.ownsRow.frozenAt h j;simpa using this⟩;have:=World.ownsRow.cellAt h j (by simpa using d);rw [Nat.zero_add,this];simp [getElem!_pos,d]
theorem cf75 (a:Array Value) (w:World):(callFunc 108 a).run Tryz.prog w=.ok (.enter 108 a) w:=Ah Tryz.func108 (by kernel_rfl) (by kernel_rfl) a w
theorem paths1_sl (x:SlV) (w:World):Calls Tryz.prog 108 (#[x.1]++#[]) w fun e w'=>e=.returned (.bool (decide (slLen x.1=0)))/\w=w':=by
 obtain ⟨_,A,n,c,rfl⟩:=x;show Calls Tryz.prog 108 #[.slice A n c] w _;by_cases d:n=0
 ·subst d
  go_enter Tryz.func108,Tryz.ntmps108
  go_wp2;go_ret;exact ⟨rfl,rfl⟩
 ·have o:((n:Int)==0)=false:=by rw [DP];omega
  have H:Hid (decide (slLen (.slice A n c)=0)=false):=DG d;clear d
  go_enter Tryz.func108,Tryz.ntmps108
  go_wp2;go_ret;exact ⟨zk H.out.symm,rfl⟩
theorem deleteFuncL_calls {l:List SlV} (r:OwnL w B (.slice (some ⟨g,0,none⟩) (l.map (·.1)).length cap) (l.map (·.1))) (K:l.length<=1000000):
  Calls Tryz.prog 106 #[.slice (some ⟨g,0,none⟩) (l.map (·.1)).length cap,.func (.func 108) #[] #[]] w fun e w'=>∃v',e=.returned v'/\OwnL w' B v' ((l.filter fun x=>!decide (slLen x.1=0)).map (·.1))/\Below B w w':=by
 letI:Inhabited SlV:=⟨⟨.slice none 0 0,_,_,_,rfl⟩⟩
 have o:=AN r;have G:B<=g:=(World.ownsRow.lt r g rfl).1;have d:(l.map (·.1)).length=l.toArray.size:=by simp
 have D:=AnyE.slices_DeleteFunc dfLA (fun x:SlV=>x.1) (fun x=>by obtain ⟨_,A,n,c,rfl⟩:=x;rfl) (fun x=>decide (slLen x.1=0)) 108 #[] cf75 ⟨.slice none 0 0,_,_,_,rfl⟩ Tryz.zeroValue24 g 0 cap l.toArray w
  (fun W x J=>by
   refine Calls.mono (paths1_sl x W) ?_;rintro e w' ⟨rfl,rfl⟩;exact ⟨rfl,0,rfl⟩)
  (fun n os dk x _=>by
   refine Calls.mono (paths1_sl x _) ?_;rintro e w' ⟨rfl,rfl⟩;exact ⟨rfl,0,rfl⟩)
  (holds_sl r) (by rw [<-d];simp;omega) (by rw [<-d];exact o)
 change Calls Tryz.prog 106 _ _ _ at D;rw [<-d] at D;refine Calls.mono D ?_;rintro e w' ⟨rfl,q,rfl⟩;have E:(l.filter fun x=>!decide (slLen x.1=0)).length<=l.length:=Ef _ _;have I:w.ownsRow B 24 1 (.slice (some ⟨g,0,none⟩) (l.map (·.1)).length cap) (l.map (·.1)).length (l.map fun x:SlV=>x.1):=r;refine ⟨_,rfl,?_,Lib.below_putRow (Below.refl _ _) G⟩;have:=Lib.ownsRow_putRow (enc:=fun x:SlV=>x.1) (q:=q) (k:=(l.filter fun x=>!decide (slLen x.1=0)).length) (ys:=(l.filter fun x=>!decide (slLen x.1=0))++List.replicate (l.length - (l.filter fun x=>!decide (slLen x.1=0)).length) ⟨.slice none 0 0,_,_,_,rfl⟩) I (by simp;omega) (by simpa using E);rw [List.take_left' rfl] at this;unfold OwnL;rw [El];simpa using this
theorem deleteFuncL_nil (A:Option Addr) (c:Nat) (w:World):
  Calls Tryz.prog 106 #[.slice A 0 c,.func (.func 108) #[] #[]] w fun e w'=>e=.returned (.slice A 0 c)/\zc w w':=by
 have hI:Hid (∀w,Calls Tryz.prog 134 #[.slice A 0 c,.func (.func 108) #[] #[]] w fun e w'=>e=.returned (.int .i64 (-1))/\zc w w'):=fun w=>by
  go_enter Tryz.func134,Tryz.ntmps134
  go_wp2_with fail
  go_loopg [8] 0 (fun gk v wr=>v=.int .i64 0/\gk=0/\Hid (zc w wr))
  case atStart=>exact ⟨rfl,rfl,zc.refl _⟩
  case round=>
   obtain ⟨rfl,rfl,o⟩:=hrel
   go_wp2_with fail
   go_ret;exact ⟨rfl,o.out⟩
 go_enter Tryz.func106,Tryz.ntmps106
 go_wp2_with fail
 refine (hI.out w).mono ?_;rintro e w2 ⟨rfl,d⟩
 go_wp2_with fail
 go_ret;exact ⟨rfl,d⟩
def PathsPostY (Y:Nat->Prop) (w:World) (m:MZ) (ch:List Int) (e:Ending) (w':World):Prop:=
 ∃v,e=.returned (.tuple #[v,.bool (okC m ch)])/\zc w w'/\Ai w' (fun b=>Y b\/w.heap.size<=b) v (zq m ch)
theorem filter_pair {w:World} {ok:Nat->Prop}:∀(l:List SlV) (ps:List (List Int)),l.length=ps.length->(∀(i:Nat) x,ps[i]?=some x->∃u,(l.map (·.1))[i]?=some u/\zn w ok u x)->
  ((l.filter fun x=>!decide (slLen x.1=0)).length=(ps.filter fun p=>decide (p.length≠0)).length)/\∀(i:Nat) x,(ps.filter fun p=>decide (p.length≠0))[i]?=some x->∃u,((l.filter fun x=>!decide (slLen x.1=0)).map (·.1))[i]?=some u/\zn w ok u x
 | [],[],_,_=>⟨rfl,fun i x d=>by simp at d⟩
 | a :: l,p :: ps,E,h=>by
  obtain ⟨h1,h2⟩:=filter_pair l ps (by simpa using E) (fun i x d=>by simpa using h (i+1) x (by simpa using d));obtain ⟨u,G,D⟩:=h 0 p rfl;have r:a.1=u:=by simpa using G
  have o:slLen a.1=p.length:=by
   obtain ⟨A,c,e,_⟩:=id D;rw [r,e];rfl
  by_cases hp:p.length=0
  ·rw [List.filter_cons_of_neg (by simp [o,hp]),List.filter_cons_of_neg (by simp [hp])];exact ⟨h1,h2⟩
  ·rw [List.filter_cons_of_pos (by simp [o,hp]),List.filter_cons_of_pos (by simp [hp])];refine ⟨by simp [h1],fun i x d=>?_⟩
   match i,d with
   | 0,d=>
    have:p=x:=by simpa using d
    subst this;exact ⟨u,by simp [r],D⟩
   | i+1,d=>simpa using h2 i x (by simpa using d)
theorem rPathsY_calls {okc Y:Nat->Prop} {v:Value} (w:World) (hm:zM w Y v m) (M:Lens m) (a7:zn w okc vc ch) (d5:ch.length<=20000000000000):
  Calls Tryz.prog 74 #[v,vc] w (PathsPostY Y w m ch):=by
 have b8:=zh hm;obtain ⟨vfr,vup,vts,rfl,-,-,-⟩:=hm;have b3:=zh a7;obtain ⟨A,c,rfl,e7,-⟩:=a7;have HL:=zh M;clear M
 go_enter Tryz.func74,Tryz.ntmps74
 go_wp2_with fail
 generalize b0:w.alloc (.cells #[.int .i64 m.w,.int .i64 m.h,.int .i64 m.l,vfr,vup,vts] 35)=wa;have G:zc w wa:=by rw [<-b0];exact (zc.refl w).alloc _
 have b5:Hid (w.heap.size<=wa.heap.size):=G.size;clear b0;refine (stateOf_calls wa (b8.out.below G) HL.out (b3.out.below G) d5).mono ?_;rintro e w1 ⟨v1,rfl,b1,h1⟩;have H1:=zh h1;have E:zc w w1:=G.trans b1;have a1:Hid (w.heap.size<=w1.heap.size):=E.size;clear h1 b1;obtain ⟨bb,O⟩:=EH (okC m ch);rw [<-O] at H1⊢;have d:=zh O;clear O;cases bb
 ·have o:Hid (PathsPostY Y w m ch (.returned (.tuple #[.slice none 0 0,.bool false])) w1):=⟨_,by rw [<-d.out],E,by unfold zq;rw [<-d.out];exact ⟨[],⟨none,0,rfl,DC _,AG.nil _ _ _ _⟩,fun i x hx=>by simp at hx⟩⟩
  go_wp2_with fail
  go_ret2
  exact o.out
 ·have D:∃p,v1=.pointer (some ⟨p,0,none⟩)/\Dy w1 (fun b=>Y b\/wa.heap.size<=b) p m ch:=by
   rcases H1.out with ⟨h,_⟩ | ⟨_,h⟩
   ·cases h
   ·exact h
  obtain ⟨p,rfl,us,f,u,t,vc',vp,gu,d6,D⟩:=D;obtain ⟨r0,r1,r2,r3,r4,r5,r6,r7,r8⟩:=D.rules;obtain ⟨hg,hc⟩:=okC_true d.out.symm;obtain ⟨vs,⟨Ap,cp,rfl,c7,U⟩,Q⟩:=D.ps;have V:vs.length=(Ad m ch).length:=by have:=U.1;omega
  have e2:(Ad m ch).length<=6:=DE hc.psOk.pl hg.tk
  have a2:Hid (An w1 (fun b=>Y b\/wa.heap.size<=b) 1 (.slice Ap (Ad m ch).length cp) vs.length vs):=by
   show An _ _ _ _ _ _;rw [V];exact ⟨Ap,cp,rfl,c7,U⟩
  have b6:=zh Q
  have a5:∀u∈vs,∃A n c,u=.slice A n c:=fun u hu=>by
   obtain ⟨i,hi,rfl⟩:=Ei hu;obtain ⟨u',h1,A',c',e,_⟩:=Q i _ (DA (by omega));rw [DA hi] at h1;injection h1 with h1;exact ⟨_,_,_,h1.trans e⟩
  have a3:=zh a5;have a4:=zh V;have b9:Hid (zq m ch=(Ad m ch).filter fun p=>decide (p.length≠0)):=by show _=_;unfold zq;rw [if_pos d.out.symm]
  clear D d6 hg hc H1 Q U a5 V;have e3:=zc.refl w1
  go_wp2_with fail
  refine (cloneL_calls w1 a2.out (fun u hu=>by obtain ⟨A,n,c,rfl⟩:=a3.out u hu;rfl) (by have:=a4.out;omega)).mono ?_;rintro e w2 ⟨v2,rfl,K,r⟩;obtain ⟨l,M⟩:∃l:List SlV,l.map (·.1)=vs:=⟨vs.attachWith _ a3.out,by simp⟩;have a8:l.length=(Ad m ch).length:=by have:=congrArg List.length M;have:=a4.out;simp at *;omega
  have a6:=filter_pair (w:=w1) (ok:=fun b=>Y b\/wa.heap.size<=b) l (Ad m ch) a8 (by rw [M];exact b6.out);have b7:=zh a6;have e5:zc w w2:=E.trans K
  have J:∃v3 w3,Calls Tryz.prog 106 #[v2,.func (.func 108) #[] #[]] w2 (fun e w'=>∃v',e=.returned v'/\OwnL w' w1.heap.size v' ((l.filter fun x=>!decide (slLen x.1=0)).map (·.1))/\zc w1 w')/\v3=v2/\w3=w2:=by
   refine ⟨v2,w2,?_,rfl,rfl⟩;rcases Em vs.length with h0 | h0
   ·have d7:=DU h0;subst d7;have d4:l=[]:=DU (by have:=congrArg List.length M;simpa using this);subst d4;obtain ⟨A',c',rfl,e6,-⟩:=An.of_own r;refine (deleteFuncL_nil A' c' w2).mono ?_;rintro e w3 ⟨rfl,hE⟩;exact ⟨_,rfl,OwnL.ext r hE,K.trans hE⟩
   ·have L:=r;unfold OwnL at L;obtain ⟨g,cap,rfl,hg,e8⟩:=World.ownsRow.form L h0;subst M;refine (deleteFuncL_calls r (by omega)).mono ?_;rintro e w3 ⟨v3,rfl,I,c6⟩;exact ⟨_,rfl,I,Below.trans K c6⟩
  obtain ⟨_,_,J,_,_⟩:=J;have b4:=zh J;clear r J K M a8 a6
  go_wp2_with fail
  refine b4.out.mono ?_;rintro e w3 ⟨v3,rfl,I,a0⟩
  have o:Hid (PathsPostY Y w m ch (.returned (.tuple #[v3,.bool true])) w3):=by
   refine ⟨v3,by rw [<-d.out],E.trans a0,?_⟩;rw [b9.out];obtain ⟨h1,h2⟩:=b7.out;have h3:An w3 (fun b=>Y b\/w.heap.size<=b) 1 v3 (((l.filter fun x=>!decide (slLen x.1=0)).map (·.1)).length) ((l.filter fun x=>!decide (slLen x.1=0)).map (·.1)):=(An.of_own I).weaken fun b hb=>.inr (DE a1.out hb)
   rw [El,h1] at h3
   exact ⟨_,h3,fun i x hx=>by
    obtain ⟨u,hu,hi⟩:=h2 i x hx;exact ⟨u,hu,(hi.weaken fun b hb=>hb.imp id (fun h=>DE b5.out h)).below a0⟩⟩
  clear I a0
  go_wp2_with fail
  go_ret2
  exact o.out
end
section
open Go.RowKit
attribute [local go_sem ↓] Go.wp_at_zero Go.wp_at_succ
theorem AV (d:Br m=0) (h:zw m ch):(zq m ch).length<=m.tasks.length/\m.tasks.length<=6/\ch.length<=300/\∀x∈zq m ch,x≠[]/\x.length<=1000:=by
 have g:=Am.of d;have h1:=h.psOk;have h2:=h.len300 g;unfold zq;rw [if_pos (okC_of d h)];refine ⟨DE (Ef _ _) h1.pl,g.tk,h2,fun x o=>⟨?_,?_⟩⟩
 ·have:=(Ex.1 o).2;rintro rfl;simp at this
 ·have r:=flat_le (Ex.1 o).1;rw [h1.fl] at r;omega
structure PSt (w:World) (ok:Nat->Prop) (m:MZ) (f u ts vc vp:Value) (ch:List Int):Prop where
 maze:zM w ok (.agg #[.int .i64 m.w,.int .i64 m.h,.int .i64 m.l,f,u,ts]) m
 chs:zn w ok vc ch
 ps:Ai w ok vp (zq m ch)
def Dw (m:MZ) (f u ts vc vp:Value) (t:Int):Value:=.agg #[.int .i64 m.w,.int .i64 m.h,.int .i64 m.l,f,u,ts,vc,vp,.int .i64 t]
theorem PSt.more {w':World} (h:PSt w ok m f u ts vc vp ch) (d:zc w w'):PSt w' ok m f u ts vc vp ch:=⟨h.maze.below d,h.chs.below d,h.ps.below d⟩
def setL (g:Nat):Nat->List Value->World->World
 | _,[],W=>W
 | k,v :: vs,W=>setL g (k+1) vs (W.setCell ⟨g,k,none⟩ v)
theorem BW (g:Nat):∀(vs:List Value) (k:Nat) (W:World),Below g W (setL g k vs W)
 | [],_,W=>Below.refl g W
 | v :: vs,k,W=>((Below.refl g W).setCell (p:=⟨g,k,none⟩) (DC _) v).trans (BW g vs (k+1) _)
theorem BX (g:Nat) (b:Nat) (d:b≠g):∀(vs:List Value) (k:Nat) (W:World),(setL g k vs W).heap[b]?=W.heap[b]?
 | [],_,W=>rfl
 | v :: vs,k,W=>(BX g b d vs (k+1) _).trans (DL W ⟨g,k,none⟩ v b d)
theorem setL_blk {g:Nat} {t:TypeId}:∀(vs:List Value) (us ws:List Value) (W:World),us.length=vs.length->zj W g t (ws++us).toArray->zj (setL g ws.length vs W) g t (ws++vs).toArray
 | [],us,ws,W,d,h=>by
  have:us=[]:=List.length_eq_zero_iff.1 d;subst this;exact h
 | v :: vs,us,ws,W,d,h=>by
  match us,d,h with
  | u :: us,d,h=>
   have h1:=h.set (k:=ws.length) v;rw [List.setIfInBounds_toArray,List.set_append_right _ _ (DC _),Nat.sub_self,List.set_cons_zero] at h1;have h2:=setL_blk vs us (ws++[v]) _ (by simpa using d) (by rw [List.append_assoc];exact h1);rw [List.append_assoc,DK] at h2;exact h2
theorem BR {P:World->Prop} {W:World} {g2:Nat} {t:TypeId} {a0 a1 a2 a3 a4 a5 a6 a7 a8 z0 z1 z2 z3 z4 z5 z6 z7 z8:Value} (h:∀WZ,zj WZ g2 t #[a0,a1,a2,a3,a4,a5,a6,a7,a8]->Below g2 W WZ->(∀k,k<W.heap.size->k≠g2->WZ.heap[k]?=W.heap[k]?)->P WZ) (o:zj W g2 t #[z0,z1,z2,z3,z4,z5,z6,z7,z8]):
  P (((((((((W.setCell ⟨g2,0,none⟩ a0).setCell ⟨g2,1,none⟩ a1).setCell ⟨g2,2,none⟩ a2).setCell ⟨g2,3,none⟩ a3).setCell ⟨g2,4,none⟩ a4).setCell ⟨g2,5,none⟩ a5).setCell ⟨g2,6,none⟩ a6).setCell ⟨g2,7,none⟩ a7).setCell ⟨g2,8,none⟩ a8):=
 h (setL g2 0 [a0,a1,a2,a3,a4,a5,a6,a7,a8] W) (setL_blk [a0,a1,a2,a3,a4,a5,a6,a7,a8] [z0,z1,z2,z3,z4,z5,z6,z7,z8] [] W rfl o) (BW g2 _ 0 W) (fun k _ d=>BX g2 k d _ 0 W)
theorem of_calls (w:World) (hm:zM w ok (.agg #[.int .i64 m.w,.int .i64 m.h,.int .i64 m.l,f,u,ts]) m) (hl:Lens m) (hc:Br m=0) (f0:zn w ok vc ch) (hi:zw m ch):
  Calls Tryz.prog 32 #[.agg #[.int .i64 m.w,.int .i64 m.h,.int .i64 m.l,f,u,ts],vc] w fun e w'=>∃vp,e=.returned (Dw m f u ts vc vp (zS m ch))/\zc w w'/\PSt w' (fun b=>ok b\/w.heap.size<=b) m f u ts vc vp ch:=by
 have b4:=zh hm;have HL:=zh hl;have e5:=zh (AV hc hi);have b0:=zh f0;obtain ⟨Af,cf,Au,cu,At,ct,e,-,-,f5⟩:=hm.parts;injection e with e;injection e with e;simp only [List.cons.injEq,and_true,true_and] at e;obtain ⟨rfl,rfl,rfl⟩:=e;have g8:=zh f5;obtain ⟨Ac,cc,rfl,-,-⟩:=f0;clear hm hl hc hi f5
 go_enter Tryz.func32,Tryz.ntmps32
 go_wp2_with fail
 obtain ⟨d5,r0,r1,r2,r3,r4,r5⟩:=box6 w (.int .i64 m.w) (.int .i64 m.h) (.int .i64 m.l) (.slice Af m.free.length cf) (.slice Au m.up.length cu) (.slice At m.tasks.length ct);have e2:(w.alloc (.cells #[.int .i64 m.w,.int .i64 m.h,.int .i64 m.l,.slice Af m.free.length cf,.slice Au m.up.length cu,.slice At m.tasks.length ct] 35)).heap.size=w.heap.size+1:=by simp
 generalize w.alloc _=w1 at d5 r0 r1 r2 r3 r4 r5 e2⊢;have o:=zj.new w1 #[.int .i64 0,.int .i64 0,.int .i64 0,.slice none 0 0,.slice none 0 0,.slice none 0 0,.slice none 0 0,.slice none 0 0,.int .i64 0] 70 (g:=w1.heap.size) rfl;have a4:zc w1 (w1.alloc (.cells #[.int .i64 0,.int .i64 0,.int .i64 0,.slice none 0 0,.slice none 0 0,.slice none 0 0,.slice none 0 0,.slice none 0 0,.int .i64 0] 70)):=(zc.refl w1).alloc _;generalize w1.alloc _=w2 at o a4⊢;rw [e2] at o;have a2:=zh (d5.trans a4);have K:=zh a4;have HZ:=zh o;obtain ⟨gm,d8⟩:=EH w.heap.size;rw [<-d8] at r0 r1 r2 r3 r4 r5 HZ⊢;have M:Hid (gm=w.heap.size):=d8;have r0:=fun W h=>r0 W (K.out.trans h)
 have r1:=fun W h=>r1 W (K.out.trans h)
 have r2:=fun W h=>r2 W (K.out.trans h)
 have r3:=fun W h=>r3 W (K.out.trans h)
 have r4:=fun W h=>r4 W (K.out.trans h)
 have r5:=fun W h=>r5 W (K.out.trans h)
 clear d8 e2 o d5 a4;refine (rPathsY_calls (Y:=fun b=>ok b/\b<w.heap.size) w2 (b4.out.bound.below a2.out) HL.out (b0.out.below a2.out) (by have:=e5.out;omega)).mono ?_;rintro e w3 ⟨vp,rfl,b7,a7⟩;have a7:=a7.weaken (fun b E=>(by have:=M.out;have:=HZ.out;have:=zb this;have:=a2.out.size;exact ⟨E.imp (fun h=>h.1) (fun h=>by omega),by omega⟩:(ok b\/w.heap.size<=b)/\b≠gm+1));have e6:=zh a7;obtain ⟨vps,⟨Ap,cp,rfl,-,f3⟩,f1⟩:=a7;have e7:=zh f3;have g5:=zh f1;have I:=zh (a2.out.trans b7);clear f3 f1
 go_wp2_with fail
 have a3:=zj.new w3 #[.int .i64 m.w,.int .i64 m.h,.int .i64 m.l,.slice Af m.free.length cf,.slice Au m.up.length cu,.slice At m.tasks.length ct,.slice Ac ch.length cc,.slice Ap (zq m ch).length cp,.int .i64 0] 70 (g:=w3.heap.size) rfl;have d6:zc w3 (w3.alloc (.cells #[.int .i64 m.w,.int .i64 m.h,.int .i64 m.l,.slice Af m.free.length cf,.slice Au m.up.length cu,.slice At m.tasks.length ct,.slice Ac ch.length cc,.slice Ap (zq m ch).length cp,.int .i64 0] 70)):=(zc.refl w3).alloc _;generalize w3.alloc _=w4 at a3 d6⊢;obtain ⟨gs,d9⟩:=EH w3.heap.size;rw [<-d9] at a3⊢;have g6:Hid (gs=w3.heap.size):=d9;have g0:=zh d6;have e4:=zh a3;have b3:=zh b7;obtain ⟨PL,c9⟩:=EH ((zq m ch).length);rw [<-c9] at e7 e4⊢;have L:=zh c9;clear d9 a3 d6 b7 c9;go_loopw [18] (fun _ wr=>∃k:Nat,k<=PL/\Hid (curF m (zq m ch) (PL - k) k=zS m ch)/\Hid (zc w3 wr)/\Hid (zj wr gs 70 #[.int .i64 m.w,.int .i64 m.h,.int .i64 m.l,.slice Af m.free.length cf,.slice Au m.up.length cu,.slice At m.tasks.length ct,.slice Ac ch.length cc,.slice Ap PL cp,.int .i64 k])) (fun _ wr=>match wr.cell? ⟨gs,8,none⟩ with | some (.int _ i)=>PL - i.toNat | _=>0)
 case atStart=>exact ⟨0,DR _,by show _=_;rw [L.out];rfl,g0.out,e4.out⟩
 case round=>
  obtain ⟨k,hk,U,hE,O⟩:=hrel;have c0:=O.out.cell (k:=0) rfl;have c1:=O.out.cell (k:=1) rfl;have c2:=O.out.cell (k:=2) rfl;have c3:=O.out.cell (k:=3) rfl;have c4:=O.out.cell (k:=4) rfl;have c5:=O.out.cell (k:=5) rfl;have c6:=O.out.cell (k:=6) rfl;have c7:=O.out.cell (k:=7) rfl;have c8:=O.out.cell (k:=8) rfl;by_cases a1:k<PL
  ·obtain ⟨j1,j5,-,f2⟩:=e5.out;have a0:k<m.tasks.length:=by have:=L.out;omega
   have a5:k<(zq m ch).length:=by have:=L.out;omega
   obtain ⟨bt,offt,sn,u1,u2,rfl,-,-,-,e9,-,e0⟩:=BK g8.out a0;obtain ⟨bp,offp,up,rfl,-,d7,f6⟩:=BG e7.out g5.out a1 a5;obtain ⟨a6,a8⟩:=f2 _ (DD a5);have h5:=(HL.out.tl _ (DD a0)).2
   have J:Hid (endB m (zq m ch) k=match ((zq m ch)[k]).getLast? with | none=>false | some x=>decide (x∈(m.tasks[k]).2)):=by
    show _=_;unfold endB;rw [DB,DA a5,DB,DA a0];rfl
   obtain ⟨P,hP⟩:=EH ((zq m ch)[k]);obtain ⟨T,hT⟩:=EH ((m.tasks[k]).2);rw [<-hP] at f6 a6 a8 J;rw [<-hT] at e0 h5 J;clear hP hT f2;obtain ⟨q,x,rfl⟩:∃q x,P=q++[x]:=⟨P.dropLast,P.getLast a6,(List.dropLast_concat_getLast a6).symm⟩
   have b2:Hid (endB m (zq m ch) k=decide (x∈T)):=by
    have:=J.out;rw [List.getLast?_append] at this;exact this
   clear J a6;obtain ⟨Aq,cq,rfl,h3,f4⟩:=f6;obtain ⟨bq,offq,e,-,V⟩:=Ae f4 (k:=q.length) (by simp) (by simp);have V:w3.cell? ⟨bq,offq+q.length,none⟩=some (.int .i64 x):=by rw [V];simp
   subst e;obtain ⟨N,hN⟩:=EH ((q++[x]).length);obtain ⟨n,hn⟩:=EH q.length;have e8:N=n+1:=by rw [hN,hn];simp
   rw [<-hN] at d7 a8;rw [<-hn] at V;clear f4 h3 hN hn;have g7:=zh ((e0.below I.out).below hE.out);obtain ⟨Au2,cu2,rfl,-,-⟩:=e0;have q5:=zc.rule (r5 wr (b3.out.trans hE.out));have q8:=zc.rule c8;have g1:=zh c8;have qt:=zc.rule (hE.out.cell (I.out.cell e9));have qp:=zc.rule (hE.out.cell d7);have qx:=zc.rule (hE.out.cell V);have hx:zc wr wr:=zc.refl wr;have i6:=zh r5;clear r0 r1 r2 r3 r4 r5 c0 c1 c2 c3 c4 c5 c6 c7 e9 d7 V;have i8:(k:Int)<(PL:Int):=by omega
   have i7:(0:Int)<=(k:Int):=by omega
   have i9:(k:Int)<(m.tasks.length:Int):=by omega
   have j2:(0:Int)<=(n:Int):=by omega
   have j3:(n:Int)<(N:Int):=by omega
   have j4:IntKind.i64.wrap ((N:Int) - 1)=(n:Int):=by rw [DY];omega
   have j0:IntKind.i64.wrap ((k:Int)+1)=(k:Int)+1:=by rw [DY];omega
   have i5:=zh e8;have i4:=zh a0;clear e8 a0 a5
   go_wp2_with fail
   go_quiet ((go_at_call 56;refine (zt x _ (g7.out.below ((zc.refl wr).drewN _)) (by omega)).mono ?_;rintro e w9 ⟨rfl,rfl⟩;exact ⟨rfl,⟨_,rfl⟩⟩))
   have r:Hid (zj (wr.drewN nq) gs _ _):=O.out.ext ((zc.refl wr).drewN _);have G:Hid (zc w3 (wr.drewN nq)):=hE.out.drewN _;have g3:Hid (∀h:zc wr (wr.drewN nq),zc wr (wr.drewN nq)):=fun h=>h
   generalize wr.drewN nq=WX at r G g3⊢;obtain ⟨d,hd⟩:=EH (decide (x∈T));rw [<-hd] at b2⊢;clear hd;have c8:=r.out.cell (k:=8) rfl;have f8:=r.out.frozen 8
   cases d with
   | true=>
    clear q5 q8 qt qp qx hx
    go_wp2_with fail
    have b5:=r.out.set (k:=8) (.int .i64 ((k:Int)+1));have b8:zc w3 (WX.setCell ⟨gs,8,none⟩ (.int .i64 ((k:Int)+1))):=G.out.setCell (p:=⟨gs,8,none⟩) (by rw [g6.out];exact DC _) _;generalize WX.setCell ⟨gs,8,none⟩ (.int .i64 ((k:Int)+1))=w6 at b5 b8⊢;have g4:=zh b8;have e3:=zh b5;clear b8 b5;go_roundw
    case rel=>exact ⟨k+1,by omega,by
     show _=_;have:=U.out;rw [show PL - k=(PL - (k+1))+1 from by omega,curF,if_pos ⟨by have:=L.out;omega,b2.out⟩] at this;exact this,g4.out,by have:=e3.out;exact this⟩
    case measure=>
     have h1:w6.cell? ⟨gs,8,none⟩=some (.int .i64 ((k:Int)+1)):=e3.out.cell (k:=8) rfl;have h2:wr.cell? ⟨gs,8,none⟩=some (.int .i64 k):=g1.out;simp only [h1,h2];omega
   | false=>
    have b1:Hid (zS m ch=k):=by
     show _=_;have:=U.out;rw [show PL - k=(PL - (k+1))+1 from by omega,curF,if_neg (by rw [b2.out];simp)] at this;exact this.symm
    clear q5 q8 qt qp qx hx c8 f8;have o:zj WX (gm+1) 70 _:=HZ.out.ext (b3.out.trans G.out);have z0:=o.cell (k:=0) rfl;have z1:=o.cell (k:=1) rfl;have z2:=o.cell (k:=2) rfl;have z3:=o.cell (k:=3) rfl;have z4:=o.cell (k:=4) rfl;have z5:=o.cell (k:=5) rfl;have z6:=o.cell (k:=6) rfl;have z7:=o.cell (k:=7) rfl;have z8:=o.cell (k:=8) rfl;have c0:=r.out.cell (k:=0) rfl;have c1:=r.out.cell (k:=1) rfl;have c2:=r.out.cell (k:=2) rfl;have c3:=r.out.cell (k:=3) rfl;have c4:=r.out.cell (k:=4) rfl;have c5:=r.out.cell (k:=5) rfl;have c6:=r.out.cell (k:=6) rfl;have c7:=r.out.cell (k:=7) rfl;have c8:=r.out.cell (k:=8) rfl;have hfz:∀j,WX.frozen? ⟨gm+1,j,none⟩=false:=fun j=>o.frozen j
    have a9:=zh o;clear o
    go_wp2_with fail
    refine BR (P:=fun W=>bodyPost Tryz.prog Tryz.f32 _ Exit.ret _ W) (g2:=gm+1) ?_ a9.out;intro WZ D b9 e1;have y0:=D.cell (k:=0) rfl;have y1:=D.cell (k:=1) rfl;have y2:=D.cell (k:=2) rfl;have y3:=D.cell (k:=3) rfl;have y4:=D.cell (k:=4) rfl;have y5:=D.cell (k:=5) rfl;have y6:=D.cell (k:=6) rfl;have y7:=D.cell (k:=7) rfl;have y8:=D.cell (k:=8) rfl;refine Eu (v:=Dw m (.slice Af m.free.length cf) (.slice Au m.up.length cu) (.slice (some ⟨bt,offt,none⟩) m.tasks.length ct) (.slice Ac ch.length cc) (.slice (some ⟨bp,offp,none⟩) PL cp) k) (by simp [results,Tryz.results32,go_sem,y0,y1,y2,y3,y4,y5,y6,y7,y8,Dw]) rfl ⟨_,by rw [b1.out],?_,?_⟩
    ·exact Below.trans (I.out.trans G.out) (b9.mono (by have:=M.out;omega))
    ·have hS:zW (fun b=>(ok b\/w.heap.size<=b)/\b≠gm+1) WX WZ:=fun b E a1=>e1 b a1 E.2
     have Q:∀{b},b<w.heap.size->b≠gm+1:=fun E=>by have:=M.out;omega
     refine ⟨?_,?_,?_⟩
     ·exact ((((b4.out.bound).keep (zW.of_below (I.out.trans G.out))).weaken (fun b E=>⟨.inl E.1,Q E.2⟩)).keep hS).weaken (fun _ E=>E.1)
     ·exact ((((b0.out.bound).keep (zW.of_below (I.out.trans G.out))).weaken (fun b E=>⟨.inl E.1,Q E.2⟩)).keep hS).weaken (fun _ E=>E.1)
     ·exact ((L.out ▸ e6.out.below G.out:Ai WX (fun b=>(ok b\/w.heap.size<=b)/\b≠gm+1) _ (zq m ch)).keep hS).weaken (fun _ E=>E.1)
  ·have i3:¬ ((k:Int)<(PL:Int)):=by omega
   have b1:Hid (zS m ch=k):=by
    show _=_;have:=U.out;rw [show PL - k=0 from by omega,curF] at this;exact this.symm
   have q8:=zc.rule c8;have hx:zc wr wr:=zc.refl wr;clear c0 c1 c2 c3 c4 c5 c6 c7 r0 r1 r2 r3 r4 r5
   go_wp2_with fail
   go_quiet (fail)
   have r:Hid (zj (wr.drewN nq) gs _ _):=O.out.ext ((zc.refl wr).drewN _);have G:Hid (zc w3 (wr.drewN nq)):=hE.out.drewN _;clear q8 hx c8;generalize wr.drewN nq=WX at r G⊢;have o:zj WX (gm+1) 70 _:=HZ.out.ext (b3.out.trans G.out);have z0:=o.cell (k:=0) rfl;have z1:=o.cell (k:=1) rfl;have z2:=o.cell (k:=2) rfl;have z3:=o.cell (k:=3) rfl;have z4:=o.cell (k:=4) rfl;have z5:=o.cell (k:=5) rfl;have z6:=o.cell (k:=6) rfl;have z7:=o.cell (k:=7) rfl;have z8:=o.cell (k:=8) rfl;have c0:=r.out.cell (k:=0) rfl;have c1:=r.out.cell (k:=1) rfl;have c2:=r.out.cell (k:=2) rfl;have c3:=r.out.cell (k:=3) rfl;have c4:=r.out.cell (k:=4) rfl;have c5:=r.out.cell (k:=5) rfl;have c6:=r.out.cell (k:=6) rfl;have c7:=r.out.cell (k:=7) rfl;have c8:=r.out.cell (k:=8) rfl;have hfz:∀j,WX.frozen? ⟨gm+1,j,none⟩=false:=fun j=>o.frozen j
   have a9:=zh o;clear o
   go_wp2_with fail
   refine BR (P:=fun W=>bodyPost Tryz.prog Tryz.f32 _ Exit.ret _ W) (g2:=gm+1) ?_ a9.out;intro WZ D b9 e1;have y0:=D.cell (k:=0) rfl;have y1:=D.cell (k:=1) rfl;have y2:=D.cell (k:=2) rfl;have y3:=D.cell (k:=3) rfl;have y4:=D.cell (k:=4) rfl;have y5:=D.cell (k:=5) rfl;have y6:=D.cell (k:=6) rfl;have y7:=D.cell (k:=7) rfl;have y8:=D.cell (k:=8) rfl;refine Eu (v:=Dw m (.slice Af m.free.length cf) (.slice Au m.up.length cu) (.slice At m.tasks.length ct) (.slice Ac ch.length cc) (.slice Ap PL cp) k) (by simp [results,Tryz.results32,go_sem,y0,y1,y2,y3,y4,y5,y6,y7,y8,Dw]) rfl ⟨_,by rw [b1.out],?_,?_⟩
   ·exact Below.trans (I.out.trans G.out) (b9.mono (by have:=M.out;omega))
   ·have hS:zW (fun b=>(ok b\/w.heap.size<=b)/\b≠gm+1) WX WZ:=fun b E a1=>e1 b a1 E.2
    have Q:∀{b},b<w.heap.size->b≠gm+1:=fun E=>by have:=M.out;omega
    refine ⟨?_,?_,?_⟩
    ·exact ((((b4.out.bound).keep (zW.of_below (I.out.trans G.out))).weaken (fun b E=>⟨.inl E.1,Q E.2⟩)).keep hS).weaken (fun _ E=>E.1)
    ·exact ((((b0.out.bound).keep (zW.of_below (I.out.trans G.out))).weaken (fun b E=>⟨.inl E.1,Q E.2⟩)).keep hS).weaken (fun _ E=>E.1)
    ·exact ((L.out ▸ e6.out.below G.out:Ai WX (fun b=>(ok b\/w.heap.size<=b)/\b≠gm+1) _ (zq m ch)).keep hS).weaken (fun _ E=>E.1)
theorem box9 (w:World) (a0 a1 a2 a3 a4 a5 a6 a7 a8:Value):zc w (w.alloc (.cells #[a0,a1,a2,a3,a4,a5,a6,a7,a8] 70))/\
  (∀W,zc (w.alloc (.cells #[a0,a1,a2,a3,a4,a5,a6,a7,a8] 70)) W->W.cell? ⟨w.heap.size,0,none⟩=some a0)/\(∀W,zc (w.alloc (.cells #[a0,a1,a2,a3,a4,a5,a6,a7,a8] 70)) W->W.cell? ⟨w.heap.size,1,none⟩=some a1)/\(∀W,zc (w.alloc (.cells #[a0,a1,a2,a3,a4,a5,a6,a7,a8] 70)) W->W.cell? ⟨w.heap.size,2,none⟩=some a2)/\(∀W,zc (w.alloc (.cells #[a0,a1,a2,a3,a4,a5,a6,a7,a8] 70)) W->W.cell? ⟨w.heap.size,3,none⟩=some a3)/\(∀W,zc (w.alloc (.cells #[a0,a1,a2,a3,a4,a5,a6,a7,a8] 70)) W->W.cell? ⟨w.heap.size,4,none⟩=some a4)/\(∀W,zc (w.alloc (.cells #[a0,a1,a2,a3,a4,a5,a6,a7,a8] 70)) W->W.cell? ⟨w.heap.size,5,none⟩=some a5)/\(∀W,zc (w.alloc (.cells #[a0,a1,a2,a3,a4,a5,a6,a7,a8] 70)) W->W.cell? ⟨w.heap.size,6,none⟩=some a6)/\(∀W,zc (w.alloc (.cells #[a0,a1,a2,a3,a4,a5,a6,a7,a8] 70)) W->W.cell? ⟨w.heap.size,7,none⟩=some a7)/\(∀W,zc (w.alloc (.cells #[a0,a1,a2,a3,a4,a5,a6,a7,a8] 70)) W->W.cell? ⟨w.heap.size,8,none⟩=some a8):=by
 have d:=zj.new w #[a0,a1,a2,a3,a4,a5,a6,a7,a8] 70 rfl;exact ⟨(zc.refl w).alloc _,zc.rule (d.cell (k:=0) rfl),zc.rule (d.cell (k:=1) rfl),zc.rule (d.cell (k:=2) rfl),zc.rule (d.cell (k:=3) rfl),zc.rule (d.cell (k:=4) rfl),zc.rule (d.cell (k:=5) rfl),zc.rule (d.cell (k:=6) rfl),zc.rule (d.cell (k:=7) rfl),zc.rule (d.cell (k:=8) rfl)⟩
theorem PSt.parts {w:World} {ok:Nat->Prop} {m:MZ} {f u ts vc vp:Value} {ch:List Int} (h:PSt w ok m f u ts vc vp ch):∃Af cf Au cu At ct Ac cc Ap cp,f=.slice Af m.free.length cf/\u=.slice Au m.up.length cu/\ts=.slice At m.tasks.length ct/\vc=.slice Ac ch.length cc/\vp=.slice Ap (zq m ch).length cp/\
  Bd w ok (.slice Af m.free.length cf) m.free/\BA w ok (.slice At m.tasks.length ct) m.tasks:=by
 obtain ⟨Af,cf,Au,cu,At,ct,e,hf,-,d⟩:=h.maze.parts;injection e with e;injection e with e;simp only [List.cons.injEq,and_true,true_and] at e;obtain ⟨rfl,rfl,rfl⟩:=e;obtain ⟨Ac,cc,rfl,-,-⟩:=h.chs;obtain ⟨_,⟨Ap,cp,rfl,-,-⟩,-⟩:=h.ps;exact ⟨Af,cf,Au,cu,At,ct,Ac,cc,Ap,cp,rfl,rfl,rfl,rfl,rfl,hf,d⟩
theorem Dh (t:Int) (w:World) (h:PSt w ok m f u ts vc vp ch):
  Calls Tryz.prog 75 #[Dw m f u ts vc vp t] w fun e w'=>e=.returned (.bool (decide ((m.tasks.length:Int)<=t)))/\zc w w':=by
 obtain ⟨Af,cf,Au,cu,At,ct,Ac,cc,Ap,cp,rfl,rfl,rfl,rfl,rfl,-,-⟩:=h.parts;clear h;unfold Dw
 go_enter Tryz.func75,Tryz.ntmps75
 go_wp2_with fail
 obtain ⟨d,r0,r1,r2,r3,r4,r5,r6,r7,r8⟩:=box9 w (.int .i64 m.w) (.int .i64 m.h) (.int .i64 m.l) (.slice Af m.free.length cf) (.slice Au m.up.length cu) (.slice At m.tasks.length ct) (.slice Ac ch.length cc) (.slice Ap (zq m ch).length cp) (.int .i64 t);generalize w.alloc _=w1 at d r0 r1 r2 r3 r4 r5 r6 r7 r8⊢;obtain ⟨gm,o⟩:=EH w.heap.size;rw [<-o] at r0 r1 r2 r3 r4 r5 r6 r7 r8⊢;clear o;have D:zc w1 w1:=zc.refl w1;have r:=zh d;clear d
 go_wp2_with fail
 go_ret;exact ⟨rfl,r.out⟩
theorem popen_calls (t:Int) (tk:Nat) (n:Int) (w:World) (h:PSt w ok m f u ts vc vp ch) (g:Am m) (J:ch.length<=20000000000000) (K:tk<m.free.length) (h0:0<=n) (h1:n<m.n):
  Calls Tryz.prog 113 #[Dw m f u ts vc vp t,.int .i64 tk,.int .i64 n] w fun e w'=>e=.returned (.bool (zl m tk n && !decide (n∈ch)))/\zc w w':=by
 have H:=zh h;obtain ⟨Af,cf,Au,cu,At,ct,Ac,cc,Ap,cp,rfl,rfl,rfl,rfl,rfl,hf,-⟩:=h.parts;obtain ⟨b,off,b',off',l,c',rfl,D,U,O,M,r⟩:=freeCells hf g.fn K h0 h1;have L:=zh h.chs;clear h hf g;obtain ⟨fv,E⟩:=EH (zl m tk n);rw [<-E] at r⊢;clear E;have k0:(0:Int)<=(tk:Int):=by omega
 have k1:(tk:Int)<(m.free.length:Int):=by omega
 have Q:off'+n.toNat=off'+n.toNat:=rfl;unfold Dw
 go_enter Tryz.func113,Tryz.ntmps113
 go_upto_region 1 with fail;obtain ⟨o,r0,r1,r2,r3,r4,r5,r6,r7,r8⟩:=box9 w (.int .i64 m.w) (.int .i64 m.h) (.int .i64 m.l) (.slice (some ⟨b,off,none⟩) m.free.length cf) (.slice Au m.up.length cu) (.slice At m.tasks.length ct) (.slice Ac ch.length cc) (.slice Ap (zq m ch).length cp) (.int .i64 t);generalize w.alloc _=w1 at o r0 r1 r2 r3 r4 r5 r6 r7 r8⊢;obtain ⟨gm,G⟩:=EH w.heap.size;rw [<-G] at r0 r1 r2 r3 r4 r5 r6 r7 r8⊢;clear G;have V:zc w1 w1:=zc.refl w1;have d:=zh o;clear o;have q1:=zc.rule (d.out.cell D);have q2:=zc.rule (d.out.cell r);have I:=zh (L.out.below d.out);clear D r
 cases fv with
 | false=>
  go_wp2_with fail
  go_ret;exact ⟨rfl,d.out⟩
 | true=>
  go_wp2_with fail
  refine (zt n w1 I.out J).mono ?_;rintro e w9 ⟨rfl,rfl⟩
  go_wp2_with fail
  go_ret;exact ⟨rfl,d.out⟩
theorem phead_calls (t:Int) (tk:Nat) (w:World) (h:PSt w ok m f u ts vc vp ch) (hl:Lens m) (hc:Br m=0) (hi:zw m ch) (M:tk<m.tasks.length):
  Calls Tryz.prog 88 #[Dw m f u ts vc vp t,.int .i64 tk] w fun e w'=>∃v',e=.returned v'/\zc w w'/\zn w' (fun _=>True) v' (AH m ch tk):=by
 have H:=zh h;have a0:=AV hc hi;have G:=zh (Am.of hc);have HL:=zh hl;have e7:=zh G.out.fl;obtain ⟨_,g3,_⟩:=h.ps;have b3:=‹∀(i:Nat) x,(zq m ch)[i]?=some x->_›;obtain ⟨Af,cf,Au,cu,At,ct,Ac,cc,Ap,cp,rfl,rfl,rfl,rfl,rfl,hf,c7⟩:=h.parts;obtain ⟨_,_,e,-,c0⟩:=g3;injection e with e1 e2 e3;subst e1 e3;have f3:=zh c7;have a8:=zh c0;have e6:=zh b3;obtain ⟨PL,hP⟩:=EH ((zq m ch).length);rw [<-hP] at a8 H;clear h hf c7 c0 b3 hl hc;unfold Dw;rw [<-hP];by_cases g0:tk<PL
 ·obtain ⟨h4,g7,-,b8⟩:=a0;have K:tk<(zq m ch).length:=by omega
  obtain ⟨bp,offp,up,rfl,-,a1,c8⟩:=BG a8.out e6.out g0 K;obtain ⟨U,V⟩:=b8 _ (DD K)
  have D:Hid (AH m ch tk=((zq m ch)[tk]).getLast?.toList):=by
   show _=_;unfold AH;rw [if_pos K,DB,DA K];rfl
  obtain ⟨P,b1⟩:=EH ((zq m ch)[tk]);rw [<-b1] at c8 U V D;clear b1 b8 hi;obtain ⟨q,x,rfl⟩:∃q x,P=q++[x]:=⟨P.dropLast,P.getLast U,(List.dropLast_concat_getLast U).symm⟩;obtain ⟨Aq,cq,rfl,a2,c6⟩:=c8;obtain ⟨bq,offq,e,-,Q⟩:=Ae c6 (k:=q.length) (by simp) (by simp);have Q:w.cell? ⟨bq,offq+q.length,none⟩=some (.int .i64 x):=by rw [Q];simp
  subst e;obtain ⟨N,hN⟩:=EH ((q++[x]).length);obtain ⟨n,hn⟩:=EH q.length;have b0:N=n+1:=by rw [hN,hn];simp
  rw [<-hN] at a1 V a2;rw [<-hn] at Q
  have e8:Hid (AH m ch tk=[x]):=by
   show _=_;rw [D.out,List.getLast?_append];rfl
  clear c6 hN hn D U hP;have k0:(0:Int)<=(tk:Int):=by omega
  have k1:(tk:Int)<(PL:Int):=by omega
  have h9:IntKind.i64.wrap ((N:Int) - 1)=(n:Int):=by rw [DY];omega
  have h5:(0:Int)<=(n:Int):=by omega
  have h6:(n:Int)<=(N:Int):=by omega
  have h7:N - n=1:=by omega
  have h8:(N:Int)<=(cq:Int):=by omega
  have HQ:=zh b0;have e5:=zh a2
  go_enter Tryz.func88,Tryz.ntmps88
  go_upto_region 1 with fail;obtain ⟨r,r0,r1,r2,r3,r4,r5,r6,r7,r8⟩:=box9 w (.int .i64 m.w) (.int .i64 m.h) (.int .i64 m.l) (.slice Af m.free.length cf) (.slice Au m.up.length cu) (.slice At m.tasks.length ct) (.slice Ac ch.length cc) (.slice (some ⟨bp,offp,none⟩) PL cp) (.int .i64 t);generalize w.alloc _=w1 at r r0 r1 r2 r3 r4 r5 r6 r7 r8⊢;obtain ⟨gm,J⟩:=EH w.heap.size;rw [<-J] at r0 r1 r2 r3 r4 r5 r6 r7 r8⊢;clear J;have hx:zc w1 w1:=zc.refl w1;have o:=zh r;clear r;have qp:=zc.rule (o.out.cell a1);clear a1 b0 a2 K
  go_wp2_with fail
  go_ret;refine ⟨_,rfl,o.out,?_⟩;rw [e8.out];refine ⟨_,_,rfl,by have:=HQ.out;have:=e5.out;show 1<=_;omega,rfl,fun _=>⟨bq,offq+n,rfl,trivial,fun j u hu=>?_⟩⟩
  match j,hu with
  | 0,hu=>
   have:u=.int .i64 x:=by simpa using hu.symm
   rw [this];exact o.out.cell Q
 ·obtain ⟨bt,offt,sn,u1,u2,rfl,-,-,b2,-,a3,-⟩:=BK f3.out M;have a5:=fun x hx=>G.out.tn _ (DD M) x (.inl hx)
  have b4:=(HL.out.tl _ (DD M)).1
  have D:Hid (AH m ch tk=((m.tasks[tk]).1).filter fun n=>zl m tk n && !decide (n∈ch)):=by
   show _=_;unfold AH;rw [if_neg (by omega),DB,DA M];rfl
  obtain ⟨L,hL⟩:=EH ((m.tasks[tk]).1);rw [<-hL] at a3 a5 b4 D;clear hL;have f2:=zh a5;have e4:Hid (ch.length<=300):=a0.2.2.1;have f1:Hid (tk<m.free.length):=by show _<_;rw [e7.out];exact M
  have k0:(0:Int)<=(tk:Int):=by omega
  have k1:(tk:Int)<(m.tasks.length:Int):=by omega
  have k2:¬ ((tk:Int)<(PL:Int)):=by omega
  clear a5 a0 hi hP;obtain ⟨p,a4⟩:∃p:Int->Bool,p=fun n=>zl m tk n && !decide (n∈ch):=⟨_,rfl⟩
  rw [<-a4] at D;have f0:=zh a4;clear a4
  go_enter Tryz.func88,Tryz.ntmps88
  go_upto_region 1 with fail;obtain ⟨r,r0,r1,r2,r3,r4,r5,r6,r7,r8⟩:=box9 w (.int .i64 m.w) (.int .i64 m.h) (.int .i64 m.l) (.slice Af m.free.length cf) (.slice Au m.up.length cu) (.slice (some ⟨bt,offt,none⟩) m.tasks.length ct) (.slice Ac ch.length cc) (.slice Ap PL cp) (.int .i64 t);generalize w.alloc _=w1 at r r0 r1 r2 r3 r4 r5 r6 r7 r8⊢;obtain ⟨gm,J⟩:=EH w.heap.size;rw [<-J] at r0 r1 r2 r3 r4 r5 r6 r7 r8⊢;clear J;have hx:zc w1 w1:=zc.refl w1;have o:=zh r;clear r;have qt:=zc.rule (o.out.cell b2);have e9:=zh (a3.below o.out);obtain ⟨Al,cl,rfl,h3,-⟩:=a3;clear b2
  go_wp2_with fail
  have a7:=zh (Mk.nil w1);go_loopw [4,31] (fun v i wr=>∃k:Nat,k<=L.length/\i=.int .i64 (k:Nat)/\Hid (Mk w1 wr v ((L.take k).filter p))) (fun _ i _=>L.length - (intOf i).toNat)
  case atStart=>exact ⟨0,DR _,rfl,a7⟩
  clear a7
  case round=>
   obtain ⟨k,hk,rfl,hM⟩:=hrel;have hx:zc w1 wr:=hM.out.ext;obtain ⟨wk,rfl⟩:∃wk:World,wk=wr:=⟨_,rfl⟩;by_cases E:k<L.length
   ·obtain ⟨A',c',e,-,b9⟩:=e9.out;injection e with e1 e2 e3;subst e1 e3;obtain ⟨bl,offl,rfl,-,d⟩:=Ae b9 E E;clear b9;obtain ⟨c9,d4⟩:=f2.out _ (DD E);have O:=DJ E;obtain ⟨x,d6⟩:=EH (L[k]);rw [<-d6] at d c9 d4 O;clear d6;have HT:=zh O;have d:wk.cell? ⟨bl,offl+k,none⟩=some (.int .i64 x):=hx.cell d;clear O;have kk0:(0:Int)<=(k:Int):=by omega
    have kk1:(k:Int)<(L.length:Int):=by omega
    go_wp2_with fail
    refine (popen_calls t tk x wk ((H.out.more o.out).more hx) G.out (by have:=e4.out;omega) f1.out c9 d4).mono ?_;rintro e w9 ⟨rfl,a9⟩;have I:=zh (hM.out.more a9);have d5:=I.out.ext;have hp:p x=(zl m tk x && !decide (x∈ch)):=by rw [f0.out]
    rw [<-hp];clear hp d a9;have f9:((L.take k).filter p).length<=L.length:=DE (Ef _ _) (by simp;omega)
    cases hb:p x with
    | true=>
     have HS:Hid ((L.take (k+1)).filter p=(L.take k).filter p++[x]):=by show _=_;rw [HT.out,List.filter_append,List.filter_cons_of_pos hb];rfl
     clear hb;obtain ⟨l,b6⟩:=EH ((L.take k).filter p);rw [<-b6] at I f9 HS;clear b6
     go_wp2_with (at_builtin;refine Dg rfl _ _ rfl _ l x w1.heap.size w9.heap.size 1 _ rfl rfl (I.out.own.alloc _) ?d1 ?d2 ?d3 ?_)
     (try case d1=>exact zQ _ _ _ (by simp))
     case d2=>(first | (simp;done) | (have:=d5.size;simp;omega) | (have:=d5.size;omega))
     case d3=>omega
     intro v' wb b7 b5 f6;have f4:=zh ((I.out.alloc _).app b7 b5);clear b7 b5 f6;go_wp2;go_roundw
     case rel=>exact ⟨k+1,by omega,by go_num,by rw [HS.out];exact f4⟩
     case measure=>simp [intOf];omega
    | false=>
     have HS:Hid ((L.take (k+1)).filter p=(L.take k).filter p):=by show _=_;rw [HT.out,List.filter_append,List.filter_cons_of_neg (by rw [hb];simp),List.filter_nil,List.append_nil]
     clear hb;go_wp2;go_roundw
     case rel=>exact ⟨k+1,by omega,by go_num,by rw [HS.out];exact I⟩
     case measure=>simp [intOf];omega
   ·obtain rfl:k=L.length:=by omega
    go_wp2;go_ret;refine ⟨_,rfl,o.out.trans hM.out.ext,?_⟩;rw [D.out];have:=hM.out;rw [DN] at this;exact this.ints.weaken (fun _ _=>trivial)
end
end Go.Proofs.YtcnaogdgjkpkmaaGreatDoor
