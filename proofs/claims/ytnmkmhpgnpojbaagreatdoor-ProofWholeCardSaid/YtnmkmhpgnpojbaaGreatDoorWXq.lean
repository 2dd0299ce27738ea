import Derived.Test.YtnmkmhpgnpojbaaGreatDoorWXp
set_option linter.unusedVariables false
set_option linter.unusedSimpArgs false
set_option maxRecDepth 100000
set_option maxHeartbeats 16000000
namespace Go.Proofs.YtnmkmhpgnpojbaaGreatDoor
variable {ch:List Int} {m:MZ} {ok:Nat->Prop} {p:PT} {f ts u v vc vp:Value} {w w':World}
section
open Go.RowKit
attribute [local go_sem ↓] Go.wp_at_zero Go.wp_at_succ
theorem AN (o:AS m=0) (h:zr m ch):(zp m ch).length<=m.tasks.length/\m.tasks.length<=6/\ch.length<=300/\∀x∈zp m ch,x≠[]/\x.length<=1000:=by
 have g:=zE.of o;have d:=h.psOk;have B:=h.len300 g;unfold zp;rw [if_pos (okC_of o h)];refine ⟨Dt (DU _ _) d.pl,g.tk,B,fun x z=>⟨?_,?_⟩⟩
 ·have:=(Ep.1 z).2;rintro rfl;simp at this
 ·have D:=flat_le (Ep.1 z).1;rw [d.fl] at D;omega
structure PSt (w:World) (ok:Nat->Prop) (m:MZ) (f u ts vc vp:Value) (ch:List Int):Prop where
 maze:zF w ok (.agg #[.int .i64 m.w,.int .i64 m.h,.int .i64 m.l,f,u,ts]) m
 chs:zk w ok vc ch
 ps:zU w ok vp (zp m ch)
def Di (m:MZ) (f u ts vc vp:Value) (t:Int):Value:=.agg #[.int .i64 m.w,.int .i64 m.h,.int .i64 m.l,f,u,ts,vc,vp,.int .i64 t]
theorem PSt.more (h:PSt w ok m f u ts vc vp ch) (d:zb w w'):PSt w' ok m f u ts vc vp ch:=⟨h.maze.below d,h.chs.below d,h.ps.below d⟩
def setL (g:Nat):Nat->List Value->World->World
 | _,[],W=>W
 | k,v :: vs,W=>setL g (k+1) vs (W.setCell ⟨g,k,none⟩ v)
theorem Ck (g:Nat):∀(vs:List Value) (k:Nat) (W:World),Below g W (setL g k vs W)
 | [],_,W=>Below.refl g W
 | v :: vs,k,W=>((Below.refl g W).setCell (p:=⟨g,k,none⟩) (Dq _) v).trans (Ck g vs (k+1) _)
theorem Cl (g:Nat) (b:Nat) (d:b≠g):∀(vs:List Value) (k:Nat) (W:World),(setL g k vs W).heap[b]?=W.heap[b]?
 | [],_,W=>rfl
 | v :: vs,k,W=>(Cl g b d vs (k+1) _).trans (DA W ⟨g,k,none⟩ v b d)
theorem setL_blk {g:Nat} {t:TypeId}:∀(vs:List Value) (us ws:List Value) (W:World),us.length=vs.length->ze W g t (ws++us).toArray->ze (setL g ws.length vs W) g t (ws++vs).toArray
 | [],us,ws,W,d,h=>by
  have:us=[]:=List.length_eq_zero_iff.1 d;subst this;exact h
 | v :: vs,us,ws,W,d,h=>by
  match us,d,h with
  | u :: us,d,h=>
   have o:=h.set (k:=ws.length) v;rw [List.setIfInBounds_toArray,List.set_append_right _ _ (Dq _),Nat.sub_self,List.set_cons_zero] at o;have z:=setL_blk vs us (ws++[v]) _ (by simpa using d) (by rw [List.append_assoc];exact o);rw [List.append_assoc,Dz] at z;exact z
theorem case_fin9 {P:World->Prop} {W:World} {g2:Nat} {t:TypeId} {a0 a1 a2 a3 a4 a5 a6 a7 a8 z0 z1 z2 z3 z4 z5 z6 z7 z8:Value} (h:∀WZ,ze WZ g2 t #[a0,a1,a2,a3,a4,a5,a6,a7,a8]->Below g2 W WZ->(∀k,k<W.heap.size->k≠g2->WZ.heap[k]?=W.heap[k]?)->P WZ) (o:ze W g2 t #[z0,z1,z2,z3,z4,z5,z6,z7,z8]):
  P (((((((((W.setCell ⟨g2,0,none⟩ a0).setCell ⟨g2,1,none⟩ a1).setCell ⟨g2,2,none⟩ a2).setCell ⟨g2,3,none⟩ a3).setCell ⟨g2,4,none⟩ a4).setCell ⟨g2,5,none⟩ a5).setCell ⟨g2,6,none⟩ a6).setCell ⟨g2,7,none⟩ a7).setCell ⟨g2,8,none⟩ a8):=
 h (setL g2 0 [a0,a1,a2,a3,a4,a5,a6,a7,a8] W) (setL_blk [a0,a1,a2,a3,a4,a5,a6,a7,a8] [z0,z1,z2,z3,z4,z5,z6,z7,z8] [] W rfl o) (Ck g2 _ 0 W) (fun k _ d=>Cl g2 k d _ 0 W)
theorem of_calls (w:World) (hm:zF w ok (.agg #[.int .i64 m.w,.int .i64 m.h,.int .i64 m.l,f,u,ts]) m) (hl:Lens m) (hc:AS m=0) (e9:zk w ok vc ch) (hi:zr m ch):
  Calls Tryz.prog 78 #[.agg #[.int .i64 m.w,.int .i64 m.h,.int .i64 m.l,f,u,ts],vc] w fun e w'=>∃vp,e=.returned (Di m f u ts vc vp (zO m ch))/\zb w w'/\PSt w' (fun b=>ok b\/w.heap.size<=b) m f u ts vc vp ch:=by
 have b3:=zh hm;have HL:=zh hl;have e4:=zh (AN hc hi);have a9:=zh e9;obtain ⟨Af,cf,Au,cu,At,ct,e,-,-,f4⟩:=hm.parts;injection e with e;injection e with e;simp only [List.cons.injEq,and_true,true_and] at e;obtain ⟨rfl,rfl,rfl⟩:=e;have g7:=zh f4;obtain ⟨Ac,cc,rfl,-,-⟩:=e9;clear hm hl hc hi f4
 go_enter Tryz.func78,Tryz.ntmps78
 go_wp2_with fail
 obtain ⟨d4,r0,r1,r2,r3,r4,r5⟩:=box6 w (.int .i64 m.w) (.int .i64 m.h) (.int .i64 m.l) (.slice Af m.free.length cf) (.slice Au m.up.length cu) (.slice At m.tasks.length ct);have e1:(w.alloc (.cells #[.int .i64 m.w,.int .i64 m.h,.int .i64 m.l,.slice Af m.free.length cf,.slice Au m.up.length cu,.slice At m.tasks.length ct] 32)).heap.size=w.heap.size+1:=by simp
 generalize w.alloc _=w1 at d4 r0 r1 r2 r3 r4 r5 e1⊢;have o:=ze.new w1 #[.int .i64 0,.int .i64 0,.int .i64 0,.slice none 0 0,.slice none 0 0,.slice none 0 0,.slice none 0 0,.slice none 0 0,.int .i64 0] 128 (g:=w1.heap.size) rfl;have a3:zb w1 (w1.alloc (.cells #[.int .i64 0,.int .i64 0,.int .i64 0,.slice none 0 0,.slice none 0 0,.slice none 0 0,.slice none 0 0,.slice none 0 0,.int .i64 0] 128)):=(zb.refl w1).alloc _;generalize w1.alloc _=w2 at o a3⊢;rw [e1] at o;have a1:=zh (d4.trans a3);have J:=zh a3;have HZ:=zh o;obtain ⟨gm,d7⟩:=Ez w.heap.size;rw [<-d7] at r0 r1 r2 r3 r4 r5 HZ⊢;have L:Hid (gm=w.heap.size):=d7;have r0:=fun W h=>r0 W (J.out.trans h)
 have r1:=fun W h=>r1 W (J.out.trans h)
 have r2:=fun W h=>r2 W (J.out.trans h)
 have r3:=fun W h=>r3 W (J.out.trans h)
 have r4:=fun W h=>r4 W (J.out.trans h)
 have r5:=fun W h=>r5 W (J.out.trans h)
 clear d7 e1 o d4 a3;refine (rPathsY_calls (Y:=fun b=>ok b/\b<w.heap.size) w2 (b3.out.bound.below a1.out) HL.out (a9.out.below a1.out) (by have:=e4.out;omega)).mono ?_;rintro e w3 ⟨vp,rfl,b6,a6⟩;have a6:=a6.weaken (fun b D=>(by have:=L.out;have:=HZ.out;have:=za this;have:=a1.out.size;exact ⟨D.imp (fun h=>h.1) (fun h=>by omega),by omega⟩:(ok b\/w.heap.size<=b)/\b≠gm+1));have e5:=zh a6;obtain ⟨vps,⟨Ap,cp,rfl,-,f2⟩,f0⟩:=a6;have e6:=zh f2;have g4:=zh f0;have G:=zh (a1.out.trans b6);clear f2 f0
 go_wp2_with fail
 have a2:=ze.new w3 #[.int .i64 m.w,.int .i64 m.h,.int .i64 m.l,.slice Af m.free.length cf,.slice Au m.up.length cu,.slice At m.tasks.length ct,.slice Ac ch.length cc,.slice Ap (zp m ch).length cp,.int .i64 0] 128 (g:=w3.heap.size) rfl;have d5:zb w3 (w3.alloc (.cells #[.int .i64 m.w,.int .i64 m.h,.int .i64 m.l,.slice Af m.free.length cf,.slice Au m.up.length cu,.slice At m.tasks.length ct,.slice Ac ch.length cc,.slice Ap (zp m ch).length cp,.int .i64 0] 128)):=(zb.refl w3).alloc _;generalize w3.alloc _=w4 at a2 d5⊢;obtain ⟨gs,d8⟩:=Ez w3.heap.size;rw [<-d8] at a2⊢;have g5:Hid (gs=w3.heap.size):=d8;have f9:=zh d5;have e3:=zh a2;have b2:=zh b6;obtain ⟨PL,b9⟩:=Ez ((zp m ch).length);rw [<-b9] at e6 e3⊢;have K:=zh b9;clear d8 a2 d5 b6 b9;go_loopw [18] (fun _ wr=>∃k:Nat,k<=PL/\Hid (curF m (zp m ch) (PL - k) k=zO m ch)/\Hid (zb w3 wr)/\Hid (ze wr gs 128 #[.int .i64 m.w,.int .i64 m.h,.int .i64 m.l,.slice Af m.free.length cf,.slice Au m.up.length cu,.slice At m.tasks.length ct,.slice Ac ch.length cc,.slice Ap PL cp,.int .i64 k])) (fun _ wr=>match wr.cell? ⟨gs,8,none⟩ with | some (.int _ i)=>PL - i.toNat | _=>0)
 case atStart=>exact ⟨0,DF _,by show _=_;rw [K.out];rfl,f9.out,e3.out⟩
 case round=>
  obtain ⟨k,hk,Q,hE,M⟩:=hrel;have c0:=M.out.cell (k:=0) rfl;have c1:=M.out.cell (k:=1) rfl;have c2:=M.out.cell (k:=2) rfl;have c3:=M.out.cell (k:=3) rfl;have c4:=M.out.cell (k:=4) rfl;have c5:=M.out.cell (k:=5) rfl;have c6:=M.out.cell (k:=6) rfl;have c7:=M.out.cell (k:=7) rfl;have c8:=M.out.cell (k:=8) rfl;by_cases a0:k<PL
  ·obtain ⟨j2,j6,-,f1⟩:=e4.out;have V:k<m.tasks.length:=by have:=K.out;omega
   have a4:k<(zp m ch).length:=by have:=K.out;omega
   obtain ⟨bt,offt,sn,u1,u2,rfl,-,-,-,e8,-,d9⟩:=BR g7.out V;obtain ⟨bp,offp,up,rfl,-,d6,f5⟩:=BU e6.out g4.out a0 a4;obtain ⟨a5,a7⟩:=f1 _ (Dr a4);have h4:=(HL.out.tl _ (Dr V)).2
   have I:Hid (endB m (zp m ch) k=match ((zp m ch)[k]).getLast? with | none=>false | some x=>decide (x∈(m.tasks[k]).2)):=by
    show _=_;unfold endB;rw [Dp,Do a4,Dp,Do V];rfl
   obtain ⟨P,hP⟩:=Ez ((zp m ch)[k]);obtain ⟨T,hT⟩:=Ez ((m.tasks[k]).2);rw [<-hP] at f5 a5 a7 I;rw [<-hT] at d9 h4 I;clear hP hT f1;obtain ⟨q,x,rfl⟩:∃q x,P=q++[x]:=⟨P.dropLast,P.getLast a5,(List.dropLast_concat_getLast a5).symm⟩
   have b1:Hid (endB m (zp m ch) k=decide (x∈T)):=by
    have:=I.out;rw [List.getLast?_append] at this;exact this
   clear I a5;obtain ⟨Aq,cq,rfl,g9,f3⟩:=f5;obtain ⟨bq,offq,e,-,U⟩:=Ao f3 (k:=q.length) (by simp) (by simp);have U:w3.cell? ⟨bq,offq+q.length,none⟩=some (.int .i64 x):=by rw [U];simp
   subst e;obtain ⟨N,hN⟩:=Ez ((q++[x]).length);obtain ⟨n,hn⟩:=Ez q.length;have e7:N=n+1:=by rw [hN,hn];simp
   rw [<-hN] at d6 a7;rw [<-hn] at U;clear f3 g9 hN hn;have g6:=zh ((d9.below G.out).below hE.out);obtain ⟨Au2,cu2,rfl,-,-⟩:=d9;have q5:=zb.rule (r5 wr (b2.out.trans hE.out));have q8:=zb.rule c8;have g0:=zh c8;have qt:=zb.rule (hE.out.cell (G.out.cell e8));have qp:=zb.rule (hE.out.cell d6);have qx:=zb.rule (hE.out.cell U);have hx:zb wr wr:=zb.refl wr;have i5:=zh r5;clear r0 r1 r2 r3 r4 r5 c0 c1 c2 c3 c4 c5 c6 c7 e8 d6 U;have i9:(k:Int)<(PL:Int):=by omega
   have i8:(0:Int)<=(k:Int):=by omega
   have j0:(k:Int)<(m.tasks.length:Int):=by omega
   have j3:(0:Int)<=(n:Int):=by omega
   have j4:(n:Int)<(N:Int):=by omega
   have j5:IntKind.i64.wrap ((N:Int) - 1)=(n:Int):=by rw [DN];omega
   have j1:IntKind.i64.wrap ((k:Int)+1)=(k:Int)+1:=by rw [DN];omega
   have i4:=zh e7;have i3:=zh V;clear e7 V a4
   go_wp2_with fail
   go_quiet ((go_at_call 98;refine (zV x _ (g6.out.below ((zb.refl wr).drewN _)) (by omega)).mono ?_;rintro e w9 ⟨rfl,rfl⟩;exact ⟨rfl,⟨_,rfl⟩⟩))
   have z:Hid (ze (wr.drewN nq) gs _ _):=M.out.ext ((zb.refl wr).drewN _);have E:Hid (zb w3 (wr.drewN nq)):=hE.out.drewN _;have g1:Hid (∀h:zb wr (wr.drewN nq),zb wr (wr.drewN nq)):=fun h=>h
   generalize wr.drewN nq=WX at z E g1⊢;obtain ⟨d,hd⟩:=Ez (decide (x∈T));rw [<-hd] at b1⊢;clear hd;have c8:=z.out.cell (k:=8) rfl;have f8:=z.out.frozen 8
   cases d with
   | true=>
    clear q5 q8 qt qp qx hx
    go_wp2_with fail
    have b4:=z.out.set (k:=8) (.int .i64 ((k:Int)+1));have b7:zb w3 (WX.setCell ⟨gs,8,none⟩ (.int .i64 ((k:Int)+1))):=E.out.setCell (p:=⟨gs,8,none⟩) (by rw [g5.out];exact Dq _) _;generalize WX.setCell ⟨gs,8,none⟩ (.int .i64 ((k:Int)+1))=w6 at b4 b7⊢;have g3:=zh b7;have e2:=zh b4;clear b7 b4;go_roundw
    case rel=>exact ⟨k+1,by omega,by
     show _=_;have:=Q.out;rw [show PL - k=(PL - (k+1))+1 from by omega,curF,if_pos ⟨by have:=K.out;omega,b1.out⟩] at this;exact this,g3.out,by have:=e2.out;exact this⟩
    case measure=>
     have h1:w6.cell? ⟨gs,8,none⟩=some (.int .i64 ((k:Int)+1)):=e2.out.cell (k:=8) rfl;have h2:wr.cell? ⟨gs,8,none⟩=some (.int .i64 k):=g0.out;simp only [h1,h2];omega
   | false=>
    have b0:Hid (zO m ch=k):=by
     show _=_;have:=Q.out;rw [show PL - k=(PL - (k+1))+1 from by omega,curF,if_neg (by rw [b1.out];simp)] at this;exact this.symm
    clear q5 q8 qt qp qx hx c8 f8;have o:ze WX (gm+1) 128 _:=HZ.out.ext (b2.out.trans E.out);have z0:=o.cell (k:=0) rfl;have z1:=o.cell (k:=1) rfl;have z2:=o.cell (k:=2) rfl;have z3:=o.cell (k:=3) rfl;have z4:=o.cell (k:=4) rfl;have z5:=o.cell (k:=5) rfl;have z6:=o.cell (k:=6) rfl;have z7:=o.cell (k:=7) rfl;have z8:=o.cell (k:=8) rfl;have c0:=z.out.cell (k:=0) rfl;have c1:=z.out.cell (k:=1) rfl;have c2:=z.out.cell (k:=2) rfl;have c3:=z.out.cell (k:=3) rfl;have c4:=z.out.cell (k:=4) rfl;have c5:=z.out.cell (k:=5) rfl;have c6:=z.out.cell (k:=6) rfl;have c7:=z.out.cell (k:=7) rfl;have c8:=z.out.cell (k:=8) rfl;have hfz:∀j,WX.frozen? ⟨gm+1,j,none⟩=false:=fun j=>o.frozen j
    have a8:=zh o;clear o
    go_wp2_with fail
    refine case_fin9 (P:=fun W=>bodyPost Tryz.prog Tryz.f78 _ Exit.ret _ W) (g2:=gm+1) ?_ a8.out;intro WZ B b8 e0;have y0:=B.cell (k:=0) rfl;have y1:=B.cell (k:=1) rfl;have y2:=B.cell (k:=2) rfl;have y3:=B.cell (k:=3) rfl;have y4:=B.cell (k:=4) rfl;have y5:=B.cell (k:=5) rfl;have y6:=B.cell (k:=6) rfl;have y7:=B.cell (k:=7) rfl;have y8:=B.cell (k:=8) rfl;refine El (v:=Di m (.slice Af m.free.length cf) (.slice Au m.up.length cu) (.slice (some ⟨bt,offt,none⟩) m.tasks.length ct) (.slice Ac ch.length cc) (.slice (some ⟨bp,offp,none⟩) PL cp) k) (by simp [results,Tryz.results78,go_sem,y0,y1,y2,y3,y4,y5,y6,y7,y8,Di]) rfl ⟨_,by rw [b0.out],?_,?_⟩
    ·exact Below.trans (G.out.trans E.out) (b8.mono (by have:=L.out;omega))
    ·have hS:zN (fun b=>(ok b\/w.heap.size<=b)/\b≠gm+1) WX WZ:=fun b D a0=>e0 b a0 D.2
     have O:∀{b},b<w.heap.size->b≠gm+1:=fun D=>by have:=L.out;omega
     refine ⟨?_,?_,?_⟩
     ·exact ((((b3.out.bound).keep (zN.of_below (G.out.trans E.out))).weaken (fun b D=>⟨.inl D.1,O D.2⟩)).keep hS).weaken (fun _ D=>D.1)
     ·exact ((((a9.out.bound).keep (zN.of_below (G.out.trans E.out))).weaken (fun b D=>⟨.inl D.1,O D.2⟩)).keep hS).weaken (fun _ D=>D.1)
     ·exact ((K.out ▸ e5.out.below E.out:zU WX (fun b=>(ok b\/w.heap.size<=b)/\b≠gm+1) _ (zp m ch)).keep hS).weaken (fun _ D=>D.1)
  ·have i2:¬ ((k:Int)<(PL:Int)):=by omega
   have b0:Hid (zO m ch=k):=by
    show _=_;have:=Q.out;rw [show PL - k=0 from by omega,curF] at this;exact this.symm
   have q8:=zb.rule c8;have hx:zb wr wr:=zb.refl wr;clear c0 c1 c2 c3 c4 c5 c6 c7 r0 r1 r2 r3 r4 r5
   go_wp2_with fail
   go_quiet (fail)
   have z:Hid (ze (wr.drewN nq) gs _ _):=M.out.ext ((zb.refl wr).drewN _);have E:Hid (zb w3 (wr.drewN nq)):=hE.out.drewN _;clear q8 hx c8;generalize wr.drewN nq=WX at z E⊢;have o:ze WX (gm+1) 128 _:=HZ.out.ext (b2.out.trans E.out);have z0:=o.cell (k:=0) rfl;have z1:=o.cell (k:=1) rfl;have z2:=o.cell (k:=2) rfl;have z3:=o.cell (k:=3) rfl;have z4:=o.cell (k:=4) rfl;have z5:=o.cell (k:=5) rfl;have z6:=o.cell (k:=6) rfl;have z7:=o.cell (k:=7) rfl;have z8:=o.cell (k:=8) rfl;have c0:=z.out.cell (k:=0) rfl;have c1:=z.out.cell (k:=1) rfl;have c2:=z.out.cell (k:=2) rfl;have c3:=z.out.cell (k:=3) rfl;have c4:=z.out.cell (k:=4) rfl;have c5:=z.out.cell (k:=5) rfl;have c6:=z.out.cell (k:=6) rfl;have c7:=z.out.cell (k:=7) rfl;have c8:=z.out.cell (k:=8) rfl;have hfz:∀j,WX.frozen? ⟨gm+1,j,none⟩=false:=fun j=>o.frozen j
   have a8:=zh o;clear o
   go_wp2_with fail
   refine case_fin9 (P:=fun W=>bodyPost Tryz.prog Tryz.f78 _ Exit.ret _ W) (g2:=gm+1) ?_ a8.out;intro WZ B b8 e0;have y0:=B.cell (k:=0) rfl;have y1:=B.cell (k:=1) rfl;have y2:=B.cell (k:=2) rfl;have y3:=B.cell (k:=3) rfl;have y4:=B.cell (k:=4) rfl;have y5:=B.cell (k:=5) rfl;have y6:=B.cell (k:=6) rfl;have y7:=B.cell (k:=7) rfl;have y8:=B.cell (k:=8) rfl;refine El (v:=Di m (.slice Af m.free.length cf) (.slice Au m.up.length cu) (.slice At m.tasks.length ct) (.slice Ac ch.length cc) (.slice Ap PL cp) k) (by simp [results,Tryz.results78,go_sem,y0,y1,y2,y3,y4,y5,y6,y7,y8,Di]) rfl ⟨_,by rw [b0.out],?_,?_⟩
   ·exact Below.trans (G.out.trans E.out) (b8.mono (by have:=L.out;omega))
   ·have hS:zN (fun b=>(ok b\/w.heap.size<=b)/\b≠gm+1) WX WZ:=fun b D a0=>e0 b a0 D.2
    have O:∀{b},b<w.heap.size->b≠gm+1:=fun D=>by have:=L.out;omega
    refine ⟨?_,?_,?_⟩
    ·exact ((((b3.out.bound).keep (zN.of_below (G.out.trans E.out))).weaken (fun b D=>⟨.inl D.1,O D.2⟩)).keep hS).weaken (fun _ D=>D.1)
    ·exact ((((a9.out.bound).keep (zN.of_below (G.out.trans E.out))).weaken (fun b D=>⟨.inl D.1,O D.2⟩)).keep hS).weaken (fun _ D=>D.1)
    ·exact ((K.out ▸ e5.out.below E.out:zU WX (fun b=>(ok b\/w.heap.size<=b)/\b≠gm+1) _ (zp m ch)).keep hS).weaken (fun _ D=>D.1)
theorem box9 (w:World) (a0 a1 a2 a3 a4 a5 a6 a7 a8:Value):zb w (w.alloc (.cells #[a0,a1,a2,a3,a4,a5,a6,a7,a8] 128))/\
  (∀W,zb (w.alloc (.cells #[a0,a1,a2,a3,a4,a5,a6,a7,a8] 128)) W->W.cell? ⟨w.heap.size,0,none⟩=some a0)/\(∀W,zb (w.alloc (.cells #[a0,a1,a2,a3,a4,a5,a6,a7,a8] 128)) W->W.cell? ⟨w.heap.size,1,none⟩=some a1)/\(∀W,zb (w.alloc (.cells #[a0,a1,a2,a3,a4,a5,a6,a7,a8] 128)) W->W.cell? ⟨w.heap.size,2,none⟩=some a2)/\(∀W,zb (w.alloc (.cells #[a0,a1,a2,a3,a4,a5,a6,a7,a8] 128)) W->W.cell? ⟨w.heap.size,3,none⟩=some a3)/\(∀W,zb (w.alloc (.cells #[a0,a1,a2,a3,a4,a5,a6,a7,a8] 128)) W->W.cell? ⟨w.heap.size,4,none⟩=some a4)/\(∀W,zb (w.alloc (.cells #[a0,a1,a2,a3,a4,a5,a6,a7,a8] 128)) W->W.cell? ⟨w.heap.size,5,none⟩=some a5)/\(∀W,zb (w.alloc (.cells #[a0,a1,a2,a3,a4,a5,a6,a7,a8] 128)) W->W.cell? ⟨w.heap.size,6,none⟩=some a6)/\(∀W,zb (w.alloc (.cells #[a0,a1,a2,a3,a4,a5,a6,a7,a8] 128)) W->W.cell? ⟨w.heap.size,7,none⟩=some a7)/\(∀W,zb (w.alloc (.cells #[a0,a1,a2,a3,a4,a5,a6,a7,a8] 128)) W->W.cell? ⟨w.heap.size,8,none⟩=some a8):=by
 have d:=ze.new w #[a0,a1,a2,a3,a4,a5,a6,a7,a8] 128 rfl;exact ⟨(zb.refl w).alloc _,zb.rule (d.cell (k:=0) rfl),zb.rule (d.cell (k:=1) rfl),zb.rule (d.cell (k:=2) rfl),zb.rule (d.cell (k:=3) rfl),zb.rule (d.cell (k:=4) rfl),zb.rule (d.cell (k:=5) rfl),zb.rule (d.cell (k:=6) rfl),zb.rule (d.cell (k:=7) rfl),zb.rule (d.cell (k:=8) rfl)⟩
theorem PSt.parts {w:World} {ok:Nat->Prop} {m:MZ} {f u ts vc vp:Value} {ch:List Int} (h:PSt w ok m f u ts vc vp ch):∃Af cf Au cu At ct Ac cc Ap cp,f=.slice Af m.free.length cf/\u=.slice Au m.up.length cu/\ts=.slice At m.tasks.length ct/\vc=.slice Ac ch.length cc/\vp=.slice Ap (zp m ch).length cp/\
  AO w ok (.slice Af m.free.length cf) m.free/\Bf w ok (.slice At m.tasks.length ct) m.tasks:=by
 obtain ⟨Af,cf,Au,cu,At,ct,e,hf,-,d⟩:=h.maze.parts;injection e with e;injection e with e;simp only [List.cons.injEq,and_true,true_and] at e;obtain ⟨rfl,rfl,rfl⟩:=e;obtain ⟨Ac,cc,rfl,-,-⟩:=h.chs;obtain ⟨_,⟨Ap,cp,rfl,-,-⟩,-⟩:=h.ps;exact ⟨Af,cf,Au,cu,At,ct,Ac,cc,Ap,cp,rfl,rfl,rfl,rfl,rfl,hf,d⟩
theorem CW (t:Int) (w:World) (h:PSt w ok m f u ts vc vp ch):
  Calls Tryz.prog 147 #[Di m f u ts vc vp t] w fun e w'=>e=.returned (.bool (decide ((m.tasks.length:Int)<=t)))/\zb w w':=by
 obtain ⟨Af,cf,Au,cu,At,ct,Ac,cc,Ap,cp,rfl,rfl,rfl,rfl,rfl,-,-⟩:=h.parts;clear h;unfold Di
 go_enter Tryz.func147,Tryz.ntmps147
 go_wp2_with fail
 obtain ⟨d,r0,r1,r2,r3,r4,r5,r6,r7,r8⟩:=box9 w (.int .i64 m.w) (.int .i64 m.h) (.int .i64 m.l) (.slice Af m.free.length cf) (.slice Au m.up.length cu) (.slice At m.tasks.length ct) (.slice Ac ch.length cc) (.slice Ap (zp m ch).length cp) (.int .i64 t);generalize w.alloc _=w1 at d r0 r1 r2 r3 r4 r5 r6 r7 r8⊢;obtain ⟨gm,o⟩:=Ez w.heap.size;rw [<-o] at r0 r1 r2 r3 r4 r5 r6 r7 r8⊢;clear o;have B:zb w1 w1:=zb.refl w1;have z:=zh d;clear d
 go_wp2_with fail
 go_ret;exact ⟨rfl,z.out⟩
theorem popen_calls (t:Int) (tk:Nat) (n:Int) (w:World) (h:PSt w ok m f u ts vc vp ch) (g:zE m) (I:ch.length<=20000000000000) (J:tk<m.free.length) (h0:0<=n) (L:n<m.n):
  Calls Tryz.prog 203 #[Di m f u ts vc vp t,.int .i64 tk,.int .i64 n] w fun e w'=>e=.returned (.bool (zf m tk n && !decide (n∈ch)))/\zb w w':=by
 have H:=zh h;obtain ⟨Af,cf,Au,cu,At,ct,Ac,cc,Ap,cp,rfl,rfl,rfl,rfl,rfl,hf,-⟩:=h.parts;obtain ⟨b,off,b',off',l,c',rfl,B,U,O,M,z⟩:=freeCells hf g.fn J h0 L;have K:=zh h.chs;clear h hf g;obtain ⟨fv,D⟩:=Ez (zf m tk n);rw [<-D] at z⊢;clear D;have k0:(0:Int)<=(tk:Int):=by omega
 have k1:(tk:Int)<(m.free.length:Int):=by omega
 have Q:off'+n.toNat=off'+n.toNat:=rfl;unfold Di
 go_enter Tryz.func203,Tryz.ntmps203
 go_upto_region 1 with fail;obtain ⟨o,r0,r1,r2,r3,r4,r5,r6,r7,r8⟩:=box9 w (.int .i64 m.w) (.int .i64 m.h) (.int .i64 m.l) (.slice (some ⟨b,off,none⟩) m.free.length cf) (.slice Au m.up.length cu) (.slice At m.tasks.length ct) (.slice Ac ch.length cc) (.slice Ap (zp m ch).length cp) (.int .i64 t);generalize w.alloc _=w1 at o r0 r1 r2 r3 r4 r5 r6 r7 r8⊢;obtain ⟨gm,E⟩:=Ez w.heap.size;rw [<-E] at r0 r1 r2 r3 r4 r5 r6 r7 r8⊢;clear E;have V:zb w1 w1:=zb.refl w1;have d:=zh o;clear o;have q1:=zb.rule (d.out.cell B);have q2:=zb.rule (d.out.cell z);have G:=zh (K.out.below d.out);clear B z
 cases fv with
 | false=>
  go_wp2_with fail
  go_ret;exact ⟨rfl,d.out⟩
 | true=>
  go_wp2_with fail
  refine (zV n w1 G.out I).mono ?_;rintro e w9 ⟨rfl,rfl⟩
  go_wp2_with fail
  go_ret;exact ⟨rfl,d.out⟩
theorem phead_calls (t:Int) (tk:Nat) (w:World) (h:PSt w ok m f u ts vc vp ch) (hl:Lens m) (hc:AS m=0) (hi:zr m ch) (K:tk<m.tasks.length):
  Calls Tryz.prog 157 #[Di m f u ts vc vp t,.int .i64 tk] w fun e w'=>∃v',e=.returned v'/\zb w w'/\zk w' (fun _=>True) v' (zZ m ch tk):=by
 have H:=zh h;have V:=AN hc hi;have G:=zh (zE.of hc);have HL:=zh hl;have e6:=zh G.out.fl;obtain ⟨_,g1,_⟩:=h.ps;have b2:=‹∀(i:Nat) x,(zp m ch)[i]?=some x->_›;obtain ⟨Af,cf,Au,cu,At,ct,Ac,cc,Ap,cp,rfl,rfl,rfl,rfl,rfl,hf,c6⟩:=h.parts;obtain ⟨_,_,e,-,b9⟩:=g1;injection e with e1 e2 e3;subst e1 e3;have f2:=zh c6;have a7:=zh b9;have e5:=zh b2;obtain ⟨PL,hP⟩:=Ez ((zp m ch).length);rw [<-hP] at a7 H;clear h hf c6 b9 b2 hl hc;unfold Di;rw [<-hP];by_cases f9:tk<PL
 ·obtain ⟨h1,g6,-,b7⟩:=V;have J:tk<(zp m ch).length:=by omega
  obtain ⟨bp,offp,up,rfl,-,a0,c7⟩:=BU a7.out e5.out f9 J;obtain ⟨Q,U⟩:=b7 _ (Dr J)
  have B:Hid (zZ m ch tk=((zp m ch)[tk]).getLast?.toList):=by
   show _=_;unfold zZ;rw [if_pos J,Dp,Do J];rfl
  obtain ⟨P,b0⟩:=Ez ((zp m ch)[tk]);rw [<-b0] at c7 Q U B;clear b0 b7 hi;obtain ⟨q,x,rfl⟩:∃q x,P=q++[x]:=⟨P.dropLast,P.getLast Q,(List.dropLast_concat_getLast Q).symm⟩;obtain ⟨Aq,cq,rfl,a1,c0⟩:=c7;obtain ⟨bq,offq,e,-,O⟩:=Ao c0 (k:=q.length) (by simp) (by simp);have O:w.cell? ⟨bq,offq+q.length,none⟩=some (.int .i64 x):=by rw [O];simp
  subst e;obtain ⟨N,hN⟩:=Ez ((q++[x]).length);obtain ⟨n,hn⟩:=Ez q.length;have a9:N=n+1:=by rw [hN,hn];simp
  rw [<-hN] at a0 U a1;rw [<-hn] at O
  have e7:Hid (zZ m ch tk=[x]):=by
   show _=_;rw [B.out,List.getLast?_append];rfl
  clear c0 hN hn B Q hP;have k0:(0:Int)<=(tk:Int):=by omega
  have k1:(tk:Int)<(PL:Int):=by omega
  have h6:IntKind.i64.wrap ((N:Int) - 1)=(n:Int):=by rw [DN];omega
  have h2:(0:Int)<=(n:Int):=by omega
  have h3:(n:Int)<=(N:Int):=by omega
  have h4:N - n=1:=by omega
  have h5:(N:Int)<=(cq:Int):=by omega
  have HQ:=zh a9;have e4:=zh a1
  go_enter Tryz.func157,Tryz.ntmps157
  go_upto_region 1 with fail;obtain ⟨z,r0,r1,r2,r3,r4,r5,r6,r7,r8⟩:=box9 w (.int .i64 m.w) (.int .i64 m.h) (.int .i64 m.l) (.slice Af m.free.length cf) (.slice Au m.up.length cu) (.slice At m.tasks.length ct) (.slice Ac ch.length cc) (.slice (some ⟨bp,offp,none⟩) PL cp) (.int .i64 t);generalize w.alloc _=w1 at z r0 r1 r2 r3 r4 r5 r6 r7 r8⊢;obtain ⟨gm,I⟩:=Ez w.heap.size;rw [<-I] at r0 r1 r2 r3 r4 r5 r6 r7 r8⊢;clear I;have hx:zb w1 w1:=zb.refl w1;have o:=zh z;clear z;have qp:=zb.rule (o.out.cell a0);clear a0 a9 a1 J
  go_wp2_with fail
  go_ret;refine ⟨_,rfl,o.out,?_⟩;rw [e7.out];refine ⟨_,_,rfl,by have:=HQ.out;have:=e4.out;show 1<=_;omega,rfl,fun _=>⟨bq,offq+n,rfl,trivial,fun j u hu=>?_⟩⟩
  match j,hu with
  | 0,hu=>
   have:u=.int .i64 x:=by simpa using hu.symm
   rw [this];exact o.out.cell O
 ·obtain ⟨bt,offt,sn,u1,u2,rfl,-,-,b1,-,a2,-⟩:=BR f2.out K;have a4:=fun x hx=>G.out.tn _ (Dr K) x (.inl hx)
  have b3:=(HL.out.tl _ (Dr K)).1
  have B:Hid (zZ m ch tk=((m.tasks[tk]).1).filter fun n=>zf m tk n && !decide (n∈ch)):=by
   show _=_;unfold zZ;rw [if_neg (by omega),Dp,Do K];rfl
  obtain ⟨L,hL⟩:=Ez ((m.tasks[tk]).1);rw [<-hL] at a2 a4 b3 B;clear hL;have f1:=zh a4;have e0:Hid (ch.length<=300):=V.2.2.1;have f0:Hid (tk<m.free.length):=by show _<_;rw [e6.out];exact K
  have k0:(0:Int)<=(tk:Int):=by omega
  have k1:(tk:Int)<(m.tasks.length:Int):=by omega
  have k2:¬ ((tk:Int)<(PL:Int)):=by omega
  clear a4 V hi hP;obtain ⟨p,a3⟩:∃p:Int->Bool,p=fun n=>zf m tk n && !decide (n∈ch):=⟨_,rfl⟩
  rw [<-a3] at B;have e9:=zh a3;clear a3
  go_enter Tryz.func157,Tryz.ntmps157
  go_upto_region 1 with fail;obtain ⟨z,r0,r1,r2,r3,r4,r5,r6,r7,r8⟩:=box9 w (.int .i64 m.w) (.int .i64 m.h) (.int .i64 m.l) (.slice Af m.free.length cf) (.slice Au m.up.length cu) (.slice (some ⟨bt,offt,none⟩) m.tasks.length ct) (.slice Ac ch.length cc) (.slice Ap PL cp) (.int .i64 t);generalize w.alloc _=w1 at z r0 r1 r2 r3 r4 r5 r6 r7 r8⊢;obtain ⟨gm,I⟩:=Ez w.heap.size;rw [<-I] at r0 r1 r2 r3 r4 r5 r6 r7 r8⊢;clear I;have hx:zb w1 w1:=zb.refl w1;have o:=zh z;clear z;have qt:=zb.rule (o.out.cell b1);have e8:=zh (a2.below o.out);obtain ⟨Al,cl,rfl,g9,-⟩:=a2;clear b1
  go_wp2_with fail
  have a6:=zh (Mk.nil w1);go_loopw [4,31] (fun v i wr=>∃k:Nat,k<=L.length/\i=.int .i64 (k:Nat)/\Hid (Mk w1 wr v ((L.take k).filter p))) (fun _ i _=>L.length - (intOf i).toNat)
  case atStart=>exact ⟨0,DF _,rfl,a6⟩
  clear a6
  case round=>
   obtain ⟨k,hk,rfl,hM⟩:=hrel;have hx:zb w1 wr:=hM.out.ext;obtain ⟨wk,rfl⟩:∃wk:World,wk=wr:=⟨_,rfl⟩;by_cases D:k<L.length
   ·obtain ⟨A',c',e,-,b8⟩:=e8.out;injection e with e1 e2 e3;subst e1 e3;obtain ⟨bl,offl,rfl,-,d⟩:=Ao b8 D D;clear b8;obtain ⟨c8,c9⟩:=f1.out _ (Dr D);have M:=Dy D;obtain ⟨x,d5⟩:=Ez (L[k]);rw [<-d5] at d c8 c9 M;clear d5;have HT:=zh M;have d:wk.cell? ⟨bl,offl+k,none⟩=some (.int .i64 x):=hx.cell d;clear M;have kk0:(0:Int)<=(k:Int):=by omega
    have kk1:(k:Int)<(L.length:Int):=by omega
    go_wp2_with fail
    refine (popen_calls t tk x wk ((H.out.more o.out).more hx) G.out (by have:=e0.out;omega) f0.out c8 c9).mono ?_;rintro e w9 ⟨rfl,a8⟩;have E:=zh (hM.out.more a8);have d4:=E.out.ext;have hp:p x=(zf m tk x && !decide (x∈ch)):=by rw [e9.out]
    rw [<-hp];clear hp d a8;have f8:((L.take k).filter p).length<=L.length:=Dt (DU _ _) (by simp;omega)
    cases hb:p x with
    | true=>
     have HS:Hid ((L.take (k+1)).filter p=(L.take k).filter p++[x]):=by show _=_;rw [HT.out,List.filter_append,Ek hb];rfl
     clear hb;obtain ⟨l,b5⟩:=Ez ((L.take k).filter p);rw [<-b5] at E f8 HS;clear b5
     go_wp2_with (at_builtin;refine CU rfl _ _ rfl _ l x w1.heap.size w9.heap.size 1 _ rfl rfl (E.out.own.alloc _) ?d1 ?d2 ?d3 ?_)
     (try case d1=>exact zR _ _ _ (by simp))
     case d2=>(first | (simp;done) | (have:=d4.size;simp;omega) | (have:=d4.size;omega))
     case d3=>omega
     intro v' wb b6 b4 f5;have f3:=zh ((E.out.alloc _).app b6 b4);clear b6 b4 f5;go_wp2;go_roundw
     case rel=>exact ⟨k+1,by omega,by go_num,by rw [HS.out];exact f3⟩
     case measure=>simp [intOf];omega
    | false=>
     have HS:Hid ((L.take (k+1)).filter p=(L.take k).filter p):=by show _=_;rw [HT.out,List.filter_append,DZ (by rw [hb];simp),List.filter_nil,List.append_nil]
     clear hb;go_wp2;go_roundw
     case rel=>exact ⟨k+1,by omega,by go_num,by rw [HS.out];exact E⟩
     case measure=>simp [intOf];omega
   ·obtain rfl:k=L.length:=by omega
    go_wp2;go_ret;refine ⟨_,rfl,o.out.trans hM.out.ext,?_⟩;rw [B.out];have:=hM.out;rw [DC] at this;exact this.ints.weaken (fun _ _=>trivial)
end
section
open Go.RowKit
attribute [local go_sem ↓] Go.wp_at_zero Go.wp_at_succ
attribute [local go_sem] Oper.semAt_some
theorem PSt.weaken {w:World} {ok ok':Nat->Prop} {m:MZ} {f u ts vc vp:Value} {ch:List Int} (h:PSt w ok m f u ts vc vp ch) (d:∀b,ok b->ok' b):PSt w ok' m f u ts vc vp ch:=⟨h.maze.weaken d,h.chs.weaken d,h.ps.weaken d⟩
theorem PSt.keep {w w':World} {ok:Nat->Prop} {m:MZ} {f u ts vc vp:Value} {ch:List Int} (h:PSt w ok m f u ts vc vp ch) (d:zN ok w w'):PSt w' ok m f u ts vc vp ch:=⟨h.maze.keep d,h.chs.keep d,h.ps.keep d⟩
theorem Dc (t n:Int) (w:World) (h:PSt w ok m f u ts vc vp ch) (hl:Lens m) (hc:AS m=0) (hi:zr m (ch++[n])) (f8:ch.length<=300):
  Calls Tryz.prog 150 #[Di m f u ts vc vp t,.int .i64 n] w fun e w'=>∃vc' vp',e=.returned (Di m f u ts vc' vp' (zO m (ch++[n])))/\zb w w'/\PSt w' (fun b=>ok b\/w.heap.size<=b) m f u ts vc' vp' (ch++[n]):=by
 have H:=zh h;have HL:=zh hl;have HC:=zh hc;have HI:=zh hi;obtain ⟨Af,cf,Au,cu,At,ct,Ac,cc,Ap,cp,rfl,rfl,rfl,rfl,rfl,-,-⟩:=h.parts;obtain ⟨PL,hP⟩:=Ez ((zp m ch).length);rw [<-hP] at H⊢;clear h hl hc hi hP;unfold Di
 go_enter Tryz.func150,Tryz.ntmps150
 go_upto_region 1 with fail;have O:=ze.new w #[.int .i64 m.w,.int .i64 m.h,.int .i64 m.l,.slice Af m.free.length cf,.slice Au m.up.length cu,.slice At m.tasks.length ct,.slice Ac ch.length cc,.slice Ap PL cp,.int .i64 t] 128 (g:=w.heap.size) rfl;have b0:zb w (w.alloc (.cells #[.int .i64 m.w,.int .i64 m.h,.int .i64 m.l,.slice Af m.free.length cf,.slice Au m.up.length cu,.slice At m.tasks.length ct,.slice Ac ch.length cc,.slice Ap PL cp,.int .i64 t] 128)):=(zb.refl w).alloc _;have b6:(w.alloc (.cells #[.int .i64 m.w,.int .i64 m.h,.int .i64 m.l,.slice Af m.free.length cf,.slice Au m.up.length cu,.slice At m.tasks.length ct,.slice Ac ch.length cc,.slice Ap PL cp,.int .i64 t] 128)).heap.size=w.heap.size+1:=by simp
 generalize w.alloc _=w1 at O b0 b6⊢;have d:=ze.new w1 #[.int .i64 0,.int .i64 0,.int .i64 0,.slice none 0 0,.slice none 0 0,.slice none 0 0,.slice none 0 0,.slice none 0 0,.int .i64 0] 128 (g:=w1.heap.size) rfl;have a2:zb w1 (w1.alloc (.cells #[.int .i64 0,.int .i64 0,.int .i64 0,.slice none 0 0,.slice none 0 0,.slice none 0 0,.slice none 0 0,.slice none 0 0,.int .i64 0] 128)):=(zb.refl w1).alloc _;generalize w1.alloc _=w2 at d a2⊢;rw [b6] at d;obtain ⟨gm,b1⟩:=Ez w.heap.size;rw [<-b1] at O d⊢;have M:Hid (gm=w.heap.size):=b1;have HZ:=zh d;have G:ze w2 gm 128 _:=O.ext a2;have rul:∀{j:Nat} {v:Value},w2.cell? ⟨gm,j,none⟩=some v->∀W,Below (gm+1) w2 W->W.cell? ⟨gm,j,none⟩=some v:=fun h W hW=>(hW.cell (p:=⟨gm,_,none⟩) (Nat.lt_succ_self gm)).trans h
 have r0:=rul (G.cell (k:=0) rfl);have r1:=rul (G.cell (k:=1) rfl);have r2:=rul (G.cell (k:=2) rfl);have r3:=rul (G.cell (k:=3) rfl);have r4:=rul (G.cell (k:=4) rfl);have r5:=rul (G.cell (k:=5) rfl);have r6:=rul (G.cell (k:=6) rfl);have e0:=zh (b0.trans a2);have d9:Hid (gm+1<w2.heap.size):=za d;clear O b0 b6 d a2 G rul b1;refine DH (S:=(fun W=>Below (gm+1) w2 W)) AB ((Below.refl (gm+1) w2).drew) fun zH=>?_;have D:Below (gm+1) w2 w2.drew:=(Below.refl (gm+1) w2).drew;have HD:Hid (zb w2 w2.drew):=(zb.refl w2).drew;generalize w2.drew=wd at zH D HD⊢;have E:Hid (zb w wd):=e0.out.trans HD.out;have B:Hid (gm+1<wd.heap.size):=DT d9.out HD.out.size;refine zo 0 zH ?_;refine zo 1 zH ?_;simp only [zc,Dn];refine zo 2 zH ?_;refine zo 3 zH ?_;simp only [zc,Dn];refine zo 5 zH ?_;simp only [zc,Dn];refine rdA [4,6] ?_;refine DS rfl (fun K z=>?_) ?_
 ·go_simp;go_at_call 97;refine (Bc wd ((H.out.chs.below E.out).below (zb.refl wd)) (by omega)).mono ?_;rintro e w1 ⟨v1,rfl,a9⟩;have a7:zb wd w1:=a9.ext;have b8:Hid (zt w1 wd.heap.size v1 ch):=a9.own.mono ((zb.refl wd)).size;obtain ⟨A1,n1,c1,rfl⟩:=CR b8.out;clear a9;refine z.out _ _ (Below.trans D (Below.mono a7 (by have:=B.out;omega))) fun zH=>?_;clear z K;try simp only [zc,Dn]
  refine zK 6 fun K z=>?_;go_simp;have hA2:zb w1 (w1.alloc (.cells #[.int .i64 n] 3)):=(zb.refl w1).alloc _;have a4:Hid ((w1.alloc (.cells #[.int .i64 n] 3)).cell? ⟨w1.heap.size,0,none⟩=some (.int .i64 n)):=zR _ _ _ rfl;generalize w1.heap.size=g2 at a4⊢;generalize w1.alloc _=w2 at hA2 a4⊢;have b9:=zh (b8.out.ext hA2);have Q:zb wd w2:=Below.trans a7 (hA2.mono (a7).size);refine z.out _ _ (Below.trans D (Below.mono Q (by have:=B.out;omega))) fun zH=>?_;clear z K;try simp only [zc,Dn]
  refine zK 7 fun K z=>?_;refine CD (ok:=fun _=>True) (by rfl) _ _ _ (by rfl) wd.heap.size ch [n] _ _ (by rfl) (by rfl) b9.out (ints_one a4.out) (Q).size (by simp;omega) ?_;intro v3 w3 b4 d4 c8;have I:zb wd w3:=Ab Q d4 (Q).size (fun k hk=>AF b9.out hk);have d7:=zh b4;obtain ⟨A3,n3,cc3,rfl⟩:=CR b4;clear b4 d4 c8;refine z.out _ _ (Below.trans D (Below.mono I (by have:=B.out;omega))) fun zH=>?_;clear z K;try simp only [zc,Dn]
  refine zK 8 fun K z=>?_;go_simp;go_at_call 78;refine (of_calls (ok:=fun b=>(ok b/\b<w.heap.size)\/wd.heap.size<=b) w3 (((H.out.maze.bound.below E.out).below I).weaken (fun b hb=>.inl hb)) HL.out HC.out ((Mk.ints ⟨d7.out,I⟩).weaken (fun b hb=>.inr hb)) HI.out).mono ?_;rintro e w4 ⟨vp4,rfl,e1,e3⟩;have a0:zb wd w4:=Below.trans I (e1.mono (I).size);have c0:Hid (PSt w4 (fun b=>(ok b\/w.heap.size<=b)/\b≠gm+1) m (.slice Af m.free.length cf) (.slice Au m.up.length cu) (.slice At m.tasks.length ct) (.slice A3 n3 cc3) vp4 (ch++[n])):=e3.weaken (fun b hb=>by have h1:=B.out;have h2:=M.out;have h3:=E.out.size;have h4:=(I).size;rcases hb with (hb | hb) | hb;exact ⟨.inl hb.1,by omega⟩;exact ⟨.inr (by omega),by omega⟩;exact ⟨.inr (by omega),by omega⟩);obtain ⟨_,_,_,_,_,_,_,_,Ap4,cp4,-,-,-,-,rfl,-,-⟩:=c0.out.parts;unfold Di;refine z.out _ _ (Below.trans D (Below.mono a0 (by have:=B.out;omega))) fun zH=>?_;clear z K;try simp only [zc,Dn]
  refine zK 9 fun K z=>?_;have d:ze w4 (gm+1) 128 _:=(HZ.out.ext HD.out).ext a0;have z0:=d.cell (k:=0) rfl;have z1:=d.cell (k:=1) rfl;have z2:=d.cell (k:=2) rfl;have z3:=d.cell (k:=3) rfl;have z4:=d.cell (k:=4) rfl;have z5:=d.cell (k:=5) rfl;have z6:=d.cell (k:=6) rfl;have z7:=d.cell (k:=7) rfl;have z8:=d.cell (k:=8) rfl;have hfz:∀j,w4.frozen? ⟨gm+1,j,none⟩=false:=fun j=>d.frozen j
  have a3:=zh d;clear d;go_simp;refine z.out _ _ (Below.trans (Below.trans D (Below.mono a0 (by have:=B.out;omega))) (Ck (gm+1) [.int .i64 m.w,.int .i64 m.h,.int .i64 m.l,.slice Af m.free.length cf,.slice Au m.up.length cu,.slice At m.tasks.length ct,.slice A3 n3 cc3,.slice Ap4 (zp m (ch++[n])).length cp4,.int .i64 (zO m (ch++[n]))] 0 w4)) fun zH=>?_;clear z K;try simp only [zc,Dn]
  refine DV (by kernel_rfl) ?_ _;go_wp2;refine case_fin9 (P:=fun W=>bodyPost Tryz.prog Tryz.f150 _ Exit.ret _ W) (g2:=gm+1) ?_ a3.out;intro WZ o a8 b2;have y0:=o.cell (k:=0) rfl;have y1:=o.cell (k:=1) rfl;have y2:=o.cell (k:=2) rfl;have y3:=o.cell (k:=3) rfl;have y4:=o.cell (k:=4) rfl;have y5:=o.cell (k:=5) rfl;have y6:=o.cell (k:=6) rfl;have y7:=o.cell (k:=7) rfl;have y8:=o.cell (k:=8) rfl;refine El (v:=Di m (.slice Af m.free.length cf) (.slice Au m.up.length cu) (.slice At m.tasks.length ct) (.slice A3 n3 cc3) (.slice Ap4 (zp m (ch++[n])).length cp4) (zO m (ch++[n]))) (by simp [results,Tryz.results150,go_sem,y0,y1,y2,y3,y4,y5,y6,y7,y8,Di]) rfl ⟨_,_,rfl,?_,?_⟩
  ·exact Below.trans (E.out.trans (Below.mono a0 (Dq _))) (a8.mono (by have:=M.out;omega))
  ·exact (c0.out.keep (fun b hb b3=>b2 b b3 hb.2)).weaken (fun b hb=>hb.1)
 refine DS rfl (fun K z=>?_) .nil;go_simp;have hA6:zb wd (wd.alloc (.cells #[.int .i64 n] 3)):=(zb.refl wd).alloc _;have a5:Hid ((wd.alloc (.cells #[.int .i64 n] 3)).cell? ⟨wd.heap.size,0,none⟩=some (.int .i64 n)):=zR _ _ _ rfl;generalize wd.heap.size=g6 at a5⊢;generalize wd.alloc _=w6 at hA6 a5⊢;have L:zb wd w6:=Below.trans (zb.refl wd) (hA6.mono ((zb.refl wd)).size);refine z.out _ _ (Below.trans D (Below.mono L (by have:=B.out;omega))) fun zH=>?_;clear z K;try simp only [zc,Dn]
 refine zK 4 fun K z=>?_;go_simp;go_at_call 97;refine (Bc w6 ((H.out.chs.below E.out).below L) (by omega)).mono ?_;rintro e w7 ⟨v7,rfl,V⟩;have U:zb wd w7:=Below.trans L (V.ext.mono (L).size);have a6:Hid (zt w7 wd.heap.size v7 ch):=V.own.mono (L).size;have d6:Hid (w7.cell? ⟨g6,0,none⟩=some (.int .i64 n)):=zb.cell a5.out V.ext;obtain ⟨A7,n7,c7,rfl⟩:=CR a6.out;clear V;refine z.out _ _ (Below.trans D (Below.mono U (by have:=B.out;omega))) fun zH=>?_;clear z K;try simp only [zc,Dn]
 refine zK 7 fun K z=>?_;refine CD (ok:=fun _=>True) (by rfl) _ _ _ (by rfl) wd.heap.size ch [n] _ _ (by rfl) (by rfl) a6.out (ints_one d6.out) (U).size (by simp;omega) ?_;intro v8 w8 b5 d5 c9;have J:zb wd w8:=Ab U d5 (U).size (fun k hk=>AF a6.out hk);have d8:=zh b5;obtain ⟨A8,n8,cc8,rfl⟩:=CR b5;clear b5 d5 c9;refine z.out _ _ (Below.trans D (Below.mono J (by have:=B.out;omega))) fun zH=>?_;clear z K;try simp only [zc,Dn]
 refine zK 8 fun K z=>?_;go_simp;go_at_call 78;refine (of_calls (ok:=fun b=>(ok b/\b<w.heap.size)\/wd.heap.size<=b) w8 (((H.out.maze.bound.below E.out).below J).weaken (fun b hb=>.inl hb)) HL.out HC.out ((Mk.ints ⟨d8.out,J⟩).weaken (fun b hb=>.inr hb)) HI.out).mono ?_;rintro e w9 ⟨vp9,rfl,e2,e4⟩;have a1:zb wd w9:=Below.trans J (e2.mono (J).size);have c6:Hid (PSt w9 (fun b=>(ok b\/w.heap.size<=b)/\b≠gm+1) m (.slice Af m.free.length cf) (.slice Au m.up.length cu) (.slice At m.tasks.length ct) (.slice A8 n8 cc8) vp9 (ch++[n])):=e4.weaken (fun b hb=>by have h1:=B.out;have h2:=M.out;have h3:=E.out.size;have h4:=(J).size;rcases hb with (hb | hb) | hb;exact ⟨.inl hb.1,by omega⟩;exact ⟨.inr (by omega),by omega⟩;exact ⟨.inr (by omega),by omega⟩);obtain ⟨_,_,_,_,_,_,_,_,Ap9,cp9,-,-,-,-,rfl,-,-⟩:=c6.out.parts;unfold Di;refine z.out _ _ (Below.trans D (Below.mono a1 (by have:=B.out;omega))) fun zH=>?_;clear z K;try simp only [zc,Dn]
 refine zK 9 fun K z=>?_;have d:ze w9 (gm+1) 128 _:=(HZ.out.ext HD.out).ext a1;have z0:=d.cell (k:=0) rfl;have z1:=d.cell (k:=1) rfl;have z2:=d.cell (k:=2) rfl;have z3:=d.cell (k:=3) rfl;have z4:=d.cell (k:=4) rfl;have z5:=d.cell (k:=5) rfl;have z6:=d.cell (k:=6) rfl;have z7:=d.cell (k:=7) rfl;have z8:=d.cell (k:=8) rfl;have hfz:∀j,w9.frozen? ⟨gm+1,j,none⟩=false:=fun j=>d.frozen j
 have a3:=zh d;clear d;go_simp;refine z.out _ _ (Below.trans (Below.trans D (Below.mono a1 (by have:=B.out;omega))) (Ck (gm+1) [.int .i64 m.w,.int .i64 m.h,.int .i64 m.l,.slice Af m.free.length cf,.slice Au m.up.length cu,.slice At m.tasks.length ct,.slice A8 n8 cc8,.slice Ap9 (zp m (ch++[n])).length cp9,.int .i64 (zO m (ch++[n]))] 0 w9)) fun zH=>?_;clear z K;try simp only [zc,Dn]
 refine DV (by kernel_rfl) ?_ _;go_wp2;refine case_fin9 (P:=fun W=>bodyPost Tryz.prog Tryz.f150 _ Exit.ret _ W) (g2:=gm+1) ?_ a3.out;intro WZ o a8 b2;have y0:=o.cell (k:=0) rfl;have y1:=o.cell (k:=1) rfl;have y2:=o.cell (k:=2) rfl;have y3:=o.cell (k:=3) rfl;have y4:=o.cell (k:=4) rfl;have y5:=o.cell (k:=5) rfl;have y6:=o.cell (k:=6) rfl;have y7:=o.cell (k:=7) rfl;have y8:=o.cell (k:=8) rfl;refine El (v:=Di m (.slice Af m.free.length cf) (.slice Au m.up.length cu) (.slice At m.tasks.length ct) (.slice A8 n8 cc8) (.slice Ap9 (zp m (ch++[n])).length cp9) (zO m (ch++[n]))) (by simp [results,Tryz.results150,go_sem,y0,y1,y2,y3,y4,y5,y6,y7,y8,Di]) rfl ⟨_,_,rfl,?_,?_⟩
 ·exact Below.trans (E.out.trans (Below.mono a1 (Dq _))) (a8.mono (by have:=M.out;omega))
 ·exact (c6.out.keep (fun b hb b3=>b2 b b3 hb.2)).weaken (fun b hb=>hb.1)
end
section
open Go.RowKit
attribute [local go_sem ↓] Go.wp_at_zero Go.wp_at_succ
theorem Tryz.infoProof:(Tryz.prog.info? 41).map (fun i=>(i.zero,i.size,i.bytes))=some (some (.agg #[.int .i64 0,.slice none 0 0,.slice none 0 0]),3,56):=by kernel_rfl
theorem eProof:ElemI 39 41 (.agg #[.int .i64 0,.slice none 0 0,.slice none 0 0]) 3 56:=⟨Tryz.underlying39,Tryz.infoProof,rfl,by decide⟩
inductive Bn (w:World) (ok:Nat->Prop):Value->PT->Prop
 | mk {t:Int} {side:List Int} {kids:List PT} {vs vk:Value} {cs:List Value} (hs:zk w ok vs side) (hk:Aw w ok 3 vk kids.length cs)
  (he:∀(i:Nat) (hi:i<kids.length),Bn w ok (.agg #[cs.getD (i*3) undef,cs.getD (i*3+1) undef,cs.getD (i*3+2) undef]) kids[i]):Bn w ok (.agg #[.int .i64 t,vs,vk]) (.node t side kids)
theorem Bn.keepW {ok':Nat->Prop} (h:Bn w ok v p) (d:zN ok w w') (o:∀b,ok b->ok' b):Bn w' ok' v p:=by
 induction h with
 | mk z B _ ih=>exact .mk ((z.keep d).weaken o) ((B.keep d).weaken o) ih
theorem Bn.ext (h:Bn w ok v p) (d:zb w w'):Bn w' ok v p:=h.keepW (zN.of_below d) (fun _ h=>h)
theorem Bn.zero (w:World) (ok:Nat->Prop):Bn w ok (.agg #[.int .i64 0,.slice none 0 0,.slice none 0 0]) PT.zero:=
 .mk (cs:=[]) (zk.nil _ _) ⟨none,0,rfl,Dq _,AI.nil _ _ _ _⟩ (fun i d=>absurd d (by simp))
theorem Bn.form (h:Bn w ok v p):∃As cs Ak ck,v=.agg #[.int .i64 p.task,.slice As p.side.length cs,.slice Ak p.kids.length ck]/\zk w ok (.slice As p.side.length cs) p.side:=by
 cases h with
 | mk o z _=>
  have d:=o;obtain ⟨As,cs,rfl,-,-⟩:=o;obtain ⟨Ak,ck,rfl,-,-⟩:=z;exact ⟨As,cs,Ak,ck,rfl,d⟩
theorem prove1_calls {gs gt:Nat} {At:Option Addr} {ct tk:Nat} (x:Int) (w:World) (J:w.cell? ⟨gs,5,none⟩=some (.slice At m.tasks.length ct)) (ht:w.cell? ⟨gt,0,none⟩=some (.int .i64 tk)) (z:Bf w ok (.slice At m.tasks.length ct) m.tasks) (D:Lens m) (d:tk<m.tasks.length):
  Calls Tryz.prog 158 #[.int .i64 x,.pointer (some ⟨gs,0,none⟩),.pointer (some ⟨gt,0,none⟩)] w fun e w'=>e=.returned (.bool (decide (x∈(m.tasks.getD tk ([],[])).2)))/\w=w':=by
 obtain ⟨bt,offt,sn,u1,u2,rfl,-,-,-,G,-,o⟩:=BR z d;have I:=(D.tl _ (Dr d)).2;have B:(m.tasks.getD tk ([],[])).2=(m.tasks[tk]).2:=by rw [zgd d]
 rw [B];have E:=zh o;obtain ⟨Au,cu,rfl,-,-⟩:=o;have k0:(0:Int)<=(tk:Int):=by omega
 have k1:(tk:Int)<(m.tasks.length:Int):=by omega
 clear D z B
 go_enter Tryz.func158,Tryz.ntmps158
 go_wp2_with fail
 refine (zV x w E.out (by omega)).mono ?_;rintro e w9 ⟨rfl,rfl⟩
 go_wp2_with fail
 go_ret;exact ⟨rfl,rfl⟩
end
end Go.Proofs.YtnmkmhpgnpojbaaGreatDoor
