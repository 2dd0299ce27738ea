import Derived.Test.YtjomnbdjajjgfaaGreatDoorWKj
set_option linter.unusedVariables false
set_option linter.unusedSimpArgs false
set_option maxRecDepth 100000
set_option maxHeartbeats 16000000
namespace Go.Proofs.YtjomnbdjajjgfaaGreatDoor
variable {ch l:List Int} {m:MZ} {g i k n t:Nat} {ok:Nat->Prop} {f ts u vc vp:Value} {w w':World}
section
open Go.RowKit
attribute [local go_sem ↓] Go.wp_at_zero Go.wp_at_succ
theorem zU (o:Bq m=0) (h:zy m ch):(zm m ch).length<=m.tasks.length/\m.tasks.length<=6/\ch.length<=300/\∀x∈zm m ch,x≠[]/\x.length<=1000:=by
 have g:=AN.of o;have h1:=h.psOk;have h2:=h.len300 g;unfold zm;rw [if_pos (okC_of o h)];refine ⟨DT (Eu _ _) h1.pl,g.tk,h2,fun x E=>⟨?_,?_⟩⟩
 ·have:=(EO.1 E).2;rintro rfl;simp at this
 ·have h3:=flat_le (EO.1 E).1;rw [h1.fl] at h3;omega
structure PSt (w:World) (ok:Nat->Prop) (m:MZ) (f u ts vc vp:Value) (ch:List Int):Prop where
 maze:zt w ok (.agg #[.int .i64 m.w,.int .i64 m.h,.int .i64 m.l,f,u,ts]) m
 chs:zk w ok vc ch
 ps:zR w ok vp (zm m ch)
def DJ (m:MZ) (f u ts vc vp:Value) (t:Int):Value:=.agg #[.int .i64 m.w,.int .i64 m.h,.int .i64 m.l,f,u,ts,vc,vp,.int .i64 t]
theorem PSt.more (h:PSt w ok m f u ts vc vp ch) (o:za w w'):PSt w' ok m f u ts vc vp ch:=⟨h.maze.below o,h.chs.below o,h.ps.below o⟩
def setL (g:Nat):Nat->List Value->World->World
 | _,[],W=>W
 | k,v :: vs,W=>setL g (k+1) vs (W.setCell ⟨g,k,none⟩ v)
theorem Cn (g:Nat):∀(vs:List Value) (k:Nat) (W:World),Below g W (setL g k vs W)
 | [],_,W=>Below.refl g W
 | v :: vs,k,W=>((Below.refl g W).setCell (p:=⟨g,k,none⟩) (DR _) v).trans (Cn g vs (k+1) _)
theorem Co (g:Nat) (b:Nat) (o:b≠g):∀(vs:List Value) (k:Nat) (W:World),(setL g k vs W).heap[b]?=W.heap[b]?
 | [],_,W=>rfl
 | v :: vs,k,W=>(Co g b o vs (k+1) _).trans (Ea W ⟨g,k,none⟩ v b o)
theorem setL_blk {g:Nat} {t:TypeId}:∀(vs:List Value) (us ws:List Value) (W:World),us.length=vs.length->zd W g t (ws++us).toArray->zd (setL g ws.length vs W) g t (ws++vs).toArray
 | [],us,ws,W,o,h=>by
  have:us=[]:=List.length_eq_zero_iff.1 o;subst this;exact h
 | v :: vs,us,ws,W,o,h=>by
  match us,o,h with
  | u :: us,o,h=>
   have h1:=h.set (k:=ws.length) v;rw [List.setIfInBounds_toArray,List.set_append_right _ _ (DR _),Nat.sub_self,List.set_cons_zero] at h1;have h2:=setL_blk vs us (ws++[v]) _ (by simpa using o) (by rw [List.append_assoc];exact h1);rw [List.append_assoc,DZ] at h2;exact h2
theorem Cz {P:World->Prop} {W:World} {g2:Nat} {t:TypeId} {a0 a1 a2 a3 a4 a5 a6 a7 a8 z0 z1 z2 z3 z4 z5 z6 z7 z8:Value} (h:∀WZ,zd WZ g2 t #[a0,a1,a2,a3,a4,a5,a6,a7,a8]->Below g2 W WZ->(∀k,k<W.heap.size->k≠g2->WZ.heap[k]?=W.heap[k]?)->P WZ) (E:zd W g2 t #[z0,z1,z2,z3,z4,z5,z6,z7,z8]):
  P (((((((((W.setCell ⟨g2,0,none⟩ a0).setCell ⟨g2,1,none⟩ a1).setCell ⟨g2,2,none⟩ a2).setCell ⟨g2,3,none⟩ a3).setCell ⟨g2,4,none⟩ a4).setCell ⟨g2,5,none⟩ a5).setCell ⟨g2,6,none⟩ a6).setCell ⟨g2,7,none⟩ a7).setCell ⟨g2,8,none⟩ a8):=
 h (setL g2 0 [a0,a1,a2,a3,a4,a5,a6,a7,a8] W) (setL_blk [a0,a1,a2,a3,a4,a5,a6,a7,a8] [z0,z1,z2,z3,z4,z5,z6,z7,z8] [] W rfl E) (Cn g2 _ 0 W) (fun k _ o=>Co g2 k o _ 0 W)
theorem of_calls (w:World) (hm:zt w ok (.agg #[.int .i64 m.w,.int .i64 m.h,.int .i64 m.l,f,u,ts]) m) (hl:Lens m) (hc:Bq m=0) (f3:zk w ok vc ch) (hi:zy m ch):
  Calls Tryz.prog 63 #[.agg #[.int .i64 m.w,.int .i64 m.h,.int .i64 m.l,f,u,ts],vc] w fun e w'=>∃vp,e=.returned (DJ m f u ts vc vp (zF m ch))/\za w w'/\PSt w' (fun b=>ok b\/w.heap.size<=b) m f u ts vc vp ch:=by
 have b7:=zh hm;have HL:=zh hl;have e8:=zh (zU hc hi);have b3:=zh f3;obtain ⟨Af,cf,Au,cu,At,ct,e,-,-,f9⟩:=hm.parts;injection e with e;injection e with e;simp only [List.cons.injEq,and_true,true_and] at e;obtain ⟨rfl,rfl,rfl⟩:=e;have h5:=zh f9;obtain ⟨Ac,cc,rfl,-,-⟩:=f3;clear hm hl hc hi f9
 go_enter Tryz.func63,Tryz.ntmps63
 go_wp2_with fail
 obtain ⟨d8,r0,r1,r2,r3,r4,r5⟩:=box6 w (.int .i64 m.w) (.int .i64 m.h) (.int .i64 m.l) (.slice Af m.free.length cf) (.slice Au m.up.length cu) (.slice At m.tasks.length ct);have e5:(w.alloc (.cells #[.int .i64 m.w,.int .i64 m.h,.int .i64 m.l,.slice Af m.free.length cf,.slice Au m.up.length cu,.slice At m.tasks.length ct] 32)).heap.size=w.heap.size+1:=by simp
 generalize w.alloc _=w1 at d8 r0 r1 r2 r3 r4 r5 e5⊢;have o:=zd.new w1 #[.int .i64 0,.int .i64 0,.int .i64 0,.slice none 0 0,.slice none 0 0,.slice none 0 0,.slice none 0 0,.slice none 0 0,.int .i64 0] 107 (g:=w1.heap.size) rfl;have a7:za w1 (w1.alloc (.cells #[.int .i64 0,.int .i64 0,.int .i64 0,.slice none 0 0,.slice none 0 0,.slice none 0 0,.slice none 0 0,.slice none 0 0,.int .i64 0] 107)):=(za.refl w1).alloc _;generalize w1.alloc _=w2 at o a7⊢;rw [e5] at o;have a5:=zh (d8.trans a7);have M:=zh a7;have HZ:=zh o;obtain ⟨gm,e1⟩:=EY w.heap.size;rw [<-e1] at r0 r1 r2 r3 r4 r5 HZ⊢;have Q:Hid (gm=w.heap.size):=e1;have r0:=fun W h=>r0 W (M.out.trans h)
 have r1:=fun W h=>r1 W (M.out.trans h)
 have r2:=fun W h=>r2 W (M.out.trans h)
 have r3:=fun W h=>r3 W (M.out.trans h)
 have r4:=fun W h=>r4 W (M.out.trans h)
 have r5:=fun W h=>r5 W (M.out.trans h)
 clear e1 e5 o d8 a7;refine (rPathsY_calls (Y:=fun b=>ok b/\b<w.heap.size) w2 (b7.out.bound.below a5.out) HL.out (b3.out.below a5.out) (by have:=e8.out;omega)).mono ?_;rintro e w3 ⟨vp,rfl,c9,b0⟩;have b0:=b0.weaken (fun b I=>(by have:=Q.out;have:=HZ.out;have:=zc this;have:=a5.out.size;exact ⟨I.imp (fun h=>h.1) (fun h=>by omega),by omega⟩:(ok b\/w.heap.size<=b)/\b≠gm+1));have e9:=zh b0;obtain ⟨vps,⟨Ap,cp,rfl,-,f6⟩,f4⟩:=b0;have f0:=zh f6;have g8:=zh f4;have K:=zh (a5.out.trans c9);clear f6 f4
 go_wp2_with fail
 have a6:=zd.new w3 #[.int .i64 m.w,.int .i64 m.h,.int .i64 m.l,.slice Af m.free.length cf,.slice Au m.up.length cu,.slice At m.tasks.length ct,.slice Ac ch.length cc,.slice Ap (zm m ch).length cp,.int .i64 0] 107 (g:=w3.heap.size) rfl;have d9:za w3 (w3.alloc (.cells #[.int .i64 m.w,.int .i64 m.h,.int .i64 m.l,.slice Af m.free.length cf,.slice Au m.up.length cu,.slice At m.tasks.length ct,.slice Ac ch.length cc,.slice Ap (zm m ch).length cp,.int .i64 0] 107)):=(za.refl w3).alloc _;generalize w3.alloc _=w4 at a6 d9⊢;obtain ⟨gs,e2⟩:=EY w3.heap.size;rw [<-e2] at a6⊢;have g9:Hid (gs=w3.heap.size):=e2;have g4:=zh d9;have e7:=zh a6;have b6:=zh c9;obtain ⟨PL,d6⟩:=EY ((zm m ch).length);rw [<-d6] at f0 e7⊢;have O:=zh d6;clear e2 a6 d9 c9 d6;go_loopw [18] (fun _ wr=>∃k:Nat,k<=PL/\Hid (curF m (zm m ch) (PL - k) k=zF m ch)/\Hid (za w3 wr)/\Hid (zd wr gs 107 #[.int .i64 m.w,.int .i64 m.h,.int .i64 m.l,.slice Af m.free.length cf,.slice Au m.up.length cu,.slice At m.tasks.length ct,.slice Ac ch.length cc,.slice Ap PL cp,.int .i64 k])) (fun _ wr=>match wr.cell? ⟨gs,8,none⟩ with | some (.int _ i)=>PL - i.toNat | _=>0)
 case atStart=>exact ⟨0,Ef _,by show _=_;rw [O.out];rfl,g4.out,e7.out⟩
 case round=>
  obtain ⟨k,hk,a1,hE,U⟩:=hrel;have c0:=U.out.cell (k:=0) rfl;have c1:=U.out.cell (k:=1) rfl;have c2:=U.out.cell (k:=2) rfl;have c3:=U.out.cell (k:=3) rfl;have c4:=U.out.cell (k:=4) rfl;have c5:=U.out.cell (k:=5) rfl;have c6:=U.out.cell (k:=6) rfl;have c7:=U.out.cell (k:=7) rfl;have c8:=U.out.cell (k:=8) rfl;by_cases a4:k<PL
  ·obtain ⟨j5,j9,-,f5⟩:=e8.out;have a3:k<m.tasks.length:=by have:=O.out;omega
   have a8:k<(zm m ch).length:=by have:=O.out;omega
   obtain ⟨bt,offt,sn,u1,u2,rfl,-,-,-,f2,-,e3⟩:=Bm h5.out a3;obtain ⟨bp,offp,up,rfl,-,e0,g0⟩:=Br f0.out g8.out a4 a8;obtain ⟨a9,b1⟩:=f5 _ (DS a8);have h9:=(HL.out.tl _ (DS a3)).2
   have L:Hid (endB m (zm m ch) k=match ((zm m ch)[k]).getLast? with | none=>false | some x=>decide (x∈(m.tasks[k]).2)):=by
    show _=_;unfold endB;rw [DP,DO a8,DP,DO a3];rfl
   obtain ⟨P,hP⟩:=EY ((zm m ch)[k]);obtain ⟨T,hT⟩:=EY ((m.tasks[k]).2);rw [<-hP] at g0 a9 b1 L;rw [<-hT] at e3 h9 L;clear hP hT f5;obtain ⟨q,x,rfl⟩:∃q x,P=q++[x]:=⟨P.dropLast,P.getLast a9,(List.dropLast_concat_getLast a9).symm⟩
   have b5:Hid (endB m (zm m ch) k=decide (x∈T)):=by
    have:=L.out;rw [List.getLast?_append] at this;exact this
   clear L a9;obtain ⟨Aq,cq,rfl,h7,f7⟩:=g0;obtain ⟨bq,offq,e,-,a2⟩:=zE f7 (k:=q.length) (by simp) (by simp);have a2:w3.cell? ⟨bq,offq+q.length,none⟩=some (.int .i64 x):=by rw [a2];simp
   subst e;obtain ⟨N,hN⟩:=EY ((q++[x]).length);obtain ⟨n,hn⟩:=EY q.length;have f1:N=n+1:=by rw [hN,hn];simp
   rw [<-hN] at e0 b1;rw [<-hn] at a2;clear f7 h7 hN hn;have h4:=zh ((e3.below K.out).below hE.out);obtain ⟨Au2,cu2,rfl,-,-⟩:=e3;have q5:=za.rule (r5 wr (b6.out.trans hE.out));have q8:=za.rule c8;have g5:=zh c8;have qt:=za.rule (hE.out.cell (K.out.cell f2));have qp:=za.rule (hE.out.cell e0);have qx:=za.rule (hE.out.cell a2);have hx:za wr wr:=za.refl wr;have j0:=zh r5;clear r0 r1 r2 r3 r4 r5 c0 c1 c2 c3 c4 c5 c6 c7 f2 e0 a2;have j2:(k:Int)<(PL:Int):=by omega
   have j1:(0:Int)<=(k:Int):=by omega
   have j3:(k:Int)<(m.tasks.length:Int):=by omega
   have j6:(0:Int)<=(n:Int):=by omega
   have j7:(n:Int)<(N:Int):=by omega
   have j8:IntKind.i64.wrap ((N:Int) - 1)=(n:Int):=by rw [Em];omega
   have j4:IntKind.i64.wrap ((k:Int)+1)=(k:Int)+1:=by rw [Em];omega
   have i9:=zh f1;have i8:=zh a3;clear f1 a3 a8
   go_wp2_with fail
   go_quiet ((go_at_call 130;refine (Ai x _ (h4.out.below ((za.refl wr).drewN _)) (by omega)).mono ?_;rintro e w9 ⟨rfl,rfl⟩;exact ⟨rfl,⟨_,rfl⟩⟩))
   have E:Hid (zd (wr.drewN nq) gs _ _):=U.out.ext ((za.refl wr).drewN _);have J:Hid (za w3 (wr.drewN nq)):=hE.out.drewN _;have g6:Hid (∀h:za wr (wr.drewN nq),za wr (wr.drewN nq)):=fun h=>h
   generalize wr.drewN nq=WX at E J g6⊢;obtain ⟨d,hd⟩:=EY (decide (x∈T));rw [<-hd] at b5⊢;clear hd;have c8:=E.out.cell (k:=8) rfl;have f8:=E.out.frozen 8
   cases d with
   | true=>
    clear q5 q8 qt qp qx hx
    go_wp2_with fail
    have b8:=E.out.set (k:=8) (.int .i64 ((k:Int)+1));have d4:za w3 (WX.setCell ⟨gs,8,none⟩ (.int .i64 ((k:Int)+1))):=J.out.setCell (p:=⟨gs,8,none⟩) (by rw [g9.out];exact DR _) _;generalize WX.setCell ⟨gs,8,none⟩ (.int .i64 ((k:Int)+1))=w6 at b8 d4⊢;have g7:=zh d4;have e6:=zh b8;clear d4 b8;go_roundw
    case rel=>exact ⟨k+1,by omega,by
     show _=_;have:=a1.out;rw [show PL - k=(PL - (k+1))+1 from by omega,curF,if_pos ⟨by have:=O.out;omega,b5.out⟩] at this;exact this,g7.out,by have:=e6.out;exact this⟩
    case measure=>
     have h1:w6.cell? ⟨gs,8,none⟩=some (.int .i64 ((k:Int)+1)):=e6.out.cell (k:=8) rfl;have h2:wr.cell? ⟨gs,8,none⟩=some (.int .i64 k):=g5.out;simp only [h1,h2];omega
   | false=>
    have b4:Hid (zF m ch=k):=by
     show _=_;have:=a1.out;rw [show PL - k=(PL - (k+1))+1 from by omega,curF,if_neg (by rw [b5.out];simp)] at this;exact this.symm
    clear q5 q8 qt qp qx hx c8 f8;have o:zd WX (gm+1) 107 _:=HZ.out.ext (b6.out.trans J.out);have z0:=o.cell (k:=0) rfl;have z1:=o.cell (k:=1) rfl;have z2:=o.cell (k:=2) rfl;have z3:=o.cell (k:=3) rfl;have z4:=o.cell (k:=4) rfl;have z5:=o.cell (k:=5) rfl;have z6:=o.cell (k:=6) rfl;have z7:=o.cell (k:=7) rfl;have z8:=o.cell (k:=8) rfl;have c0:=E.out.cell (k:=0) rfl;have c1:=E.out.cell (k:=1) rfl;have c2:=E.out.cell (k:=2) rfl;have c3:=E.out.cell (k:=3) rfl;have c4:=E.out.cell (k:=4) rfl;have c5:=E.out.cell (k:=5) rfl;have c6:=E.out.cell (k:=6) rfl;have c7:=E.out.cell (k:=7) rfl;have c8:=E.out.cell (k:=8) rfl;have hfz:∀j,WX.frozen? ⟨gm+1,j,none⟩=false:=fun j=>o.frozen j
    have b2:=zh o;clear o
    go_wp2_with fail
    refine Cz (P:=fun W=>bodyPost Tryz.prog Tryz.f63 _ Exit.ret _ W) (g2:=gm+1) ?_ b2.out;intro WZ G d5 e4;have y0:=G.cell (k:=0) rfl;have y1:=G.cell (k:=1) rfl;have y2:=G.cell (k:=2) rfl;have y3:=G.cell (k:=3) rfl;have y4:=G.cell (k:=4) rfl;have y5:=G.cell (k:=5) rfl;have y6:=G.cell (k:=6) rfl;have y7:=G.cell (k:=7) rfl;have y8:=G.cell (k:=8) rfl;refine EL (v:=DJ m (.slice Af m.free.length cf) (.slice Au m.up.length cu) (.slice (some ⟨bt,offt,none⟩) m.tasks.length ct) (.slice Ac ch.length cc) (.slice (some ⟨bp,offp,none⟩) PL cp) k) (by simp [results,Tryz.results63,go_sem,y0,y1,y2,y3,y4,y5,y6,y7,y8,DJ]) rfl ⟨_,by rw [b4.out],?_,?_⟩
    ·exact Below.trans (K.out.trans J.out) (d5.mono (by have:=Q.out;omega))
    ·have hS:zK (fun b=>(ok b\/w.heap.size<=b)/\b≠gm+1) WX WZ:=fun b I a4=>e4 b a4 I.2
     have a0:∀{b},b<w.heap.size->b≠gm+1:=fun I=>by have:=Q.out;omega
     refine ⟨?_,?_,?_⟩
     ·exact ((((b7.out.bound).keep (zK.of_below (K.out.trans J.out))).weaken (fun b I=>⟨.inl I.1,a0 I.2⟩)).keep hS).weaken (fun _ I=>I.1)
     ·exact ((((b3.out.bound).keep (zK.of_below (K.out.trans J.out))).weaken (fun b I=>⟨.inl I.1,a0 I.2⟩)).keep hS).weaken (fun _ I=>I.1)
     ·exact ((O.out ▸ e9.out.below J.out:zR WX (fun b=>(ok b\/w.heap.size<=b)/\b≠gm+1) _ (zm m ch)).keep hS).weaken (fun _ I=>I.1)
  ·have i7:¬ ((k:Int)<(PL:Int)):=by omega
   have b4:Hid (zF m ch=k):=by
    show _=_;have:=a1.out;rw [show PL - k=0 from by omega,curF] at this;exact this.symm
   have q8:=za.rule c8;have hx:za wr wr:=za.refl wr;clear c0 c1 c2 c3 c4 c5 c6 c7 r0 r1 r2 r3 r4 r5
   go_wp2_with fail
   go_quiet (fail)
   have E:Hid (zd (wr.drewN nq) gs _ _):=U.out.ext ((za.refl wr).drewN _);have J:Hid (za w3 (wr.drewN nq)):=hE.out.drewN _;clear q8 hx c8;generalize wr.drewN nq=WX at E J⊢;have o:zd WX (gm+1) 107 _:=HZ.out.ext (b6.out.trans J.out);have z0:=o.cell (k:=0) rfl;have z1:=o.cell (k:=1) rfl;have z2:=o.cell (k:=2) rfl;have z3:=o.cell (k:=3) rfl;have z4:=o.cell (k:=4) rfl;have z5:=o.cell (k:=5) rfl;have z6:=o.cell (k:=6) rfl;have z7:=o.cell (k:=7) rfl;have z8:=o.cell (k:=8) rfl;have c0:=E.out.cell (k:=0) rfl;have c1:=E.out.cell (k:=1) rfl;have c2:=E.out.cell (k:=2) rfl;have c3:=E.out.cell (k:=3) rfl;have c4:=E.out.cell (k:=4) rfl;have c5:=E.out.cell (k:=5) rfl;have c6:=E.out.cell (k:=6) rfl;have c7:=E.out.cell (k:=7) rfl;have c8:=E.out.cell (k:=8) rfl;have hfz:∀j,WX.frozen? ⟨gm+1,j,none⟩=false:=fun j=>o.frozen j
   have b2:=zh o;clear o
   go_wp2_with fail
   refine Cz (P:=fun W=>bodyPost Tryz.prog Tryz.f63 _ Exit.ret _ W) (g2:=gm+1) ?_ b2.out;intro WZ G d5 e4;have y0:=G.cell (k:=0) rfl;have y1:=G.cell (k:=1) rfl;have y2:=G.cell (k:=2) rfl;have y3:=G.cell (k:=3) rfl;have y4:=G.cell (k:=4) rfl;have y5:=G.cell (k:=5) rfl;have y6:=G.cell (k:=6) rfl;have y7:=G.cell (k:=7) rfl;have y8:=G.cell (k:=8) rfl;refine EL (v:=DJ m (.slice Af m.free.length cf) (.slice Au m.up.length cu) (.slice At m.tasks.length ct) (.slice Ac ch.length cc) (.slice Ap PL cp) k) (by simp [results,Tryz.results63,go_sem,y0,y1,y2,y3,y4,y5,y6,y7,y8,DJ]) rfl ⟨_,by rw [b4.out],?_,?_⟩
   ·exact Below.trans (K.out.trans J.out) (d5.mono (by have:=Q.out;omega))
   ·have hS:zK (fun b=>(ok b\/w.heap.size<=b)/\b≠gm+1) WX WZ:=fun b I a4=>e4 b a4 I.2
    have a0:∀{b},b<w.heap.size->b≠gm+1:=fun I=>by have:=Q.out;omega
    refine ⟨?_,?_,?_⟩
    ·exact ((((b7.out.bound).keep (zK.of_below (K.out.trans J.out))).weaken (fun b I=>⟨.inl I.1,a0 I.2⟩)).keep hS).weaken (fun _ I=>I.1)
    ·exact ((((b3.out.bound).keep (zK.of_below (K.out.trans J.out))).weaken (fun b I=>⟨.inl I.1,a0 I.2⟩)).keep hS).weaken (fun _ I=>I.1)
    ·exact ((O.out ▸ e9.out.below J.out:zR WX (fun b=>(ok b\/w.heap.size<=b)/\b≠gm+1) _ (zm m ch)).keep hS).weaken (fun _ I=>I.1)
theorem box9 (w:World) (a0 a1 a2 a3 a4 a5 a6 a7 a8:Value):za w (w.alloc (.cells #[a0,a1,a2,a3,a4,a5,a6,a7,a8] 107))/\
  (∀W,za (w.alloc (.cells #[a0,a1,a2,a3,a4,a5,a6,a7,a8] 107)) W->W.cell? ⟨w.heap.size,0,none⟩=some a0)/\(∀W,za (w.alloc (.cells #[a0,a1,a2,a3,a4,a5,a6,a7,a8] 107)) W->W.cell? ⟨w.heap.size,1,none⟩=some a1)/\(∀W,za (w.alloc (.cells #[a0,a1,a2,a3,a4,a5,a6,a7,a8] 107)) W->W.cell? ⟨w.heap.size,2,none⟩=some a2)/\(∀W,za (w.alloc (.cells #[a0,a1,a2,a3,a4,a5,a6,a7,a8] 107)) W->W.cell? ⟨w.heap.size,3,none⟩=some a3)/\(∀W,za (w.alloc (.cells #[a0,a1,a2,a3,a4,a5,a6,a7,a8] 107)) W->W.cell? ⟨w.heap.size,4,none⟩=some a4)/\(∀W,za (w.alloc (.cells #[a0,a1,a2,a3,a4,a5,a6,a7,a8] 107)) W->W.cell? ⟨w.heap.size,5,none⟩=some a5)/\(∀W,za (w.alloc (.cells #[a0,a1,a2,a3,a4,a5,a6,a7,a8] 107)) W->W.cell? ⟨w.heap.size,6,none⟩=some a6)/\(∀W,za (w.alloc (.cells #[a0,a1,a2,a3,a4,a5,a6,a7,a8] 107)) W->W.cell? ⟨w.heap.size,7,none⟩=some a7)/\(∀W,za (w.alloc (.cells #[a0,a1,a2,a3,a4,a5,a6,a7,a8] 107)) W->W.cell? ⟨w.heap.size,8,none⟩=some a8):=by
 have o:=zd.new w #[a0,a1,a2,a3,a4,a5,a6,a7,a8] 107 rfl;exact ⟨(za.refl w).alloc _,za.rule (o.cell (k:=0) rfl),za.rule (o.cell (k:=1) rfl),za.rule (o.cell (k:=2) rfl),za.rule (o.cell (k:=3) rfl),za.rule (o.cell (k:=4) rfl),za.rule (o.cell (k:=5) rfl),za.rule (o.cell (k:=6) rfl),za.rule (o.cell (k:=7) rfl),za.rule (o.cell (k:=8) rfl)⟩
theorem PSt.parts {w:World} {ok:Nat->Prop} {m:MZ} {f u ts vc vp:Value} {ch:List Int} (h:PSt w ok m f u ts vc vp ch):∃Af cf Au cu At ct Ac cc Ap cp,f=.slice Af m.free.length cf/\u=.slice Au m.up.length cu/\ts=.slice At m.tasks.length ct/\vc=.slice Ac ch.length cc/\vp=.slice Ap (zm m ch).length cp/\
  Bi w ok (.slice Af m.free.length cf) m.free/\Bz w ok (.slice At m.tasks.length ct) m.tasks:=by
 obtain ⟨Af,cf,Au,cu,At,ct,e,hf,-,o⟩:=h.maze.parts;injection e with e;injection e with e;simp only [List.cons.injEq,and_true,true_and] at e;obtain ⟨rfl,rfl,rfl⟩:=e;obtain ⟨Ac,cc,rfl,-,-⟩:=h.chs;obtain ⟨_,⟨Ap,cp,rfl,-,-⟩,-⟩:=h.ps;exact ⟨Af,cf,Au,cu,At,ct,Ac,cc,Ap,cp,rfl,rfl,rfl,rfl,rfl,hf,o⟩
theorem Dt (t:Int) (w:World) (h:PSt w ok m f u ts vc vp ch):
  Calls Tryz.prog 131 #[DJ m f u ts vc vp t] w fun e w'=>e=.returned (.bool (decide ((m.tasks.length:Int)<=t)))/\za w w':=by
 obtain ⟨Af,cf,Au,cu,At,ct,Ac,cc,Ap,cp,rfl,rfl,rfl,rfl,rfl,-,-⟩:=h.parts;clear h;unfold DJ
 go_enter Tryz.func131,Tryz.ntmps131
 go_wp2_with fail
 obtain ⟨o,r0,r1,r2,r3,r4,r5,r6,r7,r8⟩:=box9 w (.int .i64 m.w) (.int .i64 m.h) (.int .i64 m.l) (.slice Af m.free.length cf) (.slice Au m.up.length cu) (.slice At m.tasks.length ct) (.slice Ac ch.length cc) (.slice Ap (zm m ch).length cp) (.int .i64 t);generalize w.alloc _=w1 at o r0 r1 r2 r3 r4 r5 r6 r7 r8⊢;obtain ⟨gm,E⟩:=EY w.heap.size;rw [<-E] at r0 r1 r2 r3 r4 r5 r6 r7 r8⊢;clear E;have I:za w1 w1:=za.refl w1;have G:=zh o;clear o
 go_wp2_with fail
 go_ret;exact ⟨rfl,G.out⟩
theorem popen_calls (t:Int) (tk:Nat) (n:Int) (w:World) (h:PSt w ok m f u ts vc vp ch) (g:AN m) (M:ch.length<=20000000000000) (O:tk<m.free.length) (h0:0<=n) (h1:n<m.n):
  Calls Tryz.prog 191 #[DJ m f u ts vc vp t,.int .i64 tk,.int .i64 n] w fun e w'=>e=.returned (.bool (ze m tk n && !decide (n∈ch)))/\za w w':=by
 have H:=zh h;obtain ⟨Af,cf,Au,cu,At,ct,Ac,cc,Ap,cp,rfl,rfl,rfl,rfl,rfl,hf,-⟩:=h.parts;obtain ⟨b,off,b',off',l,c',rfl,I,hl,a0,U,G⟩:=freeCells hf g.fn O h0 h1;have Q:=zh h.chs;clear h hf g;obtain ⟨fv,J⟩:=EY (ze m tk n);rw [<-J] at G⊢;clear J;have k0:(0:Int)<=(tk:Int):=by omega
 have k1:(tk:Int)<(m.free.length:Int):=by omega
 have a1:off'+n.toNat=off'+n.toNat:=rfl;unfold DJ
 go_enter Tryz.func191,Tryz.ntmps191
 go_upto_region 1 with fail;obtain ⟨E,r0,r1,r2,r3,r4,r5,r6,r7,r8⟩:=box9 w (.int .i64 m.w) (.int .i64 m.h) (.int .i64 m.l) (.slice (some ⟨b,off,none⟩) m.free.length cf) (.slice Au m.up.length cu) (.slice At m.tasks.length ct) (.slice Ac ch.length cc) (.slice Ap (zm m ch).length cp) (.int .i64 t);generalize w.alloc _=w1 at E r0 r1 r2 r3 r4 r5 r6 r7 r8⊢;obtain ⟨gm,K⟩:=EY w.heap.size;rw [<-K] at r0 r1 r2 r3 r4 r5 r6 r7 r8⊢;clear K;have hx:za w1 w1:=za.refl w1;have o:=zh E;clear E;have q1:=za.rule (o.out.cell I);have q2:=za.rule (o.out.cell G);have L:=zh (Q.out.below o.out);clear I G
 cases fv with
 | false=>
  go_wp2_with fail
  go_ret;exact ⟨rfl,o.out⟩
 | true=>
  go_wp2_with fail
  refine (Ai n w1 L.out M).mono ?_;rintro e w9 ⟨rfl,rfl⟩
  go_wp2_with fail
  go_ret;exact ⟨rfl,o.out⟩
theorem phead_calls (t:Int) (tk:Nat) (w:World) (h:PSt w ok m f u ts vc vp ch) (hl:Lens m) (hc:Bq m=0) (hi:zy m ch) (U:tk<m.tasks.length):
  Calls Tryz.prog 171 #[DJ m f u ts vc vp t,.int .i64 tk] w fun e w'=>∃v',e=.returned v'/\za w w'/\zk w' (fun _=>True) v' (Aj m ch tk):=by
 have H:=zh h;have a4:=zU hc hi;have G:=zh (AN.of hc);have HL:=zh hl;have f1:=zh G.out.fl;obtain ⟨_,g7,_⟩:=h.ps;have b7:=‹∀(i:Nat) x,(zm m ch)[i]?=some x->_›;obtain ⟨Af,cf,Au,cu,At,ct,Ac,cc,Ap,cp,rfl,rfl,rfl,rfl,rfl,hf,d5⟩:=h.parts;obtain ⟨_,_,e,-,c9⟩:=g7;injection e with e1 e2 e3;subst e1 e3;have f7:=zh d5;have b2:=zh c9;have f0:=zh b7;obtain ⟨PL,hP⟩:=EY ((zm m ch).length);rw [<-hP] at b2 H;clear h hf d5 c9 b7 hl hc;unfold DJ;rw [<-hP];by_cases g5:tk<PL
 ·obtain ⟨h9,h5,-,c7⟩:=a4;have Q:tk<(zm m ch).length:=by omega
  obtain ⟨bp,offp,up,rfl,-,a5,d6⟩:=Br b2.out f0.out g5 Q;obtain ⟨a2,a3⟩:=c7 _ (DS Q)
  have J:Hid (Aj m ch tk=((zm m ch)[tk]).getLast?.toList):=by
   show _=_;unfold Aj;rw [if_pos Q,DP,DO Q];rfl
  obtain ⟨P,b5⟩:=EY ((zm m ch)[tk]);rw [<-b5] at d6 a2 a3 J;clear b5 c7 hi;obtain ⟨q,x,rfl⟩:∃q x,P=q++[x]:=⟨P.dropLast,P.getLast a2,(List.dropLast_concat_getLast a2).symm⟩;obtain ⟨Aq,cq,rfl,a6,d4⟩:=d6;obtain ⟨bq,offq,e,-,a1⟩:=zE d4 (k:=q.length) (by simp) (by simp);have a1:w.cell? ⟨bq,offq+q.length,none⟩=some (.int .i64 x):=by rw [a1];simp
  subst e;obtain ⟨N,hN⟩:=EY ((q++[x]).length);obtain ⟨n,hn⟩:=EY q.length;have b4:N=n+1:=by rw [hN,hn];simp
  rw [<-hN] at a5 a3 a6;rw [<-hn] at a1
  have f2:Hid (Aj m ch tk=[x]):=by
   show _=_;rw [J.out,List.getLast?_append];rfl
  clear d4 hN hn J a2 hP;have k0:(0:Int)<=(tk:Int):=by omega
  have k1:(tk:Int)<(PL:Int):=by omega
  have i4:IntKind.i64.wrap ((N:Int) - 1)=(n:Int):=by rw [Em];omega
  have i0:(0:Int)<=(n:Int):=by omega
  have i1:(n:Int)<=(N:Int):=by omega
  have i2:N - n=1:=by omega
  have i3:(N:Int)<=(cq:Int):=by omega
  have HQ:=zh b4;have e9:=zh a6
  go_enter Tryz.func171,Tryz.ntmps171
  go_upto_region 1 with fail;obtain ⟨I,r0,r1,r2,r3,r4,r5,r6,r7,r8⟩:=box9 w (.int .i64 m.w) (.int .i64 m.h) (.int .i64 m.l) (.slice Af m.free.length cf) (.slice Au m.up.length cu) (.slice At m.tasks.length ct) (.slice Ac ch.length cc) (.slice (some ⟨bp,offp,none⟩) PL cp) (.int .i64 t);generalize w.alloc _=w1 at I r0 r1 r2 r3 r4 r5 r6 r7 r8⊢;obtain ⟨gm,O⟩:=EY w.heap.size;rw [<-O] at r0 r1 r2 r3 r4 r5 r6 r7 r8⊢;clear O;have hx:za w1 w1:=za.refl w1;have E:=zh I;clear I;have qp:=za.rule (E.out.cell a5);clear a5 b4 a6 Q
  go_wp2_with fail
  go_ret;refine ⟨_,rfl,E.out,?_⟩;rw [f2.out];refine ⟨_,_,rfl,by have:=HQ.out;have:=e9.out;show 1<=_;omega,rfl,fun _=>⟨bq,offq+n,rfl,trivial,fun j u hu=>?_⟩⟩
  match j,hu with
  | 0,hu=>
   have:u=.int .i64 x:=by simpa using hu.symm
   rw [this];exact E.out.cell a1
 ·obtain ⟨bt,offt,sn,u1,u2,rfl,-,-,b6,-,a7,-⟩:=Bm f7.out U;have a9:=fun x hx=>G.out.tn _ (DS U) x (.inl hx)
  have b8:=(HL.out.tl _ (DS U)).1
  have J:Hid (Aj m ch tk=((m.tasks[tk]).1).filter fun n=>ze m tk n && !decide (n∈ch)):=by
   show _=_;unfold Aj;rw [if_neg (by omega),DP,DO U];rfl
  obtain ⟨L,hL⟩:=EY ((m.tasks[tk]).1);rw [<-hL] at a7 a9 b8 J;clear hL;have f6:=zh a9;have e8:Hid (ch.length<=300):=a4.2.2.1;have f5:Hid (tk<m.free.length):=by show _<_;rw [f1.out];exact U
  have k0:(0:Int)<=(tk:Int):=by omega
  have k1:(tk:Int)<(m.tasks.length:Int):=by omega
  have k2:¬ ((tk:Int)<(PL:Int)):=by omega
  clear a9 a4 hi hP;obtain ⟨p,a8⟩:∃p:Int->Bool,p=fun n=>ze m tk n && !decide (n∈ch):=⟨_,rfl⟩
  rw [<-a8] at J;have f4:=zh a8;clear a8
  go_enter Tryz.func171,Tryz.ntmps171
  go_upto_region 1 with fail;obtain ⟨I,r0,r1,r2,r3,r4,r5,r6,r7,r8⟩:=box9 w (.int .i64 m.w) (.int .i64 m.h) (.int .i64 m.l) (.slice Af m.free.length cf) (.slice Au m.up.length cu) (.slice (some ⟨bt,offt,none⟩) m.tasks.length ct) (.slice Ac ch.length cc) (.slice Ap PL cp) (.int .i64 t);generalize w.alloc _=w1 at I r0 r1 r2 r3 r4 r5 r6 r7 r8⊢;obtain ⟨gm,O⟩:=EY w.heap.size;rw [<-O] at r0 r1 r2 r3 r4 r5 r6 r7 r8⊢;clear O;have hx:za w1 w1:=za.refl w1;have E:=zh I;clear I;have qt:=za.rule (E.out.cell b6);have f3:=zh (a7.below E.out);obtain ⟨Al,cl,rfl,h8,-⟩:=a7;clear b6
  go_wp2_with fail
  have b1:=zh (Mk.nil w1);go_loopw [4,31] (fun v i wr=>∃k:Nat,k<=L.length/\i=.int .i64 (k:Nat)/\Hid (Mk w1 wr v ((L.take k).filter p))) (fun _ i _=>L.length - (intOf i).toNat)
  case atStart=>exact ⟨0,Ef _,rfl,b1⟩
  clear b1
  case round=>
   obtain ⟨k,hk,rfl,hM⟩:=hrel;have hx:za w1 wr:=hM.out.ext;obtain ⟨wk,rfl⟩:∃wk:World,wk=wr:=⟨_,rfl⟩;by_cases K:k<L.length
   ·obtain ⟨A',c',e,-,c8⟩:=f3.out;injection e with e1 e2 e3;subst e1 e3;obtain ⟨bl,offl,rfl,-,o⟩:=zE c8 K K;clear c8;obtain ⟨d7,d8⟩:=f6.out _ (DS K);have a0:=DY K;obtain ⟨x,e0⟩:=EY (L[k]);rw [<-e0] at o d7 d8 a0;clear e0;have HT:=zh a0;have o:wk.cell? ⟨bl,offl+k,none⟩=some (.int .i64 x):=hx.cell o;clear a0;have kk0:(0:Int)<=(k:Int):=by omega
    have kk1:(k:Int)<(L.length:Int):=by omega
    go_wp2_with fail
    refine (popen_calls t tk x wk ((H.out.more E.out).more hx) G.out (by have:=e8.out;omega) f5.out d7 d8).mono ?_;rintro e w9 ⟨rfl,b3⟩;have M:=zh (hM.out.more b3);have d9:=M.out.ext;have hp:p x=(ze m tk x && !decide (x∈ch)):=by rw [f4.out]
    rw [<-hp];clear hp o b3;have g4:((L.take k).filter p).length<=L.length:=DT (Eu _ _) (by simp;omega)
    cases hb:p x with
    | true=>
     have HS:Hid ((L.take (k+1)).filter p=(L.take k).filter p++[x]):=by show _=_;rw [HT.out,EF,EK hb];rfl
     clear hb;obtain ⟨l,c0⟩:=EY ((L.take k).filter p);rw [<-c0] at M g4 HS;clear c0
     go_wp2_with (at_builtin;refine AF rfl _ _ rfl _ l x w1.heap.size w9.heap.size 1 _ rfl rfl (M.out.own.alloc _) ?d1 ?d2 ?d3 ?_)
     (try case d1=>exact zC _ _ _ (by simp))
     case d2=>(first | (simp;done) | (have:=d9.size;simp;omega) | (have:=d9.size;omega))
     case d3=>omega
     intro v' wb c6 b9 g0;have f8:=zh ((M.out.alloc _).app c6 b9);clear c6 b9 g0;go_wp2;go_roundw
     case rel=>exact ⟨k+1,by omega,by go_num,by rw [HS.out];exact f8⟩
     case measure=>simp [intOf];omega
    | false=>
     have HS:Hid ((L.take (k+1)).filter p=(L.take k).filter p):=by show _=_;rw [HT.out,EF,Ez (by rw [hb];simp),List.filter_nil,List.append_nil]
     clear hb;go_wp2;go_roundw
     case rel=>exact ⟨k+1,by omega,by go_num,by rw [HS.out];exact M⟩
     case measure=>simp [intOf];omega
   ·obtain rfl:k=L.length:=by omega
    go_wp2;go_ret;refine ⟨_,rfl,E.out.trans hM.out.ext,?_⟩;rw [J.out];have:=hM.out;rw [Ec] at this;exact this.ints.weaken (fun _ _=>trivial)
end
section
open Go.RowKit
attribute [local go_sem ↓] Go.wp_at_zero Go.wp_at_succ
attribute [local go_sem] Oper.semAt_some
theorem PSt.weaken {w:World} {ok ok':Nat->Prop} {m:MZ} {f u ts vc vp:Value} {ch:List Int} (h:PSt w ok m f u ts vc vp ch) (o:∀b,ok b->ok' b):PSt w ok' m f u ts vc vp ch:=⟨h.maze.weaken o,h.chs.weaken o,h.ps.weaken o⟩
theorem PSt.keep {w w':World} {ok:Nat->Prop} {m:MZ} {f u ts vc vp:Value} {ch:List Int} (h:PSt w ok m f u ts vc vp ch) (o:zK ok w w'):PSt w' ok m f u ts vc vp ch:=⟨h.maze.keep o,h.chs.keep o,h.ps.keep o⟩
theorem pnext_calls (t n:Int) (w:World) (h:PSt w ok m f u ts vc vp ch) (hl:Lens m) (hc:Bq m=0) (hi:zy m (ch++[n])) (g0:ch.length<=300):
  Calls Tryz.prog 134 #[DJ m f u ts vc vp t,.int .i64 n] w fun e w'=>∃vc' vp',e=.returned (DJ m f u ts vc' vp' (zF m (ch++[n])))/\za w w'/\PSt w' (fun b=>ok b\/w.heap.size<=b) m f u ts vc' vp' (ch++[n]):=by
 have H:=zh h;have HL:=zh hl;have HC:=zh hc;have HI:=zh hi;obtain ⟨Af,cf,Au,cu,At,ct,Ac,cc,Ap,cp,rfl,rfl,rfl,rfl,rfl,-,-⟩:=h.parts;obtain ⟨PL,hP⟩:=EY ((zm m ch).length);rw [<-hP] at H⊢;clear h hl hc hi hP;unfold DJ
 go_enter Tryz.func134,Tryz.ntmps134
 go_upto_region 1 with fail;have a1:=zd.new w #[.int .i64 m.w,.int .i64 m.h,.int .i64 m.l,.slice Af m.free.length cf,.slice Au m.up.length cu,.slice At m.tasks.length ct,.slice Ac ch.length cc,.slice Ap PL cp,.int .i64 t] 107 (g:=w.heap.size) rfl;have b5:za w (w.alloc (.cells #[.int .i64 m.w,.int .i64 m.h,.int .i64 m.l,.slice Af m.free.length cf,.slice Au m.up.length cu,.slice At m.tasks.length ct,.slice Ac ch.length cc,.slice Ap PL cp,.int .i64 t] 107)):=(za.refl w).alloc _;have c6:(w.alloc (.cells #[.int .i64 m.w,.int .i64 m.h,.int .i64 m.l,.slice Af m.free.length cf,.slice Au m.up.length cu,.slice At m.tasks.length ct,.slice Ac ch.length cc,.slice Ap PL cp,.int .i64 t] 107)).heap.size=w.heap.size+1:=by simp
 generalize w.alloc _=w1 at a1 b5 c6⊢;have o:=zd.new w1 #[.int .i64 0,.int .i64 0,.int .i64 0,.slice none 0 0,.slice none 0 0,.slice none 0 0,.slice none 0 0,.slice none 0 0,.int .i64 0] 107 (g:=w1.heap.size) rfl;have a7:za w1 (w1.alloc (.cells #[.int .i64 0,.int .i64 0,.int .i64 0,.slice none 0 0,.slice none 0 0,.slice none 0 0,.slice none 0 0,.slice none 0 0,.int .i64 0] 107)):=(za.refl w1).alloc _;generalize w1.alloc _=w2 at o a7⊢;rw [c6] at o;obtain ⟨gm,b6⟩:=EY w.heap.size;rw [<-b6] at a1 o⊢;have a0:Hid (gm=w.heap.size):=b6;have HZ:=zh o;have M:zd w2 gm 107 _:=a1.ext a7;have rul:∀{j:Nat} {v:Value},w2.cell? ⟨gm,j,none⟩=some v->∀W,Below (gm+1) w2 W->W.cell? ⟨gm,j,none⟩=some v:=fun h W hW=>(hW.cell (p:=⟨gm,_,none⟩) (Nat.lt_succ_self gm)).trans h
 have r0:=rul (M.cell (k:=0) rfl);have r1:=rul (M.cell (k:=1) rfl);have r2:=rul (M.cell (k:=2) rfl);have r3:=rul (M.cell (k:=3) rfl);have r4:=rul (M.cell (k:=4) rfl);have r5:=rul (M.cell (k:=5) rfl);have r6:=rul (M.cell (k:=6) rfl);have e5:=zh (b5.trans a7);have e4:Hid (gm+1<w2.heap.size):=zc o;clear a1 b5 c6 o a7 M rul b6;refine Eh (S:=(fun W=>Below (gm+1) w2 W)) zI ((Below.refl (gm+1) w2).drew) fun zH=>?_;have J:Below (gm+1) w2 w2.drew:=(Below.refl (gm+1) w2).drew;have HD:Hid (za w2 w2.drew):=(za.refl w2).drew;generalize w2.drew=wd at zH J HD⊢;have L:Hid (za w wd):=e5.out.trans HD.out;have I:Hid (gm+1<wd.heap.size):=Et e4.out HD.out.size;refine zg 0 zH ?_;refine zg 1 zH ?_;simp only [zb,DN];refine zg 2 zH ?_;refine zg 3 zH ?_;simp only [zb,DN];refine zg 5 zH ?_;simp only [zb,DN];refine rdA [4,6] ?_;refine Es rfl (fun K G=>?_) ?_
 ·go_simp;go_at_call 92;refine (cloneJ_calls wd ((H.out.chs.below L.out).below (za.refl wd)) (by omega)).mono ?_;rintro e w1 ⟨v1,rfl,b4⟩;have b2:za wd w1:=b4.ext;have c9:Hid (zB w1 wd.heap.size v1 ch):=b4.own.mono ((za.refl wd)).size;obtain ⟨A1,n1,c1,rfl⟩:=BT c9.out;clear b4;refine G.out _ _ (Below.trans J (Below.mono b2 (by have:=I.out;omega))) fun zH=>?_;clear G K;try simp only [zb,DN]
  refine AD 6 fun K G=>?_;go_simp;have hA2:za w1 (w1.alloc (.cells #[.int .i64 n] 3)):=(za.refl w1).alloc _;have a9:Hid ((w1.alloc (.cells #[.int .i64 n] 3)).cell? ⟨w1.heap.size,0,none⟩=some (.int .i64 n)):=zC _ _ _ rfl;generalize w1.heap.size=g2 at a9⊢;generalize w1.alloc _=w2 at hA2 a9⊢;have d4:=zh (c9.out.ext hA2);have a2:za wd w2:=Below.trans b2 (hA2.mono (b2).size);refine G.out _ _ (Below.trans J (Below.mono a2 (by have:=I.out;omega))) fun zH=>?_;clear G K;try simp only [zb,DN]
  refine AD 7 fun K G=>?_;refine AJ (ok:=fun _=>True) (by rfl) _ _ _ (by rfl) wd.heap.size ch [n] _ _ (by rfl) (by rfl) d4.out (CM a9.out) (a2).size (by simp;omega) ?_;intro v3 w3 b9 d9 d7;have O:za wd w3:=zS a2 d9 (a2).size (fun k hk=>Ao d4.out hk);have e2:=zh b9;obtain ⟨A3,n3,cc3,rfl⟩:=BT b9;clear b9 d9 d7;refine G.out _ _ (Below.trans J (Below.mono O (by have:=I.out;omega))) fun zH=>?_;clear G K;try simp only [zb,DN]
  refine AD 8 fun K G=>?_;go_simp;go_at_call 63;refine (of_calls (ok:=fun b=>(ok b/\b<w.heap.size)\/wd.heap.size<=b) w3 (((H.out.maze.bound.below L.out).below O).weaken (fun b hb=>.inl hb)) HL.out HC.out ((Mk.ints ⟨e2.out,O⟩).weaken (fun b hb=>.inr hb)) HI.out).mono ?_;rintro e w4 ⟨vp4,rfl,e6,e8⟩;have a5:za wd w4:=Below.trans O (e6.mono (O).size);have d5:Hid (PSt w4 (fun b=>(ok b\/w.heap.size<=b)/\b≠gm+1) m (.slice Af m.free.length cf) (.slice Au m.up.length cu) (.slice At m.tasks.length ct) (.slice A3 n3 cc3) vp4 (ch++[n])):=e8.weaken (fun b hb=>by have h1:=I.out;have h2:=a0.out;have h3:=L.out.size;have h4:=(O).size;rcases hb with (hb | hb) | hb;exact ⟨.inl hb.1,by omega⟩;exact ⟨.inr (by omega),by omega⟩;exact ⟨.inr (by omega),by omega⟩);obtain ⟨_,_,_,_,_,_,_,_,Ap4,cp4,-,-,-,-,rfl,-,-⟩:=d5.out.parts;unfold DJ;refine G.out _ _ (Below.trans J (Below.mono a5 (by have:=I.out;omega))) fun zH=>?_;clear G K;try simp only [zb,DN]
  refine AD 9 fun K G=>?_;have o:zd w4 (gm+1) 107 _:=(HZ.out.ext HD.out).ext a5;have z0:=o.cell (k:=0) rfl;have z1:=o.cell (k:=1) rfl;have z2:=o.cell (k:=2) rfl;have z3:=o.cell (k:=3) rfl;have z4:=o.cell (k:=4) rfl;have z5:=o.cell (k:=5) rfl;have z6:=o.cell (k:=6) rfl;have z7:=o.cell (k:=7) rfl;have z8:=o.cell (k:=8) rfl;have hfz:∀j,w4.frozen? ⟨gm+1,j,none⟩=false:=fun j=>o.frozen j
  have a8:=zh o;clear o;go_simp;refine G.out _ _ (Below.trans (Below.trans J (Below.mono a5 (by have:=I.out;omega))) (Cn (gm+1) [.int .i64 m.w,.int .i64 m.h,.int .i64 m.l,.slice Af m.free.length cf,.slice Au m.up.length cu,.slice At m.tasks.length ct,.slice A3 n3 cc3,.slice Ap4 (zm m (ch++[n])).length cp4,.int .i64 (zF m (ch++[n]))] 0 w4)) fun zH=>?_;clear G K;try simp only [zb,DN]
  refine Ev (by kernel_rfl) ?_ _;go_wp2;refine Cz (P:=fun W=>bodyPost Tryz.prog Tryz.f134 _ Exit.ret _ W) (g2:=gm+1) ?_ a8.out;intro WZ E b3 b7;have y0:=E.cell (k:=0) rfl;have y1:=E.cell (k:=1) rfl;have y2:=E.cell (k:=2) rfl;have y3:=E.cell (k:=3) rfl;have y4:=E.cell (k:=4) rfl;have y5:=E.cell (k:=5) rfl;have y6:=E.cell (k:=6) rfl;have y7:=E.cell (k:=7) rfl;have y8:=E.cell (k:=8) rfl;refine EL (v:=DJ m (.slice Af m.free.length cf) (.slice Au m.up.length cu) (.slice At m.tasks.length ct) (.slice A3 n3 cc3) (.slice Ap4 (zm m (ch++[n])).length cp4) (zF m (ch++[n]))) (by simp [results,Tryz.results134,go_sem,y0,y1,y2,y3,y4,y5,y6,y7,y8,DJ]) rfl ⟨_,_,rfl,?_,?_⟩
  ·exact Below.trans (L.out.trans (Below.mono a5 (DR _))) (b3.mono (by have:=a0.out;omega))
  ·exact (d5.out.keep (fun b hb b8=>b7 b b8 hb.2)).weaken (fun b hb=>hb.1)
 refine Es rfl (fun K G=>?_) .nil;go_simp;have hA6:za wd (wd.alloc (.cells #[.int .i64 n] 3)):=(za.refl wd).alloc _;have b0:Hid ((wd.alloc (.cells #[.int .i64 n] 3)).cell? ⟨wd.heap.size,0,none⟩=some (.int .i64 n)):=zC _ _ _ rfl;generalize wd.heap.size=g6 at b0⊢;generalize wd.alloc _=w6 at hA6 b0⊢;have U:za wd w6:=Below.trans (za.refl wd) (hA6.mono ((za.refl wd)).size);refine G.out _ _ (Below.trans J (Below.mono U (by have:=I.out;omega))) fun zH=>?_;clear G K;try simp only [zb,DN]
 refine AD 4 fun K G=>?_;go_simp;go_at_call 92;refine (cloneJ_calls w6 ((H.out.chs.below L.out).below U) (by omega)).mono ?_;rintro e w7 ⟨v7,rfl,a4⟩;have a3:za wd w7:=Below.trans U (a4.ext.mono (U).size);have b1:Hid (zB w7 wd.heap.size v7 ch):=a4.own.mono (U).size;have e1:Hid (w7.cell? ⟨g6,0,none⟩=some (.int .i64 n)):=za.cell b0.out a4.ext;obtain ⟨A7,n7,c7,rfl⟩:=BT b1.out;clear a4;refine G.out _ _ (Below.trans J (Below.mono a3 (by have:=I.out;omega))) fun zH=>?_;clear G K;try simp only [zb,DN]
 refine AD 7 fun K G=>?_;refine AJ (ok:=fun _=>True) (by rfl) _ _ _ (by rfl) wd.heap.size ch [n] _ _ (by rfl) (by rfl) b1.out (CM e1.out) (a3).size (by simp;omega) ?_;intro v8 w8 c0 e0 d8;have Q:za wd w8:=zS a3 e0 (a3).size (fun k hk=>Ao b1.out hk);have e3:=zh c0;obtain ⟨A8,n8,cc8,rfl⟩:=BT c0;clear c0 e0 d8;refine G.out _ _ (Below.trans J (Below.mono Q (by have:=I.out;omega))) fun zH=>?_;clear G K;try simp only [zb,DN]
 refine AD 8 fun K G=>?_;go_simp;go_at_call 63;refine (of_calls (ok:=fun b=>(ok b/\b<w.heap.size)\/wd.heap.size<=b) w8 (((H.out.maze.bound.below L.out).below Q).weaken (fun b hb=>.inl hb)) HL.out HC.out ((Mk.ints ⟨e3.out,Q⟩).weaken (fun b hb=>.inr hb)) HI.out).mono ?_;rintro e w9 ⟨vp9,rfl,e7,e9⟩;have a6:za wd w9:=Below.trans Q (e7.mono (Q).size);have d6:Hid (PSt w9 (fun b=>(ok b\/w.heap.size<=b)/\b≠gm+1) m (.slice Af m.free.length cf) (.slice Au m.up.length cu) (.slice At m.tasks.length ct) (.slice A8 n8 cc8) vp9 (ch++[n])):=e9.weaken (fun b hb=>by have h1:=I.out;have h2:=a0.out;have h3:=L.out.size;have h4:=(Q).size;rcases hb with (hb | hb) | hb;exact ⟨.inl hb.1,by omega⟩;exact ⟨.inr (by omega),by omega⟩;exact ⟨.inr (by omega),by omega⟩);obtain ⟨_,_,_,_,_,_,_,_,Ap9,cp9,-,-,-,-,rfl,-,-⟩:=d6.out.parts;unfold DJ;refine G.out _ _ (Below.trans J (Below.mono a6 (by have:=I.out;omega))) fun zH=>?_;clear G K;try simp only [zb,DN]
 refine AD 9 fun K G=>?_;have o:zd w9 (gm+1) 107 _:=(HZ.out.ext HD.out).ext a6;have z0:=o.cell (k:=0) rfl;have z1:=o.cell (k:=1) rfl;have z2:=o.cell (k:=2) rfl;have z3:=o.cell (k:=3) rfl;have z4:=o.cell (k:=4) rfl;have z5:=o.cell (k:=5) rfl;have z6:=o.cell (k:=6) rfl;have z7:=o.cell (k:=7) rfl;have z8:=o.cell (k:=8) rfl;have hfz:∀j,w9.frozen? ⟨gm+1,j,none⟩=false:=fun j=>o.frozen j
 have a8:=zh o;clear o;go_simp;refine G.out _ _ (Below.trans (Below.trans J (Below.mono a6 (by have:=I.out;omega))) (Cn (gm+1) [.int .i64 m.w,.int .i64 m.h,.int .i64 m.l,.slice Af m.free.length cf,.slice Au m.up.length cu,.slice At m.tasks.length ct,.slice A8 n8 cc8,.slice Ap9 (zm m (ch++[n])).length cp9,.int .i64 (zF m (ch++[n]))] 0 w9)) fun zH=>?_;clear G K;try simp only [zb,DN]
 refine Ev (by kernel_rfl) ?_ _;go_wp2;refine Cz (P:=fun W=>bodyPost Tryz.prog Tryz.f134 _ Exit.ret _ W) (g2:=gm+1) ?_ a8.out;intro WZ E b3 b7;have y0:=E.cell (k:=0) rfl;have y1:=E.cell (k:=1) rfl;have y2:=E.cell (k:=2) rfl;have y3:=E.cell (k:=3) rfl;have y4:=E.cell (k:=4) rfl;have y5:=E.cell (k:=5) rfl;have y6:=E.cell (k:=6) rfl;have y7:=E.cell (k:=7) rfl;have y8:=E.cell (k:=8) rfl;refine EL (v:=DJ m (.slice Af m.free.length cf) (.slice Au m.up.length cu) (.slice At m.tasks.length ct) (.slice A8 n8 cc8) (.slice Ap9 (zm m (ch++[n])).length cp9) (zF m (ch++[n]))) (by simp [results,Tryz.results134,go_sem,y0,y1,y2,y3,y4,y5,y6,y7,y8,DJ]) rfl ⟨_,_,rfl,?_,?_⟩
 ·exact Below.trans (L.out.trans (Below.mono a6 (DR _))) (b3.mono (by have:=a0.out;omega))
 ·exact (d6.out.keep (fun b hb b8=>b7 b b8 hb.2)).weaken (fun b hb=>hb.1)
end
section
open Go.RowKit
attribute [local go_sem ↓] Go.wp_at_zero Go.wp_at_succ
theorem Tryz.infoProof:(Tryz.prog.info? 41).map (fun i=>(i.zero,i.size,i.bytes))=some (some (.agg #[.int .i64 0,.slice none 0 0,.slice none 0 0]),3,56):=by kernel_rfl
theorem CW:ElemI 39 41 (.agg #[.int .i64 0,.slice none 0 0,.slice none 0 0]) 3 56:=⟨Tryz.underlying39,Tryz.infoProof,rfl,by decide⟩
inductive zM (w:World) (ok:Nat->Prop):Value->PT->Prop
 | mk {t:Int} {side:List Int} {kids:List PT} {vs vk:Value} {cs:List Value} (hs:zk w ok vs side) (hk:Ae w ok 3 vk kids.length cs)
  (he:∀(i:Nat) (hi:i<kids.length),zM w ok (.agg #[cs.getD (i*3) undef,cs.getD (i*3+1) undef,cs.getD (i*3+2) undef]) kids[i]):zM w ok (.agg #[.int .i64 t,vs,vk]) (.node t side kids)
theorem zM.keepW {ok':Nat->Prop} {v:Value} {p:PT} (h:zM w ok v p) (o:zK ok w w') (E:∀b,ok b->ok' b):zM w' ok' v p:=by
 induction h with
 | mk h1 h2 _ ih=>exact .mk ((h1.keep o).weaken E) ((h2.keep o).weaken E) ih
theorem zM.ext {v:Value} {p:PT} (h:zM w ok v p) (o:za w w'):zM w' ok v p:=h.keepW (zK.of_below o) (fun _ h=>h)
theorem zM.zero (w:World) (ok:Nat->Prop):zM w ok (.agg #[.int .i64 0,.slice none 0 0,.slice none 0 0]) PT.zero:=
 .mk (cs:=[]) (zk.nil _ _) ⟨none,0,rfl,DR _,AE.nil _ _ _ _⟩ (fun i o=>absurd o (by simp))
theorem zM.form {v:Value} {p:PT} (h:zM w ok v p):∃As cs Ak ck,v=.agg #[.int .i64 p.task,.slice As p.side.length cs,.slice Ak p.kids.length ck]/\zk w ok (.slice As p.side.length cs) p.side:=by
 cases h with
 | mk h1 h2 _=>
  have o:=h1;obtain ⟨As,cs,rfl,-,-⟩:=h1;obtain ⟨Ak,ck,rfl,-,-⟩:=h2;exact ⟨As,cs,Ak,ck,rfl,o⟩
theorem prove1_calls {gs gt:Nat} {At:Option Addr} {ct tk:Nat} (x:Int) (w:World) (O:w.cell? ⟨gs,5,none⟩=some (.slice At m.tasks.length ct)) (ht:w.cell? ⟨gt,0,none⟩=some (.int .i64 tk)) (G:Bz w ok (.slice At m.tasks.length ct) m.tasks) (J:Lens m) (o:tk<m.tasks.length):
  Calls Tryz.prog 172 #[.int .i64 x,.pointer (some ⟨gs,0,none⟩),.pointer (some ⟨gt,0,none⟩)] w fun e w'=>e=.returned (.bool (decide (x∈(m.tasks.getD tk ([],[])).2)))/\w=w':=by
 obtain ⟨bt,offt,sn,u1,u2,rfl,-,-,-,L,-,E⟩:=Bm G o;have M:=(J.tl _ (DS o)).2;have I:(m.tasks.getD tk ([],[])).2=(m.tasks[tk]).2:=by rw [zgd o]
 rw [I];have K:=zh E;obtain ⟨Au,cu,rfl,-,-⟩:=E;have k0:(0:Int)<=(tk:Int):=by omega
 have k1:(tk:Int)<(m.tasks.length:Int):=by omega
 clear J G I
 go_enter Tryz.func172,Tryz.ntmps172
 go_wp2_with fail
 refine (Ai x w K.out (by omega)).mono ?_;rintro e w9 ⟨rfl,rfl⟩
 go_wp2_with fail
 go_ret;exact ⟨rfl,rfl⟩
end
section
open Go.RowKit
theorem find_at {p:Nat->Bool} {c:Nat} (I:i<n) (hp:p (c+i)=true) (E:∀j,j<i->p (c+j)=false):((List.range n).map (c+·)).find? p=some (c+i):=by
 have h:List.range n=List.range i++([i]++(List.range (n - i - 1)).map (i+1+·)):=by
  have h1:n=(i+1)+(n - i - 1):=by omega
  conv=>lhs;rw [h1,List.range_add,List.range_succ,List.append_assoc]
 rw [h,EI,List.find?_append]
 have h0:((List.range i).map (c+·)).find? p=none:=by
  rw [List.find?_eq_none];intro x G;obtain ⟨j,o,rfl⟩:=EP.1 G;rw [E j (EQ.1 o)];simp
 rw [h0];simp [hp]
theorem find_no {p:Nat->Bool} {c:Nat} (E:∀j,j<n->p (c+j)=false):((List.range n).map (c+·)).find? p=none:=by
 rw [List.find?_eq_none];intro x G;obtain ⟨j,o,rfl⟩:=EP.1 G;rw [E j (EQ.1 o)];simp
theorem cutT_at (h0:zF m ch<=t) (h1:t<m.tasks.length) (hp:offB m ch t=true) (o:∀j,zF m ch<=j->j<t->offB m ch j=false):cutT m ch=some t:=by
 unfold cutT;have:=find_at (p:=offB m ch) (c:=zF m ch) (n:=m.tasks.length - zF m ch) (i:=t - zF m ch) (by omega) (by rw [show zF m ch+(t - zF m ch)=t from by omega];exact hp) (fun j E=>o _ (by omega) (by omega));rw [this,show zF m ch+(t - zF m ch)=t from by omega]
theorem cutT_no (o:∀j,zF m ch<=j->j<m.tasks.length->offB m ch j=false):cutT m ch=none:=by
 unfold cutT;exact find_no fun j E=>o _ (by omega) (by omega)
theorem proveP_end {f:Nat} (h:m.tasks.length<=zF m ch):zj m (f+1) ch k=(51,.zero,k):=by
 conv=>lhs;unfold zj
 rw [if_pos h]
theorem DD {f:Nat} (h:¬ m.tasks.length<=zF m ch) (o:3000<k+1):zj m (f+1) ch k=(53,.zero,k+1):=by
 conv=>lhs;unfold zj
 rw [if_neg h,if_pos o]
theorem Dn {f:Nat} (h:¬ m.tasks.length<=zF m ch) (E:¬ 3000<k+1) (o:cutT m ch=some t):zj m (f+1) ch k=(0,.node t (BI m ch t) [],k+1):=by
 conv=>lhs;unfold zj
 rw [if_neg h,if_neg E,o]
theorem DC {f:Nat} (h:¬ m.tasks.length<=zF m ch) (E:¬ 3000<k+1) (o:cutT m ch=none):zj m (f+1) ch k=if (zJ (fun n k=>zj m f (ch++[n]) k) (zu m ch) (k+1) []).1=0 then (0,.node (zF m ch) [] (zJ (fun n k=>zj m f (ch++[n]) k) (zu m ch) (k+1) []).2.1,(zJ (fun n k=>zj m f (ch++[n]) k) (zu m ch) (k+1) []).2.2) else ((zJ (fun n k=>zj m f (ch++[n]) k) (zu m ch) (k+1) []).1,.zero,(zJ (fun n k=>zj m f (ch++[n]) k) (zu m ch) (k+1) []).2.2):=by
 conv=>lhs;unfold zj
 rw [if_neg h,if_neg E,o]
theorem kidsR_more {f:Int->Nat->Int×PT×Nat} {n:Int} {acc:List PT} (h:(f n k).1=0):zJ f (n :: l) k acc=zJ f l (f n k).2.2 (acc++[(f n k).2.1]):=by
 conv=>lhs;unfold zJ
 rw [if_pos h]
theorem kidsR_stop {f:Int->Nat->Int×PT×Nat} {n:Int} {acc:List PT} (h:(f n k).1≠0):zJ f (n :: l) k acc=((f n k).1,[],(f n k).2.2):=by
 conv=>lhs;unfold zJ
 rw [if_neg h]
theorem zM.bound {w:World} {ok:Nat->Prop} {v:Value} {p:PT} (h:zM w ok v p):zM w (fun b=>ok b/\b<w.heap.size) v p:=by
 induction h with
 | mk h1 h2 _ ih=>exact .mk h1.bound (h2.bound (by decide)) ih
theorem own_chg {W W':World} {X:Nat->Prop} {B sz:Nat} {e:TypeId} {v:Value} {xs:List Value} (h:W.ownsRow B e sz v n xs) (E:zp X W W') (G:∀b,B<=b->¬ X b):W'.ownsRow B e sz v n xs:=by
 refine ⟨h.1,?_⟩;rcases h.2 with h | ⟨g,cap,cur,h1,h2,h3,o⟩
 ·exact .inl h
 ·exact .inr ⟨g,cap,cur,h1,h2,(E.block g (zc h3) (G g h2)).trans h3,o⟩
structure AG (W:World) (B:Nat) (v:Value) (acc:List PT) (cs:List Value):Prop where
 own:W.ownsRow B 41 3 v acc.length cs
 each:∀(i:Nat) (hi:i<acc.length),zM W (fun b=>B<=b/\v.ownBlock≠some b) (.agg #[cs.getD (i*3) undef,cs.getD (i*3+1) undef,cs.getD (i*3+2) undef]) acc[i]
section
variable {W W':World} {B lo:Nat} {v v':Value} {acc:List PT} {cs:List Value} {p:PT} {a b c:Value} {X:Nat->Prop}
theorem AG.nil (W:World) (B:Nat):AG W B (.slice none 0 0) [] []:=⟨World.ownsRow_nil _ _ _ _,fun i o=>absurd o (by simp)⟩
theorem AG.chg (h:AG W B v acc cs) (E:zp X W W') (G:∀b,B<=b->¬ X b):AG W' B v acc cs:=
 ⟨own_chg h.own E G,fun i J=>(h.each i J).keepW (fun b I o=>E.block b o (G b I.1)) (fun _ h=>h)⟩
theorem AG.lt (h:AG W B v acc cs) (o:v.ownBlock=some k):B<=k/\k<W.heap.size:=by
 rcases h.own.2 with ⟨rfl,-⟩ | ⟨g,cap,cur,rfl,h1,h2,-⟩
 ·cases o
 ·have:g=k:=by simpa [Value.ownBlock] using o
  subst this;exact ⟨h1,zc h2⟩
theorem BE {l l2:List Value} (h:i<l.length):(l++l2).getD i undef=l.getD i undef:=by
 rw [DP,DP,DW h]
theorem AG.app (h:AG W B v acc cs) (hp:zM W (fun b=>lo<=b) (.agg #[a,b,c]) p) (I:∀k,v.ownBlock=some k->k<lo) (hB:B<=lo) (Q:W'.ownsRow B 41 3 v' (acc.length+1) (cs++[a,b,c])) (L:W.grownBy W' v.ownBlock)
  (U:v'.ownBlock=v.ownBlock\/v'.ownBlock=some W.heap.size):AG W' B v' (acc++[p]) (cs++[a,b,c]):=by
 have E:cs.length=acc.length*3:=h.own.1
 have J:∀k,k<W.heap.size->v.ownBlock≠some k->v'.ownBlock≠some k:=fun k o h1=>by
  rcases U with h2 | h2
  ·rw [h2];exact h1
  ·rw [h2];intro e;injection e with e;omega
 refine ⟨by rw [DZ];exact Q,fun i M=>?_⟩;by_cases O:i<acc.length
 ·rw [BE (by omega),BE (by omega),BE (by omega),List.getElem_append_left O];exact (h.each i O).bound.keepW (fun k o G=>L.block k G (fun e=>o.1.2 e.symm)) (fun k o=>⟨o.1.1,J k o.2 o.1.2⟩)
 ·have K:i=acc.length:=by rw [DZ,Er] at M;omega
  subst K;have e0:(cs++[a,b,c]).getD (acc.length*3) undef=a:=by rw [DP,DX (by omega),E,Nat.sub_self];rfl
  have e1:(cs++[a,b,c]).getD (acc.length*3+1) undef=b:=by rw [DP,DX (by omega),E,Nat.add_sub_cancel_left];rfl
  have e2:(cs++[a,b,c]).getD (acc.length*3+2) undef=c:=by rw [DP,DX (by omega),E,Nat.add_sub_cancel_left];rfl
  rw [e0,e1,e2];have:(acc++[p])[acc.length]'M=p:=by simp
  rw [this];exact hp.bound.keepW (fun k o G=>L.block k G (fun e=>by have:=I k e.symm;omega)) (fun k o=>⟨by omega,J k o.2 (fun e=>by have:=I k e;omega)⟩)
theorem AG.kids (h:AG W B v acc cs) (t:Int):zM W (fun b=>B<=b) (.agg #[.int .i64 t,.slice none 0 0,v]) (.node t [] acc):=
 .mk (cs:=cs) (zk.nil _ _) (Ae.of_own h.own) (fun i o=>(h.each i o).keepW (fun _ _ _=>rfl) (fun _ h=>h.1))
end
theorem zp.wide {X X':Nat->Prop} {a b:World} (h:zp X a b) (o:∀k,X k->X' k):zp X' a b:=⟨h.os,h.tape,h.output,h.size,fun b E G=>h.block b E fun e=>G (o b e)⟩
theorem zp.set {X:Nat->Prop} {a b:World} (h:zp X a b) (g k:Nat) (v:Value) (E:X g):zp X a (b.setCell ⟨g,k,none⟩ v):=
 ⟨h.os,h.tape,h.output,by simpa using h.size,fun i G o=>(Ea b ⟨g,k,none⟩ v i (fun e=>o (by rw [e];exact E))).trans (h.block i G o)⟩
theorem zp.grown {X:Nat->Prop} {a b c:World} {r:Option Nat} (h:zp X a b) (o:b.grownBy c r) (I:∀k,r=some k->k<a.heap.size->X k):zp X a c:=
 ⟨o.os.trans h.os,o.tape.trans h.tape,o.output.trans h.output,DT h.size o.size,fun i E G=>(o.block i (Et E h.size) (fun e=>G (I i e.symm E))).trans (h.block i E G)⟩
theorem zp.blk {X:Nat->Prop} {a b:World} {t:TypeId} {cs:Array Value} (h:zp X a b) (o:zd a g t cs) (E:¬ X g):zd b g t cs:=(h.block g (zc o) E).trans o
theorem zp.cellk {X:Nat->Prop} {a b:World} {p:Addr} {v:Value} (h:zp X a b) (o:a.cell? p=some v) (E:¬ X p.block):b.cell? p=some v:=(CY (h.block _ (zA o) E)).trans o
theorem za.cellB {W:World} {t:TypeId} {cs:Array Value} (o:za w W) (h:zd w g t cs):zd W g t cs:=h.ext o
theorem prove_err {F:Int->Nat->Int×PT×Nat} {n:Int} {L:List Int} {k0:Nat} {acc:List PT} (h:(F n k).1≠0) (o:zJ F L k0 []=zJ F (n :: l) k acc) {a:Int×PT×Nat} {b:PT×Nat}:(if (zJ F L k0 []).1=0 then a else ((zJ F L k0 []).1,b)).1=(F n k).1:=by
 rw [o,kidsR_stop h,if_neg h]
theorem Cd {W:World} {a b c:Value} (o:zd W g 41 #[a,b,c]):Ae W (fun _=>True) 3 (.slice (some ⟨g,0,none⟩) 1 1) 1 [a,b,c]:=
 ⟨_,1,rfl,DR _,by simp,fun _=>⟨g,0,rfl,trivial,fun j u E=>by rw [Nat.zero_add];exact o.cell (by simpa using E)⟩⟩
structure JB (V:Nat->Value->World->Prop) (D:Nat->List Nat) (w9:World) (A:List Nat) (js:Nat) (X:(Nat->Bool)->(Nat->Value)->World->Prop) (PS:(Nat->Value)->World->Prop) (e:Nat->Bool) (v:Nat->Value) (W:World):Prop where
 g:e js=false->za w9 W
 gv:e js=false->∀j∈A,e j=true->V j (v j) W
 x:e js=false->X e v W
 d:e js=true->(∀j∈A,e j=true)/\PS v W
 c:∀j∈A,e j=true->∀d∈D j,d∈A/\e d=true
section
variable {V:Nat->Value->World->Prop} {D:Nat->List Nat} {w9 W W':World} {A:List Nat} {js:Nat} {X:(Nat->Bool)->(Nat->Value)->World->Prop} {PS:(Nat->Value)->World->Prop} {e:Nat->Bool} {v:Nat->Value} {j:Nat} {x:Value}
theorem JB.notS (h:JB V D w9 A js X PS e v W) (E:j∈A) (he:e j=false):e js=false:=by
 cases o:e js with
 | false=>rfl
 | true=>have:=(h.d o).1 j E;rw [he] at this;cases this
theorem JB.init (G:za w9 W) (he:∀j,j∈js :: A->e j=false) (I:X e v W):JB V D w9 A js X PS e v W:=by
 refine ⟨fun _=>G,fun _ j E o=>?_,fun _=>I,fun h=>?_,fun j E o=>?_⟩
 ·rw [he j (by simp [E])] at o;cases o
 ·rw [he js (by simp)] at h;cases h
 ·rw [he j (by simp [E])] at o;cases o
theorem JB.step (h:JB V D w9 A js X PS e v W) (Q:j∈A) (he:e j=false) (hV:StV V) (U:j≠js) (M:∀d∈D j,d∈A/\e d=true) (K:za W W') (hx:V j x W') (O:X (AM e j true) (AM v j x) W'):JB V D w9 A js X PS (AM e j true) (AM v j x) W':=by
 have G:=h.notS Q he;have I:AM e j true js=false:=by rw [AX e true (fun e=>U e.symm)];exact G
 refine ⟨fun _=>(h.g G).trans K,fun _ k J E=>?_,fun _=>O,fun h=>(by rw [I] at h;cases h),fun k J E d L=>?_⟩
 ·by_cases o:k=j
  ·subst o;rw [Cg];exact hx
  ·rw [AX v x o];rw [AX e true o] at E;exact hV.ext K (h.gv G k J E)
 ·have h1:d∈A/\e d=true:=by
   by_cases o:k=j
   ·subst o;exact M d L
   ·rw [AX e true o] at E;exact h.c k J E d L
  exact ⟨h1.1,upd_true h1.2⟩
theorem JB.store (h:JB V D w9 A js X PS e v W) (hA:js∉A) (I:∀j∈A,e j=true) (J:PS (AM v js x) W'):JB V D w9 A js X PS (AM e js true) (AM v js x) W':=by
 refine ⟨fun a=>?_,fun a=>?_,fun a=>?_,fun _=>⟨fun k E=>upd_true (I k E),J⟩,fun k E o d G=>by
  rw [AX (j:=js) (k:=k) e true (fun q=>hA (q ▸ E))] at o;obtain ⟨h1,h2⟩:=h.c k E o d G;exact ⟨h1,upd_true h2⟩⟩
 all_goals (rw [Cg] at a;cases a)
end
theorem AO {W:World} {x:Value}:∀b,b≠g->(W.setCell ⟨g,k,none⟩ x).heap[b]?=W.heap[b]?:=fun b o=>Ea W ⟨g,k,none⟩ _ b o
end
section
open Go.RowKit
attribute [local go_sem ↓] Go.wp_at_zero Go.wp_at_succ
def exFree:List Bool:=[true,true,true,true,false,true,true,true,true]
def exM (a b:Int):MZ:=⟨3,3,1,[exFree,exFree],List.replicate 9 false,[([0],[2]),([a],[b])]⟩
theorem Dd:∀(os:List Obj) (w:World),za w (os.foldl World.alloc w)
 | [],w=>za.refl w
 | o :: os,w=>((za.refl w).alloc o).trans (Dd os (w.alloc o))
theorem allocs_at:∀(os:List Obj) (w:World) (i:Nat) (o:Obj),os[i]?=some o->(os.foldl World.alloc w).heap[w.heap.size+i]?=some o
 | o :: os,w,0,o',h=>by
  have:o=o':=by simpa using h
  subst this;exact ((Dd os (w.alloc o)).block _ (by simp)).trans (EE w o)
 | o :: os,w,i+1,o',h=>by
  have:=allocs_at os (w.alloc o) i o' (by simpa using h);rw [show w.heap.size+(i+1)=(w.alloc o).heap.size+i from by simp;omega];exact this
end
end Go.Proofs.YtjomnbdjajjgfaaGreatDoor
