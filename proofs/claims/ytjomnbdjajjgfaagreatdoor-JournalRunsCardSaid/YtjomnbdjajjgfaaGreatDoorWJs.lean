import Derived.Test.YtjomnbdjajjgfaaGreatDoorWJr
set_option linter.unusedVariables false
set_option linter.unusedSimpArgs false
set_option maxRecDepth 100000
set_option maxHeartbeats 16000000
namespace Go.Proofs.YtjomnbdjajjgfaaGreatDoor
variable {a:Act} {er:Int} {x:JS} {ns:List ByteArray} {ch:List Int} {id out s sg:List UInt8} {m:MZ} {B g g4 gs:Nat} {K X ok:Nat->Prop} {r:RS} {b0 b1 b2 b3 v:Value} {W w w' w0 wr:World}
section
open Go.RowKit Go.Shelf
attribute [local go_sem ↓] Go.wp_at_zero Go.wp_at_succ
attribute [local go_sem] Oper.semAt_some
def QOpenG (w:World) (y:JS) (e:Ending) (w':World):Prop:=∃A n c,e=.returned (.tuple #[.agg #[.slice A n c,.int .i64 y.steps,.string ⟨y.sg.toArray⟩,.int .i64 y.fin],.int .i64 0])/\za w w'/\zg w' (fun b=>w.heap.size<=b) (.slice A n c) y.ch
theorem qg_fin {n c:Nat} {A:Option Addr} (G:ze W g4 146 #[b0,b1,b2,b3]) (I:w.heap.size<=g4) (O:za w W) (U:zg W (fun b=>w.heap.size<=b/\b≠g4) (.slice A n c) x.ch)
  (h4:a.tmps[4]?=some (.pointer (some ⟨g4,0,none⟩))) (J:a.tmps[5]?=some (.int .i64 0)) (Q:a.defers=[]):
  bodyPost Tryz.prog Tryz.f87 (QOpenG w x) Exit.ret a ((((W.setCell ⟨g4,0,none⟩ (.slice A n c)).setCell ⟨g4,1,none⟩ (.int .i64 x.steps)).setCell ⟨g4,2,none⟩ (.string ⟨x.sg.toArray⟩)).setCell ⟨g4,3,none⟩ (.int .i64 x.fin)):=by
 have o:=(((G.set (k:=0) (.slice A n c)).set (k:=1) (.int .i64 x.steps)).set (k:=2) (.string ⟨x.sg.toArray⟩)).set (k:=3) (.int .i64 x.fin);have D:za w ((((W.setCell ⟨g4,0,none⟩ (.slice A n c)).setCell ⟨g4,1,none⟩ (.int .i64 x.steps)).setCell ⟨g4,2,none⟩ (.string ⟨x.sg.toArray⟩)).setCell ⟨g4,3,none⟩ (.int .i64 x.fin)):=(((O.setCell (p:=⟨g4,0,none⟩) I _).setCell (p:=⟨g4,1,none⟩) I _).setCell (p:=⟨g4,2,none⟩) I _).setCell (p:=⟨g4,3,none⟩) I _;have M:zu (fun b=>b=g4) W ((((W.setCell ⟨g4,0,none⟩ (.slice A n c)).setCell ⟨g4,1,none⟩ (.int .i64 x.steps)).setCell ⟨g4,2,none⟩ (.string ⟨x.sg.toArray⟩)).setCell ⟨g4,3,none⟩ (.int .i64 x.fin)):=((((zu.refl (fun b=>b=g4) W).set g4 0 _ rfl).set g4 1 _ rfl).set g4 2 _ rfl).set g4 3 _ rfl;have E:=(U.keep (M.same fun b G e=>G.2 e)).weaken (ok':=fun b=>w.heap.size<=b) fun b G=>G.1
 generalize (((W.setCell ⟨g4,0,none⟩ (.slice A n c)).setCell ⟨g4,1,none⟩ (.int .i64 x.steps)).setCell ⟨g4,2,none⟩ (.string ⟨x.sg.toArray⟩)).setCell ⟨g4,3,none⟩ (.int .i64 x.fin)=WZ at o D E⊢;have c0:WZ.cell? ⟨g4,0,none⟩=some (.slice A n c):=o.cell (k:=0) rfl;have c1:WZ.cell? ⟨g4,1,none⟩=some (.int .i64 x.steps):=o.cell (k:=1) rfl;have c2:WZ.cell? ⟨g4,2,none⟩=some (.string ⟨x.sg.toArray⟩):=o.cell (k:=2) rfl;have c3:WZ.cell? ⟨g4,3,none⟩=some (.int .i64 x.fin):=o.cell (k:=3) rfl;have e4:a.tmps.getD 4 undef=.pointer (some ⟨g4,0,none⟩):=by rw [Array.getD_eq_getD_getElem?,h4];rfl
 have e5:a.tmps.getD 5 undef=.int .i64 0:=by rw [Array.getD_eq_getD_getElem?,J];rfl
 exact za5 (v:=.tuple #[.agg #[.slice A n c,.int .i64 x.steps,.string ⟨x.sg.toArray⟩,.int .i64 x.fin],.int .i64 0]) (by simp [results,Tryz.results87,go_sem,h4,J,e4,e5,c0,c1,c2,c3]) Q ⟨_,_,_,rfl,D,E⟩
theorem mOpenG_calls (w:World) (hm:Bx w ok v m ns) (hs:CP m ns) (hl:Lens m) (hc:AV m=0) (a7:s.length<=40000000) (hp:zx (BB (zr m ns)) <+: s):
  Calls Tryz.prog 87 #[v,.string ⟨s.toArray⟩] w (QOpenG w (endJ m s ⟨[],0,(zx (BB (zr m ns))).length,BB (zr m ns)⟩)):=by
 have HM:=zh hm;have HL:=zh hl;have s4:=descB_len hs;obtain ⟨f,u,t,rfl,⟨_,⟨Af,cf,rfl,-,-⟩,-⟩,⟨Au,cu,rfl,-,-⟩,⟨-,_,⟨At,ct,rfl,-,-⟩,-⟩⟩:=hm;obtain ⟨id,hid⟩:∃x,x=BB (zr m ns):=⟨_,rfl⟩;obtain ⟨D,hD⟩:=zaI (zr m ns);rw [<-hid] at hp⊢;have h5:id.length=8:=by rw [hid];exact Aw _
 obtain ⟨hd,j7⟩:∃h,h=zx id:=⟨_,rfl⟩;rw [<-j7] at hp⊢;have l2:Hid (∀W,za w W->Calls Tryz.prog 60 #[.agg #[.int .i64 m.w,.int .i64 m.h,.int .i64 m.l,.slice Af m.free.length cf,.slice Au m.up.length cu,.slice At m.tasks.length ct]] W fun e w'=>e=.returned (.int .i64 0)/\za W w'):=fun W hW=>by have h:=BX W (HM.out.maze.below hW) HL.out;rw [hc] at h;exact h
 have HH:Hid (∀W,za w W->Calls Tryz.prog 77 #[.agg #[.int .i64 m.w,.int .i64 m.h,.int .i64 m.l,.slice Af m.free.length cf,.slice Au m.up.length cu,.slice At m.tasks.length ct]] W fun e w'=>e=.returned (.string ⟨hd.toArray⟩)/\za W w'):=fun W hW=>by rw [j7,hid];exact Ej W (HM.out.below hW) hs
 have l4:Hid (∀W,za w W->Calls Tryz.prog 143 #[.agg #[.int .i64 m.w,.int .i64 m.h,.int .i64 m.l,.slice Af m.free.length cf,.slice Au m.up.length cu,.slice At m.tasks.length ct]] W fun e w'=>e=.returned (.string ⟨D.toArray⟩)/\za W w'):=fun W hW=>by rw [hD];exact mDesc_calls W (HM.out.below hW) hs
 have m0:Hid (∀W,Calls Tryz.prog 68 #[.string ⟨D.toArray⟩] W fun e w'=>e=.returned (.string ⟨id.toArray⟩)/\za W w'):=fun W=>by rw [hid,<-hD];exact mOf_l _ W (by rw [hD];omega)
 have e7:=zh a7;have l5:=zh h5;have n8:=hp.length_le;obtain ⟨rest,e3⟩:=hp;have e1:ByteArray.extract ⟨s.toArray⟩ 0 hd.length=⟨hd.toArray⟩:=by rw [ext_mid s 0 hd.length (by omega),<-e3];simp
 clear hs hl hc hD j7 hid h5 s4 e3 a7
 go_enter Tryz.func87,Tryz.ntmps87
 go_upto_region 1 with fail;have f0:=ze.new w #[.int .i64 m.w,.int .i64 m.h,.int .i64 m.l,.slice Af m.free.length cf,.slice Au m.up.length cu,.slice At m.tasks.length ct] 32 (g:=w.heap.size) rfl;have i7:za w (w.alloc (.cells #[.int .i64 m.w,.int .i64 m.h,.int .i64 m.l,.slice Af m.free.length cf,.slice Au m.up.length cu,.slice At m.tasks.length ct] 32)):=(za.refl w).alloc _;have f9:(w.alloc (.cells #[.int .i64 m.w,.int .i64 m.h,.int .i64 m.l,.slice Af m.free.length cf,.slice Au m.up.length cu,.slice At m.tasks.length ct] 32)).heap.size=w.heap.size+1:=by simp
 generalize w.alloc _=w1 at f0 i7 f9⊢;have M:=ze.new w1 #[.slice none 0 0,.int .i64 0,.string ⟨#[]⟩,.int .i64 0] 146 (g:=w1.heap.size) rfl;have f2:za w1 (w1.alloc (.cells #[.slice none 0 0,.int .i64 0,.string ⟨#[]⟩,.int .i64 0] 146)):=(za.refl w1).alloc _;have k8:(w1.alloc (.cells #[.slice none 0 0,.int .i64 0,.string ⟨#[]⟩,.int .i64 0] 146)).heap.size=w.heap.size+2:=by simp [f9]
 generalize w1.alloc _=w2 at M f2 k8⊢;rw [f9] at M;obtain ⟨gm,j6⟩:∃g,g=w.heap.size:=⟨_,rfl⟩;obtain ⟨g4,j4⟩:∃g,g=w.heap.size+1:=⟨_,rfl⟩;rw [<-j4] at M⊢;rw [<-j6] at f0⊢;have HG:Hid (gm=w.heap.size/\g4=w.heap.size+1/\w2.heap.size=w.heap.size+2):=⟨j6,j4,k8⟩;have l1:=zh (f0.ext f2);have p5:=zh M;have e8:Hid (za w w2):=i7.trans f2;obtain ⟨r0,r1,r2,r3,r4,r5⟩:=zt l1.out;have r0:=za.rule r0;have r1:=za.rule r1;have r2:=za.rule r2;have r3:=za.rule r3;have r4:=za.rule r4;have r5:=za.rule r5;have s8:za w2 w2:=za.refl w2;clear f0 i7 f9 M f2 k8 j6 j4
 go_wp2_with fail
 refine (l2.out _ e8.out).mono ?_;rintro e w3 ⟨rfl,m9⟩;have j9:za w2 w3:=m9;clear m9 l2 s8
 go_wp2_with fail
 refine (HH.out _ (e8.out.trans j9)).mono ?_;rintro e w4 ⟨rfl,n0⟩;have k5:za w2 w4:=j9.trans n0;clear n0 HH j9
 go_wp2_with fail
 refine (l4.out _ (e8.out.trans k5)).mono ?_;rintro e w5 ⟨rfl,n1⟩;have o0:za w2 w5:=k5.trans n1;clear n1 l4 k5
 go_wp2_with fail
 refine (m0.out _).mono ?_;rintro e w6 ⟨rfl,n2⟩;have k6:za w2 w6:=o0.trans n2;clear n2 m0 o0 e1
 go_wp2_with fail
 have Q:JBox (w6.alloc (.cells #[.slice none 0 0,.int .i64 0,.string ⟨id.toArray⟩,.int .i64 hd.length] 146)) w6.heap.size none 0 0 ⟨[],0,hd.length,id⟩:=ze.new w6 #[.slice none 0 0,.int .i64 0,.string ⟨id.toArray⟩,.int .i64 hd.length] 146 rfl;have a6:za w6 (w6.alloc (.cells #[.slice none 0 0,.int .i64 0,.string ⟨id.toArray⟩,.int .i64 hd.length] 146)):=(za.refl w6).alloc _;generalize w6.alloc _=w7 at Q a6⊢;obtain ⟨g8,j5⟩:∃g,g=w6.heap.size:=⟨_,rfl⟩;rw [<-j5] at Q⊢;have e5:Hid (w2.heap.size<=g8):=by (show _<=_);rw [j5];exact k6.size
 have m7:Hid (za w2 w7):=k6.trans a6;have e4:=zh Q;clear Q a6 j5 k6 r0 r1 r2 r3 r4 r5;obtain ⟨Y,hY⟩:=zaI (endJ m s ⟨[],0,hd.length,id⟩);rw [<-hY];have HY:=zh hY.symm;have m1:=zh n8;clear hY n8;go_loopw [6] (fun i wr=>i=.int .i64 0/\∃A n c x,Hid (JBox wr g8 A n c x)/\Hid (endJ m s x=Y)/\Hid (x.fin<=s.length)/\Hid (Cz x.steps)/\Hid (x.sg.length=8)/\Hid (za w2 wr)/\Hid (zg wr (fun b=>w2.heap.size<=b/\b≠g8) (.slice A n c) x.ch)) (fun _ wr=>jSize g8 s.length wr)
 case atStart=>exact ⟨rfl,_,_,_,_,e4,HY,m1,⟨by show (-9223372036854775808:Int)<=0;decide,by show (0:Int)<=_;decide⟩,l5,m7,⟨none,0,rfl,Fy _,rfl,fun h=>absurd h (Nat.lt_irrefl 0)⟩⟩
 clear e4 HY m1 m7 l5
 case round=>
  obtain ⟨rfl,A,n,c,x,HB,HY,HF,HK,r6,HX,q5⟩:=hrel;obtain ⟨wk,rfl⟩:∃wk:World,wk=wr:=⟨_,rfl⟩;obtain ⟨r0,r1,r2,r3,r4,r5⟩:=zt (l1.out.ext HX.out);have r0:=za.rule r0;have r1:=za.rule r1;have r2:=za.rule r2;have r3:=za.rule r3;have r4:=za.rule r4;have r5:=za.rule r5;obtain ⟨j0,j1,j2,j3⟩:=DX HB.out;have j0:=za.rule j0;have j1:=za.rule j1;have j2:=za.rule j2;have j3:=za.rule j3;have hx:za wk wk:=za.refl wk;obtain ⟨T,hT⟩:=zaI (s.drop x.fin);have v7:=HF.out;have s0:T.length<=40000000:=by rw [hT,zaC];have:=e7.out;omega
  have e0:ByteArray.extract ⟨s.toArray⟩ x.fin s.length=⟨T.toArray⟩:=by rw [ext_mid s x.fin s.length (by omega),hT,List.take_of_length_le (by simp)]
  obtain ⟨b,hb⟩:=zaI ((Cd (T,false)).1);have s3:b.length<=40000000:=by have:=(textF_len (T,false)).1;rw [hb];dsimp only at this;omega
  obtain ⟨CH,c7⟩:∃c,c=(AJ (b,false)).1:=⟨_,rfl⟩;obtain ⟨K,hK⟩:∃k,k=Br (AJ (b,false)).2:=⟨_,rfl⟩;have U:rdC s x=CH:=by rw [c7,hb,hT];rfl
  have I:rdK s x=K:=by rw [hK,hb,hT];rfl
  have n5:CH.length<=40000000:=by have:=intsF_cl (b,false);rw [c7];dsimp only at this;omega
  have n6:∀n∈CH,Cz n:=by rw [c7];exact (intsF_lv _).2
  have f7:Cz K.1:=by rw [hK];exact Do _
  obtain ⟨k,hk⟩:=zaI K.1;obtain ⟨bd,i9⟩:∃b,b=K.2.2:=⟨_,rfl⟩;have f7:Cz k:=by rw [hk];exact f7
  have i4:Hid (bd=true\/k<=x.steps->Aj m s x=none):=fun h=>nextJ_n1 (by rw [I,<-hk,<-i9];exact h)
  have b6:Hid (loadE m CH k≠0->Aj m s x=none):=fun h=>nextJ_n2 (by rw [U,I,<-hk];exact h)
  have O:Hid (¬ Ay x.sg CH k <+: s.drop x.fin->Aj m s x=none):=fun h=>nextJ_n3 (by rw [U,I,<-hk];exact h)
  have V:Hid (Ay x.sg CH k <+: s.drop x.fin->x.steps<k->loadE m CH k=0->Aj m s x=some ⟨CH,k,x.fin+(Ay x.sg CH k).length,zY x.sg CH k⟩):=fun h h1 h2=>by
   have:=nextJ_y (m:=m) (s:=s) (x:=x) e7.out (by rw [U,I,<-hk];exact h) (by rw [I,<-hk];exact h1) (by rw [U,I,<-hk];exact h2);rw [U,I,<-hk] at this;exact this
  have n4:(Ay x.sg CH k).length<=1000000000:=by
   have h1:=rd_body (s:=s) (x:=x) e7.out;rw [U,I,<-hk] at h1;have h2:=Bv (s:=BP CH k) (by omega);have h3:=Bv (s:=zY x.sg CH k) (by rw [By];omega);rw [By] at h3;unfold Ay;rw [FG];omega
  have m5:=zh n4;have p7:=zh n6;have l8:=zh f7;have t7:=zh U;have t9:=zh I;have l3:=zh n5;have t8:=zh hT;have l9:=zh (mNew_calls T wk);have m6:Hid (∀W,Cg W wk.heap.size T (T,false)->Calls Tryz.prog 157 #[.pointer (some ⟨wk.heap.size,0,none⟩)] W fun e w'=>e=.returned (.string ⟨b.toArray⟩)/\zu (·=wk.heap.size) W w'):=fun W h=>(mRText_calls W h (by omega)).mono fun e w' q=>⟨by rw [hb];exact q.1,q.2.1⟩
  have l7:Hid (∀W g,Cg W g b (b,false)->Calls Tryz.prog 158 #[.pointer (some ⟨g,0,none⟩)] W fun e w'=>∃v,e=.returned v/\zu (·=g) W w'/\Cg w' g b (AJ (b,false)).2/\zQ w' W.heap.size v CH):=fun W g h=>by rw [c7];exact mRInts_calls W h (by omega) (by dsimp only;omega)
  have l6:Hid (∀W g,Cg W g b (AJ (b,false)).2->Calls Tryz.prog 159 #[.pointer (some ⟨g,0,none⟩)] W fun e w'=>e=.returned (.int .i64 k)/\zu (·=g) W w'/\Cg w' g b K.2):=fun W g h=>by rw [hk,hK];exact mRInt_calls W h (by omega)
  have p6:Hid (∀W g,Cg W g b K.2->Calls Tryz.prog 160 #[.pointer (some ⟨g,0,none⟩)] W fun e w'=>e=.returned (.bool bd)/\W=w'):=fun W g h=>by rw [i9];exact mBad_calls W h
  clear hT s0 hb s3 c7 hK U I n5 n6 f7 hk i9 n4
  go_wp2_with fail
  refine l9.out.mono ?_;rintro e w8 ⟨rfl,a6,n9⟩;have o1:za wk w8:=a6;have m2:=zh n9;clear a6 n9 l9 hx e0
  go_wp2_with fail
  refine (m6.out _ m2.out).mono ?_;rintro e w9 ⟨rfl,f1⟩;have k7:za wk w9:=ext_chg o1 f1 (Fy _);clear f1 m2 m6 o1
  go_wp2_with fail
  refine (mNew_calls b w9).mono ?_;rintro e w10 ⟨rfl,g9,d9⟩;have h9:za wk w10:=k7.trans g9;have b8:=zh d9;have HR:Hid (wk.heap.size<=w9.heap.size):=k7.size;have i2:Hid (w9.heap.size<w10.heap.size):=by obtain ⟨cs,hb⟩:=d9.blk;exact zd hb
  generalize w9.heap.size=gr at b8 HR i2⊢;clear g9 d9 k7
  go_wp2_with fail
  refine (l7.out _ _ b8.out).mono ?_;rintro e w11 ⟨v,rfl,g7,h7,d8⟩;have i0:za wk w11:=ext_chg h9 g7 HR.out;have g5:=zh h7;obtain ⟨Av,cv,rfl,-⟩:=Bl d8;have b7:Hid (zg w11 (fun b=>w10.heap.size<=b) (.slice Av CH.length cv) CH):=AS.of_own d8;clear g7 h7 d8 b8 l7 h9;obtain ⟨nv,j8⟩:∃n,n=CH.length:=⟨_,rfl⟩;rw [<-j8] at b7⊢;have v5:=zh j8;clear j8
  go_wp2_with fail
  refine (l6.out _ _ g5.out).mono ?_;rintro e w12 ⟨rfl,c6,h8⟩;have a2:za wk w12:=ext_chg i0 c6 HR.out;have g6:=zh h8;have b4:Hid (∀W,za w12 W->zg W (fun b=>w10.heap.size<=b) (.slice Av nv cv) CH):=fun W hW=>(b7.out.keep (c6.same fun b hb e=>by have:=i2.out;omega)).below hW
  clear c6 h8 g5 l6 i0 b7
  go_wp2_with fail
  refine (p6.out _ _ g6.out).mono ?_;rintro e w13 ⟨rfl,rfl⟩;have a3:za wk w12:=a2;have g0:Hid (wk.heap.size<=w10.heap.size):=by have h1:=HR.out;have h2:=i2.out;(show _<=_);omega
  have p9:Hid (w2.heap.size<=wk.heap.size/\g4<w2.heap.size):=⟨HX.out.size,by have:=HG.out;omega⟩;have b5:Hid (∀W,za wk W->zg W (fun b=>w.heap.size<=b/\b≠g4) (.slice A n c) x.ch):=fun W hW=>(q5.out.below hW).weaken fun b hb=>by have:=HG.out;omega
  have g3:Hid (g8<wk.heap.size):=zd (show ze wk g8 _ _ from HB.out);have t2:=zh a2;have b9:Hid (za w2 w12):=HX.out.trans a2;have M:=p5.out.ext b9.out;have f4:∀j,w12.frozen? ⟨g4,j,none⟩=false:=fun j=>M.frozen j
  have G:=zh (M);clear g6 a2 M;obtain ⟨z0,z1,z2,z3⟩:w12.cell? ⟨g4,0,none⟩=some (.slice none 0 0)/\w12.cell? ⟨g4,1,none⟩=some (.int .i64 0)/\w12.cell? ⟨g4,2,none⟩=some (.string ⟨#[]⟩)/\w12.cell? ⟨g4,3,none⟩=some (.int .i64 0):=⟨G.out.cell (k:=0) rfl,G.out.cell (k:=1) rfl,G.out.cell (k:=2) rfl,G.out.cell (k:=3) rfl⟩;have a9:Hid (w.heap.size<=g4):=by have:=HG.out;(show _<=_);omega
  have e9:Hid (za w w12):=e8.out.trans b9.out;by_cases J:bd=true\/k<=x.steps
  ·have a0:x=Y:=by rw [<-HY.out,DN (i4.out J)]
   subst a0;clear HY i4 b6 O V
   cases bd with
   | true=>
    clear J
    go_wp2_with fail
    exact qg_fin G.out a9.out e9.out (b5.out _ a3) rfl rfl rfl
   | false=>
    have n7:k<=x.steps:=by simpa using J
    clear J
    go_wp2_with fail
    exact qg_fin G.out a9.out e9.out (b5.out _ a3) rfl rfl rfl
  ·obtain ⟨s2,n7⟩:bd=false/\¬ k<=x.steps:=by simpa using J
   subst s2;have q6:Hid (x.steps<k):=by (show _<_);omega
   clear J i4 z0 z1 z2 z3 f4;obtain ⟨RB,f3⟩:∃r,r=Ay x.sg CH k:=⟨_,rfl⟩;obtain ⟨SB',f5⟩:∃r,r=zY x.sg CH k:=⟨_,rfl⟩;have m4:Hid (∀W,za w12 W->Calls Tryz.prog 138 #[.string ⟨x.sg.toArray⟩,.slice Av nv cv,.int .i64 k] W fun e w'=>e=.returned (.tuple #[.string ⟨RB.toArray⟩,.string ⟨SB'.toArray⟩])/\za W w'):=fun W hW=>by rw [f3,f5];exact mRecord_calls W (b4.out W hW) p7.out l8.out l3.out (by have:=r6.out;omega)
   rw [<-f3] at m5 O V;rw [<-f5] at V;have q9:=zh f5;have q8:Hid (2<=RB.length):=by rw [f3];exact recB_two _ _ _
   clear f3 f5
   go_wp2_with fail
   have hx:za w12 w12:=za.refl w12;refine (m4.out _ hx).mono ?_;rintro e w13 ⟨rfl,c8⟩;have i1:za wk w13:=a3.trans c8;have c0:=zh c8;clear c8 hx m4 a3
   have i3:Hid (Calls Tryz.prog 137 #[.agg #[.int .i64 m.w,.int .i64 m.h,.int .i64 m.l,.slice Af m.free.length cf,.slice Au m.up.length cu,.slice At m.tasks.length ct],.slice Av nv cv,.int .i64 k] w13 fun e w'=>∃v,e=.returned (.tuple #[v,.int .i64 (loadE m CH k)])/\za w13 w'):=
    (Fi k w13 (HM.out.maze.below (e9.out.trans c0.out)) HL.out (b4.out _ c0.out) (by have:=l3.out;omega)).mono fun e w' q=>by obtain ⟨v,h1,h2,-⟩:=q;exact ⟨v,h1,h2⟩
   obtain ⟨E,n3⟩:=zaI (loadE m CH k);rw [<-n3] at i3 b6 V;clear n3
   go_wp2_with fail
   refine i3.out.mono ?_;rintro e w14 ⟨vr,rfl,c9⟩;have a4:za wk w14:=i1.trans c9;have a1:Hid (za w12 w14):=c0.out.trans c9;have o:=zh (G.out.ext a1.out);have i5:=zh (e9.out.trans a1.out);have r7:=zh (b9.out.trans a1.out);clear c9 i1 i3;by_cases i6:E=0
   ·subst i6;obtain ⟨q,hq⟩:=zaI (x.fin+RB.length);have e6:Hid (RB <+: s.drop x.fin->Aj m s x=some ⟨CH,k,q,SB'⟩):=fun h=>by rw [hq];exact V.out h q6.out rfl
    have s7:=m5.out;have a7:=e7.out;have d6:=HF.out;have hw:IntKind.i64.wrap ((x.fin:Int)+(RB.length:Int))=(q:Int):=by rw [zag];omega
    clear b6 V n7 s7;by_cases v9:s.length<q
    ·have t6:(s.length:Int)<(q:Int):=by omega
     have a0:x=Y:=by rw [<-HY.out,DN (O.out fun hp=>by have:=hp.length_le;rw [zaC] at this;omega)]
     subst a0;clear HY O e6;have f4:∀j,w14.frozen? ⟨g4,j,none⟩=false:=fun j=>o.out.frozen j
     obtain ⟨z0,z1,z2,z3⟩:w14.cell? ⟨g4,0,none⟩=some (.slice none 0 0)/\w14.cell? ⟨g4,1,none⟩=some (.int .i64 0)/\w14.cell? ⟨g4,2,none⟩=some (.string ⟨#[]⟩)/\w14.cell? ⟨g4,3,none⟩=some (.int .i64 0):=⟨o.out.cell (k:=0) rfl,o.out.cell (k:=1) rfl,o.out.cell (k:=2) rfl,o.out.cell (k:=3) rfl⟩;clear hq a7 d6
     go_wp2_with fail
     exact qg_fin o.out a9.out i5.out (b5.out _ a4) rfl rfl rfl
    ·have s5:x.fin<=q:=by omega
     have s6:q<=s.length:=by omega
     have v8:¬ (s.length:Int)<(q:Int):=by omega
     obtain ⟨C,hC⟩:=zaI ((s.drop x.fin).take RB.length);have e2:ByteArray.extract ⟨s.toArray⟩ x.fin q=⟨C.toArray⟩:=by rw [ext_mid s x.fin q s5,hC,hq,show x.fin+RB.length - x.fin=RB.length by omega]
     by_cases a5:C=RB
     ·have h6:RB <+: s.drop x.fin:=by rw [<-a5,hC];exact List.take_prefix _ _
      have q7:=zh (e6.out h6);have g1:(C==RB)=true:=by rw [a5];exact beq_self_eq_true _
      have Q:=HB.out.ext a4;have f8:∀j,w14.frozen? ⟨g8,j,none⟩=false:=fun j=>Q.frozen j
      have e4:Hid (JBox w14 g8 A n c x):=Q;have HQ:=zh hq;have m3:=zh s6;clear hC a5 h6 hq a7 d6 O e6 Q
      go_wp2_with fail
      have hJ:JBox ((((w14.setCell ⟨g8,0,none⟩ (.slice Av nv cv)).setCell ⟨g8,1,none⟩ (.int .i64 k)).setCell ⟨g8,2,none⟩ (.string ⟨SB'.toArray⟩)).setCell ⟨g8,3,none⟩ (.int .i64 q)) g8 Av nv cv ⟨CH,k,q,SB'⟩:=
       ((((show ze w14 g8 _ _ from e4.out).set (k:=0) (.slice Av nv cv)).set (k:=1) (.int .i64 k)).set (k:=2) (.string ⟨SB'.toArray⟩)).set (k:=3) (.int .i64 q)
      have r9:za w2 ((((w14.setCell ⟨g8,0,none⟩ (.slice Av nv cv)).setCell ⟨g8,1,none⟩ (.int .i64 k)).setCell ⟨g8,2,none⟩ (.string ⟨SB'.toArray⟩)).setCell ⟨g8,3,none⟩ (.int .i64 q)):=
       (((r7.out.setCell (p:=⟨g8,0,none⟩) e5.out _).setCell (p:=⟨g8,1,none⟩) e5.out _).setCell (p:=⟨g8,2,none⟩) e5.out _).setCell (p:=⟨g8,3,none⟩) e5.out _
      refine ⟨⟨rfl,Av,nv,cv,⟨CH,k,q,SB'⟩,hJ,(endJ_some q7.out).symm.trans HY.out,m3.out,l8.out,by (show SB'.length=8);rw [q9.out];rfl,r9,?_⟩,?_⟩
      ·have f1:zu (fun b=>b=g8) w14 ((((w14.setCell ⟨g8,0,none⟩ (.slice Av nv cv)).setCell ⟨g8,1,none⟩ (.int .i64 k)).setCell ⟨g8,2,none⟩ (.string ⟨SB'.toArray⟩)).setCell ⟨g8,3,none⟩ (.int .i64 q)):=((((zu.refl (fun b=>b=g8) w14).set g8 0 _ rfl).set g8 1 _ rfl).set g8 2 _ rfl).set g8 3 _ rfl;exact ((b4.out _ a1.out).keep (f1.same fun b hb e=>by have h1:=g0.out;have h2:=g3.out;omega)).weaken fun b hb=>by have h1:=g0.out;have h2:=g3.out;have h3:=p9.out;omega
      rw [jSize_of hJ,jSize_of HB.out];have h1:=HQ.out;have h2:=m3.out;have h3:=q8.out
      (show s.length - q<s.length - x.fin)
      omega
     ·have g1:(C==RB)=false:=by rw [FM];exact a5
      have a0:x=Y:=by rw [<-HY.out,DN (O.out fun hp=>a5 (by obtain ⟨t,ht⟩:=hp;rw [hC,<-ht];simp))]
      subst a0;clear HY O e6;have f4:∀j,w14.frozen? ⟨g4,j,none⟩=false:=fun j=>o.out.frozen j
      obtain ⟨z0,z1,z2,z3⟩:w14.cell? ⟨g4,0,none⟩=some (.slice none 0 0)/\w14.cell? ⟨g4,1,none⟩=some (.int .i64 0)/\w14.cell? ⟨g4,2,none⟩=some (.string ⟨#[]⟩)/\w14.cell? ⟨g4,3,none⟩=some (.int .i64 0):=⟨o.out.cell (k:=0) rfl,o.out.cell (k:=1) rfl,o.out.cell (k:=2) rfl,o.out.cell (k:=3) rfl⟩;clear hq hC a5 a7 d6
      go_wp2_with fail
      exact qg_fin o.out a9.out i5.out (b5.out _ a4) rfl rfl rfl
   ·have a0:x=Y:=by rw [<-HY.out,DN (b6.out i6)]
    subst a0;clear HY b6 O V;have g1:(E==0)=false:=by rw [FM];exact i6
    have g2:(E != 0)=true:=by rw [bne,g1];rfl
    have f4:∀j,w14.frozen? ⟨g4,j,none⟩=false:=fun j=>o.out.frozen j
    obtain ⟨z0,z1,z2,z3⟩:w14.cell? ⟨g4,0,none⟩=some (.slice none 0 0)/\w14.cell? ⟨g4,1,none⟩=some (.int .i64 0)/\w14.cell? ⟨g4,2,none⟩=some (.string ⟨#[]⟩)/\w14.cell? ⟨g4,3,none⟩=some (.int .i64 0):=⟨o.out.cell (k:=0) rfl,o.out.cell (k:=1) rfl,o.out.cell (k:=2) rfl,o.out.cell (k:=3) rfl⟩
    go_wp2_with fail
    exact qg_fin o.out a9.out i5.out (b5.out _ a4) rfl rfl rfl
theorem qg_finE (J:ze W g4 146 #[b0,b1,b2,b3]) (E:w.heap.size<=g4) (I:za w W)
  (h4:a.tmps[4]?=some (.pointer (some ⟨g4,0,none⟩))) (G:a.tmps[5]?=some (.int .i64 er)) (M:a.defers=[]):
  bodyPost Tryz.prog Tryz.f87 (fun e w'=>e=.returned (.tuple #[.agg #[.slice none 0 0,.int .i64 0,.string ⟨#[]⟩,.int .i64 0],.int .i64 er])/\za w w') Exit.ret a ((((W.setCell ⟨g4,0,none⟩ (.slice none 0 0)).setCell ⟨g4,1,none⟩ (.int .i64 0)).setCell ⟨g4,2,none⟩ (.string ⟨#[]⟩)).setCell ⟨g4,3,none⟩ (.int .i64 0)):=by
 have o:=(((J.set (k:=0) (.slice none 0 0)).set (k:=1) (.int .i64 0)).set (k:=2) (.string ⟨#[]⟩)).set (k:=3) (.int .i64 0);have D:za w ((((W.setCell ⟨g4,0,none⟩ (.slice none 0 0)).setCell ⟨g4,1,none⟩ (.int .i64 0)).setCell ⟨g4,2,none⟩ (.string ⟨#[]⟩)).setCell ⟨g4,3,none⟩ (.int .i64 0)):=(((I.setCell (p:=⟨g4,0,none⟩) E _).setCell (p:=⟨g4,1,none⟩) E _).setCell (p:=⟨g4,2,none⟩) E _).setCell (p:=⟨g4,3,none⟩) E _;generalize (((W.setCell ⟨g4,0,none⟩ (.slice none 0 0)).setCell ⟨g4,1,none⟩ (.int .i64 0)).setCell ⟨g4,2,none⟩ (.string ⟨#[]⟩)).setCell ⟨g4,3,none⟩ (.int .i64 0)=WZ at o D⊢;have c0:WZ.cell? ⟨g4,0,none⟩=some (.slice none 0 0):=o.cell (k:=0) rfl;have c1:WZ.cell? ⟨g4,1,none⟩=some (.int .i64 0):=o.cell (k:=1) rfl;have c2:WZ.cell? ⟨g4,2,none⟩=some (.string ⟨#[]⟩):=o.cell (k:=2) rfl;have c3:WZ.cell? ⟨g4,3,none⟩=some (.int .i64 0):=o.cell (k:=3) rfl;have e4:a.tmps.getD 4 undef=.pointer (some ⟨g4,0,none⟩):=by rw [Array.getD_eq_getD_getElem?,h4];rfl
 have e5:a.tmps.getD 5 undef=.int .i64 er:=by rw [Array.getD_eq_getD_getElem?,G];rfl
 exact za5 (v:=.tuple #[.agg #[.slice none 0 0,.int .i64 0,.string ⟨#[]⟩,.int .i64 0],.int .i64 er]) (by simp [results,Tryz.results87,go_sem,h4,G,e4,e5,c0,c1,c2,c3]) M ⟨rfl,D⟩
theorem Fb (w:World) (h:JP w ok v m ns) (d8:s.length<=40000000) (hp:AV m=0->¬ zx (BB (zr m ns)) <+: s):
  Calls Tryz.prog 87 #[v,.string ⟨s.toArray⟩] w fun e w'=>e=.returned (.tuple #[.agg #[.slice none 0 0,.int .i64 0,.string ⟨#[]⟩,.int .i64 0],.int .i64 (if AV m=0 then 4 else AV m)])/\za w w':=by
 have HJ:=zh h;obtain ⟨f,u,t,rfl,⟨_,⟨Af,cf,rfl,-,-⟩,-⟩,⟨Au,cu,rfl,-,-⟩,⟨-,_,⟨At,ct,rfl,-,-⟩,-⟩⟩:=_root_.id h.hm;obtain ⟨id,hid⟩:∃x,x=BB (zr m ns):=⟨_,rfl⟩;obtain ⟨D,hD⟩:=zaI (zr m ns);rw [<-hid] at hp;obtain ⟨G,Q⟩:∃h,h=zx id:=⟨_,rfl⟩;rw [<-Q] at hp
 have c7:G.length<=1000000:=by
  have h1:=Bv (s:=BJ) (by decide);have h2:=Bv (s:=id) (by rw [hid,Aw];omega);have h3:BJ.length=5:=rfl;rw [Q];unfold zx;rw [FG];have h4:id.length=8:=by rw [hid];exact Aw _
  omega
 obtain ⟨ck,M⟩:∃c,c=AV m:=⟨_,rfl⟩;have a6:Hid (∀W,za w W->Calls Tryz.prog 60 #[.agg #[.int .i64 m.w,.int .i64 m.h,.int .i64 m.l,.slice Af m.free.length cf,.slice Au m.up.length cu,.slice At m.tasks.length ct]] W fun e w'=>e=.returned (.int .i64 ck)/\za W w'):=fun W hW=>by rw [M];exact BX W (HJ.out.hm.maze.below hW) HJ.out.hl
 rw [<-M] at hp⊢;obtain ⟨er,O⟩:=zaI (if ck=0 then 4 else ck)
 rw [<-O]
 go_enter Tryz.func87,Tryz.ntmps87
 go_upto_region 1 with fail;have a0:=ze.new w #[.int .i64 m.w,.int .i64 m.h,.int .i64 m.l,.slice Af m.free.length cf,.slice Au m.up.length cu,.slice At m.tasks.length ct] 32 (g:=w.heap.size) rfl;have a2:za w (w.alloc (.cells #[.int .i64 m.w,.int .i64 m.h,.int .i64 m.l,.slice Af m.free.length cf,.slice Au m.up.length cu,.slice At m.tasks.length ct] 32)):=(za.refl w).alloc _;have a4:(w.alloc (.cells #[.int .i64 m.w,.int .i64 m.h,.int .i64 m.l,.slice Af m.free.length cf,.slice Au m.up.length cu,.slice At m.tasks.length ct] 32)).heap.size=w.heap.size+1:=by simp
 generalize w.alloc _=w1 at a0 a2 a4⊢;have I:=ze.new w1 #[.slice none 0 0,.int .i64 0,.string ⟨#[]⟩,.int .i64 0] 146 (g:=w1.heap.size) rfl;have a1:za w1 (w1.alloc (.cells #[.slice none 0 0,.int .i64 0,.string ⟨#[]⟩,.int .i64 0] 146)):=(za.refl w1).alloc _;generalize w1.alloc _=w2 at I a1⊢;rw [a4] at I;obtain ⟨gm,b4⟩:∃g,g=w.heap.size:=⟨_,rfl⟩;obtain ⟨g4,a9⟩:∃g,g=w.heap.size+1:=⟨_,rfl⟩;rw [<-a9] at I⊢;rw [<-b4] at a0⊢;have HG:Hid (w.heap.size<=g4):=by (show _<=_);omega
 have a5:=zh I;have U:Hid (za w w2):=a2.trans a1;obtain ⟨r0,r1,r2,r3,r4,r5⟩:=zt (a0.ext a1);have r0:=za.rule r0;have r1:=za.rule r1;have r2:=za.rule r2;have r3:=za.rule r3;have r4:=za.rule r4;have r5:=za.rule r5;have c9:za w2 w2:=za.refl w2;clear a0 a2 a4 I a1 b4 a9
 go_wp2_with fail
 refine (a6.out _ U.out).mono ?_;rintro e w3 ⟨rfl,a7⟩;have E:za w2 w3:=a7;clear a7 a6 c9;by_cases hc:ck=0
 rotate_left
 ·obtain rfl:er=ck:=by rw [O,if_neg hc]
  have d7:(er != 0)=true:=by simp [hc]
  have o:=zh (a5.out.ext E);have z0:=o.out.cell (k:=0) rfl;have z1:=o.out.cell (k:=1) rfl;have z2:=o.out.cell (k:=2) rfl;have z3:=o.out.cell (k:=3) rfl;have fz:∀j,w3.frozen? ⟨g4,j,none⟩=false:=fun j=>o.out.frozen j
  have V:Hid (za w w3):=U.out.trans E;clear E hc hp h M Q hid hD c7 O
  go_wp2_with fail
  exact qg_finE o.out HG.out V.out rfl rfl rfl
 ·subst hc;obtain rfl:er=4:=by rw [O,if_pos rfl]
  clear O
  have J:s.length<G.length\/(s.take G.length==G)=false:=by
   rcases zah s.length G.length with h | h
   ·exact .inl h
   ·right
    rw [FM];intro e;exact hp rfl (by rw [<-e];exact List.take_prefix _ _)
  have b7:=zh J;have c0:Hid (CP m ns):=h.hs M.symm;have HH:Hid (∀W,za w W->Calls Tryz.prog 77 #[.agg #[.int .i64 m.w,.int .i64 m.h,.int .i64 m.l,.slice Af m.free.length cf,.slice Au m.up.length cu,.slice At m.tasks.length ct]] W fun e w'=>e=.returned (.string ⟨G.toArray⟩)/\za W w'):=fun W hW=>by rw [Q,hid];exact Ej W (HJ.out.hm.below hW) c0.out
  clear h M Q hid hD hp J
  go_wp2_with fail
  refine (HH.out _ (U.out.trans E)).mono ?_;rintro e w4 ⟨rfl,a8⟩;have a3:za w2 w4:=E.trans a8;have o:=zh (a5.out.ext a3);have z0:=o.out.cell (k:=0) rfl;have z1:=o.out.cell (k:=1) rfl;have z2:=o.out.cell (k:=2) rfl;have z3:=o.out.cell (k:=3) rfl;have fz:∀j,w4.frozen? ⟨g4,j,none⟩=false:=fun j=>o.out.frozen j
  have V:Hid (za w w4):=U.out.trans a3;clear a8 HH E a3;by_cases b5:s.length<G.length
  ·have c8:(s.length:Int)<(G.length:Int):=by omega
   go_wp2_with fail
   exact qg_finE o.out HG.out V.out rfl rfl rfl
  ·have c8:¬ (s.length:Int)<(G.length:Int):=by omega
   obtain ⟨C,hC⟩:=zaI (s.take G.length);have e1:ByteArray.extract ⟨s.toArray⟩ 0 G.length=⟨C.toArray⟩:=by rw [Cl,hC]
   have g1:(C==G)=false:=by
    rcases b7.out with h | h
    ·exact absurd h b5
    ·rw [hC];exact h
   clear hC
   go_wp2_with fail
   exact qg_finE o.out HG.out V.out rfl rfl rfl
def QOpX (w:World) (p:JS×Int) (e:Ending) (w':World):Prop:=∃A n c,e=.returned (.tuple #[.agg #[.slice A n c,.int .i64 p.1.steps,.string ⟨p.1.sg.toArray⟩,.int .i64 p.1.fin],.int .i64 p.2])/\za w w'/\zg w' (fun b=>w.heap.size<=b) (.slice A n c) p.1.ch
theorem EE (w:World) (h:JP w ok v m ns) (D:s.length<=40000000):
  Calls Tryz.prog 87 #[v,.string ⟨s.toArray⟩] w (QOpX w (opT m (BB (zr m ns)) s)):=by
 by_cases o:AV m=0
 ·by_cases hp:zx (BB (zr m ns)) <+: s
  ·refine (mOpenG_calls w h.hm (h.hs o) h.hl o D hp).mono ?_;rintro e w' ⟨A,n,c,rfl,E,hI⟩
   have e1:opT m (BB (zr m ns)) s=(endJ m s ⟨[],0,(zx (BB (zr m ns))).length,BB (zr m ns)⟩,0):=by
    unfold opT Aa;rw [if_pos o,if_pos hp]
   rw [e1];exact ⟨A,n,c,rfl,E,hI⟩
  ·refine (Fb w h D fun _=>hp).mono ?_;rintro e w' ⟨rfl,E⟩
   have e1:opT m (BB (zr m ns)) s=(⟨[],0,0,[]⟩,4):=by
    unfold opT Aa;rw [if_pos o,if_neg hp]
   rw [e1,if_pos o];exact ⟨none,0,0,rfl,E,zg.nil _ _⟩
 ·refine (Fb w h D fun h=>absurd h o).mono ?_;rintro e w' ⟨rfl,E⟩
  have e1:opT m (BB (zr m ns)) s=(⟨[],0,0,[]⟩,AV m):=by
   unfold opT;rw [if_neg o]
  rw [e1,if_neg o];exact ⟨none,0,0,rfl,E,zg.nil _ _⟩
theorem mReadT_calls (w:World) (h:JP w ok v m ns) (M:s.length<=40000000):
  Calls Tryz.prog 34 #[v,.string ⟨s.toArray⟩] w (RdX w (opT m (BB (zr m ns)) s)):=by
 obtain ⟨f,u,t,rfl,⟨_,⟨Af,cf,rfl,-,-⟩,-⟩,⟨Au,cu,rfl,-,-⟩,⟨-,_,⟨At,ct,rfl,-,-⟩,-⟩⟩:=_root_.id h.hm;obtain ⟨⟨x,er⟩,hp⟩:∃p,p=opT m (BB (zr m ns)) s:=⟨_,rfl⟩;have HO:Hid (∀W,za w W->Calls Tryz.prog 87 #[.agg #[.int .i64 m.w,.int .i64 m.h,.int .i64 m.l,.slice Af m.free.length cf,.slice Au m.up.length cu,.slice At m.tasks.length ct],.string ⟨s.toArray⟩] W (QOpX W (x,er))):=fun W O=>by rw [hp];exact EE W (h.below O) M
 rw [<-hp];clear h M hp
 go_enter Tryz.func34,Tryz.ntmps34
 go_upto_region 1 with fail;obtain ⟨D,r0,r1,r2,r3,r4,r5⟩:=CO w m Af cf Au cu At ct;simp only [Fr] at D r0 r1 r2 r3 r4 r5;generalize w.alloc _=w2 at D r0 r1 r2 r3 r4 r5⊢;have E:=zh D;have a3:za w2 w2:=za.refl w2;clear D
 go_wp2_with fail
 refine (HO.out _ E.out).mono ?_;rintro e w3 ⟨Ac,nc,cc,rfl,I,J⟩;have U:=zh J;have V:Hid (za w w3):=E.out.trans I;clear I J;go_upto_region 2 with fail;have hB:=ze.new w3 #[.slice Ac nc cc,.int .i64 x.steps,.string ⟨x.sg.toArray⟩,.int .i64 x.fin] 146 (g:=w3.heap.size) rfl;have G:za w3 (w3.alloc (.cells #[.slice Ac nc cc,.int .i64 x.steps,.string ⟨x.sg.toArray⟩,.int .i64 x.fin] 146)):=(za.refl w3).alloc _;generalize w3.alloc _=w4 at hB G⊢;obtain ⟨k0,k1,k2,k3⟩:=DX (x:=x) hB;have k0:=za.rule k0;have k1:=za.rule k1;have k3:=za.rule k3;have Q:=zh G;have hx:za w4 w4:=za.refl w4;clear hB G k2 r0 r1 r2 r3 r4 r5 a3;refine Cj fun Q' o a2=>?_;refine zB (S:=(fun W=>za w4 W)) zG (hx.drew) fun zH=>?_;generalize w4.drew=wd at zH⊢;refine AQ 0 o zH ?_;simp only [zc,Fv];refine AQ 1 o zH ?_;simp only [zc,Fv];refine AQ 2 o zH ?_;simp only [zc,Fv];refine AQ 3 o zH ?_;simp only [zc,Fv];refine AQ 4 o zH ?_;simp only [zc,Fv];refine AQ 5 o zH ?_;simp only [zc,Fv];refine AQ 6 o zH ?_;simp only [zc,Fv];refine AQ 7 o zH ?_;simp only [zc,Fv];refine AQ 8 o zH ?_;simp only [zc,Fv];refine AQ 9 o zH ?_;simp only [zc,Fv];refine rlZ 10 fun K hK=>?_;go_simp;have a0:Hid (za w4 _):=zH;go_simp;refine hK.out _ _ ?_;clear hK K;refine zP (by kernel_rfl) ?_ _;subst a2;clear hx k0 k1 k3;go_wp2;have O:=Q.out.trans a0.out;refine za5 (by simp [results,Tryz.results34,go_sem]) rfl ⟨_,rfl,V.out.trans O,(U.out.below O).weaken fun b hb=>FA E.out.size hb⟩
theorem Ei (w:World) (h:JP w ok v m ns):
  Calls Tryz.prog 29 #[v] w fun e w'=>e=.returned (.tuple #[.string ⟨(if AV m=0 then zx (BB (zr m ns)) else []).toArray⟩,.int .i64 (AV m)])/\za w w':=by
 have U:=zh h;obtain ⟨f,u,t,rfl,⟨_,⟨Af,cf,rfl,-,-⟩,-⟩,⟨Au,cu,rfl,-,-⟩,⟨-,_,⟨At,ct,rfl,-,-⟩,-⟩⟩:=_root_.id h.hm;obtain ⟨ck,o⟩:∃c,c=AV m:=⟨_,rfl⟩;have I:Hid (∀W,za w W->Calls Tryz.prog 60 #[.agg #[.int .i64 m.w,.int .i64 m.h,.int .i64 m.l,.slice Af m.free.length cf,.slice Au m.up.length cu,.slice At m.tasks.length ct]] W fun e w'=>e=.returned (.int .i64 ck)/\za W w'):=fun W hW=>by rw [o];exact BX W (U.out.hm.maze.below hW) U.out.hl
 rw [<-o];obtain ⟨T,O⟩:=zaI (if ck=0 then zx (BB (zr m ns)) else [])
 rw [<-O]
 go_enter Tryz.func29,Tryz.ntmps29
 go_upto_region 1 with fail;obtain ⟨G,r0,r1,r2,r3,r4,r5⟩:=CO w m Af cf Au cu At ct;simp only [Fr] at G r0 r1 r2 r3 r4 r5;generalize w.alloc _=w2 at G r0 r1 r2 r3 r4 r5⊢;have E:=zh G;have a2:za w2 w2:=za.refl w2;clear G
 go_wp2_with fail
 refine (I.out _ E.out).mono ?_;rintro e w3 ⟨rfl,J⟩;have D:za w2 w3:=J;clear J I a2;by_cases Q:ck=0
 ·subst Q;obtain rfl:T=zx (BB (zr m ns)):=by rw [O,if_pos rfl]
  have V:Hid (CP m ns):=h.hs o.symm;clear h o O
  go_wp2_with fail
  refine (Ej w3 (U.out.hm.below (E.out.trans D)) V.out).mono ?_;rintro e w4 ⟨rfl,M⟩;have a1:Hid (za w w4):=(E.out.trans D).trans M;clear M D
  go_wp2_with fail
  go_ret2
  exact ⟨rfl,a1.out⟩
 ·obtain rfl:T=[]:=by rw [O,if_neg Q]
  have a3:(ck != 0)=true:=by simp [Q]
  have a0:Hid (za w w3):=E.out.trans D;clear h o Q D O
  go_wp2_with fail
  go_ret2
  exact ⟨rfl,a0.out⟩
theorem endJ_b (o:JSb s x) (D:loadE m x.ch x.steps=0):JSb s (endJ m s x)/\loadE m (endJ m s x).ch (endJ m s x).steps=0:=
 allJ_b _ _ _ _ o D (allJ_last m s s.length x)
theorem open_b (D:AV m=0) (hid:id.length=8) (h:Aa m (zx id) id s=some x):JSb s x/\loadE m x.ch x.steps=0/\0<=x.steps:=by
 unfold Aa at h
 split at h
 ·rename_i hp
  injection h with h;have h0:loadE m (j0 id).ch (j0 id).steps=0:=(rinv_load (m:=m)).loadE D;have o:JSb s (j0 id):=⟨hp.length_le,(show Cz 0 from ⟨by decide,by decide⟩),hid,(fun n E=>by cases E),FN _⟩;obtain ⟨h1,h2⟩:=endJ_b o h0;have e:x=endJ m s (j0 id):=h.symm;rw [<-e] at h1 h2;exact ⟨h1,h2,(BZ h2).2.st⟩
 ·cases h
theorem recB_le {st:Int} (E:sg.length<=1000) (h:∀x∈ch,Cz x) (o:Cz st) (D:ch.length<=300):(Ay sg ch st).length<=7000:=by
 have h1:=(body_len h o).1;have h2:=Bv (s:=BP ch st) (by omega);have h3:=Bv (s:=zY sg ch st) (by rw [By];omega);have h4:=By sg ch st;unfold Ay;rw [FG];omega
theorem run_i64 (g:zZ m) (h:CZ m r):(∀x∈r.ch,Cz x)/\r.ch.length<=300:=by
 have o:=(h.ch.range g).1;have E:m.n<=300:=g.1.n1;exact ⟨fun x D=>by have:=o x D;exact ⟨by omega,by omega⟩,h.ch.len300 g⟩
structure RunI (w0 wr:World) (X K:Nat->Prop) (g B gs:Nat) (m:MZ) (r:RS) (out sg:List UInt8):Prop where
 rt:OneX w0 wr X g m r
 bu:BuiK K B (Lib.byteCells out) wr
 sl:Eg wr gs sg
 kx:∀k,K k->¬ X k/\w0.heap.size<=k/\k≠gs/\k<wr.heap.size
 gx:¬ X gs/\w0.heap.size<=gs
theorem RunI.ext {w0 wr:World} {X K:Nat->Prop} {g B gs:Nat} {m:MZ} {r:RS} {out sg:List UInt8} (h:RunI w0 wr X K g B gs m r out sg):za w0 wr:=h.rt.ext
theorem RunI.more {w0 wr w':World} {X K:Nat->Prop} {g B gs:Nat} {m:MZ} {r:RS} {out sg:List UInt8} (h:RunI w0 wr X K g B gs m r out sg) (o:za wr w'):RunI w0 w' X K g B gs m r out sg:=
 ⟨h.rt.more o,h.bu.chg (zu.of_ext (X:=fun _=>False) o) (fun _ _ h=>h),h.sl.ext o,fun k D=>by obtain ⟨a,b,c,d⟩:=h.kx k D;exact ⟨a,b,c,zam d o.size⟩,h.gx⟩
theorem RunI.step {w0 wr:World} {X K:Nat->Prop} {g B gs:Nat} {m:MZ} {r:RS} {out sg:List UInt8} (h:RunI w0 wr X K g B gs m r out sg) (n:Nat) (G:n<=1000000) (J:n=0\/r.steps<=3000000000000000000):
  Calls Tryz.prog 83 #[.pointer (some ⟨g,0,none⟩),.int .i64 n] wr fun e w'=>e=.returned (.bool (RS.run m n r).done)/\∃X',RunI w0 w' X' K g B gs m (RS.run m n r) out sg:=by
 refine (h.rt.step n G J).mono ?_;rintro e w' ⟨rfl,I,D⟩;refine ⟨rfl,_,I,h.bu.chg D (fun k E=>(h.kx k E).1),D.blk h.sl h.gx.1,fun k E=>?_,?_,h.gx.2⟩
 ·obtain ⟨a,b,c,d⟩:=h.kx k E;exact ⟨fun o=>o.elim a (fun o=>by omega),b,c,zam d D.size⟩
 ·have:=zd h.sl;exact fun o=>o.elim h.gx.1 (fun o=>by omega)
theorem RunI.seal {sg':List UInt8} (h:RunI w0 wr X K g B gs m r out sg) (D:zu (·=gs) wr w') (E:Eg w' gs sg'):RunI w0 w' X K g B gs m r out sg':=
 ⟨h.rt.other (fun k e=>by have:=h.gx.2;omega) (fun k o e=>h.gx.1 (by have e:k=gs:=e;rw [<-e];exact o)) D,h.bu.chg D (fun k o=>(h.kx k o).2.2.1),E,fun k o=>by obtain ⟨a,b,c,d⟩:=h.kx k o;exact ⟨a,b,c,zam d D.size⟩,h.gx⟩
theorem RunI.write {out':List UInt8} (h:RunI w0 wr X K g B gs m r out sg) (o:zu K wr w') (E:BuiK (fun b=>K b\/(wr.heap.size<=b/\b<w'.heap.size)) B (Lib.byteCells out') w'):
  RunI w0 w' X (fun b=>K b\/(wr.heap.size<=b/\b<w'.heap.size)) g B gs m r out' sg:=
 ⟨h.rt.other (fun k hk=>(h.kx k hk).2.1) (fun k hk D=>(h.kx k D).1 hk) o,E,o.blk h.sl (fun D=>(h.kx gs D).2.2.1 rfl),fun k hk=>by
  have I:=h.rt.ext.size;have G:=zd h.sl;rcases hk with hk | hk
  ·obtain ⟨a,b,c,d⟩:=h.kx k hk;exact ⟨a,b,c,zam d o.size⟩
  ·exact ⟨fun J=>by have:=h.rt.rt.xb k J;omega,by omega,by omega,hk.2⟩,h.gx⟩
noncomputable def runT (m:MZ) (id s:List UInt8) (n:Int):List UInt8×Bool×Int:=if AV m=0 then Da m (zx id) id s n else ([],false,AV m)
theorem runT_err (n:Int) (h:opT m id s=(x,er)) (he:er≠0):runT m id s n=([],false,er):=by
 unfold runT;rcases (opT_err h he).2 with ⟨h1,h2,h3⟩ | ⟨h1,h2⟩
 ·rw [if_pos h1,h3];unfold Da;rw [h2]
 ·rw [if_neg h1,h2]
def RunX (w:World) (p:List UInt8×Bool×Int) (e:Ending) (w':World):Prop:=e=.returned (.tuple #[.string ⟨p.1.toArray⟩,.bool p.2.1,.int .i64 p.2.2])/\za w w'
def JRunPost (w:World) (m:MZ) (id s:List UInt8) (n:Int) (e:Ending) (w':World):Prop:=
 e=.returned (.tuple #[.string ⟨(Da m (zx id) id s n).1.toArray⟩,.bool (Da m (zx id) id s n).2.1,.int .i64 (Da m (zx id) id s n).2.2])/\za w w'
theorem jRunT_calls (n:Int) (w:World) (hv:zv w) (h:JP w ok v m ns) (h9:s.length<=40000000) (hn:-1000<=n/\n<=1000):
  Calls Tryz.prog 32 #[v,.string ⟨s.toArray⟩,.int .i64 n] w (RunX w (runT m (BB (zr m ns)) s n)):=by
 obtain ⟨⟨x,er⟩,hp⟩:∃p,p=opT m (BB (zr m ns)) s:=⟨_,rfl⟩;have HO:Hid (∀W,za w W->Calls Tryz.prog 79 #[v,.string ⟨s.toArray⟩] W (OpX W (x,er))):=fun W hE=>by rw [hp];exact ED W (hv.ext hE) (h.below hE) h9
 have HV:=zh hv;have f9:=zh h9;have HN:=zh hn;have HM:=zh h.hm;have HL:=zh h.hl;obtain ⟨f,u,t,rfl,⟨_,⟨Af,cf,rfl,-,-⟩,-⟩,⟨Au,cu,rfl,-,-⟩,⟨-,_,⟨At,ct,rfl,-,-⟩,-⟩⟩:=_root_.id h.hm;have a8:(BB (zr m ns)).length=8:=Aw _;obtain ⟨id,hid⟩:∃x,x=BB (zr m ns):=⟨_,rfl⟩;rw [<-hid] at hp a8⊢;have n4:=zh a8;have HP:=zh hp.symm;clear hv h h9 hn hid a8 hp
 go_enter Tryz.func32,Tryz.ntmps32
 go_upto_region 1 with fail;obtain ⟨c8,r0,r1,r2,r3,r4,r5⟩:=CO w m Af cf Au cu At ct;simp only [Fr] at c8 r0 r1 r2 r3 r4 r5;generalize w.alloc _=w2 at c8 r0 r1 r2 r3 r4 r5⊢;have c6:=zh c8;have p9:za w2 w2:=za.refl w2;clear c8
 go_wp2_with fail
 refine (HO.out _ c6.out).mono ?_;rintro e w3 ⟨vc,rfl,c9,k9⟩;have n2:=zh k9;have e2:za w2 w3:=c9;obtain ⟨Ac,cc,rfl,-,-⟩:=k9;simp only [jsc];have O:za w3 (w3.alloc (.cells #[.slice Ac x.ch.length cc,.int .i64 x.steps,.int .i64 x.fin,.string ⟨x.sg.toArray⟩] 126)):=(za.refl w3).alloc _;by_cases d9:er=0
 rotate_left
 ·have HR:Hid (runT m id s n=([],false,er)):=runT_err n HP.out d9;have s1:(er != 0)=true:=by simp [d9]
  have I:=zh ((c6.out.trans e2).trans O);clear c9 O d9
  go_wp2_with fail
  refine za5 (by simp [results,Tryz.results32,go_sem];rfl) rfl ⟨by rw [HR.out],I.out⟩
 ·subst d9;obtain ⟨d8,ho⟩:=opT_ok HP.out;have HC:=zh d8;have d7:runT m id s n=Da m (zx id) id s n:=by unfold runT;rw [if_pos d8]
  obtain ⟨hb,h5,i0⟩:=open_b HC.out n4.out ho;have b6:=hb.st.2;by_cases m2:n<0
  ·have HR:Hid (runT m id s n=([],false,1)):=by (show _=_);rw [d7];unfold Da;rw [ho];simp only;rw [if_pos m2]
   have I:=zh ((c6.out.trans e2).trans O);clear c9 O ho d8 d7 hb h5 i0 b6
   go_wp2_with fail
   refine za5 (by simp [results,Tryz.results32,go_sem];rfl) rfl ⟨by rw [HR.out],I.out⟩
  ·obtain ⟨lim,a9⟩:∃l,l=min (20000 - x.steps) n:=⟨_,rfl⟩
   have HR:Hid (runT m id s n=(s.take x.fin++(BK m x.steps lim lim.toNat (loadS m x.ch x.steps) x.sg).1,(BK m x.steps lim lim.toNat (loadS m x.ch x.steps) x.sg).2.done,0)):=by
    (show _=_);rw [d7];unfold Da;rw [ho];simp only;rw [if_neg m2,a9]
   have E:Hid (-9223372036854775808<=lim/\lim<=1000/\x.steps+lim<=20000):=by have:=HN.out;exact ⟨by omega,by omega,by omega⟩
   have j3:=zh a9;have HB:=zh hb;have n5:=zh h5;have a1:Hid (0<=x.steps/\x.steps<=9223372036854775807):=⟨i0,b6⟩;clear c9 ho hb h5 i0 b6 a9 d8 d7;go_upto_region 6 with fail;have c7:=ze.new w3 #[.slice Ac x.ch.length cc,.int .i64 x.steps,.int .i64 x.fin,.string ⟨x.sg.toArray⟩] 126 (g:=w3.heap.size) rfl;generalize w3.alloc _=w4 at c7 O⊢;generalize w3.heap.size=gx at c7⊢;generalize w.heap.size=gm at r0 r1 r2 r3 r4 r5⊢;have D:za w2 w4:=e2.trans O;have r0:=fun W h=>r0 W (D.trans h)
   have r1:=fun W h=>r1 W (D.trans h)
   have r2:=fun W h=>r2 W (D.trans h)
   have r3:=fun W h=>r3 W (D.trans h)
   have r4:=fun W h=>r4 W (D.trans h)
   have r5:=fun W h=>r5 W (D.trans h)
   obtain ⟨k0,k1,k2,k3⟩:=zR c7;have k0:=za.rule k0;have k1:=za.rule k1;have k2:=za.rule k2;have k3:=za.rule k3;have I:Hid (za w w4):=c6.out.trans D;have n3:=zh (n2.out.below O);have j7:Hid (CZ m (loadS m x.ch x.steps)):=(BZ n5.out).2
   have j2:Hid (Calls Tryz.prog 80 #[.agg #[.int .i64 m.w,.int .i64 m.h,.int .i64 m.l,.slice Af m.free.length cf,.slice Au m.up.length cu,.slice At m.tasks.length ct],.slice Ac x.ch.length cc,.int .i64 x.steps] w4 fun e w'=>∃g,e=.returned (.tuple #[.pointer (some ⟨g,0,none⟩),.int .i64 0])/\za w4 w'/\RtB w' (fun k=>w4.heap.size<=k/\k<w'.heap.size) (fun b=>b<w4.heap.size) g m (loadS m x.ch x.steps)):=
    loadB_calls (Y:=fun b=>b<w4.heap.size) (s:=loadS m x.ch x.steps) w4 (((HM.out.maze.bound).weaken fun b hb=>zam hb.2 I.out.size).below I.out) HL.out n3.out (by have:=HB.out.cl;have:=f9.out;show x.ch.length<=_;omega) (fun b hb=>hb) HC.out j7.out
   have hx:za w4 w4:=za.refl w4;clear D e2 O c7 p9
   go_wp2_with fail
   refine j2.out.mono ?_;rintro e w5 ⟨g,rfl,g5,l1⟩;have j4:Hid (OneX w4 w5 (fun k=>w4.heap.size<=k/\k<w5.heap.size) g m (loadS m x.ch x.steps)):=⟨g5,l1,fun k hk=>hk.1,j7.out⟩;have i2:za w4 w5:=g5;clear g5 l1 j2 hx;go_upto_region 10 with fail;have a3:Hid (BuiK (fun b=>b=w5.heap.size) w5.heap.size (Lib.byteCells []) (w5.alloc (.cells #[.pointer none,.slice none 0 0] 134))):=BuiK.new w5;have d5:za w5 (w5.alloc (.cells #[.pointer none,.slice none 0 0] 134)):=(za.refl w5).alloc _;generalize w5.alloc _=w6 at a3 d5⊢;obtain ⟨B,g1⟩:=zaI w5.heap.size;rw [<-g1] at a3⊢;have j5:=zh (j4.out.more d5);have b9:Hid (B=w5.heap.size/\w4.heap.size<=B):=⟨g1,by have:=i2.size;omega⟩;have q5:za w4 w6:=i2.trans d5;have l3:x.fin<=s.length:=HB.out.fin;have l4:=f9.out;have e1:ByteArray.extract ⟨s.toArray⟩ 0 x.fin=⟨(s.take x.fin).toArray⟩:=Cl s x.fin;have f6:Hid ((Lib.byteCells ([]:List UInt8)).length+(ByteArray.mk (s.take x.fin).toArray).size<=140737488355328):=DR (by simp;omega);clear g1 d5 i2
   go_wp2_with fail
   refine (wString_K ⟨(s.take x.fin).toArray⟩ a3.out f6.out).mono ?_;rintro e w7 ⟨rfl,g3,k8⟩;have i4:=zh (buiK_app (z:=s.take x.fin) k8 rfl);have f4:Hid (OneX w4 w7 (fun k=>w4.heap.size<=k/\k<w5.heap.size) g m (loadS m x.ch x.steps)):=j5.out.other (fun k e=>by have:=b9.out.2;omega) (fun k hk e=>by have:=b9.out.1;omega) g3;have n8:Hid (w6.heap.size<=w7.heap.size/\B<w6.heap.size):=⟨g3.size,a3.out.lt⟩;have i3:za w4 w7:=f4.out.ext;clear g3 k8 q5 e1 l3 l4 j5 a3 j4
   go_wp2_with fail
   refine (jSealer_calls x.sg w7).mono ?_;rintro e w8 ⟨rfl,a6,g7⟩
   have c0:Hid (RunI w4 w8 (fun k=>w4.heap.size<=k/\k<w5.heap.size) (fun b=>b=B\/(w6.heap.size<=b/\b<w7.heap.size)) g B w7.heap.size m (loadS m x.ch x.steps) (s.take x.fin) x.sg):=by
    have h1:=b9.out;have h2:=n8.out;have h3:=a6.size;have h4:=i3.size;refine ⟨f4.out.more a6,i4.out.chg (zu.of_ext (X:=fun _=>False) a6) (fun _ _ h=>h),g7,fun k hk=>⟨by omega,by omega,by omega,?_⟩,by omega,by omega⟩;have:=zd g7;omega
   obtain ⟨gs,l5⟩:∃g,g=w7.heap.size:=⟨_,rfl⟩;rw [<-l5] at c0⊢;have q6:za w4 w8:=i3.trans a6;have p8:IntKind.i64.wrap (20000 - x.steps)=20000 - x.steps:=by rw [zag];have:=a1.out;omega
   clear a6 g7 i3 l5 i4 f4;go_upto_region 13 with fail;rw [<-j3.out];obtain ⟨rr,h8⟩:∃r,r=loadS m x.ch x.steps:=⟨_,rfl⟩;have m4:rr.steps=x.steps:=by rw [h8];rfl
   rw [<-h8] at c0 HR;have j9:Hid (Calls Tryz.prog 83 #[.pointer (some ⟨g,0,none⟩),.int .i64 0] w8 fun e w'=>e=.returned (.bool rr.done)/\∃X',RunI w4 w' X' (fun b=>b=B\/(w6.heap.size<=b/\b<gs)) g B gs m rr (s.take x.fin) x.sg):=c0.out.step 0 (by omega) (.inl rfl);obtain ⟨T,hT⟩:=zaI (s.take x.fin++(BK m x.steps lim lim.toNat rr x.sg).1);obtain ⟨RF,g6⟩:∃R,R=(BK m x.steps lim lim.toNat rr x.sg).2:=⟨_,rfl⟩;rw [<-hT,<-g6] at HR;have f7:=zh m4;have a2:Hid (s.take x.fin++(BK m x.steps lim lim.toNat rr x.sg).1=T/\(BK m x.steps lim lim.toNat rr x.sg).2=RF):=⟨hT.symm,g6.symm⟩
   have a4:Hid ((s.take x.fin).length+7000*lim.toNat<=47000000):=by
    (show _<=_)
    have h1:=E.out;have h2:=f9.out;have h3:=List.length_take_le x.fin s;have h4:(s.take x.fin).length<=s.length:=by rw [za3];omega
    omega
   have a5:Hid (x.sg.length<=1000):=by (show _<=_);rw [HB.out.sg];omega
   clear h8 m4 hT g6 c0 p8 j3
   go_wp2_with fail
   refine j9.out.mono ?_;rintro e w9 ⟨rfl,X9,l0⟩;have i9:=zh l0;clear l0 q6 j9
   go_wp2_with fail
   clear r0 r1 r2 r3 r4 r5 k0 k2 k3
   go_loopg [15] (lim.toNat) (fun gk v15 wr=>∃(X K:Nat->Prop) (r:RS) (out sg:List UInt8),v15=.bool r.done/\x.steps<=r.steps/\r.steps<=x.steps+lim.toNat/\lim<=r.steps - x.steps+gk/\Hid (sg.length<=1000)/\Hid (out.length+7000*gk<=47000000)/\Hid (RunI w4 wr X K g B gs m r out sg)/\Hid (out++(BK m x.steps lim gk r sg).1=T/\(BK m x.steps lim gk r sg).2=RF))
   case atStart=>exact ⟨X9,_,rr,_,_,rfl,by have:=f7.out;omega,by have h1:=f7.out;have h2:=E.out;omega,by have h1:=f7.out;have h2:=E.out;omega,a5,a4,i9,a2⟩
   clear i9 a2 a4 a5
   case round=>
    obtain ⟨X,K,r,out,sg,rfl,o9,p5,p6,a5,a4,HI,a2⟩:=hrel;obtain ⟨wk,rfl⟩:∃wk:World,wk=wr:=⟨_,rfl⟩;have hx:za w4 wk:=HI.out.ext;have o4:=E.out;have o5:=a1.out;have i1:IntKind.i64.wrap (r.steps - x.steps)=r.steps - x.steps:=by rw [zag];omega
    obtain ⟨d,hd⟩:=zaI r.done;rw [<-hd];have HD:=zh hd;have f8:Hid (∀W,za wk W->Calls Tryz.prog 84 #[.pointer (some ⟨g,0,none⟩)] W fun e w'=>e=.returned (.int .i64 r.steps)/\W=w'):=fun W h=>(HI.out.more h).rt.rt.stepsC
    clear hd;go_upto_region 14 with fail;go_cut [66] (fun v66 wc=>v66=.bool (!d && decide (r.steps - x.steps<lim))/\Hid (za wk wc))
    case first=>
     have e3:za wk wk:=za.refl wk;have hx:∀W,za wk W->W.cell? ⟨gx,1,none⟩=some (.int .i64 x.steps):=fun W h=>k1 W (hx.trans h)
     clear k1
     cases d with
     | true=>
      refine zab (S:=(fun W=>za wk W)) zG (e3.drew) fun zH=>?_;generalize wk.drew=wd at zH⊢;refine zi 0 zH ?_;refine zi 1 zH ?_;simp only [zc,Fv];refine zi 2 zH ?_;refine DI 3 zH ?_;simp only [zc,Fv];refine DI 4 zH ?_;refine DI 5 zH ?_;simp only [zc,Fv];refine DI 6 zH ?_;refine DI 7 zH ?_;simp only [zc,Fv];refine DI 8 zH ?_;refine DI 9 zH ?_;simp only [zc,Fv];refine zi 10 zH ?_;simp only [zc,Fv];refine zao (by kernel_rfl) ?_ _;have g0:=zh zH;clear zH hx e3 i1;go_wp2;go_meet;exact ⟨rfl,g0⟩
     | false=>
      refine zab (S:=(fun W=>za wk W)) zG (e3.drew) fun zH=>?_;generalize wk.drew=wd at zH⊢;refine zi 0 zH ?_;refine zi 1 zH ?_;simp only [zc,Fv];refine zi 2 zH ?_;refine zi 3 zH ?_;simp only [zc,Fv];refine zi 5 zH ?_;refine zi 6 zH ?_;simp only [zc,Fv];refine zi 8 zH ?_;simp only [zc,Fv];refine BO 4 fun K hK=>?_;go_simp;go_at_call 84;refine (f8.out _ zH).mono ?_;rintro e wst ⟨rfl,rfl⟩;go_simp;refine zaJ hK (zH) fun zH=>?_;clear hK K;try simp only [zc,Fv]
      refine zi 7 zH ?_;refine zi 9 zH ?_;simp only [zc,Fv];refine zi 10 zH ?_;simp only [zc,Fv];refine zao (by kernel_rfl) ?_ _;have g0:=zh zH;clear zH hx e3 i1;go_wp2;go_meet;exact ⟨by simp,g0⟩
    case rest=>
     obtain ⟨rfl,V⟩:=hcut;obtain ⟨w10,rfl⟩:∃w10:World,w10=wc:=⟨_,rfl⟩;have Q:=zh (HI.out.more V.out);clear hx i1;by_cases o:d=true\/lim<=r.steps - x.steps
     ·have b7:(!d && decide (r.steps - x.steps<lim))=false:=by
       rcases o with h | h
       ·rw [h];rfl
       ·rw [FC (by omega),Bool.and_false]
      rw [b7]
      have e4:Hid (out=T/\r=RF):=by
       have h1:=a2.out;rw [Ev (by rw [<-HD.out];exact o),List.append_nil] at h1;exact h1
      have n0:Hid (B<=w10.heap.size):=Nat.le_of_lt Q.out.bu.lt;clear b7 o a2
      go_wp2_with fail
      refine (Ez Q.out.bu.bui n0.out).mono ?_;rintro e w11 ⟨rfl,f3⟩
      have k7:Hid (za w w11):=by
       have h1:=I.out.trans Q.out.ext;exact Below.trans h1 (f3.mono (by have h2:=b9.out.2;have h3:=I.out.size;omega))
      clear f3
      go_wp2_with fail
      refine za5 (by simp [results,Tryz.results32,go_sem];rfl) rfl ⟨?_,k7.out⟩;rw [HR.out,HD.out,e4.out.1,e4.out.2]
     ·have g8:d=false:=by
       cases d with
       | true=>exact absurd (.inl rfl) o
       | false=>rfl
      have m0:r.steps - x.steps<lim:=by
       rcases Int.lt_or_le (r.steps - x.steps) lim with q | q
       ·exact q
       ·exact absurd (.inr q) o
      have b7:(!d && decide (r.steps - x.steps<lim))=true:=by rw [g8,FB m0];rfl
      rw [b7];obtain ⟨q,hq⟩:=zaI (r.steps % 16);have o6:0<=q/\q<16:=by rw [hq];exact ⟨Int.emod_nonneg _ (by decide),Int.emod_lt_of_pos _ (by decide)⟩
      obtain ⟨o7,o8⟩:=o6;obtain ⟨kN,l8⟩:∃k:Nat,k=(min (16 - q) (lim - (r.steps - x.steps))).toNat:=⟨_,rfl⟩;have l7:(kN:Int)=min (16 - q) (lim - (r.steps - x.steps)):=by omega
      have l9:kN<=16/\0<kN/\(kN:Int)<=lim - (r.steps - x.steps):=by omega
      obtain ⟨r',b4⟩:∃r',r'=RS.run m kN r:=⟨_,rfl⟩;have e0:=CL m kN r;rw [<-b4] at e0;have h6:=e0.2.2.2 (by rw [<-HD.out];exact g8) l9.2.1;have l6:=e0.2.1;have j1:Hid (CZ m r'):=by (show CZ _ _);rw [b4];exact HI.out.rt.inv.run kN
      obtain ⟨gk',g9⟩:∃f,gk=f+1:=⟨gk - 1,by omega⟩
      have i5:Hid (BK m x.steps lim gk r sg=(Ay sg r'.ch r'.steps++(BK m x.steps lim gk' r' (zY sg r'.ch r'.steps)).1,(BK m x.steps lim gk' r' (zY sg r'.ch r'.steps)).2)):=by
       (show _=_)
       rw [g9];exact runJ_go (by rw [<-HD.out];exact o) (by rw [<-hq,<-l8,b4])
      have G:Hid (x.steps<=r'.steps/\r'.steps<=x.steps+lim.toNat/\lim<=r'.steps - x.steps+gk'/\gk'<gk/\gk=gk'+1):=⟨by omega,by omega,by omega,by omega,g9⟩
      have k6:Hid (∀W,za wk W->Calls Tryz.prog 83 #[.pointer (some ⟨g,0,none⟩),.int .i64 (min (16 - q) (lim - (r.steps - x.steps)))] W fun e w'=>e=.returned (.bool r'.done)/\∃X',RunI w4 w' X' K g B gs m r' out sg):=fun W h=>by
       rw [<-l7,b4];exact (HI.out.more h).step kN (by omega) (by omega)
      have m1:r.steps.tmod 16=q:=by rw [hq];exact Int.tmod_eq_emod_of_nonneg (by omega)
      have w2a:IntKind.i64.wrap (r.steps - x.steps)=r.steps - x.steps:=by rw [zag];omega
      have w2b:IntKind.i64.wrap q=q:=by rw [zag];omega
      have w2c:IntKind.i64.wrap (16 - q)=16 - q:=by rw [zag];omega
      have w2d:IntKind.i64.wrap (lim - (r.steps - x.steps))=lim - (r.steps - x.steps):=by rw [zag];omega
      clear b7 o g8 m0 hq l8 l7 l9 b4 e0 h6 l6 g9 o4 o5 o9 p5 p6 o7 o8;go_upto_region 15 with fail;have hx:za w4 w10:=Q.out.ext;have l2:w10.cell? ⟨gx,1,none⟩=some (.int .i64 x.steps):=k1 _ hx;go_cut [15] (fun v15 wc=>v15=.bool r'.done/\Hid (∃X',RunI w4 wc X' K g B gs m r' out sg))
      case first=>
       refine Cj fun Q' hP n9=>?_;refine zB (S:=(fun W=>W.cell? ⟨gx,1,none⟩=some (.int .i64 x.steps))) zG (l2) fun zH=>?_;have d6:za w10 w10.drew:=(za.refl w10).drew;generalize w10.drew=wd at zH d6⊢;refine AQ 0 hP zH ?_;simp only [zc,Fv];refine AQ 1 hP zH ?_;simp only [zc,Fv];refine AQ 5 hP zH ?_;simp only [zc,Fv];refine AQ 6 hP zH ?_;simp only [zc,Fv];refine AQ 8 hP zH ?_;simp only [zc,Fv];refine AQ 9 hP zH ?_;simp only [zc,Fv];refine EM 2 fun K hK=>?_;go_simp;go_at_call 84;refine (f8.out _ (V.out.trans d6)).mono ?_;rintro e wst ⟨rfl,rfl⟩;go_simp;refine zaJ hK (zH) fun zH=>?_;clear hK K;try simp only [zc,Fv]
       refine AQ 3 hP zH ?_;simp only [zc,Fv];refine AQ 4 hP zH ?_;simp only [zc,Fv];refine EM 7 fun K hK=>?_;go_simp;go_at_call 84;refine (f8.out _ (V.out.trans d6)).mono ?_;rintro e wst ⟨rfl,rfl⟩;go_simp;refine zaJ hK (zH) fun zH=>?_;clear hK K;try simp only [zc,Fv]
       refine AQ 10 hP zH ?_;simp only [zc,Fv];refine AQ 11 hP zH ?_;simp only [zc,Fv];refine AQ 12 hP zH ?_;simp only [zc,Fv];refine EM 13 fun K hK=>?_;go_simp;go_at_call 83;refine (k6.out _ (V.out.trans d6)).mono ?_;rintro e w13 ⟨rfl,X13,f0⟩;have M:=zh f0;clear f0;go_simp;refine zaJ hK (k1 _ M.out.ext) fun zH=>?_;clear hK K;try simp only [zc,Fv]
       refine rlZ 14 fun K hK=>?_;go_simp;go_simp;refine hK.out _ _ ?_;clear hK K;refine zP (by kernel_rfl) ?_ _;subst n9;go_wp2;go_meet;exact ⟨rfl,X13,M.out⟩
      case rest=>
       obtain ⟨rfl,J⟩:=hcut;obtain ⟨X',e9⟩:=J.out;obtain ⟨w11,rfl⟩:∃w11:World,w11=wc:=⟨_,rfl⟩;have J:=zh e9;clear e9 hx l2 m1 w2a w2b w2c w2d;have hi:=run_i64 J.out.rt.rt.good j1.out;have e5:=zh hi;have h7:=recB_le (sg:=sg) (ch:=r'.ch) (st:=r'.steps) a5.out hi.1 ⟨by have:=G.out;have:=a1.out;omega,by have:=G.out;have:=E.out;have:=a1.out;omega⟩ hi.2;obtain ⟨rec,b5⟩:∃x,x=Ay sg r'.ch r'.steps:=⟨_,rfl⟩;rw [<-b5] at h7 i5;have j6:=zh b5;have j8:=zh h7;clear hi h7 b5
       go_wp2_with fail
       refine J.out.rt.rt.choices.mono ?_;rintro e w12 ⟨vch,rfl,hM⟩;have U:=zh (J.out.more hM.ext);have n1:=zh hM.ints;obtain ⟨Ah,ch,rfl,-⟩:=hM.slice;clear hM
       go_wp2_with fail
       refine U.out.rt.rt.stepsC.mono ?_;rintro e wb ⟨rfl,rfl⟩
       go_wp2_with fail
       refine (jSeal_calls w12 (HV.out.ext (I.out.trans U.out.ext)) U.out.sl a5.out n1.out e5.out.1 (by have:=e5.out.2;omega) ⟨by have:=G.out;have:=a1.out;omega,by have:=G.out;have:=E.out;have:=a1.out;omega⟩).mono ?_;rintro e w13 ⟨rfl,e7,f1,-⟩;rw [<-j6.out];have M:=zh (U.out.seal e7 f1);have f6:Hid ((Lib.byteCells out).length+(ByteArray.mk rec.toArray).size<=140737488355328):=DR (by have h1:=j8.out;have h2:=a4.out;omega);clear e7 f1
       go_wp2_with fail
       refine (wString_K ⟨rec.toArray⟩ M.out.bu f6.out).mono ?_;rintro e w14 ⟨rfl,e8,e6⟩;have i7:=zh (M.out.write e8 (buiK_app (z:=out++rec) e6 rfl));clear e8 e6
       have n7:Hid ((out++rec)++(BK m x.steps lim gk' r' (zY sg r'.ch r'.steps)).1=T/\(BK m x.steps lim gk' r' (zY sg r'.ch r'.steps)).2=RF):=by
        have h1:=a2.out;rw [i5.out] at h1;exact ⟨by rw [List.append_assoc];exact h1.1,h1.2⟩
       have k5:Hid ((zY sg r'.ch r'.steps).length<=1000):=by (show _<=_);rw [By];omega
       have n6:Hid ((out++rec).length+7000*gk'<=47000000):=by (show _<=_);have h1:=j8.out;have h2:=a4.out;have h3:=G.out.2.2.2.2;rw [FG];omega
       go_wp2
       go_roundg gk'
       case measure=>exact G.out.2.2.2.1
       case rel=>exact ⟨_,_,r',out++rec,_,rfl,G.out.1,G.out.2.1,G.out.2.2.1,k5.out,n6.out,i7.out,n7.out⟩
theorem jRun_calls (n:Int) (w:World) (M:zv w) (hm:Bx w ok v m ns) (J:CP m ns) (G:Lens m) (E:AV m=0) (o:s.length<=40000000) (I:-1000<=n/\n<=1000)
  (O:∀x,Aa m (zx (BB (zr m ns))) (BB (zr m ns)) s=some x->x.steps<=20000):
  Calls Tryz.prog 32 #[v,.string ⟨s.toArray⟩,.int .i64 n] w (JRunPost w m (BB (zr m ns)) s n):=by
 refine (jRunT_calls n w M ⟨hm,G,fun _=>J⟩ o I).mono ?_;rintro e w' ⟨rfl,D⟩;unfold runT;rw [if_pos E];exact ⟨rfl,D⟩
end
section
open Go.RowKit
attribute [local go_sem ↓] Go.wp_at_zero Go.wp_at_succ
def AftPost (w:World) (m:MZ) (ch:List Int) (last:Int) (e:Ending) (w':World):Prop:=
 za w w'/\((∃n v,aft m ch last=some n/\e=.returned (.tuple #[v,.bool true])/\zg w' (fun b=>w.heap.size<=b) v (ch++[n]))\/(aft m ch last=none/\e=.returned (.tuple #[.slice none 0 0,.bool false])))
theorem qafter_calls {okc:Nat->Prop} {vc:Value} {s:RS} {gq:Nat} (last:Int) (w:World) (hq:QR2 w ok gq m s) (g:zZ m) (hl:Lens m) (i0:zg w okc vc ch) (hc:zw m ch):
  Calls Tryz.prog 215 #[.pointer (some ⟨gq,0,none⟩),vc,.int .i64 last] w (AftPost w m ch last):=by
 have j9:=hc.len300 g;obtain ⟨vfr,vup,vts,vn,hq⟩:=hq;have e1:=zh hq.maze;have d9:=zh i0;obtain ⟨A,c,rfl,k7,hr⟩:=i0;have HC:=zh hc;have HL:=zh hl;have HG:=zh g;have hB:=hq.blk;have c0:∀W,za w W->W.cell? ⟨gq,0,none⟩=some (.int .i64 m.w):=za.rule (hB.cell (k:=0) rfl);have c1:∀W,za w W->W.cell? ⟨gq,1,none⟩=some (.int .i64 m.h):=za.rule (hB.cell (k:=1) rfl);have c2:∀W,za w W->W.cell? ⟨gq,2,none⟩=some (.int .i64 m.l):=za.rule (hB.cell (k:=2) rfl);have c3:∀W,za w W->W.cell? ⟨gq,3,none⟩=some vfr:=za.rule (hB.cell (k:=3) rfl);have c4:∀W,za w W->W.cell? ⟨gq,4,none⟩=some vup:=za.rule (hB.cell (k:=4) rfl);have c5:∀W,za w W->W.cell? ⟨gq,5,none⟩=some vts:=za.rule (hB.cell (k:=5) rfl);have j7:za w w:=za.refl w;have j6:=Dv hl ch;clear hr hq hc hl g hB
 go_enter Tryz.func215,Tryz.ntmps215
 go_wp2_with fail
 refine (Ek w (e1.out) HG.out HL.out d9.out HC.out).mono ?_;rintro e w1 ⟨v1,rfl,e2⟩;have e6:za w w1:=e2.ext;have g6:=zh e2.own;obtain ⟨A1,c1',rfl,j4⟩:=e2.slice;obtain ⟨L,hL⟩:=zaI (Bn m ch);rw [<-hL] at g6 j4 j6⊢;have f4:=zh hL;clear e2 hL j7
 go_wp2_with fail
 go_loopw [9] (fun i wr=>∃k:Nat,k<=L.length/\i=.int .i64 k/\Hid (∀n∈L.take k,¬ (last<n/\AA m (ch++[n])=true))/\Hid (za w1 wr)) (fun i _=>L.length - (intOf i).toNat)
 case atStart=>exact ⟨0,FN _,rfl,fun n I=>(by simp at I),za.refl _⟩
 case round=>
  obtain ⟨k,hk,rfl,hN,hX⟩:=hrel;obtain ⟨wk,rfl⟩:∃wk:World,wk=wr:=⟨_,rfl⟩;have G:za w1 wk:=hX.out;have i5:za w wk:=e6.trans G;by_cases a0:k<L.length
  ·obtain ⟨b3,e3,k6,a9⟩:=own_at g6.out a0;subst e3;have J:=zh (FF a0)
   have d8:Hid (∀h2:last<L[k],AA m (ch++[L[k]])=true->aft m ch last=some L[k]):=fun h2 h3=>by
    have h4:=f4.out;subst h4;exact aft_at a0 hN.out h2 h3
   have e0:Hid (zw m (ch++[L[k]])):=zw.snoc HC.out (by rw [<-f4.out];exact Fz a0);obtain ⟨x,i6⟩:=zaI (L[k]);rw [<-i6] at a9 J d8 e0;have rx:=za.rule a9;clear a9 i6
   go_wp2_with fail
   refine zab (S:=(fun W=>za w1 W)) zG (G.drew) fun zH=>?_;have O:za wk wk.drew:=(za.refl wk).drew;have a1:za w wk.drew:=i5.drew;generalize wk.drew=wd at O zH a1⊢;refine zi 1 zH ?_;refine zi 3 zH ?_;simp only [zc,Fv];refine zi 4 zH ?_;refine zi 5 zH ?_;simp only [zc,Fv];refine zi 6 zH ?_;simp only [zc,Fv];refine rdA [0,7] ?_;refine zal rfl (fun K o=>?_) ?_
   ·go_simp;have b9:Hid (zQ (wd.alloc (.cells #[] 3)) wd.heap.size (.slice (some ⟨wd.heap.size,0,none⟩) 0 0) []):=by have h:=Bw wd wd.heap.size (za.refl wd).size;exact (show zQ _ _ _ _ by simpa using h)
    refine zaJ o (zH.alloc _) fun zH=>?_;clear o K;try simp only [zc,Fv]
    refine rdA [2,7] ?_;refine zal rfl (fun K o=>?_) ?_
    ·have b4:za wd (wd.alloc (.cells #[] 3)):=(za.refl wd).alloc (.cells #[] 3);refine zE (ok:=okc) (by rfl) _ _ _ (by rfl) wd.heap.size [] ch _ _ (by rfl) (by rfl) b9.out (d9.out.below (a1.trans b4)) b4.size (by simp;omega) ?_;intro v2 w2 e4 i1 h5;have g8:za wd w2:=zK b4 i1 b4.size (fun k hk=>Ad b9.out hk);rw [List.nil_append] at e4;have g7:=zh e4;obtain ⟨A2,n2,cc2,rfl⟩:=AI e4;clear e4 i1 h5;refine zaJ o (G.trans (O.trans g8)) fun zH=>?_;clear o K;try simp only [zc,Fv]
     refine BO 7 fun K o=>?_;go_simp;have j1:Hid ((w2.alloc (.cells #[.int .i64 x] 3)).cell? ⟨w2.heap.size,0,none⟩=some (.int .i64 x)):=zy _ _ _ (by simp);have e9:=zh (g7.out.ext ((za.refl w2).alloc (.cells #[.int .i64 x] 3)));refine zaJ o (zH.alloc _) fun zH=>?_;clear o K;try simp only [zc,Fv]
     refine BO 8 fun K o=>?_;have c7:za wd (w2.alloc (.cells #[.int .i64 x] 3)):=(g8).alloc (.cells #[.int .i64 x] 3);refine zE (ok:=fun _=>True) (by rfl) _ _ _ (by rfl) wd.heap.size ch [x] _ _ (by rfl) (by rfl) e9.out (CB j1.out) c7.size (by simp;omega) ?_;intro vn w9 f9 i2 h6;have a5:za wd w9:=zK c7 i2 c7.size (fun k hk=>Ad e9.out hk);have a4:=zh f9;obtain ⟨A9,n9,c9,rfl⟩:=AI f9;clear f9 i2 h6;refine zaJ o (G.trans (O.trans a5)) fun zH=>?_;clear o K;try simp only [zc,Fv]
     refine BO 9 fun K o=>?_;go_simp;refine zaJ o (zH) fun zH=>?_;clear o K;try simp only [zc,Fv]
     refine zao (by kernel_rfl) ?_ _;have E:za w1 w9:=G.trans (O.trans a5);have a7:za w w9:=e6.trans E;have a6:w.heap.size<=wd.heap.size:=a1.size;clear O a1 zH;by_cases D:last<x
     ·have d7:decide (last<x)=true:=FB D;have a3:=zh (d8.out D);clear D
      go_wp2_with fail
      refine (Ee w9 (e1.out.below a7) HG.out HL.out (AS.of_own a4.out) e0.out).mono ?_;rintro e wz ⟨rfl,V⟩
      cases M:AA m (ch++[x])
      ·have U:Hid (∀n∈L.take (k+1),¬ (last<n/\AA m (ch++[n])=true)):=fun n I=>by
        rw [J.out,za0,zar] at I;rcases I with I | rfl
        ·exact hN.out n I
        ·rintro ⟨h1,h2⟩;rw [M] at h2;cases h2
       clear M
       go_wp2_with fail
       go_roundw
       case rel=>exact ⟨k+1,a0,by go_num,U,E.trans V⟩
       case measure=>simp [intOf];omega
      ·have hA:=a3.out M;have Q:Hid (AftPost w m ch last (.returned (.tuple #[.slice A9 n9 c9,.bool true])) wz):=⟨a7.trans V,.inl ⟨x,_,hA,rfl,((show zg w9 (fun b=>wd.heap.size<=b) (.slice A9 n9 c9) (ch++[x]) from AS.of_own a4.out).below V).weaken fun b hb=>FA a6 hb⟩⟩;clear M hA
       go_wp2_with fail
       go_ret2
       exact Q.out
     ·have d7:decide (last<x)=false:=FC D
      have U:Hid (∀n∈L.take (k+1),¬ (last<n/\AA m (ch++[n])=true)):=fun n I=>by
       rw [J.out,za0,zar] at I;rcases I with I | rfl
       ·exact hN.out n I
       ·rintro ⟨h1,h2⟩;exact D h1
      clear D
      go_wp2_with fail
      go_roundw
      case rel=>exact ⟨k+1,a0,by go_num,U,E⟩
      case measure=>simp [intOf];omega
    refine zal rfl (fun K o=>?_) .nil;go_simp;have g5:Hid (((wd.alloc (.cells #[] 3)).alloc (.cells #[.int .i64 x] 3)).cell? ⟨wd.heap.size+1,0,none⟩=some (.int .i64 x)):=zy _ _ _ (by simp);have f0:=zh (b9.out.ext ((za.refl (wd.alloc (.cells #[] 3))).alloc (.cells #[.int .i64 x] 3)));refine zaJ o (zH.alloc _) fun zH=>?_;clear o K;try simp only [zc,Fv]
    refine BO 2 fun K o=>?_;have b5:za wd ((wd.alloc (.cells #[] 3)).alloc (.cells #[.int .i64 x] 3)):=((za.refl wd).alloc (.cells #[] 3)).alloc (.cells #[.int .i64 x] 3);refine zE (ok:=okc) (by rfl) _ _ _ (by rfl) wd.heap.size [] ch _ _ (by rfl) (by rfl) f0.out (d9.out.below (a1.trans b5)) b5.size (by simp;omega) ?_;intro v7 w7 e5 f8 h7;have g9:za wd w7:=zK b5 f8 b5.size (fun k hk=>Ad f0.out hk);rw [List.nil_append] at e5;have e8:=zh e5;have j2:Hid (w7.cell? ⟨wd.heap.size+1,0,none⟩=some (.int .i64 x)):=(World.grownBy.cell_far f8.out _ (zo g5.out) (by intro e;simp [Value.ownBlock] at e)).trans g5.out;obtain ⟨A7,n7,cc7,rfl⟩:=AI e5;clear e5 f8 h7;refine zaJ o (G.trans (O.trans g9)) fun zH=>?_;clear o K;try simp only [zc,Fv]
    refine BO 8 fun K o=>?_;have c8:za wd w7:=g9;refine zE (ok:=fun _=>True) (by rfl) _ _ _ (by rfl) wd.heap.size ch [x] _ _ (by rfl) (by rfl) e8.out (CB j2.out) c8.size (by simp;omega) ?_;intro vn w9 g0 i3 h8;have a5:za wd w9:=zK c8 i3 c8.size (fun k hk=>Ad e8.out hk);have a4:=zh g0;obtain ⟨A9,n9,c9,rfl⟩:=AI g0;clear g0 i3 h8;refine zaJ o (G.trans (O.trans a5)) fun zH=>?_;clear o K;try simp only [zc,Fv]
    refine BO 9 fun K o=>?_;go_simp;refine zaJ o (zH) fun zH=>?_;clear o K;try simp only [zc,Fv]
    refine zao (by kernel_rfl) ?_ _;have E:za w1 w9:=G.trans (O.trans a5);have a7:za w w9:=e6.trans E;have a6:w.heap.size<=wd.heap.size:=a1.size;clear O a1 zH;by_cases D:last<x
    ·have d7:decide (last<x)=true:=FB D;have a3:=zh (d8.out D);clear D
     go_wp2_with fail
     refine (Ee w9 (e1.out.below a7) HG.out HL.out (AS.of_own a4.out) e0.out).mono ?_;rintro e wz ⟨rfl,V⟩
     cases M:AA m (ch++[x])
     ·have U:Hid (∀n∈L.take (k+1),¬ (last<n/\AA m (ch++[n])=true)):=fun n I=>by
       rw [J.out,za0,zar] at I;rcases I with I | rfl
       ·exact hN.out n I
       ·rintro ⟨h1,h2⟩;rw [M] at h2;cases h2
      clear M
      go_wp2_with fail
      go_roundw
      case rel=>exact ⟨k+1,a0,by go_num,U,E.trans V⟩
      case measure=>simp [intOf];omega
     ·have hA:=a3.out M;have Q:Hid (AftPost w m ch last (.returned (.tuple #[.slice A9 n9 c9,.bool true])) wz):=⟨a7.trans V,.inl ⟨x,_,hA,rfl,((show zg w9 (fun b=>wd.heap.size<=b) (.slice A9 n9 c9) (ch++[x]) from AS.of_own a4.out).below V).weaken fun b hb=>FA a6 hb⟩⟩;clear M hA
      go_wp2_with fail
      go_ret2
      exact Q.out
    ·have d7:decide (last<x)=false:=FC D
     have U:Hid (∀n∈L.take (k+1),¬ (last<n/\AA m (ch++[n])=true)):=fun n I=>by
      rw [J.out,za0,zar] at I;rcases I with I | rfl
      ·exact hN.out n I
      ·rintro ⟨h1,h2⟩;exact D h1
     clear D
     go_wp2_with fail
     go_roundw
     case rel=>exact ⟨k+1,a0,by go_num,U,E⟩
     case measure=>simp [intOf];omega
   refine zal rfl (fun K o=>?_) .nil;go_simp;have g1:Hid ((wd.alloc (.cells #[.int .i64 x] 3)).cell? ⟨wd.heap.size,0,none⟩=some (.int .i64 x)):=zy _ _ _ (by simp);refine zaJ o (zH.alloc _) fun zH=>?_;clear o K;try simp only [zc,Fv]
   refine BO 0 fun K o=>?_;go_simp;have c6:Hid (zQ ((wd.alloc (.cells #[.int .i64 x] 3)).alloc (.cells #[] 3)) wd.heap.size (.slice (some ⟨wd.heap.size+1,0,none⟩) 0 0) []):=by have h:=Bw (wd.alloc (.cells #[.int .i64 x] 3)) wd.heap.size ((za.refl wd).alloc (.cells #[.int .i64 x] 3)).size;exact (show zQ _ _ _ _ by simpa using h)
   have e7:Hid (((wd.alloc (.cells #[.int .i64 x] 3)).alloc (.cells #[] 3)).cell? ⟨wd.heap.size,0,none⟩=some (.int .i64 x)):=za.cell g1.out ((za.refl _).alloc _);refine zaJ o (zH.alloc _) fun zH=>?_;clear o K;try simp only [zc,Fv]
   refine BO 2 fun K o=>?_;have a2:za wd ((wd.alloc (.cells #[.int .i64 x] 3)).alloc (.cells #[] 3)):=((za.refl wd).alloc (.cells #[.int .i64 x] 3)).alloc (.cells #[] 3);refine zE (ok:=okc) (by rfl) _ _ _ (by rfl) wd.heap.size [] ch _ _ (by rfl) (by rfl) c6.out (d9.out.below (a1.trans a2)) a2.size (by simp;omega) ?_;intro v12 w12 b6 d5 f6;have f1:za wd w12:=zK a2 d5 a2.size (fun k hk=>Ad c6.out hk);rw [List.nil_append] at b6;have b8:=zh b6;have g3:Hid (w12.cell? ⟨wd.heap.size,0,none⟩=some (.int .i64 x)):=(World.grownBy.cell_far d5.out _ (zo e7.out) (by intro e;simp [Value.ownBlock] at e)).trans e7.out;obtain ⟨A12,n12,cc12,rfl⟩:=AI b6;clear b6 d5 f6;refine zaJ o (G.trans (O.trans f1)) fun zH=>?_;clear o K;try simp only [zc,Fv]
   refine BO 8 fun K o=>?_;have a8:za wd w12:=f1;refine zE (ok:=fun _=>True) (by rfl) _ _ _ (by rfl) wd.heap.size ch [x] _ _ (by rfl) (by rfl) b8.out (CB g3.out) a8.size (by simp;omega) ?_;intro vn w9 d6 f3 f7;have a5:za wd w9:=zK a8 f3 a8.size (fun k hk=>Ad b8.out hk);have a4:=zh d6;obtain ⟨A9,n9,c9,rfl⟩:=AI d6;clear d6 f3 f7;refine zaJ o (G.trans (O.trans a5)) fun zH=>?_;clear o K;try simp only [zc,Fv]
   refine BO 9 fun K o=>?_;go_simp;refine zaJ o (zH) fun zH=>?_;clear o K;try simp only [zc,Fv]
   refine zao (by kernel_rfl) ?_ _;have E:za w1 w9:=G.trans (O.trans a5);have a7:za w w9:=e6.trans E;have a6:w.heap.size<=wd.heap.size:=a1.size;clear O a1 zH;by_cases D:last<x
   ·have d7:decide (last<x)=true:=FB D;have a3:=zh (d8.out D);clear D
    go_wp2_with fail
    refine (Ee w9 (e1.out.below a7) HG.out HL.out (AS.of_own a4.out) e0.out).mono ?_;rintro e wz ⟨rfl,V⟩
    cases M:AA m (ch++[x])
    ·have U:Hid (∀n∈L.take (k+1),¬ (last<n/\AA m (ch++[n])=true)):=fun n I=>by
      rw [J.out,za0,zar] at I;rcases I with I | rfl
      ·exact hN.out n I
      ·rintro ⟨h1,h2⟩;rw [M] at h2;cases h2
     clear M
     go_wp2_with fail
     go_roundw
     case rel=>exact ⟨k+1,a0,by go_num,U,E.trans V⟩
     case measure=>simp [intOf];omega
    ·have hA:=a3.out M;have Q:Hid (AftPost w m ch last (.returned (.tuple #[.slice A9 n9 c9,.bool true])) wz):=⟨a7.trans V,.inl ⟨x,_,hA,rfl,((show zg w9 (fun b=>wd.heap.size<=b) (.slice A9 n9 c9) (ch++[x]) from AS.of_own a4.out).below V).weaken fun b hb=>FA a6 hb⟩⟩;clear M hA
     go_wp2_with fail
     go_ret2
     exact Q.out
   ·have d7:decide (last<x)=false:=FC D
    have U:Hid (∀n∈L.take (k+1),¬ (last<n/\AA m (ch++[n])=true)):=fun n I=>by
     rw [J.out,za0,zar] at I;rcases I with I | rfl
     ·exact hN.out n I
     ·rintro ⟨h1,h2⟩;exact D h1
    clear D
    go_wp2_with fail
    go_roundw
    case rel=>exact ⟨k+1,a0,by go_num,U,E⟩
    case measure=>simp [intOf];omega
  ·obtain rfl:k=L.length:=by omega
   have hA:aft m ch last=none:=aft_none f4.out (by have:=hN.out;rwa [FJ] at this);have Q:Hid (AftPost w m ch last (.returned (.tuple #[.slice none 0 0,.bool false])) wk):=⟨i5,.inr ⟨hA,rfl⟩⟩;clear hA
   go_wp2_with fail
   go_ret2
   exact Q.out
end
end Go.Proofs.YtjomnbdjajjgfaaGreatDoor
