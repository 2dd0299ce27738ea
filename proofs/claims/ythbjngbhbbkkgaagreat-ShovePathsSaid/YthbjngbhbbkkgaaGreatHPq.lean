import Derived.Test.YthbjngbhbbkkgaaGreatHPp
set_option linter.unusedVariables false
set_option linter.unusedSimpArgs false
set_option maxRecDepth 100000
set_option maxHeartbeats 16000000
namespace Go.Proofs.YthbjngbhbbkkgaaGreat
variable {t:Int} {ps:List (List Int)} {m:MZ} {b base n:Nat} {ok ok1 ok2:Nat->Prop} {f u v v0 v1:Value} {W w:World}
section
open Go.RowKit
attribute [local go_sem ↓] Go.wp_at_zero Go.wp_at_succ
theorem Cl {a:Act} {g:Nat} {x0 x1 x2 x3 x4 x5:Value} {R:Ending->World->Prop} (o:a.tmps[4]?=some (.pointer (some ⟨g,0,none⟩))) (z:a.defers=[]) (s:zg W g 32 #[x0,x1,x2,x3,x4,x5]) (h:R (.returned (.agg #[x0,x1,x2,x3,x4,x5])) W):bodyPost Tryz.prog Tryz.f17 R Exit.ret a W:=by
 obtain ⟨c0,c1,c2,c3,c4,c5⟩:=zn s;have e:a.tmps.getD 4 undef=.pointer (some ⟨g,0,none⟩):=by rw [Array.getD_eq_getD_getElem?,o];rfl
 exact FK (v:=.agg #[x0,x1,x2,x3,x4,x5]) (by simp [results,Tryz.results17,go_sem,o,e,c0,c1,c2,c3,c4,c5]) z h
theorem odd_calls {okm:Nat->Prop} {A Y:Int} {K:Nat} (o0 o1 o2:Int) (w:World) (hm:zt w okm v m) (hb:OB m A Y K) (hA:0<=A/\A<=100) (hY:0<=Y/\Y<=1000) (I:K<=100):
  Calls Tryz.prog 17 #[v,.agg #[.int .i64 o0,.int .i64 o1,.int .i64 o2]] w (Ce w (A+6) (100*Y) (K+20)):=by
 obtain ⟨hA0,hA1⟩:=hA;obtain ⟨f2,o8⟩:=hY;have x5:=hm.bound;obtain ⟨vfr,vup,vts,rfl,w4,r8,x8⟩:=x5;clear hm;obtain ⟨vsf,m6,k9⟩:=w4;obtain ⟨vst,m7,l0⟩:=x8;have t8:=zh (each_one m6 k9 fun u x h=>bools_oneCell h);have t9:=zh (tasks_one m7 rfl l0);have n6:=zh m6;have s7:=zh k9;have v3:=zh m7;have s8:=zh l0;have n7:=zh r8;obtain ⟨Af,cf,rfl,A5,-⟩:=m6;obtain ⟨At,ct,rfl,A6,-⟩:=m7;obtain ⟨Au,cu,rfl,A7,-⟩:=r8;have t7:=zh hb;obtain ⟨⟨r9,s2⟩,⟨q7,q8⟩,⟨r5,r6⟩,x1,x3,x2,-⟩:=hb;clear k9 l0
 go_enter Tryz.func17,Tryz.ntmps17
 go_upto_region 2 with fail;obtain ⟨wA,e8⟩:=zak (((w.alloc (.cells #[.int .i64 m.w,.int .i64 m.h,.int .i64 m.l,.slice Af m.free.length cf,.slice Au m.up.length cu,.slice At m.tasks.length ct] 32)).alloc (.cells #[.int .i64 o0,.int .i64 o1,.int .i64 o2] 24)).alloc (.cells #[.int .i64 0,.int .i64 0,.int .i64 0,.slice none 0 0,.slice none 0 0,.slice none 0 0] 32));have k3:zg wA w.heap.size 32 #[.int .i64 m.w,.int .i64 m.h,.int .i64 m.l,.slice Af m.free.length cf,.slice Au m.up.length cu,.slice At m.tasks.length ct]:=by rw [e8];exact ((zg.new _ _ _ rfl).alloc _).alloc _
 have i5:zg wA (w.heap.size+1) 24 #[.int .i64 o0,.int .i64 o1,.int .i64 o2]:=by rw [e8];exact (zg.new _ _ _ (by simp)).alloc _
 have k4:zg wA (w.heap.size+2) 32 #[.int .i64 0,.int .i64 0,.int .i64 0,.slice none 0 0,.slice none 0 0,.slice none 0 0]:=by rw [e8];exact zg.new _ _ _ (by simp)
 have o4:zb w wA:=by rw [e8];exact (((zb.refl w).alloc _).alloc _).alloc _
 have x7:wA.heap.size=w.heap.size+3:=by rw [e8];simp
 rw [<-e8];clear e8;obtain ⟨b5,o9⟩:=zak (w.heap.size+2+1);obtain ⟨b4,k8⟩:=zak (w.heap.size+2);obtain ⟨b3,k7⟩:=zak (w.heap.size+1);obtain ⟨b2,k6⟩:=zak w.heap.size;rw [<-o9,<-k8,<-k7,<-k6];rw [<-k6] at k3;rw [<-k7] at i5;rw [<-k8] at k4;generalize n1:wA.alloc (.cells #[.int .i64 m.w,.int .i64 m.h,.int .i64 m.l,.slice Af m.free.length cf,.slice Au m.up.length cu,.slice At m.tasks.length ct] 32)=w5;have d9:zb wA w5:=by rw [<-n1];exact (zb.refl _).alloc _
 have n9:zg w5 b5 32 #[.int .i64 m.w,.int .i64 m.h,.int .i64 m.l,.slice Af m.free.length cf,.slice Au m.up.length cu,.slice At m.tasks.length ct]:=by rw [<-n1];exact zg.new _ _ _ (by omega)
 have U:Hid (wA.heap.size=b5/\b4<b5/\w.heap.size<=b4/\b4+1=wA.heap.size):=⟨by omega,by omega,by omega,by omega⟩;have b0:=zh o4;have s5:=zh d9;have c0:=zh k4;obtain ⟨m0,m1,m2,m3,m4,m5⟩:=zn k3;have q0:=zb.rule m0;have q1:=zb.rule m1;have q2:=zb.rule m2;have q3:=zb.rule m3;have q4:=zb.rule m4;have q5:=zb.rule m5;have s0:∀W,zb wA W->W.cell? ⟨b3,0,none⟩=some (.int .i64 o0):=zb.rule (i5.cell (k:=0) rfl);have s1:∀W,zb wA W->W.cell? ⟨b3,1,none⟩=some (.int .i64 o1):=zb.rule (i5.cell (k:=1) rfl);have j7:=zh n9;clear m0 m1 m2 m3 m4 m5 k3 i5 k4 n1 x7 o9 k8 k7 k6 o4 n9;have A4:=Ah wA
 go_wp2_with (at_builtin;refine Bd rfl _ _ _ eTask rfl wA.heap.size 0 m.tasks.length [] _ _ _ rfl rfl (Ei w5 wA.heap.size _ _ d9.size) (v3.out.below (b0.out.trans (d9.alloc _))) t9.out (EP d9.size (by simp)) (by unfold maxLen;omega) (by omega) ?_)
 intro vT w6 e5 j5 m9;clear m9;have e0:(w5.alloc (.cells #[] 56)).grownBy w6 (some w5.heap.size):=j5;clear j5;have l5:=zd j7.out;have h6:zg w6 b5 32 #[.int .i64 m.w,.int .i64 m.h,.int .i64 m.l,.slice Af m.free.length cf,.slice Au m.up.length cu,.slice At m.tasks.length ct]:=((e0.block b5 (by simp;omega) (fun e=>by injection e with e;omega)).trans (Ff _ _ _ l5)).trans j7.out;have o3:zb wA w6:=(d9.alloc _).grown e0 (EP d9.size (by simp)) (fun k Z=>by injection Z with Z;have:=d9.size;omega);have c6:w6.cell? ⟨b5,5,none⟩=some (.slice At m.tasks.length ct):=h6.cell (k:=5) rfl;have f6:w6.frozen? ⟨b5,5,none⟩=false:=h6.frozen 5;have b8:=zh e5;have t4:=zh e0;have H6:=zh h6;have s6:=zh o3;obtain ⟨AT,cT,rfl,-⟩:=zV.of_own e5;clear e5 e0 h6 l5;go_upto_region 3 with fail;generalize h9:w6.setCell ⟨b5,5,none⟩ (.slice AT m.tasks.length cT)=w7;have i6:zb wA w7:=by rw [<-h9];exact s6.out.setCell (p:=⟨b5,5,none⟩) (show wA.heap.size<=b5 by have:=U.out.1;omega) _
 have h7:zg w7 b5 32 #[.int .i64 m.w,.int .i64 m.h,.int .i64 m.l,.slice Af m.free.length cf,.slice Au m.up.length cu,.slice AT m.tasks.length cT]:=by rw [<-h9];exact H6.out.set (k:=5) _
 have r7:w7.heap.size=w6.heap.size:=by rw [<-h9];simp [World.setCell]
 have n8:=zh h9;have v4:=zh r7;clear h9 c6 f6 o3 d9 r7
 go_wp2_with (at_builtin;refine Bd rfl _ _ _ eBools rfl wA.heap.size 0 m.free.length [] _ _ _ rfl rfl (Ei w7 wA.heap.size _ _ i6.size) (n6.out.below (b0.out.trans (i6.alloc _))) t8.out (EP i6.size (by simp)) (by unfold maxLen;omega) (by omega) ?_)
 intro vF w8 b6 j4 m9;clear m9;have a8:(w7.alloc (.cells #[] 29)).grownBy w8 (some w7.heap.size):=j4;clear j4;have l7:=zd h7;have h8:zg w8 b5 32 #[.int .i64 m.w,.int .i64 m.h,.int .i64 m.l,.slice Af m.free.length cf,.slice Au m.up.length cu,.slice AT m.tasks.length cT]:=((a8.block b5 (by simp;omega) (fun e=>by injection e with e;omega)).trans (Ff _ _ _ l7)).trans h7;have c8:w8.cell? ⟨b5,3,none⟩=some (.slice Af m.free.length cf):=h8.cell (k:=3) rfl;have f8:w8.frozen? ⟨b5,3,none⟩=false:=h8.frozen 3;have o6:=t7.out.te
 have b9:OS wA (w8.setCell ⟨b5,3,none⟩ vF) wA.heap.size b5 m.free.length m.tasks.length K m.w m.h m.l vF (.slice Au m.up.length cu) (.slice AT m.tasks.length cT) vsf vst:=by
  have p8:=a8;rw [<-n8.out] at p8;refine OS.start (o2:=.cells #[] 29) rfl (by have:=U.out.1;omega) (w5:=w5) (vF0:=.slice Af m.free.length cf) (vT0:=.slice At m.tasks.length ct) s5.out j7.out b8.out t4.out b6 ?_ (fun u hu=>?_) (fun j hj=>?_) ⟨m.up,x3,?_⟩ x1 x2
  ·rw [v4.out,<-n8.out] at a8;exact a8
  ·obtain ⟨i,hi,rfl⟩:=Fu hu;obtain ⟨_,_,_,_,hl,_⟩:=n6.out;obtain ⟨u',h1,h2⟩:=s7.out i _ (EL (by omega));rw [EL hi] at h1;injection h1 with h1;exact ⟨_,by rw [h1];exact (h2.below b0.out).weaken fun b hb=>by have:=hb.2;have:=U.out;omega⟩
  ·obtain ⟨s,u1,u2,h0,h1,h2,h3,h4⟩:=s8.out j _ (EL hj);have:=o6 _ (EO hj);exact ⟨s,u1,u2,h0,h1,h2,⟨_,this.1,.inl ((h3.below b0.out).weaken fun b hb=>by have:=hb.2;have:=U.out;omega)⟩,⟨_,this.2,.inl ((h4.below b0.out).weaken fun b hb=>by have:=hb.2;have:=U.out;omega)⟩⟩
  ·exact (n7.out.below b0.out).weaken fun b hb=>by have:=hb.2;have:=U.out;omega
 have D:=zh b9;obtain ⟨AF,cF,rfl,-⟩:=zV.of_own b6;clear b9 o6 b6 a8 h8 l7 h7 i6;go_upto_region 4 with fail;clear c8 f8;generalize w8.setCell ⟨b5,3,none⟩ (.slice AF m.free.length cF)=w9 at*;have a9:zb wA w9:=D.out.ext
 go_wp2_with fail
 refine (mod_calls o1 7 w9 (by omega) (by omega)).mono ?_;rintro e w' ⟨rfl,rfl⟩;obtain ⟨n,hn⟩:=zak (o1 % 7 - 2);have B3:-2<=n/\n<=4:=by have:=Int.emod_nonneg o1 (show (7:Int)≠0 by omega);have:=Int.emod_lt_of_pos o1 (show (0:Int)<7 by omega);omega
 have B4:IntKind.i64.wrap (o1 % 7 - 2)=n:=by rw [Fi];omega
 have y9:o1 % 7 - 2=n:=hn.symm;clear hn
 go_wp2_with fail
 refine (mod_calls o0 8 w9 (by omega) (by omega)).mono ?_;rintro e w' ⟨rfl,rfl⟩;obtain ⟨d,hd⟩:=zak (o0 % 8);have w3:d=0\/d=1\/d=2\/d=3\/d=4\/d=5\/d=6\/d=7:=by have:=Int.emod_nonneg o0 (show (8:Int)≠0 by omega);have:=Int.emod_lt_of_pos o0 (show (0:Int)<8 by omega);omega
 rw [<-hd];clear hd s0 s1;rcases w3 with rfl | rfl | rfl | rfl | rfl | rfl | rfl | rfl
 ·have m0:w9.cell? ⟨b5,0,none⟩=some (.int .i64 m.w):=D.out.blk.cell (k:=0) rfl;have hf:∀j,w9.frozen? ⟨b5,j,none⟩=false:=fun j=>D.out.blk.frozen j
  have y3:IntKind.i64.wrap (m.w+n)=m.w+n:=by rw [Fi];omega
  have o:=((D.out.setI 0 (m.w+n) rfl).more (K':=K+20) (by omega)).fin (A:=A+6) (Y:=100*Y) (by omega) (by omega) (by omega);have a5:=zh o;clear o;go_upto_region 29 with fail;generalize w9.setCell ⟨b5,0,none⟩ (.int .i64 (m.w+n))=wc at*;have o:=a5.out
  try clear D
  obtain ⟨m',vF',vU',vT',L,M,O,z⟩:=o;have a6:=zh M;have J:=zh O;have a4:=zh z;obtain ⟨f',u',t',e',⟨_,⟨A1,c1,rfl,-⟩,-⟩,⟨A2,c2,rfl,-⟩,⟨_,⟨A3,c3,rfl,-⟩,-⟩⟩:=M;injection e' with e';injection e' with e';simp only [List.cons.injEq,and_true,true_and] at e';obtain ⟨rfl,rfl,rfl⟩:=e';obtain ⟨m0,m1,m2,m3,m4,m5⟩:=zn L;have E:zg wc b4 32 #[.int .i64 0,.int .i64 0,.int .i64 0,.slice none 0 0,.slice none 0 0,.slice none 0 0]:=c0.out.ext z;obtain ⟨z0,z1,z2,z3,z4,z5⟩:=zn E;have hfz:∀j,wc.frozen? ⟨b4,j,none⟩=false:=fun j=>E.frozen j
  have a3:=zh E;clear L O z E
  go_wp2_with fail
  refine zX (P:=fun W=>bodyPost Tryz.prog Tryz.f17 (Ce w (A+6) (100*Y) (K+20)) Exit.ret _ W) (g2:=b4) ?_ a3.out;intro WZ a7 Q Z
  exact Cl rfl rfl a7
   ⟨_,m',rfl,Below.trans (b0.out.trans a4.out) (Q.mono U.out.2.2.1),(a6.out.keep (w':=WZ) (fun b hb a1=>Z b a1 (by have:=U.out.2.2.2;omega))).weaken (fun _ _=>trivial),J.out⟩
 ·have m0:w9.cell? ⟨b5,2,none⟩=some (.int .i64 m.l):=D.out.blk.cell (k:=2) rfl;have hf:∀j,w9.frozen? ⟨b5,j,none⟩=false:=fun j=>D.out.blk.frozen j
  have o:=((D.out.setI 2 n rfl).more (K':=K+20) (by omega)).fin (A:=A+6) (Y:=100*Y) (by omega) (by omega) (by omega);have a5:=zh o;clear o;go_upto_region 29 with fail;generalize w9.setCell ⟨b5,2,none⟩ (.int .i64 n)=wc at*;have o:=a5.out
  try clear D
  obtain ⟨m',vF',vU',vT',L,M,O,z⟩:=o;have a6:=zh M;have J:=zh O;have a4:=zh z;obtain ⟨f',u',t',e',⟨_,⟨A1,c1,rfl,-⟩,-⟩,⟨A2,c2,rfl,-⟩,⟨_,⟨A3,c3,rfl,-⟩,-⟩⟩:=M;injection e' with e';injection e' with e';simp only [List.cons.injEq,and_true,true_and] at e';obtain ⟨rfl,rfl,rfl⟩:=e';obtain ⟨m0,m1,m2,m3,m4,m5⟩:=zn L;have E:zg wc b4 32 #[.int .i64 0,.int .i64 0,.int .i64 0,.slice none 0 0,.slice none 0 0,.slice none 0 0]:=c0.out.ext z;obtain ⟨z0,z1,z2,z3,z4,z5⟩:=zn E;have hfz:∀j,wc.frozen? ⟨b4,j,none⟩=false:=fun j=>E.frozen j
  have a3:=zh E;clear L O z E
  go_wp2_with fail
  refine zX (P:=fun W=>bodyPost Tryz.prog Tryz.f17 (Ce w (A+6) (100*Y) (K+20)) Exit.ret _ W) (g2:=b4) ?_ a3.out;intro WZ a7 Q Z
  exact Cl rfl rfl a7
   ⟨_,m',rfl,Below.trans (b0.out.trans a4.out) (Q.mono U.out.2.2.1),(a6.out.keep (w':=WZ) (fun b hb a1=>Z b a1 (by have:=U.out.2.2.2;omega))).weaken (fun _ _=>trivial),J.out⟩
 ·have m0:w9.cell? ⟨b5,1,none⟩=some (.int .i64 m.h):=D.out.blk.cell (k:=1) rfl;have hf:∀j,w9.frozen? ⟨b5,j,none⟩=false:=fun j=>D.out.blk.frozen j
  have y3:IntKind.i64.wrap (m.h*100)=m.h*100:=by rw [Fi];omega
  have o:=((D.out.setI 1 (m.h*100) rfl).more (K':=K+20) (by omega)).fin (A:=A+6) (Y:=100*Y) (by omega) (by omega) (by omega);have a5:=zh o;clear o;go_upto_region 29 with fail;generalize w9.setCell ⟨b5,1,none⟩ (.int .i64 (m.h*100))=wc at*;have o:=a5.out
  try clear D
  obtain ⟨m',vF',vU',vT',L,M,O,z⟩:=o;have a6:=zh M;have J:=zh O;have a4:=zh z;obtain ⟨f',u',t',e',⟨_,⟨A1,c1,rfl,-⟩,-⟩,⟨A2,c2,rfl,-⟩,⟨_,⟨A3,c3,rfl,-⟩,-⟩⟩:=M;injection e' with e';injection e' with e';simp only [List.cons.injEq,and_true,true_and] at e';obtain ⟨rfl,rfl,rfl⟩:=e';obtain ⟨m0,m1,m2,m3,m4,m5⟩:=zn L;have E:zg wc b4 32 #[.int .i64 0,.int .i64 0,.int .i64 0,.slice none 0 0,.slice none 0 0,.slice none 0 0]:=c0.out.ext z;obtain ⟨z0,z1,z2,z3,z4,z5⟩:=zn E;have hfz:∀j,wc.frozen? ⟨b4,j,none⟩=false:=fun j=>E.frozen j
  have a3:=zh E;clear L O z E
  go_wp2_with fail
  refine zX (P:=fun W=>bodyPost Tryz.prog Tryz.f17 (Ce w (A+6) (100*Y) (K+20)) Exit.ret _ W) (g2:=b4) ?_ a3.out;intro WZ a7 Q Z
  exact Cl rfl rfl a7
   ⟨_,m',rfl,Below.trans (b0.out.trans a4.out) (Q.mono U.out.2.2.1),(a6.out.keep (w':=WZ) (fun b hb a1=>Z b a1 (by have:=U.out.2.2.2;omega))).weaken (fun _ _=>trivial),J.out⟩
 ·have j6:∀u∈m.up.map Value.bool,u.oneCell'=true:=by
   intro u hu;obtain ⟨_,_,rfl⟩:=zac.1 hu;rfl
  go_wp2_with (at_builtin;refine Bd rfl _ _ _ eBool rfl w9.heap.size 0 m.up.length [] _ _ _ rfl rfl (Ei w9 w9.heap.size _ _ (EN _)) (n7.out.below (b0.out.trans (a9.alloc _))) j6 (by simp) (by unfold maxLen;omega) (by omega) ?_)
  intro v1 wa l4 p5 x9;clear x9;have p6:(w9.alloc (.cells #[] 4)).grownBy wa (some w9.heap.size):=p5;have k5:zb w9 wa:=((zb.refl w9).alloc _).grown p6 (by simp) (fun k Z=>by injection Z with Z;omega);have n5:=zh l4;have j8:=zh k5;obtain ⟨A1,c1,rfl,-⟩:=zV.of_own l4;have B9:zb wA wa:=a9.trans k5;clear p5 p6 l4 j6 k5
  go_wp2_with (at_builtin;refine Bd (ok:=fun _=>True) rfl _ _ _ eBool rfl w9.heap.size m.up.length 1 _ [.bool true] _ _ rfl rfl (n5.out.alloc _) ⟨_,_,rfl,EN _,zN.block (zg.new _ _ _ rfl) trivial rfl⟩ (by simp [Value.oneCell']) (EP j8.out.size (by simp)) (by unfold maxLen;omega) (by omega) ?_)
  intro v2 wb l6 p7 y0;clear y0;have Q:zb w9 wb:=(j8.out.alloc _).grown p7 (EP j8.out.size (by simp)) (fun k Z=>(n5.out.lt k Z).1);have i7:=(D.out.grow Q).more (K':=K+20) (by omega);have t6:Hid (BW wb wA.heap.size v2 (m.up++[true])):=BW.app (World.ownsRow.mono l6 a9.size);obtain ⟨A2,c2,rfl,-⟩:=zV.of_own l6;have c4:wb.cell? ⟨b5,4,none⟩=some (.slice Au m.up.length cu):=i7.blk.cell (k:=4) rfl;have hf:∀j,wb.frozen? ⟨b5,j,none⟩=false:=fun j=>i7.blk.frozen j
  have o:=(i7.setU (by simp;omega) t6.out).fin (A:=A+6) (Y:=100*Y) (by omega) (by omega) (by omega);clear p7 l6 Q i7;have a5:=zh o;clear o;go_upto_region 29 with fail;generalize wb.setCell ⟨b5,4,none⟩ (.slice A2 (m.up.length+1) c2)=wc at*;have o:=a5.out
  try clear D
  obtain ⟨m',vF',vU',vT',L,M,O,z⟩:=o;have a6:=zh M;have J:=zh O;have a4:=zh z;obtain ⟨f',u',t',e',⟨_,⟨A1,c1,rfl,-⟩,-⟩,⟨A2,c2,rfl,-⟩,⟨_,⟨A3,c3,rfl,-⟩,-⟩⟩:=M;injection e' with e';injection e' with e';simp only [List.cons.injEq,and_true,true_and] at e';obtain ⟨rfl,rfl,rfl⟩:=e';obtain ⟨m0,m1,m2,m3,m4,m5⟩:=zn L;have E:zg wc b4 32 #[.int .i64 0,.int .i64 0,.int .i64 0,.slice none 0 0,.slice none 0 0,.slice none 0 0]:=c0.out.ext z;obtain ⟨z0,z1,z2,z3,z4,z5⟩:=zn E;have hfz:∀j,wc.frozen? ⟨b4,j,none⟩=false:=fun j=>E.frozen j
  have a3:=zh E;clear L O z E
  go_wp2_with fail
  refine zX (P:=fun W=>bodyPost Tryz.prog Tryz.f17 (Ce w (A+6) (100*Y) (K+20)) Exit.ret _ W) (g2:=b4) ?_ a3.out;intro WZ a7 Q Z
  exact Cl rfl rfl a7
   ⟨_,m',rfl,Below.trans (b0.out.trans a4.out) (Q.mono U.out.2.2.1),(a6.out.keep (w':=WZ) (fun b hb a1=>Z b a1 (by have:=U.out.2.2.2;omega))).weaken (fun _ _=>trivial),J.out⟩
 ·have m3:w9.cell? ⟨b5,3,none⟩=some (.slice AF m.free.length cF):=D.out.blk.cell (k:=3) rfl;rcases Fz m.free.length with hz | hz
  ·have i0:decide ((0:Int)<(m.free.length:Int))=false:=ER (by omega);have i1:decide (0<m.free.length)=false:=ER (by omega);have o:=(D.out.more (K':=K+20) (by omega)).fin (A:=A+6) (Y:=100*Y) (by omega) (by omega) (by omega);clear hz;have a5:=zh o;clear o;go_upto_region 29 with fail;clear m3;generalize w9=wc at*;have o:=a5.out
   try clear D
   obtain ⟨m',vF',vU',vT',L,M,O,z⟩:=o;have a6:=zh M;have J:=zh O;have a4:=zh z;obtain ⟨f',u',t',e',⟨_,⟨A1,c1,rfl,-⟩,-⟩,⟨A2,c2,rfl,-⟩,⟨_,⟨A3,c3,rfl,-⟩,-⟩⟩:=M;injection e' with e';injection e' with e';simp only [List.cons.injEq,and_true,true_and] at e';obtain ⟨rfl,rfl,rfl⟩:=e';obtain ⟨m0,m1,m2,m3,m4,m5⟩:=zn L;have E:zg wc b4 32 #[.int .i64 0,.int .i64 0,.int .i64 0,.slice none 0 0,.slice none 0 0,.slice none 0 0]:=c0.out.ext z;obtain ⟨z0,z1,z2,z3,z4,z5⟩:=zn E;have hfz:∀j,wc.frozen? ⟨b4,j,none⟩=false:=fun j=>E.frozen j
   have a3:=zh E;clear L O z E
   go_wp2_with fail
   refine zX (P:=fun W=>bodyPost Tryz.prog Tryz.f17 (Ce w (A+6) (100*Y) (K+20)) Exit.ret _ W) (g2:=b4) ?_ a3.out;intro WZ a7 Q Z
   exact Cl rfl rfl a7
    ⟨_,m',rfl,Below.trans (b0.out.trans a4.out) (Q.mono U.out.2.2.1),(a6.out.keep (w':=WZ) (fun b hb a1=>Z b a1 (by have:=U.out.2.2.2;omega))).weaken (fun _ _=>trivial),J.out⟩
  ·have i0:decide ((0:Int)<(m.free.length:Int))=true:=EQ (by omega);have i1:decide (0<m.free.length)=true:=EQ hz;obtain ⟨gF,cF',e,-,-⟩:=World.ownsRow.form D.out.F hz;injection e with e1 e2 e3;subst e1 e3;have j3:=BG D.out.F;have B6:(1:Int)<=(m.free.length:Int):=by omega
   have B7:(1:Int)<=(cF:Int):=by omega
   have B8:(m.free.length:Int)<=(cF:Int):=by omega
   have hq4:1<cF\/cF=1:=by omega
   have hf:∀j,w9.frozen? ⟨b5,j,none⟩=false:=fun j=>D.out.blk.frozen j
   rcases hq4 with hq4 | hq4
   ·have o:=(D.out.more (K':=K+20) (by omega)).drop1 rfl hz (A:=A+6) (Y:=100*Y) (by omega) (by omega) (by omega);clear e2;have a5:=zh o;clear o;go_upto_region 29 with fail;clear m3;generalize w9.setCell ⟨b5,3,none⟩ (.slice (some ⟨gF,1,none⟩) (m.free.length - 1) (cF - 1))=wc at*;have o:=a5.out
    try clear D
    obtain ⟨m',vF',vU',vT',L,M,O,z⟩:=o;have a6:=zh M;have J:=zh O;have a4:=zh z;obtain ⟨f',u',t',e',⟨_,⟨A1,c1,rfl,-⟩,-⟩,⟨A2,c2,rfl,-⟩,⟨_,⟨A3,c3,rfl,-⟩,-⟩⟩:=M;injection e' with e';injection e' with e';simp only [List.cons.injEq,and_true,true_and] at e';obtain ⟨rfl,rfl,rfl⟩:=e';obtain ⟨m0,m1,m2,m3,m4,m5⟩:=zn L;have E:zg wc b4 32 #[.int .i64 0,.int .i64 0,.int .i64 0,.slice none 0 0,.slice none 0 0,.slice none 0 0]:=c0.out.ext z;obtain ⟨z0,z1,z2,z3,z4,z5⟩:=zn E;have hfz:∀j,wc.frozen? ⟨b4,j,none⟩=false:=fun j=>E.frozen j
    have a3:=zh E;clear L O z E
    go_wp2_with fail
    refine zX (P:=fun W=>bodyPost Tryz.prog Tryz.f17 (Ce w (A+6) (100*Y) (K+20)) Exit.ret _ W) (g2:=b4) ?_ a3.out;intro WZ a7 Q Z
    exact Cl rfl rfl a7
     ⟨_,m',rfl,Below.trans (b0.out.trans a4.out) (Q.mono U.out.2.2.1),(a6.out.keep (w':=WZ) (fun b hb a1=>Z b a1 (by have:=U.out.2.2.2;omega))).weaken (fun _ _=>trivial),J.out⟩
   ·subst hq4;have o:=(D.out.more (K':=K+20) (by omega)).drop0 (some ⟨gF,0,none⟩) 0 (A:=A+6) (Y:=100*Y) (by omega) (by omega) (by omega);clear e2;have a5:=zh o;clear o;go_upto_region 29 with fail;clear m3;generalize w9.setCell ⟨b5,3,none⟩ (.slice (some ⟨gF,0,none⟩) 0 0)=wc at*;have o:=a5.out
    try clear D
    obtain ⟨m',vF',vU',vT',L,M,O,z⟩:=o;have a6:=zh M;have J:=zh O;have a4:=zh z;obtain ⟨f',u',t',e',⟨_,⟨A1,c1,rfl,-⟩,-⟩,⟨A2,c2,rfl,-⟩,⟨_,⟨A3,c3,rfl,-⟩,-⟩⟩:=M;injection e' with e';injection e' with e';simp only [List.cons.injEq,and_true,true_and] at e';obtain ⟨rfl,rfl,rfl⟩:=e';obtain ⟨m0,m1,m2,m3,m4,m5⟩:=zn L;have E:zg wc b4 32 #[.int .i64 0,.int .i64 0,.int .i64 0,.slice none 0 0,.slice none 0 0,.slice none 0 0]:=c0.out.ext z;obtain ⟨z0,z1,z2,z3,z4,z5⟩:=zn E;have hfz:∀j,wc.frozen? ⟨b4,j,none⟩=false:=fun j=>E.frozen j
    have a3:=zh E;clear L O z E
    go_wp2_with fail
    refine zX (P:=fun W=>bodyPost Tryz.prog Tryz.f17 (Ce w (A+6) (100*Y) (K+20)) Exit.ret _ W) (g2:=b4) ?_ a3.out;intro WZ a7 Q Z
    exact Cl rfl rfl a7
     ⟨_,m',rfl,Below.trans (b0.out.trans a4.out) (Q.mono U.out.2.2.1),(a6.out.keep (w':=WZ) (fun b hb a1=>Z b a1 (by have:=U.out.2.2.2;omega))).weaken (fun _ _=>trivial),J.out⟩
 ·have m5:w9.cell? ⟨b5,5,none⟩=some (.slice AT m.tasks.length cT):=D.out.blk.cell (k:=5) rfl;rcases Fz m.tasks.length with hz | hz
  ·have i0:decide ((0:Int)<(m.tasks.length:Int))=false:=ER (by omega);have i1:decide (0<m.tasks.length)=false:=ER (by omega);have o:=(D.out.more (K':=K+20) (by omega)).fin (A:=A+6) (Y:=100*Y) (by omega) (by omega) (by omega);clear hz;have a5:=zh o;clear o;go_upto_region 29 with fail;clear m5;generalize w9=wc at*;have o:=a5.out
   try clear D
   obtain ⟨m',vF',vU',vT',L,M,O,z⟩:=o;have a6:=zh M;have J:=zh O;have a4:=zh z;obtain ⟨f',u',t',e',⟨_,⟨A1,c1,rfl,-⟩,-⟩,⟨A2,c2,rfl,-⟩,⟨_,⟨A3,c3,rfl,-⟩,-⟩⟩:=M;injection e' with e';injection e' with e';simp only [List.cons.injEq,and_true,true_and] at e';obtain ⟨rfl,rfl,rfl⟩:=e';obtain ⟨m0,m1,m2,m3,m4,m5⟩:=zn L;have E:zg wc b4 32 #[.int .i64 0,.int .i64 0,.int .i64 0,.slice none 0 0,.slice none 0 0,.slice none 0 0]:=c0.out.ext z;obtain ⟨z0,z1,z2,z3,z4,z5⟩:=zn E;have hfz:∀j,wc.frozen? ⟨b4,j,none⟩=false:=fun j=>E.frozen j
   have a3:=zh E;clear L O z E
   go_wp2_with fail
   refine zX (P:=fun W=>bodyPost Tryz.prog Tryz.f17 (Ce w (A+6) (100*Y) (K+20)) Exit.ret _ W) (g2:=b4) ?_ a3.out;intro WZ a7 Q Z
   exact Cl rfl rfl a7
    ⟨_,m',rfl,Below.trans (b0.out.trans a4.out) (Q.mono U.out.2.2.1),(a6.out.keep (w':=WZ) (fun b hb a1=>Z b a1 (by have:=U.out.2.2.2;omega))).weaken (fun _ _=>trivial),J.out⟩
  ·have i0:decide ((0:Int)<(m.tasks.length:Int))=true:=EQ (by omega);have i1:decide (0<m.tasks.length)=true:=EQ hz;obtain ⟨gT,cT',e,q6,-⟩:=World.ownsRow.form D.out.T hz;injection e with e1 e2 e3;subst e1 e3;clear e2;obtain ⟨p9,f1⟩:=D.out.T.lt gT rfl;have j3:=BG D.out.T;obtain ⟨csT,f5⟩:=DU D.out.T;have j0:b5≠gT:=zg.ne_ D.out.blk f5 (by decide);have x4:b5<w9.heap.size:=zd D.out.blk;obtain ⟨s,u1,u2,t0,t1,t2,⟨l1,r3,j1⟩,⟨l2,r4,m8⟩⟩:=D.out.td 0 hz;have x6:(0:Int)<(m.tasks.length:Int):=by omega
   have d4:w9.cell? ⟨gT,1,none⟩=some u1:=(D.out.T.cellAt 1 (by omega)).trans t1;have f0:w9.cell? ⟨gT,2,none⟩=some u2:=(D.out.T.cellAt 2 (by omega)).trans t2;have f9:∀j,w9.frozen? ⟨gT,j,none⟩=false:=fun j=>D.out.T.frozenAt j
   have q9:zi w9 (fun _=>True) u1 l1:=by
    rcases j1 with h | h
    ·exact h.weaken fun _ _=>trivial
    ·exact zi.weaken (zV.of_own h) fun _ _=>trivial
   have n4:=zh q9;obtain ⟨Au1,cu1,rfl,-,-⟩:=q9;have i3:=zh f9;clear t0 t1 t2 j1 m8 f0 f9 f5
   go_wp2_with fail
   refine Fd (S:=(fun W=>W.cell? ⟨b5,5,none⟩=some (.slice (some ⟨gT,0,none⟩) m.tasks.length cT))) zU m5 fun zH=>?_;refine ze 0 zH ?_;refine ze 1 zH ?_;simp only [za,EK];refine ze 2 zH ?_;refine ze 4 zH ?_;simp only [za,EK];refine ze 5 zH ?_;refine ze 6 zH ?_;simp only [za,EK];refine ze 7 zH ?_;simp only [za,EK];refine rdA [3,8] ?_;refine Fp rfl (fun K I=>?_) ?_
   ·go_simp;refine zal I (zb.cell m5 ((zb.refl w9).drew.alloc _)) fun zH=>?_;clear I K;try simp only [za,EK]
    refine zx 8 fun K I=>?_;have d7:(w9.drew.alloc (.cells #[.int .i64 n] 3)).cell? ⟨gT,1,none⟩=some (.slice Au1 l1.length cu1):=zb.cell d4 ((zb.refl w9).drew.alloc _);go_simp;clear d7;refine zal I (zH) fun zH=>?_;clear I K;try simp only [za,EK]
    refine zx 9 fun K I=>?_;refine zB (ok:=fun _=>True) rfl _ _ _ eInt rfl w9.heap.size 1 l1.length [.int .i64 n] (l1.map (Value.int .i64)) _ _ rfl rfl (own_one w9.drew w9.heap.size 3 (.int .i64 n) (EN _)) (zi.below n4.out ((zb.refl w9).drew.alloc _)) intsOne (by simp) (by unfold maxLen;omega) (by omega) ?_;intro v9 wb d8 hg n0;clear n0;have g4:(w9.drew.alloc (.cells #[.int .i64 n] 3)).grownBy wb (some w9.heap.size):=hg;have Q:zb w9 wb:=((zb.refl w9).drew.alloc _).grown g4 (by simp) (fun k Z=>by injection Z with Z;omega);have c7:=zh Q
    have f4:Hid (zA wb wA.heap.size v9 (n :: l1)):=by
     have:=World.ownsRow.mono d8 a9.size;unfold zA;show World.ownsRow _ _ _ _ _ (l1.length+1) _;rw [Nat.add_comm];exact this
    obtain ⟨A9,c9,rfl,-⟩:=zV.of_own d8;clear d8 hg g4 Q;refine zal I (c7.out.cell m5) fun zH=>?_;clear I K;try simp only [za,EK]
    refine ze 10 zH ?_;refine ze 11 zH ?_;simp only [za,EK];refine zx 12 fun K I=>?_;have g8:wb.cell? ⟨gT,1,none⟩=some (.slice Au1 l1.length cu1):=c7.out.cell d4;have g9:wb.frozen? ⟨gT,1,none⟩=false:=(Fm (a:=⟨gT,1,none⟩) (c7.out.block gT f1)).trans (i3.out 1);go_simp;refine zal I ((Fc (a:=⟨b5,5,none⟩) (EW wb ⟨gT,1,none⟩ _ b5 j0)).trans zH) fun zH=>?_;clear I K;try simp only [za,EK]
    refine Fs (by kernel_rfl) ?_ _
    have o:OdS wA (wb.setCell ⟨gT,1,none⟩ (.slice A9 (1+l1.length) c9)) b5 (A+6) (100*Y) (K+20):=by
     have h1:=((D.out.grow c7.out).more (K':=K+20) (by omega)).setT (j:=0) (r:=1) rfl hz (.inl rfl) (x:=(.slice A9 (1+l1.length) c9)) ⟨n :: l1,by simp;omega,.inr f4.out⟩;rw [show 0*3+1=1 from rfl] at h1;exact h1.fin (by omega) (by omega) (by omega)
    clear zH m5 g8 g9 d4;have a5:=zh o;clear o;go_upto_region 29 with fail;generalize wb.setCell ⟨gT,1,none⟩ (.slice A9 (1+l1.length) c9)=wc at*;have o:=a5.out
    try clear D
    obtain ⟨m',vF',vU',vT',L,M,O,z⟩:=o;have a6:=zh M;have J:=zh O;have a4:=zh z;obtain ⟨f',u',t',e',⟨_,⟨A1,c1,rfl,-⟩,-⟩,⟨A2,c2,rfl,-⟩,⟨_,⟨A3,c3,rfl,-⟩,-⟩⟩:=M;injection e' with e';injection e' with e';simp only [List.cons.injEq,and_true,true_and] at e';obtain ⟨rfl,rfl,rfl⟩:=e';obtain ⟨m0,m1,m2,m3,m4,m5⟩:=zn L;have E:zg wc b4 32 #[.int .i64 0,.int .i64 0,.int .i64 0,.slice none 0 0,.slice none 0 0,.slice none 0 0]:=c0.out.ext z;obtain ⟨z0,z1,z2,z3,z4,z5⟩:=zn E;have hfz:∀j,wc.frozen? ⟨b4,j,none⟩=false:=fun j=>E.frozen j
    have a3:=zh E;clear L O z E
    go_wp2_with fail
    refine zX (P:=fun W=>bodyPost Tryz.prog Tryz.f17 (Ce w (A+6) (100*Y) (K+20)) Exit.ret _ W) (g2:=b4) ?_ a3.out;intro WZ a7 Q Z
    exact Cl rfl rfl a7
     ⟨_,m',rfl,Below.trans (b0.out.trans a4.out) (Q.mono U.out.2.2.1),(a6.out.keep (w':=WZ) (fun b hb a1=>Z b a1 (by have:=U.out.2.2.2;omega))).weaken (fun _ _=>trivial),J.out⟩
   refine Fp rfl (fun K I=>?_) .nil;have d7:w9.drew.cell? ⟨gT,1,none⟩=some (.slice Au1 l1.length cu1):=d4;go_simp;clear d7;refine zal I (zH) fun zH=>?_;clear I K;try simp only [za,EK]
   refine zx 3 fun K I=>?_;go_simp;refine zal I (zb.cell m5 ((zb.refl w9).drew.alloc _)) fun zH=>?_;clear I K;try simp only [za,EK]
   refine zx 9 fun K I=>?_;refine zB (ok:=fun _=>True) rfl _ _ _ eInt rfl w9.heap.size 1 l1.length [.int .i64 n] (l1.map (Value.int .i64)) _ _ rfl rfl (own_one w9.drew w9.heap.size 3 (.int .i64 n) (EN _)) (zi.below n4.out ((zb.refl w9).drew.alloc _)) intsOne (by simp) (by unfold maxLen;omega) (by omega) ?_;intro v9 wb d8 hg n0;clear n0;have g4:(w9.drew.alloc (.cells #[.int .i64 n] 3)).grownBy wb (some w9.heap.size):=hg;have Q:zb w9 wb:=((zb.refl w9).drew.alloc _).grown g4 (by simp) (fun k Z=>by injection Z with Z;omega);have c7:=zh Q
   have f4:Hid (zA wb wA.heap.size v9 (n :: l1)):=by
    have:=World.ownsRow.mono d8 a9.size;unfold zA;show World.ownsRow _ _ _ _ _ (l1.length+1) _;rw [Nat.add_comm];exact this
   obtain ⟨A9,c9,rfl,-⟩:=zV.of_own d8;clear d8 hg g4 Q;refine zal I (c7.out.cell m5) fun zH=>?_;clear I K;try simp only [za,EK]
   refine ze 10 zH ?_;refine ze 11 zH ?_;simp only [za,EK];refine zx 12 fun K I=>?_;have g8:wb.cell? ⟨gT,1,none⟩=some (.slice Au1 l1.length cu1):=c7.out.cell d4;have g9:wb.frozen? ⟨gT,1,none⟩=false:=(Fm (a:=⟨gT,1,none⟩) (c7.out.block gT f1)).trans (i3.out 1);go_simp;refine zal I ((Fc (a:=⟨b5,5,none⟩) (EW wb ⟨gT,1,none⟩ _ b5 j0)).trans zH) fun zH=>?_;clear I K;try simp only [za,EK]
   refine Fs (by kernel_rfl) ?_ _
   have o:OdS wA (wb.setCell ⟨gT,1,none⟩ (.slice A9 (1+l1.length) c9)) b5 (A+6) (100*Y) (K+20):=by
    have h1:=((D.out.grow c7.out).more (K':=K+20) (by omega)).setT (j:=0) (r:=1) rfl hz (.inl rfl) (x:=(.slice A9 (1+l1.length) c9)) ⟨n :: l1,by simp;omega,.inr f4.out⟩;rw [show 0*3+1=1 from rfl] at h1;exact h1.fin (by omega) (by omega) (by omega)
   clear zH m5 g8 g9 d4;have a5:=zh o;clear o;go_upto_region 29 with fail;generalize wb.setCell ⟨gT,1,none⟩ (.slice A9 (1+l1.length) c9)=wc at*;have o:=a5.out
   try clear D
   obtain ⟨m',vF',vU',vT',L,M,O,z⟩:=o;have a6:=zh M;have J:=zh O;have a4:=zh z;obtain ⟨f',u',t',e',⟨_,⟨A1,c1,rfl,-⟩,-⟩,⟨A2,c2,rfl,-⟩,⟨_,⟨A3,c3,rfl,-⟩,-⟩⟩:=M;injection e' with e';injection e' with e';simp only [List.cons.injEq,and_true,true_and] at e';obtain ⟨rfl,rfl,rfl⟩:=e';obtain ⟨m0,m1,m2,m3,m4,m5⟩:=zn L;have E:zg wc b4 32 #[.int .i64 0,.int .i64 0,.int .i64 0,.slice none 0 0,.slice none 0 0,.slice none 0 0]:=c0.out.ext z;obtain ⟨z0,z1,z2,z3,z4,z5⟩:=zn E;have hfz:∀j,wc.frozen? ⟨b4,j,none⟩=false:=fun j=>E.frozen j
   have a3:=zh E;clear L O z E
   go_wp2_with fail
   refine zX (P:=fun W=>bodyPost Tryz.prog Tryz.f17 (Ce w (A+6) (100*Y) (K+20)) Exit.ret _ W) (g2:=b4) ?_ a3.out;intro WZ a7 Q Z
   exact Cl rfl rfl a7
    ⟨_,m',rfl,Below.trans (b0.out.trans a4.out) (Q.mono U.out.2.2.1),(a6.out.keep (w':=WZ) (fun b hb a1=>Z b a1 (by have:=U.out.2.2.2;omega))).weaken (fun _ _=>trivial),J.out⟩
 ·have m5:w9.cell? ⟨b5,5,none⟩=some (.slice AT m.tasks.length cT):=D.out.blk.cell (k:=5) rfl;rcases Fz m.tasks.length with hz | hz
  ·have i0:decide ((0:Int)<(m.tasks.length:Int))=false:=ER (by omega);have i1:decide (0<m.tasks.length)=false:=ER (by omega);have o:=(D.out.more (K':=K+20) (by omega)).fin (A:=A+6) (Y:=100*Y) (by omega) (by omega) (by omega);clear hz;have a5:=zh o;clear o;go_upto_region 29 with fail;clear m5;generalize w9=wc at*;have o:=a5.out
   try clear D
   obtain ⟨m',vF',vU',vT',L,M,O,z⟩:=o;have a6:=zh M;have J:=zh O;have a4:=zh z;obtain ⟨f',u',t',e',⟨_,⟨A1,c1,rfl,-⟩,-⟩,⟨A2,c2,rfl,-⟩,⟨_,⟨A3,c3,rfl,-⟩,-⟩⟩:=M;injection e' with e';injection e' with e';simp only [List.cons.injEq,and_true,true_and] at e';obtain ⟨rfl,rfl,rfl⟩:=e';obtain ⟨m0,m1,m2,m3,m4,m5⟩:=zn L;have E:zg wc b4 32 #[.int .i64 0,.int .i64 0,.int .i64 0,.slice none 0 0,.slice none 0 0,.slice none 0 0]:=c0.out.ext z;obtain ⟨z0,z1,z2,z3,z4,z5⟩:=zn E;have hfz:∀j,wc.frozen? ⟨b4,j,none⟩=false:=fun j=>E.frozen j
   have a3:=zh E;clear L O z E
   go_wp2_with fail
   refine zX (P:=fun W=>bodyPost Tryz.prog Tryz.f17 (Ce w (A+6) (100*Y) (K+20)) Exit.ret _ W) (g2:=b4) ?_ a3.out;intro WZ a7 Q Z
   exact Cl rfl rfl a7
    ⟨_,m',rfl,Below.trans (b0.out.trans a4.out) (Q.mono U.out.2.2.1),(a6.out.keep (w':=WZ) (fun b hb a1=>Z b a1 (by have:=U.out.2.2.2;omega))).weaken (fun _ _=>trivial),J.out⟩
  ·have i0:decide ((0:Int)<(m.tasks.length:Int))=true:=EQ (by omega);have i1:decide (0<m.tasks.length)=true:=EQ hz;obtain ⟨gT,cT',e,q6,-⟩:=World.ownsRow.form D.out.T hz;injection e with e1 e2 e3;subst e1 e3;clear e2;obtain ⟨p9,f1⟩:=D.out.T.lt gT rfl;have j3:=BG D.out.T;obtain ⟨csT,f5⟩:=DU D.out.T;have j0:b5≠gT:=zg.ne_ D.out.blk f5 (by decide);have x4:b5<w9.heap.size:=zd D.out.blk;obtain ⟨s,u1,u2,t0,t1,t2,⟨l1,r3,j1⟩,⟨l2,r4,m8⟩⟩:=D.out.td 0 hz;have x6:(0:Int)<(m.tasks.length:Int):=by omega
   have d4:w9.cell? ⟨gT,1,none⟩=some u1:=(D.out.T.cellAt 1 (by omega)).trans t1;have f0:w9.cell? ⟨gT,2,none⟩=some u2:=(D.out.T.cellAt 2 (by omega)).trans t2;have f9:∀j,w9.frozen? ⟨gT,j,none⟩=false:=fun j=>D.out.T.frozenAt j
   have i3:=zh f9;have t5:=zh f0;clear t0 t1 t2 j1 m8 d4 f0 f9 f5;have g5:=prodB ⟨r9,s2⟩ ⟨q7,q8⟩ hA0 f2;have l8:=prodB g5 ⟨r5,r6⟩ (Int.mul_nonneg hA0 f2) hA0
   have g6:A*Y<=100000:=by
    have:=Int.mul_le_mul hA1 o8 f2 (by omega);omega
   have l9:A*Y*A<=10000000:=by
    have:=Int.mul_le_mul g6 hA1 hA0 (by omega);omega
   have i4:Hid (∀W,Calls Tryz.prog 47 #[.agg #[.int .i64 m.w,.int .i64 m.h,.int .i64 m.l,.slice Af m.free.length cf,.slice Au m.up.length cu,.slice At m.tasks.length ct]] W fun e w'=>e=.returned (.int .i64 (m.w*m.h*m.l))/\Below W.heap.size W w'):=fun W=>AA m.w m.h m.l _ _ _ W (by omega) (by omega)
   have B5:IntKind.i64.wrap (m.w*m.h*m.l+n)=m.w*m.h*m.l+n:=by rw [Fi];omega
   clear g5 l8 g6 l9
   go_wp2_with fail
   refine Fd (S:=(fun W=>zb wA W/\W.cell? ⟨b5,5,none⟩=some (.slice (some ⟨gT,0,none⟩) m.tasks.length cT))) zU ⟨a9.drew,m5⟩ fun zH=>?_;refine ze 0 zH ?_;refine ze 1 zH ?_;simp only [za,EK];refine ze 2 zH ?_;refine ze 4 zH ?_;simp only [za,EK];refine zx 3 fun K I=>?_;go_simp;go_at_call 47;refine (i4.out _).mono ?_;rintro e wn ⟨rfl,p3⟩;have o5:zb w9 wn:=Below.trans (zb.refl w9).drew p3;have i2:=zh o5;clear p3 o5;go_simp;refine zal I (⟨a9.trans i2.out,i2.out.cell m5⟩) fun zH=>?_;clear I K;try simp only [za,EK]
   refine ze 5 zH ?_;simp only [za,EK];refine zx 6 fun K I=>?_;go_simp;refine zal I (⟨zH.1.alloc _,zb.cell zH.2 ((zb.refl wn).alloc _)⟩) fun zH=>?_;clear I K;try simp only [za,EK]
   have c7:Hid (zb w9 (wn.alloc (.cells #[.int .i64 (m.w*m.h*m.l+n)] 3))):=i2.out.alloc _;have f4:Hid (zA (wn.alloc (.cells #[.int .i64 (m.w*m.h*m.l+n)] 3)) wA.heap.size (.slice (some ⟨wn.heap.size,0,none⟩) 1 1) [m.w*m.h*m.l+n]):=own_one wn wA.heap.size 3 _ (EP a9.size i2.out.size);generalize y2:wn.alloc (.cells #[.int .i64 (m.w*m.h*m.l+n)] 3)=wb at*;generalize wn.heap.size=gn at*;clear y2;refine ze 7 zH ?_;refine ze 8 zH ?_;simp only [za,EK];refine zx 9 fun K I=>?_;have g8:wb.cell? ⟨gT,2,none⟩=some u2:=c7.out.cell t5.out;have g9:wb.frozen? ⟨gT,2,none⟩=false:=(Fm (a:=⟨gT,2,none⟩) (c7.out.block gT f1)).trans (i3.out 2);go_simp;refine zal I (⟨zH.1.setCell (p:=⟨gT,2,none⟩) (show wA.heap.size<=gT by omega) _,(Fc (a:=⟨b5,5,none⟩) (EW wb ⟨gT,2,none⟩ _ b5 j0)).trans zH.2⟩) fun zH=>?_;clear I K;try simp only [za,EK]
   refine Fs (by kernel_rfl) ?_ _
   have o:OdS wA (wb.setCell ⟨gT,2,none⟩ (.slice (some ⟨gn,0,none⟩) 1 1)) b5 (A+6) (100*Y) (K+20):=by
    have h1:=((D.out.grow c7.out).more (K':=K+20) (by omega)).setT (j:=0) (r:=2) rfl hz (.inr rfl) (x:=(.slice (some ⟨gn,0,none⟩) 1 1)) ⟨_,by simp,.inr f4.out⟩;rw [show 0*3+2=2 from rfl] at h1;exact h1.fin (by omega) (by omega) (by omega)
   clear zH m5 g8 g9;have a5:=zh o;clear o;go_upto_region 29 with fail;generalize wb.setCell ⟨gT,2,none⟩ (.slice (some ⟨gn,0,none⟩) 1 1)=wc at*;have o:=a5.out
   try clear D
   obtain ⟨m',vF',vU',vT',L,M,O,z⟩:=o;have a6:=zh M;have J:=zh O;have a4:=zh z;obtain ⟨f',u',t',e',⟨_,⟨A1,c1,rfl,-⟩,-⟩,⟨A2,c2,rfl,-⟩,⟨_,⟨A3,c3,rfl,-⟩,-⟩⟩:=M;injection e' with e';injection e' with e';simp only [List.cons.injEq,and_true,true_and] at e';obtain ⟨rfl,rfl,rfl⟩:=e';obtain ⟨m0,m1,m2,m3,m4,m5⟩:=zn L;have E:zg wc b4 32 #[.int .i64 0,.int .i64 0,.int .i64 0,.slice none 0 0,.slice none 0 0,.slice none 0 0]:=c0.out.ext z;obtain ⟨z0,z1,z2,z3,z4,z5⟩:=zn E;have hfz:∀j,wc.frozen? ⟨b4,j,none⟩=false:=fun j=>E.frozen j
   have a3:=zh E;clear L O z E
   go_wp2_with fail
   refine zX (P:=fun W=>bodyPost Tryz.prog Tryz.f17 (Ce w (A+6) (100*Y) (K+20)) Exit.ret _ W) (g2:=b4) ?_ a3.out;intro WZ a7 Q Z
   exact Cl rfl rfl a7
    ⟨_,m',rfl,Below.trans (b0.out.trans a4.out) (Q.mono U.out.2.2.1),(a6.out.keep (w':=WZ) (fun b hb a1=>Z b a1 (by have:=U.out.2.2.2;omega))).weaken (fun _ _=>trivial),J.out⟩
 ·have H0:Hid (OS wA w9 wA.heap.size b5 m.free.length m.tasks.length (K+20) m.w m.h m.l (.slice AF m.free.length cF) (.slice Au m.up.length cu) (.slice AT m.tasks.length cT) vsf vst):=D.out.more (by omega);have g5:=prodB ⟨r9,s2⟩ ⟨q7,q8⟩ hA0 f2;have l8:=prodB g5 ⟨r5,r6⟩ (Int.mul_nonneg hA0 f2) hA0
  have g6:A*Y<=100000:=by
   have:=Int.mul_le_mul hA1 o8 f2 (by omega);omega
  have l9:A*Y*A<=10000000:=by
   have:=Int.mul_le_mul g6 hA1 hA0 (by omega);omega
  have i4:Hid (∀W,Calls Tryz.prog 47 #[.agg #[.int .i64 m.w,.int .i64 m.h,.int .i64 m.l,.slice Af m.free.length cf,.slice Au m.up.length cu,.slice At m.tasks.length ct]] W fun e w'=>e=.returned (.int .i64 (m.w*m.h*m.l))/\Below W.heap.size W w'):=fun W=>AA m.w m.h m.l _ _ _ W (by omega) (by omega)
  clear g5 l8 g6 l9 D a9
  go_wp2_with fail
  go_loopg [7] 8 (fun gk v wr=>∃(k nF nT:Nat) (vF vT:Value) (fs ts:List Value),v=.int .i64 k/\k<=8/\gk=8 - k/\nF<=K+k/\nT<=K+k/\Hid (OS wA wr wA.heap.size b5 nF nT (K+20) m.w m.h m.l vF (.slice Au m.up.length cu) vT fs ts))
  case atStart=>exact ⟨0,_,_,_,_,_,_,rfl,by omega,rfl,by omega,by omega,H0.out⟩
  clear H0
  case round=>
   obtain ⟨k,nF,nT,vF,vT,fs,ts,rfl,B0,rfl,B1,B2,hQ⟩:=hrel;obtain ⟨wr9,rfl⟩:∃wr9:World,wr9=wr:=⟨_,rfl⟩;have z6:IntKind.i64.wrap (4+n)=4+n:=by rw [Fi];omega
   rcases Int.lt_or_le (k:Int) (4+n) with a1 | hge
   ·have w0:decide ((k:Int)<4+n)=true:=EQ a1;have a9:zb wA wr9:=hQ.out.ext;have c5:wr9.cell? ⟨b5,5,none⟩=some vT:=hQ.out.blk.cell (k:=5) rfl;obtain ⟨AT2,cT2,rfl,-⟩:=zV.of_own hQ.out.T
    go_wp2_with (at_builtin;refine Bd (ok:=fun _=>True) rfl _ _ _ eTask rfl wA.heap.size nT 1 ts [.string ⟨#[]⟩,.slice none 0 0,.slice none 0 0] _ _ rfl rfl (hQ.out.T.alloc _) (row3 wr9 _ _ _ _) (by simp [Value.oneCell']) (EP a9.size (by simp)) (by unfold maxLen;omega) (by omega) ?_)
    intro vT' w5 e5 e0 y1;clear y1
    have o7:=hQ.out.addT e5 e0 (by omega) (fun w2 Z hs j hj=>by
     have y7:ts.length=nT*3:=hQ.out.T.1;rcases Fk j nT with h1 | h1
     ·obtain ⟨s,u1,u2,h2,h3,h4,h5,h6⟩:=hQ.out.td.keep Z j h1;exact ⟨s,u1,u2,by rw [ES (by omega)];exact h2,by rw [ES (by omega)];exact h3,by rw [ES (by omega)];exact h4,h5,h6⟩
     ·obtain rfl:j=nT:=by omega
      exact ⟨⟨#[]⟩,.slice none 0 0,.slice none 0 0,by rw [ET (by omega),show j*3 - ts.length=0 from by omega];rfl,by rw [ET (by omega),show j*3+1 - ts.length=1 from by omega];rfl,by rw [ET (by omega),show j*3+2 - ts.length=2 from by omega];rfl,⟨[],Fb _,.inl (zi.nil _ _)⟩,⟨[],Fb _,.inl (zi.nil _ _)⟩⟩)
    have V:w5.heap[b5]?=wr9.heap[b5]?:=(e0.block b5 (by have:=zd hQ.out.blk;simp;omega) (fun e=>zj hQ.out.T hQ.out.blk (by decide) e.symm)).trans (Ff _ _ _ (zd hQ.out.blk));have c5':w5.cell? ⟨b5,5,none⟩=some (.slice AT2 nT cT2):=(Fc (a:=⟨b5,5,none⟩) V).trans c5;have f5':w5.frozen? ⟨b5,5,none⟩=false:=(Fm (a:=⟨b5,5,none⟩) V).trans (hQ.out.blk.frozen 5);have b8:=zh o7;obtain ⟨AT3,cT3,rfl,-⟩:=zV.of_own e5;clear o7 e5 e0 V c5;go_upto_region 28 with fail;clear c5' f5';generalize w5.setCell ⟨b5,5,none⟩ (.slice AT3 (nT+1) cT3)=wq at*;have f3:zb wA wq:=b8.out.ext;have c3:wq.cell? ⟨b5,3,none⟩=some vF:=b8.out.blk.cell (k:=3) rfl;have i8:wq.frozen? ⟨b5,3,none⟩=false:=b8.out.blk.frozen 3;obtain ⟨AF2,cF2,rfl,-⟩:=zV.of_own b8.out.F;clear a9;obtain ⟨N,hN⟩:∃N:Nat,(N:Int)=min 300 (max 0 (m.w*m.h*m.l)):=⟨(min 300 (max 0 (m.w*m.h*m.l))).toNat,by omega⟩;have z9:N<=300:=by omega
    have i9:∀W:World,(Instr.makeSlice 29 (.int .i64 (min 300 (max 0 (m.w*m.h*m.l)))) (.int .i64 (min 300 (max 0 (m.w*m.h*m.l))))).run Tryz.prog W=.ok (.slice (some ⟨W.heap.size,0,none⟩) N N) (W.alloc (.cells (madeCells #[.bool false] N) 4)):=fun W=>by
     rw [<-hN];exact run_make_row' 29 4 (.bool false) 1 Tryz.underlying29 Tryz.infoBool rfl .i64 .i64 N (by omega) (by omega) W
    have HN:=zh hN;clear hN
    go_wp2_with fail
    have HEq:Hid (zb wq wq.drew):=(zb.refl wq).drew;refine Fd (S:=fun W=>zb wA W) zU f3.drew fun zH=>?_;refine ze 0 zH ?_;refine ze 2 zH ?_;simp only [za,EK];refine rdA [1,3] ?_;refine Fp rfl (fun K I=>?_) ?_
    ·have d7:wq.drew.cell? ⟨b5,3,none⟩=some (.slice AF2 nF cF2):=HEq.out.cell c3;go_simp;clear d7;refine zal I (zH) fun zH=>?_;clear I K;try simp only [za,EK]
     refine zx 3 fun K I=>?_;go_simp;go_at_call 47;refine (i4.out _).mono ?_;rintro e wn4 ⟨rfl,j2⟩;have e9:Hid (zb wq wn4):=zb.trans HEq.out j2;clear j2;go_simp;refine zal I (f3.trans e9.out) fun zH=>?_;clear I K;try simp only [za,EK]
     refine ze 4 zH ?_;refine ze 5 zH ?_;simp only [za,EK];refine zx 6 fun K I=>?_;go_simp;refine zal I (zH.alloc _) fun zH=>?_;clear I K;try simp only [za,EK]
     obtain ⟨g7,l3⟩:∃g,g=wn4.heap.size:=⟨_,rfl⟩;have b1:Hid (OS wA (wn4.alloc (.cells (madeCells #[.bool false] N) 4)) wA.heap.size b5 nF (nT+1) (K+20) m.w m.h m.l (.slice AF2 nF cF2) (.slice Au m.up.length cu) (.slice AT3 (nT+1) cT3) fs (ts++[.string ⟨#[]⟩,.slice none 0 0,.slice none 0 0])/\BW (wn4.alloc (.cells (madeCells #[.bool false] N) 4)) wA.heap.size (.slice (some ⟨g7,0,none⟩) N N) (List.replicate N false)):=⟨b8.out.grow (e9.out.alloc _),by rw [l3];exact own_made wn4 wA.heap.size N (EP f3.size e9.out.size) (by omega)⟩;have n3:Hid (zb wq (wn4.alloc (.cells (madeCells #[.bool false] N) 4))):=e9.out.alloc _;rw [<-l3];clear l3;generalize wn4.alloc _=wm7 at*;refine zx 7 fun K I=>?_;go_simp;refine zal I (zH.alloc _) fun zH=>?_;clear I K;try simp only [za,EK]
     have y5:Hid (zb wq (wm7.alloc (.cells #[.slice (some ⟨g7,0,none⟩) N N] 29))):=n3.out.alloc _;refine zx 8 fun K I=>?_;refine zB (ok:=fun _=>True) rfl _ _ _ eBools rfl wA.heap.size nF 1 fs [.slice (some ⟨g7,0,none⟩) N N] _ _ rfl rfl ((b1.out.1.F).alloc _) ⟨_,_,rfl,EN _,zN.block (zg.new _ _ _ rfl) trivial rfl⟩ (by simp [Value.oneCell']) (EP b1.out.1.ext.size (by simp)) (by unfold maxLen;omega) (by omega) ?_;intro vF9 w9 b6 a8 e7;clear e7
     have b9:=b1.out.1.addF b6 a8 (by omega) (fun w2 Z hs u hu=>by
      rw [Fv] at hu;subst hu;exact FI.keep ⟨_,.inr b1.out.2⟩ Z)
     have D:=zh b9;have V:w9.heap[b5]?=wm7.heap[b5]?:=(a8.block b5 (by have:=zd b1.out.1.blk;simp;omega) (fun e=>zj b1.out.1.F b1.out.1.blk (by decide) e.symm)).trans (Ff _ _ _ (zd b1.out.1.blk));have c39:w9.cell? ⟨b5,3,none⟩=some (.slice AF2 nF cF2):=(Fc (a:=⟨b5,3,none⟩) V).trans (b1.out.1.blk.cell (k:=3) rfl);have f39:w9.frozen? ⟨b5,3,none⟩=false:=(Fm (a:=⟨b5,3,none⟩) V).trans (b1.out.1.blk.frozen 3);have a9:zb wA w9:=(b1.out.1.ext.alloc _).grown a8 (EP b1.out.1.ext.size (by simp)) (fun k Z=>(b1.out.1.F.lt k Z).1);obtain ⟨AF9,cF9,rfl,-⟩:=zV.of_own b6;have d5:=zh a9;clear b9 b6 a8 V a9;refine zal I (d5.out) fun zH=>?_;clear I K;try simp only [za,EK]
     refine ze 9 zH ?_;simp only [za,EK];refine zx 10 fun K I=>?_;go_simp;refine zal I (d5.out.setCell (p:=⟨b5,3,none⟩) (show wA.heap.size<=b5 from D.out.h5) _) fun zH=>?_;clear I K;try simp only [za,EK]
     refine Fs (by kernel_rfl) ?_ _;clear zH c39 f39 c3 i8 i9
     go_wp2_with fail
     go_roundg (8 - (k+1))
     case measure=>omega
     case rel=>exact ⟨k+1,nF+1,nT+1,_,_,_,_,by go_num,by omega,rfl,by omega,by omega,D.out⟩
    refine Fp rfl (fun K I=>?_) .nil;go_simp;go_at_call 47;refine (i4.out _).mono ?_;rintro e wn10 ⟨rfl,f7⟩;have b7:Hid (zb wq wn10):=zb.trans HEq.out f7;clear f7;go_simp;refine zal I (f3.trans b7.out) fun zH=>?_;clear I K;try simp only [za,EK]
    refine ze 4 zH ?_;refine ze 5 zH ?_;simp only [za,EK];refine rdA [1,6] ?_;refine Fp rfl (fun K I=>?_) ?_
    ·have d7:wn10.cell? ⟨b5,3,none⟩=some (.slice AF2 nF cF2):=b7.out.cell c3;go_simp;clear d7;refine zal I (zH) fun zH=>?_;clear I K;try simp only [za,EK]
     refine zx 6 fun K I=>?_;go_simp;refine zal I (zH.alloc _) fun zH=>?_;clear I K;try simp only [za,EK]
     obtain ⟨g14,g0⟩:∃g,g=wn10.heap.size:=⟨_,rfl⟩;have a0:Hid (OS wA (wn10.alloc (.cells (madeCells #[.bool false] N) 4)) wA.heap.size b5 nF (nT+1) (K+20) m.w m.h m.l (.slice AF2 nF cF2) (.slice Au m.up.length cu) (.slice AT3 (nT+1) cT3) fs (ts++[.string ⟨#[]⟩,.slice none 0 0,.slice none 0 0])/\BW (wn10.alloc (.cells (madeCells #[.bool false] N) 4)) wA.heap.size (.slice (some ⟨g14,0,none⟩) N N) (List.replicate N false)):=⟨b8.out.grow (b7.out.alloc _),by rw [g0];exact own_made wn10 wA.heap.size N (EP f3.size b7.out.size) (by omega)⟩;have j9:Hid (zb wq (wn10.alloc (.cells (madeCells #[.bool false] N) 4))):=b7.out.alloc _;rw [<-g0];clear g0;generalize wn10.alloc _=wm14 at*;refine zx 7 fun K I=>?_;go_simp;refine zal I (zH.alloc _) fun zH=>?_;clear I K;try simp only [za,EK]
     have s9:Hid (zb wq (wm14.alloc (.cells #[.slice (some ⟨g14,0,none⟩) N N] 29))):=j9.out.alloc _;refine zx 8 fun K I=>?_;refine zB (ok:=fun _=>True) rfl _ _ _ eBools rfl wA.heap.size nF 1 fs [.slice (some ⟨g14,0,none⟩) N N] _ _ rfl rfl ((a0.out.1.F).alloc _) ⟨_,_,rfl,EN _,zN.block (zg.new _ _ _ rfl) trivial rfl⟩ (by simp [Value.oneCell']) (EP a0.out.1.ext.size (by simp)) (by unfold maxLen;omega) (by omega) ?_;intro vF9 w9 b6 a8 e7;clear e7
     have b9:=a0.out.1.addF b6 a8 (by omega) (fun w2 Z hs u hu=>by
      rw [Fv] at hu;subst hu;exact FI.keep ⟨_,.inr a0.out.2⟩ Z)
     have D:=zh b9;have V:w9.heap[b5]?=wm14.heap[b5]?:=(a8.block b5 (by have:=zd a0.out.1.blk;simp;omega) (fun e=>zj a0.out.1.F a0.out.1.blk (by decide) e.symm)).trans (Ff _ _ _ (zd a0.out.1.blk));have c39:w9.cell? ⟨b5,3,none⟩=some (.slice AF2 nF cF2):=(Fc (a:=⟨b5,3,none⟩) V).trans (a0.out.1.blk.cell (k:=3) rfl);have f39:w9.frozen? ⟨b5,3,none⟩=false:=(Fm (a:=⟨b5,3,none⟩) V).trans (a0.out.1.blk.frozen 3);have a9:zb wA w9:=(a0.out.1.ext.alloc _).grown a8 (EP a0.out.1.ext.size (by simp)) (fun k Z=>(a0.out.1.F.lt k Z).1);obtain ⟨AF9,cF9,rfl,-⟩:=zV.of_own b6;have d5:=zh a9;clear b9 b6 a8 V a9;refine zal I (d5.out) fun zH=>?_;clear I K;try simp only [za,EK]
     refine ze 9 zH ?_;simp only [za,EK];refine zx 10 fun K I=>?_;go_simp;refine zal I (d5.out.setCell (p:=⟨b5,3,none⟩) (show wA.heap.size<=b5 from D.out.h5) _) fun zH=>?_;clear I K;try simp only [za,EK]
     refine Fs (by kernel_rfl) ?_ _;clear zH c39 f39 c3 i8 i9
     go_wp2_with fail
     go_roundg (8 - (k+1))
     case measure=>omega
     case rel=>exact ⟨k+1,nF+1,nT+1,_,_,_,_,by go_num,by omega,rfl,by omega,by omega,D.out⟩
    refine Fp rfl (fun K I=>?_) .nil;go_simp;refine zal I (zH.alloc _) fun zH=>?_;clear I K;try simp only [za,EK]
    obtain ⟨g17,g3⟩:∃g,g=wn10.heap.size:=⟨_,rfl⟩;have G:Hid (OS wA (wn10.alloc (.cells (madeCells #[.bool false] N) 4)) wA.heap.size b5 nF (nT+1) (K+20) m.w m.h m.l (.slice AF2 nF cF2) (.slice Au m.up.length cu) (.slice AT3 (nT+1) cT3) fs (ts++[.string ⟨#[]⟩,.slice none 0 0,.slice none 0 0])/\BW (wn10.alloc (.cells (madeCells #[.bool false] N) 4)) wA.heap.size (.slice (some ⟨g17,0,none⟩) N N) (List.replicate N false)):=⟨b8.out.grow (b7.out.alloc _),by rw [g3];exact own_made wn10 wA.heap.size N (EP f3.size b7.out.size) (by omega)⟩;have e4:Hid (zb wq (wn10.alloc (.cells (madeCells #[.bool false] N) 4))):=b7.out.alloc _;rw [<-g3];clear g3;generalize wn10.alloc _=wm17 at*;refine rdA [1,7] ?_;refine Fp rfl (fun K I=>?_) ?_
    ·have d7:wm17.cell? ⟨b5,3,none⟩=some (.slice AF2 nF cF2):=e4.out.cell c3;go_simp;clear d7;refine zal I (zH) fun zH=>?_;clear I K;try simp only [za,EK]
     refine zx 7 fun K I=>?_;go_simp;refine zal I (zH.alloc _) fun zH=>?_;clear I K;try simp only [za,EK]
     have t3:Hid (zb wq (wm17.alloc (.cells #[.slice (some ⟨g17,0,none⟩) N N] 29))):=e4.out.alloc _;refine zx 8 fun K I=>?_;refine zB (ok:=fun _=>True) rfl _ _ _ eBools rfl wA.heap.size nF 1 fs [.slice (some ⟨g17,0,none⟩) N N] _ _ rfl rfl ((G.out.1.F).alloc _) ⟨_,_,rfl,EN _,zN.block (zg.new _ _ _ rfl) trivial rfl⟩ (by simp [Value.oneCell']) (EP G.out.1.ext.size (by simp)) (by unfold maxLen;omega) (by omega) ?_;intro vF9 w9 b6 a8 e7;clear e7
     have b9:=G.out.1.addF b6 a8 (by omega) (fun w2 Z hs u hu=>by
      rw [Fv] at hu;subst hu;exact FI.keep ⟨_,.inr G.out.2⟩ Z)
     have D:=zh b9;have V:w9.heap[b5]?=wm17.heap[b5]?:=(a8.block b5 (by have:=zd G.out.1.blk;simp;omega) (fun e=>zj G.out.1.F G.out.1.blk (by decide) e.symm)).trans (Ff _ _ _ (zd G.out.1.blk));have c39:w9.cell? ⟨b5,3,none⟩=some (.slice AF2 nF cF2):=(Fc (a:=⟨b5,3,none⟩) V).trans (G.out.1.blk.cell (k:=3) rfl);have f39:w9.frozen? ⟨b5,3,none⟩=false:=(Fm (a:=⟨b5,3,none⟩) V).trans (G.out.1.blk.frozen 3);have a9:zb wA w9:=(G.out.1.ext.alloc _).grown a8 (EP G.out.1.ext.size (by simp)) (fun k Z=>(G.out.1.F.lt k Z).1);obtain ⟨AF9,cF9,rfl,-⟩:=zV.of_own b6;have d5:=zh a9;clear b9 b6 a8 V a9;refine zal I (d5.out) fun zH=>?_;clear I K;try simp only [za,EK]
     refine ze 9 zH ?_;simp only [za,EK];refine zx 10 fun K I=>?_;go_simp;refine zal I (d5.out.setCell (p:=⟨b5,3,none⟩) (show wA.heap.size<=b5 from D.out.h5) _) fun zH=>?_;clear I K;try simp only [za,EK]
     refine Fs (by kernel_rfl) ?_ _;clear zH c39 f39 c3 i8 i9
     go_wp2_with fail
     go_roundg (8 - (k+1))
     case measure=>omega
     case rel=>exact ⟨k+1,nF+1,nT+1,_,_,_,_,by go_num,by omega,rfl,by omega,by omega,D.out⟩
    refine Fp rfl (fun K I=>?_) .nil;go_simp;refine zal I (zH.alloc _) fun zH=>?_;clear I K;try simp only [za,EK]
    have k2:Hid (zb wq (wm17.alloc (.cells #[.slice (some ⟨g17,0,none⟩) N N] 29))):=e4.out.alloc _;refine zx 1 fun K I=>?_;have d7:(wm17.alloc (.cells #[.slice (some ⟨g17,0,none⟩) N N] 29)).cell? ⟨b5,3,none⟩=some (.slice AF2 nF cF2):=k2.out.cell c3;go_simp;clear d7;refine zal I (zH) fun zH=>?_;clear I K;try simp only [za,EK]
    refine zx 8 fun K I=>?_;refine zB (ok:=fun _=>True) rfl _ _ _ eBools rfl wA.heap.size nF 1 fs [.slice (some ⟨g17,0,none⟩) N N] _ _ rfl rfl ((G.out.1.F).alloc _) ⟨_,_,rfl,EN _,zN.block (zg.new _ _ _ rfl) trivial rfl⟩ (by simp [Value.oneCell']) (EP G.out.1.ext.size (by simp)) (by unfold maxLen;omega) (by omega) ?_;intro vF9 w9 b6 a8 e7;clear e7
    have b9:=G.out.1.addF b6 a8 (by omega) (fun w2 Z hs u hu=>by
     rw [Fv] at hu;subst hu;exact FI.keep ⟨_,.inr G.out.2⟩ Z)
    have D:=zh b9;have V:w9.heap[b5]?=wm17.heap[b5]?:=(a8.block b5 (by have:=zd G.out.1.blk;simp;omega) (fun e=>zj G.out.1.F G.out.1.blk (by decide) e.symm)).trans (Ff _ _ _ (zd G.out.1.blk));have c39:w9.cell? ⟨b5,3,none⟩=some (.slice AF2 nF cF2):=(Fc (a:=⟨b5,3,none⟩) V).trans (G.out.1.blk.cell (k:=3) rfl);have f39:w9.frozen? ⟨b5,3,none⟩=false:=(Fm (a:=⟨b5,3,none⟩) V).trans (G.out.1.blk.frozen 3);have a9:zb wA w9:=(G.out.1.ext.alloc _).grown a8 (EP G.out.1.ext.size (by simp)) (fun k Z=>(G.out.1.F.lt k Z).1);obtain ⟨AF9,cF9,rfl,-⟩:=zV.of_own b6;have d5:=zh a9;clear b9 b6 a8 V a9;refine zal I (d5.out) fun zH=>?_;clear I K;try simp only [za,EK]
    refine ze 9 zH ?_;simp only [za,EK];refine zx 10 fun K I=>?_;go_simp;refine zal I (d5.out.setCell (p:=⟨b5,3,none⟩) (show wA.heap.size<=b5 from D.out.h5) _) fun zH=>?_;clear I K;try simp only [za,EK]
    refine Fs (by kernel_rfl) ?_ _;clear zH c39 f39 c3 i8 i9
    go_wp2_with fail
    go_roundg (8 - (k+1))
    case measure=>omega
    case rel=>exact ⟨k+1,nF+1,nT+1,_,_,_,_,by go_num,by omega,rfl,by omega,by omega,D.out⟩
   ·have w0:decide ((k:Int)<4+n)=false:=ER (by omega);have o:=hQ.out.fin (A:=A+6) (Y:=100*Y) (by omega) (by omega) (by omega);have a9:=hQ.out.ext;clear hQ;have a5:=zh o;clear o;go_upto_region 29 with fail;generalize wr9=wc at*;have o:=a5.out
    try clear D
    obtain ⟨m',vF',vU',vT',L,M,O,z⟩:=o;have a6:=zh M;have J:=zh O;have a4:=zh z;obtain ⟨f',u',t',e',⟨_,⟨A1,c1,rfl,-⟩,-⟩,⟨A2,c2,rfl,-⟩,⟨_,⟨A3,c3,rfl,-⟩,-⟩⟩:=M;injection e' with e';injection e' with e';simp only [List.cons.injEq,and_true,true_and] at e';obtain ⟨rfl,rfl,rfl⟩:=e';obtain ⟨m0,m1,m2,m3,m4,m5⟩:=zn L;have E:zg wc b4 32 #[.int .i64 0,.int .i64 0,.int .i64 0,.slice none 0 0,.slice none 0 0,.slice none 0 0]:=c0.out.ext z;obtain ⟨z0,z1,z2,z3,z4,z5⟩:=zn E;have hfz:∀j,wc.frozen? ⟨b4,j,none⟩=false:=fun j=>E.frozen j
    have a3:=zh E;clear L O z E
    go_wp2_with fail
    refine zX (P:=fun W=>bodyPost Tryz.prog Tryz.f17 (Ce w (A+6) (100*Y) (K+20)) Exit.ret _ W) (g2:=b4) ?_ a3.out;intro WZ a7 Q Z
    exact Cl rfl rfl a7
     ⟨_,m',rfl,Below.trans (b0.out.trans a4.out) (Q.mono U.out.2.2.1),(a6.out.keep (w':=WZ) (fun b hb a1=>Z b a1 (by have:=U.out.2.2.2;omega))).weaken (fun _ _=>trivial),J.out⟩
end
section
open Go.RowKit
theorem MadeM.obL (h:MadeM m):OB m 4 4 16:=by
 have o:=h.good;have E:2<=m.w*m.h*m.l/\m.w*m.h*m.l<=16:=h.n;have G:=h.w;have z:=h.h;have D:=h.l;have s:=h.tk;refine ⟨by omega,by omega,by omega,by rw [o.fl];omega,?_,by omega,fun t s=>?_⟩
 ·have:=o.dim.up;omega
 ·have:=(h.te t s).2;omega
def MzsAt (W:World) (b n:Nat):Prop:=∀i:Nat,i<n->∃(m:MZ) (f u t:Value),W.cell? ⟨b,i*6,none⟩=some (.int .i64 m.w)/\W.cell? ⟨b,i*6+1,none⟩=some (.int .i64 m.h)/\W.cell? ⟨b,i*6+2,none⟩=some (.int .i64 m.l)/\W.cell? ⟨b,i*6+3,none⟩=some f/\W.cell? ⟨b,i*6+4,none⟩=some u/\W.cell? ⟨b,i*6+5,none⟩=some t/\
 zt W (fun _=>True) (.agg #[.int .i64 m.w,.int .i64 m.h,.int .i64 m.l,f,u,t]) m/\Lens m
theorem MzsAt.more {W':World} (h:MzsAt W b n) (o:zb W W'):MzsAt W' b n:=fun i G=>by
 obtain ⟨m,f,u,t,h0,h1,h2,h3,s,z,D,E⟩:=h i G;exact ⟨m,f,u,t,o.cell h0,o.cell h1,o.cell h2,o.cell h3,o.cell s,o.cell z,D.below o,E⟩
theorem mzs_two {m':MZ} {t f' u' t':Value} {ok':Nat->Prop} (h:zt W ok (.agg #[.int .i64 m.w,.int .i64 m.h,.int .i64 m.l,f,u,t]) m) (z:zt W ok' (.agg #[.int .i64 m'.w,.int .i64 m'.h,.int .i64 m'.l,f',u',t']) m') (l:Lens m) (l':Lens m'):
  MzsAt (W.alloc (.cells #[.int .i64 m.w,.int .i64 m.h,.int .i64 m.l,f,u,t,.int .i64 m'.w,.int .i64 m'.h,.int .i64 m'.l,f',u',t'] 32)) W.heap.size 2:=fun i D=>by
 have o:zg (W.alloc (.cells #[.int .i64 m.w,.int .i64 m.h,.int .i64 m.l,f,u,t,.int .i64 m'.w,.int .i64 m'.h,.int .i64 m'.l,f',u',t'] 32)) W.heap.size 32 #[.int .i64 m.w,.int .i64 m.h,.int .i64 m.l,f,u,t,.int .i64 m'.w,.int .i64 m'.h,.int .i64 m'.l,f',u',t']:=FB _ _;have s:zb W (W.alloc (.cells #[.int .i64 m.w,.int .i64 m.h,.int .i64 m.l,f,u,t,.int .i64 m'.w,.int .i64 m'.h,.int .i64 m'.l,f',u',t'] 32)):=(zb.refl W).alloc _
 match i,D with
 | 0,_=>exact ⟨m,f,u,t,o.cell (k:=0) rfl,o.cell (k:=1) rfl,o.cell (k:=2) rfl,o.cell (k:=3) rfl,o.cell (k:=4) rfl,o.cell (k:=5) rfl,(h.weaken fun _ _=>trivial).below s,l⟩
 | 1,_=>exact ⟨m',f',u',t',o.cell (k:=6) rfl,o.cell (k:=7) rfl,o.cell (k:=8) rfl,o.cell (k:=9) rfl,o.cell (k:=10) rfl,o.cell (k:=11) rfl,(z.weaken fun _ _=>trivial).below s,l'⟩
end
section
open Go.ChangeShapes Go.WideShapes Go.ChangeAt Go.RowKit
attribute [local go_sem ↓] Go.wp_at_zero Go.wp_at_succ
def LsAt (W:World) (b:Nat):Prop:=∀i:Nat,i<4->∃A c x,W.cell? ⟨b,i,none⟩=some (.slice A x.length c)/\zq W (fun _=>True) (.slice A x.length c) x/\x.length<=6/\∀y∈x,y.length<=300
theorem ls_make {ok0:Nat->Prop} {v2:Value} {x0 x1 x2:List (List Int)} (h0:zq W ok0 v0 x0) (h1:zq W ok1 v1 x1) (h2:zq W ok2 v2 x2) (l0:x0.length<=6/\∀y∈x0,y.length<=300) (l1:x1.length<=6/\∀y∈x1,y.length<=300) (l2:x2.length<=6/\∀y∈x2,y.length<=300):
  LsAt (W.alloc (.cells #[v0,v1,v2,.slice none 0 0] 22)) W.heap.size:=fun i z=>by
 have o:zg (W.alloc (.cells #[v0,v1,v2,.slice none 0 0] 22)) W.heap.size 22 #[v0,v1,v2,.slice none 0 0]:=FB _ _;have s:zb W (W.alloc (.cells #[v0,v1,v2,.slice none 0 0] 22)):=(zb.refl W).alloc _;obtain ⟨_,⟨A0,c0,rfl,-,-⟩,-⟩:=id h0;obtain ⟨_,⟨A1,c1,rfl,-,-⟩,-⟩:=id h1;obtain ⟨_,⟨A2,c2,rfl,-,-⟩,-⟩:=id h2
 match i,z with
 | 0,_=>exact ⟨_,_,x0,o.cell (k:=0) rfl,(h0.weaken fun _ _=>trivial).below s,l0⟩
 | 1,_=>exact ⟨_,_,x1,o.cell (k:=1) rfl,(h1.weaken fun _ _=>trivial).below s,l1⟩
 | 2,_=>exact ⟨_,_,x2,o.cell (k:=2) rfl,(h2.weaken fun _ _=>trivial).below s,l2⟩
 | 3,_=>exact ⟨none,0,[],o.cell (k:=3) rfl,⟨[],⟨none,0,rfl,EN _,zN.nil _ _ _ _⟩,fun i x D=>by cases D⟩,by simp,fun y E=>absurd E (zaa)⟩
theorem intss_upto {A:Option Addr} {c N:Nat} {l:List (List Int)} (h:zq w ok (.slice A n c) l) (E:N<=n):zq w ok (.slice A N c) (l.take N):=by
 obtain ⟨vs,⟨A',c',e,L,M,J⟩,he⟩:=h;injection e with e1 e2 e3;subst e1 e2 e3;refine ⟨vs.take N,⟨A,c,by rw [FH,Nat.min_eq_left E],by rw [FH];omega,by simp;omega,fun hp=>?_⟩,fun i x z=>?_⟩
 ·rw [FH] at hp;obtain ⟨b,off,e,G,o⟩:=J (by omega);refine ⟨b,off,e,G,fun j u s=>o j u ?_⟩;rw [List.getElem?_take] at s
  split at s
  ·exact s
  ·cases s
 ·rw [List.getElem?_take] at z
  split at z
  ·rename_i D
   obtain ⟨u,s,I⟩:=he i x z;exact ⟨u,by rw [List.getElem?_take,if_pos D];exact s,I⟩
  ·cases z
theorem subO_rows:∀x∈(subO m ps t).free,x.length<=20000000000000:=by
 unfold subO
 split
 ·rename_i h
  rw [EZ] at h;have g:=zI.of (AS.1 h.1).1;intro x o;unfold CK at o;obtain ⟨k,z,rfl⟩:=zac.1 o;rw [EM]
  cases s:m.free[k]? with
  | none=>simp
  | some y=>
   have h1:=g.fn _ (List.mem_of_getElem? s);have h2:=g.dim.n1;unfold MZ.n at h1;simp;omega
 ·intro x o;exact absurd o (zaa)
theorem subO_lens (o:Lens m) (hp:ps.length<=20000000000000):Lens (subO m ps t):=by
 unfold subO
 split
 ·exact subM_lens o hp _
 ·exact ⟨by simp [CU],by simp [CU],by simp [CU],fun t s=>absurd s (zaa)⟩
theorem pathP_len:((Br m t ps).getD []).length<=300:=by
 cases h:Br m t ps with
 | none=>simp
 | some p=>exact path_len h
theorem two_forms {t:Value} (h:zt W ok (.agg #[.int .i64 m.w,.int .i64 m.h,.int .i64 m.l,f,u,t]) m):∃Af cf Au cu At ct,f=.slice Af m.free.length cf/\u=.slice Au m.up.length cu/\t=.slice At m.tasks.length ct:=by
 obtain ⟨Af,cf,Au,cu,At,ct,e,-⟩:=h.parts;injection e with e;simp only [Array.mk.injEq,List.cons.injEq,and_true,true_and] at e;exact ⟨Af,cf,Au,cu,At,ct,e⟩
def NsAt3 (W:World) (b:Nat):Prop:=∀i:Nat,i<3->∃n:Int,W.cell? ⟨b,i,none⟩=some (.int .i64 n)
theorem ns_make3 (W:World) (x y z:Int):NsAt3 (W.alloc (.cells #[.int .i64 x,.int .i64 y,.int .i64 z] 3)) W.heap.size:=fun i s=>by
 have o:zg (W.alloc (.cells #[.int .i64 x,.int .i64 y,.int .i64 z] 3)) W.heap.size 3 #[.int .i64 x,.int .i64 y,.int .i64 z]:=FB _ _
 match i,s with
 | 0,_=>exact ⟨x,o.cell (k:=0) rfl⟩
 | 1,_=>exact ⟨y,o.cell (k:=1) rfl⟩
 | 2,_=>exact ⟨z,o.cell (k:=2) rfl⟩
theorem paths_calls {ok3:Nat->Prop} {vm vl vr:Value} {ls:List (List Int)} {l:List Int} {tk:Nat} {rs:List (List Int)} (o0 o1 o2 task:Int) (w:World) (hm:zq w ok1 vm ls) (k6:ls.length<=9223372036854775807) (k7:∀x∈ls,x.length<=9223372036854775807) (hl:zi w ok2 vl l) (k5:l.length<=9223372036854775807) (l3:tk<256) (hr:zq w ok3 vr rs) (s8:rs.length<=9223372036854775807) (l2:∀x∈rs,x.length<=9223372036854775807):
  Calls Tryz.prog 4 #[.agg #[vm,vl,.int .i64 o0,.int .i64 o1,.int .i64 o2,.int .u8 tk],vr,.int .i64 task] w fun e w'=>e=.returned (.bool true)/\zb w w':=by
 have e6:=zh hm;have m9:=zh hl;have n0:=zh k7;have n8:=zh hr;have n9:=zh l2;obtain ⟨_,⟨Ar,cr,rfl,-,-⟩,-⟩:=hr;obtain ⟨_,⟨A,c,rfl,-,-⟩,-⟩:=hm;obtain ⟨A2,c2,rfl,-,-⟩:=hl;clear k7 l2
 go_enter Tryz.func4,Tryz.ntmps4
 go_wp2_with fail
 generalize g6:w.alloc (.cells #[.slice A ls.length c,.slice A2 l.length c2,.int .i64 o0,.int .i64 o1,.int .i64 o2,.int .u8 tk] 26)=wa;have b5:zb w wa:=by rw [<-g6];exact (zb.refl _).alloc _
 have U:zg wa w.heap.size 26 #[.slice A ls.length c,.slice A2 l.length c2,.int .i64 o0,.int .i64 o1,.int .i64 o2,.int .u8 tk]:=by rw [<-g6];exact zg.new _ _ _ rfl
 clear g6;have r0:∀W,zb wa W->W.cell? ⟨w.heap.size,0,none⟩=some (.slice A ls.length c):=zb.rule (U.cell (k:=0) rfl);have r1:∀W,zb wa W->W.cell? ⟨w.heap.size,1,none⟩=some (.slice A2 l.length c2):=zb.rule (U.cell (k:=1) rfl);have r2:∀W,zb wa W->W.cell? ⟨w.heap.size,2,none⟩=some (.int .i64 o0):=zb.rule (U.cell (k:=2) rfl);have r3:∀W,zb wa W->W.cell? ⟨w.heap.size,3,none⟩=some (.int .i64 o1):=zb.rule (U.cell (k:=3) rfl);have r4:∀W,zb wa W->W.cell? ⟨w.heap.size,4,none⟩=some (.int .i64 o2):=zb.rule (U.cell (k:=4) rfl);have r5:∀W,zb wa W->W.cell? ⟨w.heap.size,5,none⟩=some (.int .u8 tk):=zb.rule (U.cell (k:=5) rfl);clear U;refine (ksanity_calls wa).mono ?_;rintro e w1 ⟨rfl,j0⟩;have V:zb wa w1:=j0
 go_wp2_with fail
 refine (kmade_calls w1 (e6.out.below (b5.trans V)) k6 n0.out (m9.out.below (b5.trans V)) k5 l3).mono ?_;rintro e w2 ⟨vz,vp,z,ps,t,rfl,J,hz,j3,g5,b0,l4,l1⟩;obtain ⟨Af,cf,Au,cu,At,ct,rfl,-,-,-⟩:=hz.parts;obtain ⟨_,⟨Ap,cp,rfl,-,-⟩,-⟩:=id g5;have HZ:=zh hz;have a3:=zh j3;have n3:=zh g5;have b3:=zh b0;have o7:=zh l4;have w8:=zh l1;have h5:=zh ((b5.trans V).trans J);have r2:=fun W h=>r2 W ((V.trans J).trans h)
 have r3:=fun W h=>r3 W ((V.trans J).trans h)
 have r4:=fun W h=>r4 W ((V.trans J).trans h)
 clear hz j3 g5 b0 l4 l1 V j0 b5 J r0 r1 r5 k6 k5 l3
 have d8:ps.length<=6:=by
  have h1:=(AS.1 b3.out).2.1;have h2:=a3.out.tk.2;omega
 have i0:=zh d8;have e4:Hid (∀x∈ps,x.length<=300):=laid_lens0 b3.out;have s9:(t:Int)<(z.tasks.length:Int):=by have:=o7.out;omega
 clear s9 d8;go_upto_region 3 with fail;obtain ⟨f8,q0,q1,q2,q3,q4,q5⟩:=CG w2 (.int .i64 z.w) (.int .i64 z.h) (.int .i64 z.l) (.slice Af z.free.length cf) (.slice Au z.up.length cu) (.slice At z.tasks.length ct);generalize w2.alloc _=w3 at f8 q0 q1 q2 q3 q4 q5⊢;obtain ⟨gm,j6⟩:∃g,g=w2.heap.size:=⟨_,rfl⟩;rw [<-j6] at q0 q1 q2 q3 q4 q5⊢;clear j6;have Q:=zh f8;clear f8;have r2:=fun W h=>r2 W (Q.out.trans h)
 have r3:=fun W h=>r3 W (Q.out.trans h)
 have r4:=fun W h=>r4 W (Q.out.trans h)
 have s:zb w3 w3:=zb.refl w3
 go_wp2_with fail
 refine (cut31_calls w3 (n8.out.below (h5.out.trans Q.out)) s8 n9.out).mono ?_;rintro e w4 ⟨vr',rfl,a6,f4⟩;obtain ⟨_,⟨Arr,crr,rfl,-,-⟩,-⟩:=id f4;have n7:=zh f4;have I:=zh a6;have o8:Hid (zb w w4):=(h5.out.trans Q.out).trans a6;have e9:=zh ((HZ.out.below Q.out).below a6);have Z:=zh ((n3.out.below Q.out).below a6);have q0:=fun W h=>q0 W (I.out.trans h)
 have q1:=fun W h=>q1 W (I.out.trans h)
 have q2:=fun W h=>q2 W (I.out.trans h)
 have q3:=fun W h=>q3 W (I.out.trans h)
 have q4:=fun W h=>q4 W (I.out.trans h)
 have q5:=fun W h=>q5 W (I.out.trans h)
 have r2:=fun W h=>r2 W (I.out.trans h)
 have r3:=fun W h=>r3 W (I.out.trans h)
 have r4:=fun W h=>r4 W (I.out.trans h)
 have h9:Hid (∀W,zb w4 W->Calls Tryz.prog 17 #[.agg #[.int .i64 z.w,.int .i64 z.h,.int .i64 z.l,.slice Af z.free.length cf,.slice Au z.up.length cu,.slice At z.tasks.length ct],.agg #[.int .i64 o0,.int .i64 o1,.int .i64 o2]] W fun e w'=>∃(m7:MZ) (f u t:Value),e=.returned (.agg #[.int .i64 m7.w,.int .i64 m7.h,.int .i64 m7.l,f,u,t])/\zb W w'/\zt w' (fun _=>True) (.agg #[.int .i64 m7.w,.int .i64 m7.h,.int .i64 m7.l,f,u,t]) m7/\Lens m7/\(∃a b c d e5 f6,f=.slice a b c/\u=.slice d e5 f6)/\∃a b c,t=.slice a b c):=fun W hW=>by
  refine (odd_calls o0 o1 o2 W (e9.out.below hW) a3.out.obL (by omega) (by omega) (by omega)).mono ?_;rintro e w' ⟨v7,m7,rfl,q7,c8,k9⟩;obtain ⟨Bf,df,Bu,du,Bt,dt,rfl,-,-,-⟩:=id c8.parts;exact ⟨m7,_,_,_,rfl,q7,c8,k9.lens (by omega),⟨_,_,_,_,_,_,rfl,rfl⟩,_,_,_,rfl⟩
 have t8:zb w4 w4:=zb.refl w4;clear f4 a6 s;go_upto_region 4 with fail;refine Fd (S:=(fun W=>zb w4 W)) zU (t8.drew) fun zH=>?_;have a8:zb w4 w4.drew:=zH;clear a8;generalize w4.drew=wd at zH⊢;refine ze 0 zH ?_;refine ze 1 zH ?_;simp only [za,EK];refine ze 2 zH ?_;refine ze 3 zH ?_;simp only [za,EK];refine ze 7 zH ?_;simp only [za,EK];refine zx 4 fun K D=>?_;go_simp;go_at_call 17;refine (h9.out _ zH).mono ?_;rintro e w6 ⟨m7,f7,u7,t7,rfl,q6,c8,s4,⟨a7,b7,c7,d7,e7,g7,rfl,rfl⟩,h7,i7,j7,rfl⟩;go_simp;refine zal D (zH.trans q6) fun zH=>?_;clear D K;try simp only [za,EK]
 refine zx 5 fun K D=>?_;go_simp;have c0:=mzs_two (e9.out.below zH) c8 a3.out.lens s4;have f5:zb w4 (w6.alloc (.cells #[.int .i64 z.w,.int .i64 z.h,.int .i64 z.l,.slice Af z.free.length cf,.slice Au z.up.length cu,.slice At z.tasks.length ct,.int .i64 m7.w,.int .i64 m7.h,.int .i64 m7.l,.slice a7 b7 c7,.slice d7 e7 g7,.slice h7 i7 j7] 32)):=zb.alloc zH _;generalize w6.alloc _=w9 at c0 f5⊢;generalize w6.heap.size=bm at c0⊢;have n1:=zh c0;have i4:=zh f5;clear c0;refine zal D (f5) fun zH=>?_;clear D K;try simp only [za,EK]
 refine ze 6 zH ?_;simp only [za,EK];refine Fs (by kernel_rfl) ?_ _
 go_wp2_with fail
 go_loopw [37] (fun i wr=>∃k:Nat,k<=2/\i=.int .i64 (k:Nat)/\Hid (zb w9 wr)) (fun i _=>2 - (intOf i).toNat)
 case atStart=>exact ⟨0,by omega,rfl,zb.refl _⟩
 case round=>
  obtain ⟨k,hk,rfl,hE⟩:=hrel;obtain ⟨wk,rfl⟩:∃wk:World,wk=wr:=⟨_,rfl⟩;have g9:zb w9 wk:=hE.out;by_cases g0:k<2
  ·have v9:(k:Int)<2:=by omega
   obtain ⟨y,yf,yu,yt,y0,y1,y2,y3,y4,y5,d4,l8⟩:=n1.out k g0;obtain ⟨Yf,dyf,Yu,dyu,Yt,dyt,rfl,rfl,rfl⟩:=two_forms d4;obtain ⟨ny,k8⟩:=d4.nets;have p5:=zh d4;have p6:=zh k8;have T:=zh l8;have x0:=zb.rule y0;have x1:=zb.rule y1;have x2:=zb.rule y2;have x3:=zb.rule y3;have x4:=zb.rule y4;have x5:=zb.rule y5;clear y0 y1 y2 y3 y4 y5 d4 k8 l8;go_upto_region 7 with fail;obtain ⟨c6,t0,t1,t2,t3,t4,t5⟩:=CG wk (.int .i64 y.w) (.int .i64 y.h) (.int .i64 y.l) (.slice Yf y.free.length dyf) (.slice Yu y.up.length dyu) (.slice Yt y.tasks.length dyt);generalize wk.alloc _=wy at c6 t0 t1 t2 t3 t4 t5⊢;obtain ⟨gx,j8⟩:∃g,g=wk.heap.size:=⟨_,rfl⟩;rw [<-j8] at t0 t1 t2 t3 t4 t5⊢;clear j8 x0 x1 x2 x3 x4 x5;have i8:Hid (zb w9 wy):=g9.trans c6;have a4:Hid (zb w4 wy):=i4.out.trans i8.out;have i1:Hid (1<=ps.length):=by (show _<=_);have h1:=(AS.1 b3.out).2.1;have h2:=a3.out.tk.1;omega
   have s7:=i1.out;have l0:=i0.out;have t6:IntKind.i64.wrap ((ps.length:Int) - 1)=((ps.length - 1:Nat):Int):=by rw [Fi];omega
   have d6:ps.length - 1<=ps.length:=by omega
   have s3:ps.length<=cp:=by obtain ⟨_,⟨_,_,e,h,-⟩,-⟩:=Z.out;injection e with e1 e2 e3;subst e3;exact h
   have j5:((ps.length - 1:Nat):Int)<=(cp:Int):=by omega
   have j4:(0:Int)<=((ps.length - 1:Nat):Int):=by omega
   go_wp2_with fail
   have b9:=ls_make (Z.out.below a4.out) (n7.out.below a4.out) (intss_upto (Z.out.below a4.out) d6) ⟨l0,e4.out⟩ ⟨by have:=cutL_len rs;omega,fun y M=>by have:=cutL_mem M;omega⟩ ⟨by rw [FH];omega,fun y M=>e4.out y (List.mem_of_mem_take M)⟩;have G:zb wy (wy.alloc (.cells #[.slice Ap ps.length cp,.slice Arr (cutL rs).length crr,.slice Ap (ps.length - 1) cp,.slice none 0 0] 22)):=(zb.refl wy).alloc _;generalize (wy.alloc (.cells #[.slice Ap ps.length cp,.slice Arr (cutL rs).length crr,.slice Ap (ps.length - 1) cp,.slice none 0 0] 22))=wl at b9 G⊢;generalize wy.heap.size=bl at b9⊢;have e6:=zh b9;have e8:Hid (zb w9 wl):=i8.out.trans G;have v4:Hid (zb wk wl):=c6.trans G;have O:=zh (p5.out.below e8.out);have i9:=zh (p6.out.below e8.out);have t0:=fun W h=>t0 W (G.trans h)
   have t1:=fun W h=>t1 W (G.trans h)
   have t2:=fun W h=>t2 W (G.trans h)
   have t3:=fun W h=>t3 W (G.trans h)
   have t4:=fun W h=>t4 W (G.trans h)
   have t5:=fun W h=>t5 W (G.trans h)
   clear b9 G c6 t6 d6 s3 j5 j4 s7 l0 g9 hk;go_loopw [50] (fun i wr=>∃k2:Nat,k2<=4/\i=.int .i64 (k2:Nat)/\Hid (zb wl wr)) (fun i _=>4 - (intOf i).toNat)
   case atStart=>exact ⟨0,by omega,rfl,zb.refl _⟩
   case round=>
    obtain ⟨k2,j9,rfl,J⟩:=hrel;obtain ⟨w2k,rfl⟩:∃w2k:World,w2k=wr:=⟨_,rfl⟩;have g8:zb wl w2k:=J.out;by_cases b1:k2<4
    ·have s5:(k2:Int)<4:=by omega
     obtain ⟨A5,c5,x,g1,g2,g3,g4⟩:=e6.out k2 b1;have rx:=zb.rule g1;have a5:=zh g2;have o:Hid (x.length<=6/\∀y∈x,y.length<=300):=⟨g3,g4⟩;clear g1 g2 g3 g4 j9
     go_wp2_with fail
     have c4:=ns_make3 w2k (t:Int) task 0;have b8:zb w2k (w2k.alloc (.cells #[.int .i64 (t:Nat),.int .i64 task,.int .i64 0] 3)):=(zb.refl w2k).alloc _;generalize (w2k.alloc (.cells #[.int .i64 (t:Nat),.int .i64 task,.int .i64 0] 3))=wn at c4 b8⊢;generalize w2k.heap.size=bn at c4⊢;have n2:=zh c4;have p4:Hid (zb wl wn):=g8.trans b8;have v3:Hid (zb w2k wn):=b8;clear c4 b8 g8 rx;go_loopw [58] (fun i wr=>∃k3:Nat,k3<=3/\i=.int .i64 (k3:Nat)/\Hid (zb wn wr)) (fun i _=>3 - (intOf i).toNat)
     case atStart=>exact ⟨0,by omega,rfl,zb.refl _⟩
     case round=>
      obtain ⟨k3,k4,rfl,f0⟩:=hrel;obtain ⟨w3k,rfl⟩:∃w3k:World,w3k=wr:=⟨_,rfl⟩;have s:zb wl w3k:=p4.out.trans f0.out;by_cases b2:k3<3
      ·have s6:(k3:Int)<3:=by omega
       obtain ⟨n,hn⟩:=n2.out k3 b2;have rn:=zb.rule hn;have l7:zb wn w3k:=f0.out;clear hn k4
       go_wp2_with fail
       refine (Ej n w3k (O.out.below s) T.out (a5.out.below s) (by have:=o.out.1;omega) (fun y M=>by have:=o.out.2 y M;omega)).mono ?_;rintro e wa ⟨va,rfl,a9⟩;have c9:zb wl wa:=s.trans a9.ext;have m8:=zh a9.ints;have i2:Hid (zb w3k wa):=a9.ext;obtain ⟨Aa,ca,rfl,-⟩:=a9.slice;clear a9 s l7
       go_wp2_with fail
       refine (qpath_calls n wa (O.out.below c9) T.out (a5.out.below c9) (by have:=o.out.1;omega) (fun y M=>by have:=o.out.2 y M;omega)).mono ?_;rintro e wb ⟨vb,rfl,a1⟩;have E:zb wl wb:=c9.trans a1.ext;have d9:=zh a1.ints;obtain ⟨Ab,cb,rfl,-⟩:=a1.slice;have i5:Hid (zb wa wb):=a1.ext;have i3:Hid (zb w3k wb):=i2.out.trans a1.ext;have b4:Hid (((Br y n x).getD []).length<=300):=pathP_len;generalize (Br y n x).isSome=bb;generalize s2:(Br y n x).getD []=P at*;clear a1 c9 s2;have x6:Hid (zb wl wb):=E;have h6:=zh (m8.out.below i5.out);have a0:=zh (a5.out.below E);have v5:=zh (O.out.below E);have d5:=zh (i9.out.below E);have m0:=fun W h=>t0 W (E.trans h)
       have m1:=fun W h=>t1 W (E.trans h)
       have m2:=fun W h=>t2 W (E.trans h)
       have m3:=fun W h=>t3 W (E.trans h)
       have m4:=fun W h=>t4 W (E.trans h)
       have m5:=fun W h=>t5 W (E.trans h)
       obtain ⟨L,hL⟩:=zak (CM x P);have h8:Hid (L.length<=6):=by (show _<=_);rw [hL];unfold CM;rw [Fy];have h1:=Fr (Cg x P) (List.range x.length);have h2:=o.out.1;simp at h1;omega
       have o3:Hid (∀W,zb wb W->Calls Tryz.prog 13 #[.slice Aa P.length ca,.slice Ab P.length cb] W fun e w'=>e=.returned (.bool true)/\zb W w'):=fun W hW=>by
        refine (Ck W (h6.out.below hW) (d9.out.below hW) (by have:=b4.out;omega) (by have:=b4.out;omega)).mono ?_;rintro e w' ⟨rfl,hD⟩;exact ⟨by rw [EQ rfl],hD.below _⟩
       have m6:Hid (∀W,zb wb W->Calls Tryz.prog 20 #[.slice A5 x.length c5,.slice Ab P.length cb] W fun e w'=>∃v',e=.returned v'/\zb W w'/\zi w' (fun _=>True) v' L):=fun W hW=>by
        refine (crossed_calls W (a0.out.below hW) (by have:=o.out.1;omega) (fun y M=>by have:=o.out.2 y M;omega) (d9.out.below hW) (by have:=b4.out;omega)).mono ?_;rintro e w' ⟨v',rfl,hM⟩;rw [hL];exact ⟨v',rfl,hM.ext,hM.ints.weaken fun _ _=>trivial⟩
       have n4:Hid (∀W,zb wb W->Calls Tryz.prog 21 #[.slice A5 x.length c5,.slice Ab P.length cb] W fun e w'=>∃v',e=.returned v'/\zb W w'/\zi w' (fun _=>True) v' L):=fun W hW=>by
        refine (EB W (a0.out.below hW) (by have:=o.out.1;omega) (fun y M=>by have:=o.out.2 y M;omega) (d9.out.below hW) (by have:=b4.out;omega)).mono ?_;rintro e w' ⟨v',rfl,hM⟩;rw [hL];exact ⟨v',rfl,hM.ext,hM.ints.weaken fun _ _=>trivial⟩
       have o4:Hid (∀(W:World) (v v':Value),zi W (fun _=>True) v L->zi W (fun _=>True) v' L->Calls Tryz.prog 13 #[v,v'] W fun e w'=>e=.returned (.bool true)/\zb W w'):=fun W v v' h h'=>by
        refine (Ck W h h' (by have:=h8.out;omega) (by have:=h8.out;omega)).mono ?_;rintro e w' ⟨rfl,hD⟩;exact ⟨by rw [EQ rfl],hD.below _⟩
       clear hL
       have o6:Hid (∀W,zb wb W->Calls Tryz.prog 15 #[.agg #[.int .i64 y.w,.int .i64 y.h,.int .i64 y.l,.slice Yf y.free.length dyf,.slice Yu y.up.length dyu,.slice Yt y.tasks.length dyt],.slice A5 x.length c5,.int .i64 n] W fun e w'=>∃v',e=.returned v'/\zb W w'/\Cn w' (fun _=>True) v' (subO y x n) (subN y x n ny)):=fun W hW=>by
        refine (sub_calls n W (d5.out.below hW) T.out (a0.out.below hW) (by have:=o.out.1;omega) (fun y M=>by have:=o.out.2 y M;omega)).mono ?_;rintro e w' ⟨v',rfl,hE,hM⟩;exact ⟨v',rfl,hE,hM.keepW (fun _ _ _=>rfl) fun _ _=>trivial⟩
       have n6:Hid (∀W,zb wb W->Calls Tryz.prog 23 #[.agg #[.int .i64 y.w,.int .i64 y.h,.int .i64 y.l,.slice Yf y.free.length dyf,.slice Yu y.up.length dyu,.slice Yt y.tasks.length dyt],.slice A5 x.length c5,.int .i64 n] W fun e w'=>∃v',e=.returned v'/\zb W w'/\Cn w' (fun _=>True) v' (subO y x n) (subN y x n ny)):=fun W hW=>qsub_calls n W (d5.out.below hW) T.out (a0.out.below hW) (by have:=o.out.1;omega) (fun y M=>by have:=o.out.2 y M;omega)
       have o5:Hid (∀(W:World) (v v':Value),Cn W (fun _=>True) v (subO y x n) (subN y x n ny)->Cn W (fun _=>True) v' (subO y x n) (subN y x n ny)->Calls Tryz.prog 22 #[v,v'] W fun e w'=>e=.returned (.bool true)/\zb W w'):=fun W v v' h h'=>sameMaze_calls W h h' (subO_lens T.out (by have:=o.out.1;omega)) subO_rows
       have l6:zb wb wb:=zb.refl wb;have y6:(bb != bb)=false:=by simp
       clear E rn t0 t1 t2 t3 t4 t5;go_upto_region 15 with fail;refine Fd (S:=(fun W=>zb wb W)) zU (l6.drew) fun zH=>?_;have a8:zb wb wb.drew:=zH;clear a8;generalize wb.drew=wd at zH⊢;refine ze 0 zH ?_;refine ze 1 zH ?_;simp only [za,EK];refine ze 2 zH ?_;refine ze 3 zH ?_;simp only [za,EK];refine ze 4 zH ?_;refine ze 5 zH ?_;simp only [za,EK];refine zx 6 fun K D=>?_;go_simp;go_at_call 13;refine (o3.out _ zH).mono ?_;rintro e wc ⟨rfl,q8⟩;go_simp;refine zal D (zH.trans q8) fun zH=>?_;clear D K;try simp only [za,EK]
       refine ze 7 zH ?_;refine ze 8 zH ?_;simp only [za,EK];refine ze 9 zH ?_;refine ze 10 zH ?_;simp only [za,EK];refine ze 11 zH ?_;refine ze 13 zH ?_;simp only [za,EK];refine ze 14 zH ?_;simp only [za,EK];refine zx 12 fun K D=>?_;go_simp;go_at_call 20;refine (m6.out _ zH).mono ?_;rintro e we ⟨ve,rfl,f1,r8⟩;go_simp;refine zal D (zH.trans f1) fun zH=>?_;clear D K;try simp only [za,EK]
       refine zx 15 fun K D=>?_;go_simp;go_at_call 21;refine (n4.out _ zH).mono ?_;rintro e wf ⟨vf,rfl,b6,r9⟩;go_simp;refine zal D (zH.trans b6) fun zH=>?_;clear D K;try simp only [za,EK]
       refine zx 16 fun K D=>?_;go_simp;go_at_call 13;refine (o4.out _ _ _ (r8.below b6) r9).mono ?_;rintro e wg ⟨rfl,q9⟩;go_simp;refine zal D (zH.trans q9) fun zH=>?_;clear D K;try simp only [za,EK]
       refine ze 17 zH ?_;refine ze 18 zH ?_;simp only [za,EK];refine ze 19 zH ?_;refine ze 20 zH ?_;simp only [za,EK];refine ze 21 zH ?_;refine ze 22 zH ?_;simp only [za,EK];refine ze 24 zH ?_;refine ze 25 zH ?_;simp only [za,EK];refine ze 26 zH ?_;simp only [za,EK];refine zx 23 fun K D=>?_;go_simp;go_at_call 15;refine (o6.out _ zH).mono ?_;rintro e wh ⟨vh,rfl,r6,s0⟩;go_simp;refine zal D (zH.trans r6) fun zH=>?_;clear D K;try simp only [za,EK]
       refine zx 27 fun K D=>?_;go_simp;go_at_call 23;refine (n6.out _ zH).mono ?_;rintro e wi ⟨vi,rfl,j2,s1⟩;go_simp;refine zal D (zH.trans j2) fun zH=>?_;clear D K;try simp only [za,EK]
       refine zx 28 fun K D=>?_;go_simp;go_at_call 22;refine (o5.out _ _ _ (s0.below j2) s1).mono ?_;rintro e wj ⟨rfl,r7⟩;go_simp;refine zal D (zH.trans r7) fun zH=>?_;clear D K;try simp only [za,EK]
       refine ze 29 zH ?_;refine ze 30 zH ?_;simp only [za,EK];refine Fs (by kernel_rfl) ?_ _
       go_wp2_with fail
       go_roundw
       case rel=>exact ⟨k3+1,b2,by go_num,(f0.out.trans (i3.out)).trans zH⟩
       case measure=>simp [intOf];omega
      ·obtain rfl:k3=3:=by omega
       obtain ⟨LB,f2⟩:∃b,b=AV y x:=⟨_,rfl⟩
       have e0:Hid (∀W,zb w3k W->Calls Tryz.prog 11 #[.agg #[.int .i64 y.w,.int .i64 y.h,.int .i64 y.l,.slice Yf y.free.length dyf,.slice Yu y.up.length dyu,.slice Yt y.tasks.length dyt],.slice A5 x.length c5] W fun e w'=>e=.returned (.bool LB)/\zb W w'):=fun W hW=>by
        rw [f2];exact Eh W (O.out.below (s.trans hW)) T.out (a5.out.below (s.trans hW)) (by have:=o.out.1;omega) (fun y M=>by have:=o.out.2 y M;omega)
       have n5:Hid (∀W,zb w3k W->Calls Tryz.prog 24 #[.agg #[.int .i64 y.w,.int .i64 y.h,.int .i64 y.l,.slice Yf y.free.length dyf,.slice Yu y.up.length dyu,.slice Yt y.tasks.length dyt],.slice A5 x.length c5] W fun e w'=>e=.returned (.bool LB)/\zb W w'):=fun W hW=>by
        rw [f2];exact qlaid_calls W (O.out.below (s.trans hW)) T.out (a5.out.below (s.trans hW)) (by have:=o.out.1;omega) (fun y M=>by have:=o.out.2 y M;omega)
       have m0:=fun W h=>t0 W (s.trans h)
       have m1:=fun W h=>t1 W (s.trans h)
       have m2:=fun W h=>t2 W (s.trans h)
       have m3:=fun W h=>t3 W (s.trans h)
       have m4:=fun W h=>t4 W (s.trans h)
       have m5:=fun W h=>t5 W (s.trans h)
       have l5:zb w3k w3k:=zb.refl w3k;have x9:(LB != LB)=false:=by simp
       have i6:Hid (zb wl w3k):=s;clear f2 t0 t1 t2 t3 t4 t5 s b2 k4;go_upto_region 18 with fail;refine Fd (S:=(fun W=>zb w3k W)) zU (l5.drew) fun zH=>?_;have a8:zb w3k w3k.drew:=zH;clear a8;generalize w3k.drew=wd at zH⊢;refine ze 0 zH ?_;refine ze 1 zH ?_;simp only [za,EK];refine ze 3 zH ?_;refine ze 4 zH ?_;simp only [za,EK];refine zx 2 fun K D=>?_;go_simp;go_at_call 11;refine (e0.out _ zH).mono ?_;rintro e we ⟨rfl,f1⟩;go_simp;refine zal D (zH.trans f1) fun zH=>?_;clear D K;try simp only [za,EK]
       refine zx 5 fun K D=>?_;go_simp;go_at_call 24;refine (n5.out _ zH).mono ?_;rintro e wf ⟨rfl,b6⟩;go_simp;refine zal D (zH.trans b6) fun zH=>?_;clear D K;try simp only [za,EK]
       refine ze 6 zH ?_;simp only [za,EK];refine Fs (by kernel_rfl) ?_ _
       go_wp2_with fail
       go_roundw
       case rel=>exact ⟨k2+1,b1,by go_num,i6.out.trans zH⟩
       case measure=>simp [intOf];omega
    ·obtain rfl:k2=4:=by omega
     have p3:Hid (zb w9 w2k):=e8.out.trans J.out;clear b1 j9 g8 J
     go_wp2_with fail
     go_roundw
     case rel=>exact ⟨k+1,g0,by go_num,p3.out⟩
     case measure=>simp [intOf];omega
  ·obtain rfl:k=2:=by omega
   have h4:zb w4 wk:=i4.out.trans g9;have f9:=Eh wk (e9.out.below h4) a3.out.lens (Z.out.below h4) (by have:=i0.out;omega) (fun x hx=>by have:=e4.out x hx;omega);rw [b3.out] at f9;have e0:=zh f9;clear f9 g0 hk
   go_wp2_with fail
   refine e0.out.mono ?_;rintro e w5 ⟨rfl,j1⟩;have o9:Hid (zb w w5):=o8.out.trans (h4.trans j1);clear j1
   go_wp2_with fail
   go_ret;exact ⟨rfl,o9.out⟩
theorem intssVal {H:Type} {enc:TypeId×Value->H} {o:Bool} {d:DataW H} {p:List MemPlace} (s:Value.okWide Tryz.prog W .any b 22 v) (h:DataW.Trod enc Tryz.prog w base (fun _=>true) o 22 v d p):∃l,zq w (fun _=>True) v l/\l.length<=9223372036854775807/\∀a∈l,a.length<=9223372036854775807:=by
 obtain ⟨fuel,h⟩:=h;obtain ⟨v',l,e,E,D⟩:=intssOpen h;refine ⟨l,?_,D⟩
 have z:∀cs,v≠.agg cs:=by
  rintro cs rfl;unfold Value.okWide at s;rw [Tryz.underlying22] at s;simp [Cell.okWide,Cell.ok,Tryz.underlying22] at s
 have:v.cells=#[v]:=by
  cases v <;> first | rfl | exact absurd rfl (z _)
 rw [this] at e;injection e with e;subst e;exact E
theorem shovePaths_walk {H:Type} {enc:TypeId×Value->H} {d0 d1:DataW H} {p0 p1:List MemPlace} (W:World) (z:Value.okWide Tryz.prog W .any base 26 v0) (h0:DataW.Trod enc Tryz.prog W 0 (fun _=>true) true 26 v0 d0 p0) (D:Value.okWide Tryz.prog W .any base 22 v1) (h1:DataW.Trod enc Tryz.prog W 0 (fun _=>true) true 22 v1 d1 p1) (a2:Int) (w2:(Lit.int .i64 a2).wf=true):
  Calls Tryz.prog 4 #[v0,v1,.int .i64 a2] W fun e w'=>e=.returned (.bool true)/\Below W.heap.size W w':=by
 have _:=w2;obtain ⟨va,vb,o0,o1,o2,ls,ns,tk,rfl,h2,h3,E,G,I,J,-⟩:=case31Open h0 (case31Agg z);obtain ⟨rs,L,o,s⟩:=intssVal D h1;exact (paths_calls o0 o1 o2 a2 W h2 h3 E G I J L o s).mono fun e w' h=>h
end
end Go.Proofs.YthbjngbhbbkkgaaGreat
