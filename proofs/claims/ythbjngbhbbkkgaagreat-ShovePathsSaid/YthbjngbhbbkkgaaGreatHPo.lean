import Derived.Test.YthbjngbhbbkkgaaGreatHPn
set_option linter.unusedVariables false
set_option linter.unusedSimpArgs false
set_option maxRecDepth 100000
set_option maxHeartbeats 16000000
namespace Go.Proofs.YthbjngbhbbkkgaaGreat
variable {l ls ps:List (List Int)} {p q:List Int} {xs:List Value} {m:MZ} {k:Nat} {ok ok' okm:Nat->Prop} {v v' vp:Value}
section
open Go.ChangeShapes Go.WideShapes Go.ChangeAt Go.RowKit
theorem cellsK6:Tryz.prog.cellsOf 26=6:=by kernel_rfl
theorem cellsKu8:Tryz.prog.cellsOf 5=1:=by kernel_rfl
theorem len6 {α:Type} {l:List α} (h:l.length=6):∃a b c d e f,l=[a,b,c,d,e,f]:=by
 match l,h with
 | [a,b,c,d,e,f],_=>exact ⟨a,b,c,d,e,f,rfl⟩
theorem case31Agg {W:World} {b:Nat} (h:Value.okWide Tryz.prog W .any b 26 v):∃cs,v=.agg cs:=by
 unfold Value.okWide at h;rw [Tryz.underlying26] at h;obtain ⟨cs,h,_⟩:=h;exact ⟨cs,h⟩
section
variable {H:Type} {enc:TypeId×Value->H} {w:World} {base:Nat} {held:Bool} {fuel:Nat} {cs:List Value} {x:DataW H×List MemPlace}
theorem u8Open (h:DataW.trod enc Tryz.prog w base (fun _=>true) held fuel 5 cs=some x):∃n:Nat,cs=[.int .u8 n]/\n<256:=by
 obtain ⟨k,rfl,_,o⟩:=DataW.trod_int Tryz.underlying5 h;have this:=o;simp only [Lit.wf,IntKind.has,EZ,EX] at this;have e1:IntKind.u8.min=0:=rfl;have e2:IntKind.u8.max=255:=rfl;exact ⟨k.toNat,by rw [Int.toNat_of_nonneg (by omega)],by omega⟩
theorem case31Open {d:DataW H} {p:List MemPlace} (h:DataW.Trod enc Tryz.prog w base (fun _=>true) held 26 v d p) (I:∃cs,v=.agg cs):
  ∃v0 v1 o0 o1 o2 ls ns,∃tk:Nat,v=.agg #[v0,v1,.int .i64 o0,.int .i64 o1,.int .i64 o2,.int .u8 tk]/\zq w (fun _=>True) v0 ls/\ls.length<=9223372036854775807/\(∀l∈ls,l.length<=9223372036854775807)/\
   zi w (fun _=>True) v1 ns/\ns.length<=9223372036854775807/\tk<256/\(-9223372036854775808<=o0/\o0<=9223372036854775807)/\(-9223372036854775808<=o1/\o1<=9223372036854775807)/\(-9223372036854775808<=o2/\o2<=9223372036854775807):=by
 obtain ⟨fuel,h⟩:=h;obtain ⟨E,o⟩:=fieldOpen Tryz.underlying26 h;rw [cellsK6] at E;obtain ⟨c0,c1,c2,c3,c4,c5,D⟩:=len6 E;have z:=agg_of D I;rw [D] at o;obtain ⟨n0,y0,h0⟩:=o 0 _ _ _ rfl cellsT22;obtain ⟨n1,y1,h1⟩:=o 1 _ _ _ rfl cellsT24;obtain ⟨n2,y2,h2⟩:=o 2 _ _ _ rfl cellsT23;obtain ⟨n3,y3,h3⟩:=o 3 _ _ _ rfl cellsKu8;have h0:DataW.trod enc Tryz.prog w base (fun _=>true) held n0 22 [c0]=some y0:=h0;have h1:DataW.trod enc Tryz.prog w base (fun _=>true) held n1 23 [c1]=some y1:=h1;have h2:DataW.trod enc Tryz.prog w base (fun _=>true) held n2 24 [c2,c3,c4]=some y2:=h2;have h3:DataW.trod enc Tryz.prog w base (fun _=>true) held n3 5 [c5]=some y3:=h3;obtain ⟨v0,ls,e0,i0,i1,i2⟩:=intssOpen h0;injection e0 with e0;subst e0;obtain ⟨v1,ns,e1,i3,i4⟩:=intsOpen h1;injection e1 with e1;subst e1;obtain ⟨tk,e5,i5⟩:=u8Open h3;injection e5 with e5;subst e5;obtain ⟨xs,m,_,_,G,J,s⟩:=DataW.trod_array Tryz.underlying24 h2;rw [cellsT3] at s;have a0:=s 0 (by omega);have a1:=s 1 (by omega);have a2:=s 2 (by omega);rw [EL (by omega)] at a0 a1 a2;have a0:DataW.trod enc Tryz.prog w base (fun _=>true) held m 3 [c2]=_:=a0;have a1:DataW.trod enc Tryz.prog w base (fun _=>true) held m 3 [c3]=_:=a1;have a2:DataW.trod enc Tryz.prog w base (fun _=>true) held m 3 [c4]=_:=a2;obtain ⟨o0,e0,b0⟩:=intOpen a0;obtain ⟨o1,e1,b1⟩:=intOpen a1;obtain ⟨o2,e2,b2⟩:=intOpen a2;injection e0 with e0;injection e1 with e1;injection e2 with e2;subst e0 e1 e2;exact ⟨_,_,o0,o1,o2,ls,ns,tk,z,i0,i1,i2,i3,i4,i5,b0,b1,b2⟩
end
end
section
open Go.RowKit
attribute [local go_sem ↓] Go.wp_at_zero Go.wp_at_succ
theorem Ep {a:List Bool} (w:World) (h:An w ok v a) (M:An w ok' v' a) (V:a.length<=20000000000000):
  Calls Tryz.prog 56 #[v,v'] w fun e w'=>e=.returned (.bool true)/\∃n,w'=w.drewN n:=by
 obtain ⟨A,c,rfl,T,I⟩:=h;obtain ⟨A',c',rfl,O,D⟩:=M;have L:=zh I;clear I;have G:=zh D;clear D
 go_enter Tryz.func56,Tryz.ntmps56
 go_wp2;go_loopw [13] (fun i wr=>∃k:Nat,k<=a.length/\i=.int .i64 k/\Hid (zM w wr)) (fun i _=>a.length - (intOf i).toNat)
 case atStart=>exact ⟨0,Fb _,rfl,zM.refl _⟩
 case round=>
  obtain ⟨k,U,rfl,E⟩:=hrel;by_cases s:k<a.length
  ·obtain ⟨bA,off,rfl,_,z⟩:=BR (L.out.keep (E.out.same ok)) s s;obtain ⟨bB,off',rfl,_,o⟩:=BR (G.out.keep (E.out.same ok')) s s;obtain ⟨x,J⟩:=zak (a[k]);rw [<-J] at z o;clear J;have Q:(x != x)=false:=by simp
   go_wp2;go_quiet (fail)
   go_wp2;go_roundw
   case rel=>exact ⟨k+1,by omega,by go_num,E.out.more _⟩
   case measure=>simp [intOf];omega
  ·obtain rfl:k=a.length:=by omega
   go_wp2;go_ret;exact ⟨rfl,E.out⟩
theorem sameMaze_calls {ns:List ByteArray} (w:World) (h:Cn w ok v m ns) (h':Cn w ok' v' m ns) (hl:Lens m) (b7:∀x∈m.free,x.length<=20000000000000):
  Calls Tryz.prog 22 #[v,v'] w fun e w'=>e=.returned (.bool true)/\zb w w':=by
 have Z:=zh hl;have e5:=zh b7;obtain ⟨_,_,_,rfl,c5,c7,c6⟩:=h;obtain ⟨_,_,_,rfl,L,O,M⟩:=h';have e6:=zh c5;have e8:=zh c7;have e7:=zh c6;have a3:=zh L;have a5:=zh O;have a4:=zh M;obtain ⟨_,⟨Af,cf,rfl,-,-⟩,-⟩:=c5;obtain ⟨Au,cu,rfl,-,-⟩:=c7;obtain ⟨-,_,⟨At,ct,rfl,-,-⟩,-⟩:=c6;obtain ⟨_,⟨Af',cf',rfl,-,-⟩,-⟩:=L;obtain ⟨Au',cu',rfl,-,-⟩:=O;obtain ⟨-,_,⟨At',ct',rfl,-,-⟩,-⟩:=M;clear hl b7
 go_enter Tryz.func22,Tryz.ntmps22
 go_upto_region 1 with fail;obtain ⟨Q,r0,r1,r2,r3,r4,r5⟩:=CG w (.int .i64 m.w) (.int .i64 m.h) (.int .i64 m.l) (.slice Af m.free.length cf) (.slice Au m.up.length cu) (.slice At m.tasks.length ct);have U:(w.alloc (.cells #[.int .i64 m.w,.int .i64 m.h,.int .i64 m.l,.slice Af m.free.length cf,.slice Au m.up.length cu,.slice At m.tasks.length ct] 32)).heap.size=w.heap.size+1:=by simp
 generalize w.alloc _=w0 at Q r0 r1 r2 r3 r4 r5 U⊢;obtain ⟨G,s0,s1,s2,s3,s4,s5⟩:=CG w0 (.int .i64 m.w) (.int .i64 m.h) (.int .i64 m.l) (.slice Af' m.free.length cf') (.slice Au' m.up.length cu') (.slice At' m.tasks.length ct');generalize w0.alloc _=w1 at G s0 s1 s2 s3 s4 s5⊢;rw [U] at s0 s1 s2 s3 s4 s5;obtain ⟨gm,b8⟩:=zak w.heap.size;rw [<-b8] at r0 r1 r2 r3 r4 r5 s0 s1 s2 s3 s4 s5⊢;have D:=zh G;have o:=zh (Q.trans G);have r0:=fun W h=>r0 W (D.out.trans h)
 have r1:=fun W h=>r1 W (D.out.trans h)
 have r2:=fun W h=>r2 W (D.out.trans h)
 have r3:=fun W h=>r3 W (D.out.trans h)
 have r4:=fun W h=>r4 W (D.out.trans h)
 have r5:=fun W h=>r5 W (D.out.trans h)
 clear b8 Q G U;have I:zb w1 w1:=zb.refl w1
 go_wp2_with fail
 refine (Ep w1 (e8.out.below o.out) (a5.out.below o.out) Z.out.up).mono ?_;rintro e w2 ⟨rfl,n2,c8⟩;have d9:zb w1 w2:=by rw [c8];exact (zb.refl w1).drewN _
 have a6:=zh d9;clear c8 I
 go_wp2_with fail
 have f5:=Z.out.fr;have E:=Z.out.ts;go_loopw [55] (fun i wr=>∃k:Nat,k<=m.free.length/\i=.int .i64 (k:Nat)/\Hid (zb w1 wr)) (fun i _=>m.free.length - (intOf i).toNat)
 case atStart=>exact ⟨0,Fb _,rfl,a6.out⟩
 case round=>
  clear d9 a6;obtain ⟨k,hk,rfl,hE⟩:=hrel;obtain ⟨wk,rfl⟩:∃wk:World,wk=wr:=⟨_,rfl⟩;have I:zb w1 wk:=hE.out;by_cases z:k<m.free.length
  ·obtain ⟨vs,⟨_,_,e1,-,hr⟩,he⟩:=e6.out;injection e1 with e1 eqn eqc;subst e1;clear eqn eqc;obtain ⟨vs',⟨_,_,e1,-,d5⟩,b6⟩:=a3.out;injection e1 with e1 eqn eqc;subst e1;clear eqn eqc;obtain ⟨b,off,u,rfl,-,b5,hu⟩:=zO hr he z z;obtain ⟨b',off',u',rfl,-,J,V⟩:=zO d5 b6 z z;have T:=e5.out _ (EO z);have rc:=zb.rule (o.out.cell b5);have rc':=zb.rule (o.out.cell J);obtain ⟨x,e0⟩:=zak (m.free[k]);rw [<-e0] at hu V T;have f1:Hid (∀W,zb w1 W->Calls Tryz.prog 56 #[u,u'] W fun e w'=>e=.returned (.bool true)/\∃n,w'=W.drewN n):=fun W hW=>Ep W (hu.below (o.out.trans hW)) (V.below (o.out.trans hW)) T
   obtain ⟨A1,c1,rfl,-,-⟩:=hu;obtain ⟨A2,c2,rfl,-,-⟩:=V;have c0:(k:Int)<(m.free.length:Int):=by omega
   have b9:(0:Int)<=(k:Int):=by omega
   clear hr he d5 b6 b5 J T e0
   go_wp2_with fail
   go_quiet ((go_at_call 56;exact Calls.quiet_of (f1.out _ (I.drewN _))))
   go_wp2_with fail
   go_roundw
   case rel=>exact ⟨k+1,z,by go_num,I.drewN _⟩
   case measure=>simp [intOf];omega
  ·obtain rfl:k=m.free.length:=by omega
   have a7:=zh I;clear z hk f5 hE
   go_wp2_with fail
   go_loopw [74] (fun i wr=>∃k:Nat,k<=m.tasks.length/\i=.int .i64 (k:Nat)/\Hid (zb w1 wr)) (fun i _=>m.tasks.length - (intOf i).toNat)
   case atStart=>exact ⟨0,Fb _,rfl,a7.out⟩
   case round=>
    clear I a7;obtain ⟨k,hk,rfl,hE⟩:=hrel;obtain ⟨wk,rfl⟩:∃wk:World,wk=wr:=⟨_,rfl⟩;have I:zb w1 wk:=hE.out;by_cases z:k<m.tasks.length
    ·have c0:(k:Int)<(m.tasks.length:Int):=by omega
     have b9:(0:Int)<=(k:Int):=by omega
     clear hk E;go_upto_region 11 with fail;obtain ⟨b,off,u1,u2,rfl,h0,h1,h2,i1,i2⟩:=tasksNAt e7.out z;obtain ⟨b',off',u1',u2',rfl,a8,a9,b3,i1',i2'⟩:=tasksNAt a4.out z;have d8:=Z.out.tl _ (EO z);have a0:=zb.rule (o.out.cell h0);have a1:=zb.rule (o.out.cell h1);have a2:=zb.rule (o.out.cell h2);have b0:=zb.rule (o.out.cell a8);have b1:=zb.rule (o.out.cell a9);have b2:=zb.rule (o.out.cell b3);obtain ⟨tk,d7⟩:=zak (m.tasks[k]);rw [<-d7] at i1 i2 i1' i2' d8;obtain ⟨s,d6⟩:=zak (ns.getD k ⟨#[]⟩);rw [<-d6] at a0 b0
     have e9:Hid (∀W,zb w1 W->Calls Tryz.prog 13 #[u1,u1'] W fun e w'=>e=.returned (.bool true)/\∃n,w'=W.drewN n):=fun W hW=>by
      have h:=Ck W (i1.below (o.out.trans hW)) (i1'.below (o.out.trans hW)) (by omega) (by omega);rw [EQ rfl] at h;exact h
     have f0:Hid (∀W,zb w1 W->Calls Tryz.prog 13 #[u2,u2'] W fun e w'=>e=.returned (.bool true)/\∃n,w'=W.drewN n):=fun W hW=>by
      have h:=Ck W (i2.below (o.out.trans hW)) (i2'.below (o.out.trans hW)) (by omega) (by omega);rw [EQ rfl] at h;exact h
     obtain ⟨A1,c1,rfl,-,-⟩:=i1;obtain ⟨A2,c2,rfl,-,-⟩:=i2;obtain ⟨A3,c3,rfl,-,-⟩:=i1';obtain ⟨A4,c4,rfl,-,-⟩:=i2';clear h0 h1 h2 a8 a9 b3 d8 d7 d6;go_upto_region 12 with fail;refine Fd (S:=(fun W=>zb w1 W)) zU (I.drew) fun zH=>?_;have f4:zb w1 wk.drew:=zH;clear f4;generalize wk.drew=wd at zH⊢;refine ze 0 zH ?_;refine ze 1 zH ?_;simp only [za,EK];refine ze 2 zH ?_;refine ze 3 zH ?_;simp only [za,EK];refine ze 4 zH ?_;refine ze 5 zH ?_;simp only [za,EK];refine ze 6 zH ?_;refine ze 7 zH ?_;simp only [za,EK];refine ze 8 zH ?_;refine ze 9 zH ?_;simp only [za,EK];refine ze 10 zH ?_;refine ze 11 zH ?_;simp only [za,EK];refine ze 12 zH ?_;refine ze 13 zH ?_;simp only [za,EK];refine ze 14 zH ?_;refine ze 15 zH ?_;simp only [za,EK];refine ze 16 zH ?_;refine ze 17 zH ?_;simp only [za,EK];refine ze 18 zH ?_;refine ze 19 zH ?_;simp only [za,EK];refine ze 20 zH ?_;refine ze 21 zH ?_;simp only [za,EK];refine ze 22 zH ?_;refine ze 23 zH ?_;simp only [za,EK];refine ze 24 zH ?_;refine ze 25 zH ?_;simp only [za,EK];refine zx 26 fun K hK=>?_;go_simp;go_at_call 13;refine (e9.out _ zH).mono ?_;rintro e w7 ⟨rfl,n7,c9⟩;have f2:zb wd w7:=by rw [c9];exact (zb.refl wd).drewN _
     clear c9;go_simp;refine zal hK (zH.trans f2) fun zH=>?_;clear hK K;try simp only [za,EK]
     refine ze 27 zH ?_;refine ze 28 zH ?_;simp only [za,EK];refine ze 29 zH ?_;refine ze 30 zH ?_;simp only [za,EK];refine ze 31 zH ?_;refine ze 32 zH ?_;simp only [za,EK];refine ze 33 zH ?_;refine ze 34 zH ?_;simp only [za,EK];refine ze 35 zH ?_;refine ze 36 zH ?_;simp only [za,EK];refine ze 37 zH ?_;refine ze 38 zH ?_;simp only [za,EK];refine ze 39 zH ?_;refine ze 40 zH ?_;simp only [za,EK];refine ze 41 zH ?_;simp only [za,EK];refine zx 42 fun K hK=>?_;go_simp;go_at_call 13;refine (f0.out _ zH).mono ?_;rintro e w8 ⟨rfl,n8,d4⟩;have f3:zb w7 w8:=by rw [d4];exact (zb.refl w7).drewN _
     clear d4;go_simp;refine zal hK (zH.trans f3) fun zH=>?_;clear hK K;try simp only [za,EK]
     refine ze 43 zH ?_;refine ze 44 zH ?_;simp only [za,EK];refine Fs (by kernel_rfl) ?_ _;have E:=Z.out.ts
     go_wp2_with fail
     go_roundw
     case rel=>exact ⟨k+1,z,by go_num,zH⟩
     case measure=>simp [intOf];omega
    ·obtain rfl:k=m.tasks.length:=by omega
     clear z hk E
     go_wp2_with fail
     go_ret;exact ⟨rfl,o.out.trans I⟩
theorem any_swap (p q:List Int):(p.any fun x=>decide (x∈q))=(q.any fun n=>decide (n∈p)):=by
 rw [Bool.eq_iff_iff,zaf,zaf];constructor
 ·rintro ⟨x,h1,h2⟩;exact ⟨x,zah h2,EQ h1⟩
 ·rintro ⟨x,h1,h2⟩;exact ⟨x,zah h2,EQ h1⟩
theorem take_anyM {j:Nat} (h:j<p.length):((p.take (j+1)).any fun x=>decide (x∈q))=(((p.take j).any fun x=>decide (x∈q)) || decide (p[j]∈q)):=by
 rw [EU h,List.any_append];simp
theorem EB (w:World) (h:zq w ok v ps) (hl:ps.length<=1000000000000) (M:∀x∈ps,x.length<=20000000000000) (hp:zi w ok' vp p) (c8:p.length<=20000000000000):
  Calls Tryz.prog 21 #[v,vp] w fun e w'=>∃v',e=.returned v'/\Mk w w' v' (CM ps p):=by
 obtain ⟨vs,⟨A,c,rfl,hc,hr⟩,he⟩:=h;have HR:=zh hr;have HE:=zh he;obtain ⟨Ap,cp,rfl,-,a0⟩:=hp;have a7:=zh a0;have HX:=zh M;clear hr he M a0
 go_enter Tryz.func21,Tryz.ntmps21
 go_wp2_with fail
 have T:=zh (Mk.nil w);go_loopw [5,6] (fun v i wr=>∃k:Nat,k<=ps.length/\i=.int .i64 (k:Nat)/\Hid (Mk w wr v (selL (Cg ps p) k))) (fun _ i _=>ps.length - (intOf i).toNat)
 case atStart=>exact ⟨0,Fb _,rfl,T⟩
 clear T
 case round=>
  obtain ⟨k,hk,rfl,Q⟩:=hrel;have M:zb w wr:=Q.out.ext;obtain ⟨wk,rfl⟩:∃wk:World,wk=wr:=⟨_,rfl⟩;by_cases E:k<ps.length
  ·obtain ⟨b,off,u,rfl,_,s,hu⟩:=zO HR.out HE.out E E;have rc:=zb.rule (M.cell s);have a1:=HX.out _ (EO E);have J:Cg ps p k=(ps[k]).any fun n=>decide (n∈p):=by unfold Cg;rw [EM,EL E];rfl
   obtain ⟨q,hq⟩:=zak (ps[k]);rw [<-hq] at hu a1 J;clear hq s;have HU:=zh (zi.below hu M);have a6:Hid (Cg ps p k=p.any fun x=>decide (x∈q)):=J.trans (any_swap p q).symm;obtain ⟨Aq,cq,rfl,-,-⟩:=hu;have b7:(k:Int)<(ps.length:Int):=by omega
   have b6:(0:Int)<=(k:Int):=by omega
   have b4:zb wk wk:=zb.refl wk;clear J M
   go_wp2_with fail
   clear b4;go_loopw [7,8] (fun cv i wr=>∃j:Nat,j<=p.length/\i=.int .i64 (j:Nat)/\cv=.bool ((p.take j).any fun x=>decide (x∈q))/\Hid (∃n,wr=wk.drewN n)) (fun _ i _=>p.length - (intOf i).toNat)
   case atStart=>exact ⟨0,Fb _,rfl,rfl,0,rfl⟩
   case round=>
    obtain ⟨j,hj,rfl,rfl,hW⟩:=hrel;obtain ⟨wj,rfl⟩:∃wj:World,wj=wr:=⟨_,rfl⟩;have L:zb wk wj:=by obtain ⟨n,e⟩:=hW.out;rw [e];exact (zb.refl wk).drewN _
    by_cases z:j<p.length
    ·obtain ⟨bp,offp,rfl,-,I⟩:=zy a7.out z z;have rp:∀W,zb wk W->W.cell? ⟨bp,offp+j,none⟩=some (.int .i64 p[j]):=zb.rule (Q.out.ext.cell I);have D:=zh (take_anyM (q:=q) z);obtain ⟨x,a4⟩:=zak (p[j]);rw [<-a4] at rp D;clear a4 I;generalize (p.take j).any (fun x=>decide (x∈q))=b0 at D⊢;have G:Hid (∀W,zb wk W->Calls Tryz.prog 12 #[.slice Aq q.length cq,.int .i64 x] W fun e w'=>e=.returned (.bool (decide (x∈q)))/\W=w'):=fun W hW=>zL x W (HU.out.below hW) a1
     generalize decide (x∈q)=d at D G;have O:Hid (∀n,∃n',wj.drewN n=wk.drewN n'):=fun n=>by obtain ⟨n0,e⟩:=hW.out;exact ⟨n0+n,by rw [e,World.drewN_drewN]⟩
     have c7:(j:Int)<(p.length:Int):=by omega
     have b5:(0:Int)<=(j:Int):=by omega
     clear hW;cases b0
     ·go_wp2_with fail
      go_quiet ((go_at_call 12;with_reducible refine (G.out _ (L.drewN _)).mono ?_;rintro e w8 ⟨b1,rfl⟩;exact ⟨b1,⟨_,rfl⟩⟩))
      go_wp2_with fail
      go_roundw
      case rel=>exact ⟨j+1,z,by go_num,by rw [D.out];simp,O.out _⟩
      case measure=>simp [intOf];omega
     ·go_wp2_with fail
      go_quiet (fail)
      go_wp2_with fail
      go_roundw
      case rel=>exact ⟨j+1,z,by go_num,by rw [D.out];simp,O.out _⟩
      case measure=>simp [intOf];omega
    ·obtain rfl:j=p.length:=by omega
     rw [EY,<-a6.out];have o:=zh (Q.out.more L);have b2:=selL_len (Cg ps p) k;have a3:zb w wj:=o.out.ext;clear Q hW L
     cases hb:Cg ps p k with
     | true=>
      have D:=zh (selL_t hb);clear hb;obtain ⟨l,V⟩:=zak (selL (Cg ps p) k);rw [<-V] at o b2 D;clear V
      go_wp2_with (at_builtin;refine AP rfl _ _ rfl _ l (k:Int) w.heap.size wj.heap.size 1 _ rfl rfl (o.out.own.alloc _) ?d1 ?d2 ?d3 ?_)
      (try case d1=>exact zr _ _ _ (by simp))
      case d2=>(first | (simp;done) | (have:=a3.size;simp;omega) | (have:=a3.size;omega))
      case d3=>omega
      intro v' wb Z U a9;have a8:=zh ((o.out.alloc _).app Z U);clear Z U a9
      go_wp2_with fail
      go_roundw
      case rel=>exact ⟨k+1,by omega,by go_num,by rw [D.out];exact a8⟩
      case measure=>simp [intOf];omega
     | false=>
      have D:=zh (selL_f hb);clear hb
      go_wp2_with fail
      go_roundw
      case rel=>exact ⟨k+1,by omega,by go_num,by rw [D.out];exact o⟩
      case measure=>simp [intOf];omega
  ·obtain rfl:k=ps.length:=by omega
   go_wp2_with fail
   go_ret;exact ⟨_,rfl,Q.out⟩
theorem only_calls (k:Nat) (w:World) (h:zt w ok v m) (hk:k<m.tasks.length) (b4:k<m.free.length):
  Calls Tryz.prog 58 #[v,.int .i64 (k:Nat)] w fun e w'=>∃v',e=.returned v'/\zb w w'/\zt w' (fun _=>True) v' (ownM m k):=by
 obtain ⟨Af,cf,Au,cu,At,ct,rfl,hf,hu,ht⟩:=h.parts;have HU:=zh hu;obtain ⟨bt,offt,s,u1,u2,rfl,-,t0,t1,t2,i1,i2⟩:=AO ht hk;obtain ⟨vsf,⟨_,_,e1,-,d7⟩,c9⟩:=hf;injection e1 with e1 eqn eqc;subst e1;clear eqn eqc;obtain ⟨bf,offf,uf,rfl,-,f0,d5⟩:=zO d7 c9 b4 b4;have c4:=zh i1;have c5:=zh i2;have c0:=zh d5;obtain ⟨A1,c1,rfl,-,-⟩:=i1;obtain ⟨A2,c2,rfl,-,-⟩:=i2;obtain ⟨A3,c3,rfl,-,-⟩:=d5;have M:m.tasks.getD k ([],[])=m.tasks[k]:=zgd hk
 have L:m.free.getD k []=m.free[k]:=zgd b4
 have a6:Hid (ownM m k=⟨m.w,m.h,m.l,[m.free[k]],m.up,[m.tasks[k]]⟩):=by (show _=_);unfold ownM;rw [M,L]
 obtain ⟨tk,d8⟩:=zak (m.tasks[k]);obtain ⟨fk,d4⟩:=zak (m.free[k]);rw [<-d8] at c4 c5 a6 t1 t2;rw [<-d4] at c0 a6 f0;have f8:(k:Int)<(m.tasks.length:Int):=by omega
 have f2:(k:Int)<(m.free.length:Int):=by omega
 have f7:(0:Int)<=(k:Int):=by omega
 clear h hu ht d7 c9 M L d8 d4
 go_enter Tryz.func58,Tryz.ntmps58
 go_upto_region 1 with fail;have a7:=zg.new w #[.int .i64 m.w,.int .i64 m.h,.int .i64 m.l,.slice (some ⟨bf,offf,none⟩) m.free.length cf,.slice Au m.up.length cu,.slice (some ⟨bt,offt,none⟩) m.tasks.length ct] 32 (g:=w.heap.size) rfl;have a8:zb w (w.alloc (.cells #[.int .i64 m.w,.int .i64 m.h,.int .i64 m.l,.slice (some ⟨bf,offf,none⟩) m.free.length cf,.slice Au m.up.length cu,.slice (some ⟨bt,offt,none⟩) m.tasks.length ct] 32)):=(zb.refl w).alloc _;have a1:(w.alloc (.cells #[.int .i64 m.w,.int .i64 m.h,.int .i64 m.l,.slice (some ⟨bf,offf,none⟩) m.free.length cf,.slice Au m.up.length cu,.slice (some ⟨bt,offt,none⟩) m.tasks.length ct] 32)).heap.size=w.heap.size+1:=by simp
 generalize w.alloc _=w1 at a7 a8 a1⊢;have O:=zg.new w1 #[.int .i64 0,.int .i64 0,.int .i64 0,.slice none 0 0,.slice none 0 0,.slice none 0 0] 32 (g:=w1.heap.size) rfl;have o:=a7.alloc (.cells #[.int .i64 0,.int .i64 0,.int .i64 0,.slice none 0 0,.slice none 0 0,.slice none 0 0] 32);have I:=a8.alloc (.cells #[.int .i64 0,.int .i64 0,.int .i64 0,.slice none 0 0,.slice none 0 0,.slice none 0 0] 32);have T:(w1.alloc (.cells #[.int .i64 0,.int .i64 0,.int .i64 0,.slice none 0 0,.slice none 0 0,.slice none 0 0] 32)).heap.size=w1.heap.size+1:=by simp
 generalize w1.alloc _=w2 at O o I T⊢;rw [a1] at O T
 try rw [a1]
 obtain ⟨gm,b2⟩:=zak w.heap.size;rw [<-b2] at o O T⊢;have HG:Hid (gm=w.heap.size/\w2.heap.size=gm+1+1):=⟨b2,T⟩;have a4:=zh o;have a5:=zh O;have b7:=zh I;have b5:=o.cell (k:=5) rfl;have z5:=o.frozen 5;have f6:gm<w2.heap.size:=zd o;have y0:=zb.cell t0 I;have y1:=zb.cell t1 I;have y2:=zb.cell t2 I;clear a7 a8 a1 O o I T b2;go_upto_region 2 with fail;have E:zg ((w2.setCell ⟨gm,5,none⟩ (.slice (some ⟨w2.heap.size,0,none⟩) 1 1)).alloc (.cells #[.string s,.slice A1 tk.1.length c1,.slice A2 tk.2.length c2] 56)) gm 32 #[.int .i64 m.w,.int .i64 m.h,.int .i64 m.l,.slice (some ⟨bf,offf,none⟩) m.free.length cf,.slice Au m.up.length cu,.slice (some ⟨w2.heap.size,0,none⟩) 1 1]:=(a4.out.set (k:=5) _).alloc _;have a0:zg ((w2.setCell ⟨gm,5,none⟩ (.slice (some ⟨w2.heap.size,0,none⟩) 1 1)).alloc (.cells #[.string s,.slice A1 tk.1.length c1,.slice A2 tk.2.length c2] 56)) w2.heap.size 56 #[.string s,.slice A1 tk.1.length c1,.slice A2 tk.2.length c2]:=zg.new _ _ _ (by simp);have b1:zg ((w2.setCell ⟨gm,5,none⟩ (.slice (some ⟨w2.heap.size,0,none⟩) 1 1)).alloc (.cells #[.string s,.slice A1 tk.1.length c1,.slice A2 tk.2.length c2] 56)) (gm+1) 32 #[.int .i64 0,.int .i64 0,.int .i64 0,.slice none 0 0,.slice none 0 0,.slice none 0 0]:=(a5.out.setOther (a:=⟨gm,5,none⟩) (by (show gm+1≠gm);omega) _).alloc _;have V:zb w ((w2.setCell ⟨gm,5,none⟩ (.slice (some ⟨w2.heap.size,0,none⟩) 1 1)).alloc (.cells #[.string s,.slice A1 tk.1.length c1,.slice A2 tk.2.length c2] 56)):=zb.alloc (Below.setCell b7.out (p:=⟨gm,5,none⟩) (by have:=HG.out;(show w.heap.size<=gm);omega) _) _;have a3:((w2.setCell ⟨gm,5,none⟩ (.slice (some ⟨w2.heap.size,0,none⟩) 1 1)).alloc (.cells #[.string s,.slice A1 tk.1.length c1,.slice A2 tk.2.length c2] 56)).heap.size=w2.heap.size+1:=by simp
 generalize ((w2.setCell ⟨gm,5,none⟩ (.slice (some ⟨w2.heap.size,0,none⟩) 1 1)).alloc (.cells #[.string s,.slice A1 tk.1.length c1,.slice A2 tk.2.length c2] 56))=w3 at E a0 b1 V a3⊢;obtain ⟨gt,M⟩:=zak w2.heap.size;rw [<-M] at E a0 a3
 try rw [<-M]
 have U:Hid (gt=gm+1+1/\w3.heap.size=gt+1):=⟨by have:=HG.out;omega,a3⟩;have b6:=zh E;have c6:=zh a0;have c8:=zh b1;have b8:=zh V;have b3:=E.cell (k:=3) rfl;have z3:=E.frozen 3;have e9:gm<w3.heap.size:=zd E;have yf:=zb.cell f0 V;clear M E a0 b1 V a3 b5 z5 y0 y1 y2 a4 a5 b7;go_upto_region 3 with fail;have D:zg ((w3.setCell ⟨gm,3,none⟩ (.slice (some ⟨w3.heap.size,0,none⟩) 1 1)).alloc (.cells #[.slice A3 fk.length c3] 29)) gm 32 #[.int .i64 m.w,.int .i64 m.h,.int .i64 m.l,.slice (some ⟨w3.heap.size,0,none⟩) 1 1,.slice Au m.up.length cu,.slice (some ⟨gt,0,none⟩) 1 1]:=(b6.out.set (k:=3) _).alloc _;have Z:zg ((w3.setCell ⟨gm,3,none⟩ (.slice (some ⟨w3.heap.size,0,none⟩) 1 1)).alloc (.cells #[.slice A3 fk.length c3] 29)) w3.heap.size 29 #[.slice A3 fk.length c3]:=zg.new _ _ _ (by simp);have b0:zg ((w3.setCell ⟨gm,3,none⟩ (.slice (some ⟨w3.heap.size,0,none⟩) 1 1)).alloc (.cells #[.slice A3 fk.length c3] 29)) gt 56 #[.string s,.slice A1 tk.1.length c1,.slice A2 tk.2.length c2]:=(c6.out.setOther (a:=⟨gm,3,none⟩) (by have:=U.out;(show gt≠gm);omega) _).alloc _;have z:zg ((w3.setCell ⟨gm,3,none⟩ (.slice (some ⟨w3.heap.size,0,none⟩) 1 1)).alloc (.cells #[.slice A3 fk.length c3] 29)) (gm+1) 32 #[.int .i64 0,.int .i64 0,.int .i64 0,.slice none 0 0,.slice none 0 0,.slice none 0 0]:=(c8.out.setOther (a:=⟨gm,3,none⟩) (by (show gm+1≠gm);omega) _).alloc _;have a9:zb w ((w3.setCell ⟨gm,3,none⟩ (.slice (some ⟨w3.heap.size,0,none⟩) 1 1)).alloc (.cells #[.slice A3 fk.length c3] 29)):=zb.alloc (Below.setCell b8.out (p:=⟨gm,3,none⟩) (by have:=HG.out;(show w.heap.size<=gm);omega) _) _;generalize ((w3.setCell ⟨gm,3,none⟩ (.slice (some ⟨w3.heap.size,0,none⟩) 1 1)).alloc (.cells #[.slice A3 fk.length c3] 29))=w4 at D Z b0 z a9⊢;obtain ⟨gf,L⟩:=zak w3.heap.size;rw [<-L] at D Z
 try rw [<-L]
 have e4:Hid (gf=gt+1):=by have:=U.out;(show _=_);omega
 have b9:=zh Z;have c7:=zh b0;have e5:=zh z;have e3:=zh a9;have m0:=D.cell (k:=0) rfl;have m1:=D.cell (k:=1) rfl;have m2:=D.cell (k:=2) rfl;have m3:=D.cell (k:=3) rfl;have m4:=D.cell (k:=4) rfl;have m5:=D.cell (k:=5) rfl;have hfz:∀j,w4.frozen? ⟨gm+1,j,none⟩=false:=fun j=>z.frozen j
 have z0:=z.cell (k:=0) rfl;have z1:=z.cell (k:=1) rfl;have z2:=z.cell (k:=2) rfl;have z3':=z.cell (k:=3) rfl;have z4:=z.cell (k:=4) rfl;have z5:=z.cell (k:=5) rfl;clear L D Z b0 z a9 b3 z3 yf b6 c6 c8 b8
 go_wp2_with fail
 refine zX (P:=fun W=>bodyPost Tryz.prog Tryz.f58 _ Exit.ret _ W) (g2:=gm+1) ?_ e5.out;intro WZ J e6 d6;have x0:=J.cell (k:=0) rfl;have x1:=J.cell (k:=1) rfl;have x2:=J.cell (k:=2) rfl;have x3:=J.cell (k:=3) rfl;have x4:=J.cell (k:=4) rfl;have x5:=J.cell (k:=5) rfl;have Q:zb w WZ:=Below.trans e3.out (e6.mono (by have:=HG.out;omega));have e8:zg WZ gt _ _:=(d6 gt (zd c7.out) (by have:=U.out;omega)).trans c7.out;have e7:zg WZ gf _ _:=(d6 gf (zd b9.out) (by have:=U.out;have:=e4.out;omega)).trans b9.out;refine FK (v:=.agg #[.int .i64 m.w,.int .i64 m.h,.int .i64 m.l,.slice (some ⟨gf,0,none⟩) 1 1,.slice Au m.up.length cu,.slice (some ⟨gt,0,none⟩) 1 1]) (by simp [results,Tryz.results58,go_sem,x0,x1,x2,x3,x4,x5]) rfl ⟨_,rfl,Q,?_⟩;rw [a6.out];refine ⟨_,_,_,rfl,⟨[.slice A3 fk.length c3],⟨_,1,rfl,EN _,zN.block (cs:=#[.slice A3 fk.length c3]) e7 trivial rfl⟩,fun i x G=>?_⟩,(HU.out.below Q).weaken fun _ _=>trivial,[.string s,.slice A1 tk.1.length c1,.slice A2 tk.2.length c2],⟨_,1,rfl,EN _,?_⟩,fun i x G=>?_⟩
 ·match i,G with
  | 0,G=>(injection G with G;subst G;exact ⟨_,rfl,(c0.out.below Q).weaken fun _ _=>trivial⟩)
  | i+1,G=>cases G
 ·exact ⟨by rfl,fun _=>⟨gt,0,rfl,trivial,fun j u hu=>by rw [Nat.zero_add];exact e8.cell (by simpa using hu)⟩⟩
 ·match i,G with
  | 0,G=>(injection G with G;subst G;exact ⟨s,_,_,rfl,rfl,rfl,(c4.out.below Q).weaken fun _ _=>trivial,(c5.out.below Q).weaken fun _ _=>trivial⟩)
  | i+1,G=>cases G
structure SnI (w1 wr:World) (gi n:Nat) (pre:List Int):Prop where
 ext:zb w1 wr
 hi:w1.heap.size<=gi
 row:wr.rowIs gi 4 n (memF pre)
section
variable {w1 wr w':World} {gi n:Nat} {pre:List Int}
theorem SnI.more (h:SnI w1 wr gi n pre) (o:zb wr w'):SnI w1 w' gi n pre:=⟨h.ext.trans o,h.hi,h.row.of_block (o.block _ h.row.lt)⟩
theorem SnI.set {x:Int} (h:SnI w1 wr gi n pre) (o:0<=x):SnI w1 (wr.setCell ⟨gi,x.toNat,none⟩ (.bool true)) gi n (pre++[x]):=
 ⟨h.ext.setCell h.hi _,h.hi,(h.row.set x.toNat (.bool true)).congr fun j _=>memF_set o j⟩
theorem SnI.cell (h:SnI w1 wr gi n pre) {x:Int} (h0:0<=x) (h1:x<n):wr.cell? ⟨gi,x.toNat,none⟩=some (.bool (decide (x∈pre)))/\wr.frozen? ⟨gi,x.toNat,none⟩=false:=by
 refine ⟨?_,h.row.frozen _⟩;rw [h.row.cell (by omega)];unfold memF;rw [Int.toNat_of_nonneg h0]
end
theorem qRight_calls {okp:Nat->Prop} (w:World) (hm:zt w okm v m) (hl:Lens m) (hp:zq w okp vp ps) (x2:ps.length<=20000000000000) (j7:∀x∈ps,x.length<=20000000000000):
  Calls Tryz.prog 57 #[v,vp] w fun e w'=>e=.returned (.bool (zJ m ps))/\zb w w':=by
 have g0:=zh hm;obtain ⟨vfr,vup,vts,rfl,p6,-,Q⟩:=hm;obtain ⟨vsf,⟨Af,cf,rfl,t8,k4⟩,i4⟩:=p6;have o3:=zh Q;obtain ⟨vst,⟨At,ct,rfl,v4,-⟩,-⟩:=Q;have n7:=zh k4;have l8:=zh i4;have t0:=zh hp;obtain ⟨vps,⟨Ap,cp,rfl,t9,k5⟩,i5⟩:=hp;have n8:=zh k5;have l9:=zh i5;have HL:=zh hl;have n6:=zh j7;have w4:=hl.fr;have w6:=hl.ts;obtain ⟨ck,h9⟩:=zak (AY m);have b1:=zh h9;clear k4 i4 k5 i5 hl j7 h9
 go_enter Tryz.func57,Tryz.ntmps57
 go_wp2_with fail
 generalize f2:w.alloc (.cells #[.int .i64 m.w,.int .i64 m.h,.int .i64 m.l,.slice Af m.free.length cf,vup,.slice At m.tasks.length ct] 32)=w1;have o:zb w w1:=by rw [<-f2];exact (zb.refl w).alloc _
 have j1:zg w1 w.heap.size 32 #[.int .i64 m.w,.int .i64 m.h,.int .i64 m.l,.slice Af m.free.length cf,vup,.slice At m.tasks.length ct]:=by rw [<-f2];exact FB _ _
 clear f2;obtain ⟨m0,m1,m2,m3,m4,m5⟩:=zn j1;have c0:=zb.rule m0;have c1:=zb.rule m1;have c2:=zb.rule m2;have c3:=zb.rule m3;have c4:=zb.rule m4;have c5:=zb.rule m5;clear m0 m1 m2 m3 m4 m5 j1;refine (Cm w1 (g0.out.below o) HL.out).mono ?_;rintro e w2 ⟨rfl,d7⟩;have d7:zb w1 w2:=d7;rw [<-b1.out];by_cases h0:ck=0
 case neg=>
  have j9:(ck==0)=false:=by rw [Fa];exact h0
  have k2:(ck != 0)=true:=by rw [bne_iff_ne];exact h0
  have z:Hid (zJ m ps=false):=by show _=_;unfold zJ;rw [<-b1.out,ER h0];rfl
  clear h0
  go_wp2_with fail
  go_ret;exact ⟨zf z.out.symm,o.trans d7⟩
 case pos=>
  subst h0;have HG:=zh (zI.of b1.out.symm);have w9:=HG.out.dim.n1;have r6:=HG.out.dim.layer;by_cases L:ps.length=m.tasks.length
  case neg=>
   have j9:((ps.length:Int)==(m.tasks.length:Int))=false:=by rw [Fa];omega
   have k2:((ps.length:Int) != (m.tasks.length:Int))=true:=by rw [bne_iff_ne];omega
   have z:Hid (zJ m ps=false):=by show _=_;unfold zJ;rw [ER L];simp
   clear L
   go_wp2_with fail
   go_ret;exact ⟨zf z.out.symm,o.trans d7⟩
  case pos=>
   have j9:((ps.length:Int)==(m.tasks.length:Int))=true:=by rw [beq_iff_eq];omega
   have k2:((ps.length:Int) != (m.tasks.length:Int))=false:=by rw [L];simp
   have f9:=zh L;have x8:=HG.out.tk;clear L;obtain ⟨N,hN⟩:∃N:Nat,m.w*m.h*m.l=(N:Int):=⟨(m.w*m.h*m.l).toNat,by omega⟩;have t3:N<=300:=by omega
   have HN:=zh hN
   have p9:∀W:World,(Instr.makeSlice 29 (.int .i64 (N:Int)) (.int .i64 (N:Int))).run Tryz.prog W=.ok (.slice (some ⟨W.heap.size,0,none⟩) N N) (W.alloc (.cells (madeCells #[.bool false] N) 4)):=fun W=>
    run_make_row' 29 4 (.bool false) 1 Tryz.underlying29 Tryz.infoBool rfl .i64 .i64 N (by omega) (by omega) W
   clear hN
   go_wp2_with fail
   refine (AA m.w m.h m.l _ _ _ w2 (by omega) (by omega)).mono ?_;rintro e wA ⟨rfl,h6⟩;rw [HN.out];have l0:zb w1 wA:=zb.trans ‹zb w1 w2› h6;have e0:Hid (SnI w1 (wA.alloc (.cells (madeCells #[.bool false] N) 4)) wA.heap.size N (ps.take 0).flatten):=⟨l0.alloc _,l0.size,World.rowIs_made wA (.bool false) N 4⟩;generalize q6:wA.alloc (.cells (madeCells #[.bool false] N) 4)=wB at e0;go_upto_region 4 with fail;clear q6 h6;generalize p7:wA.heap.size=gi at*;clear p7 p9
   go_wp2_with fail
   go_loopw [6] (fun i wr=>∃t:Nat,t<=ps.length/\i=.int .i64 t/\Hid (SnI w1 wr gi N (ps.take t).flatten)/\Hid (∀t',t'<t->pathB m t' (ps.getD t' []) (ps.take t').flatten=true)) (fun i _=>ps.length - (intOf i).toNat)
   case atStart=>exact ⟨0,Fb _,rfl,e0,fun t' h=>by omega⟩
   clear e0
   case round=>
    obtain ⟨t,ht,rfl,hS,hO⟩:=hrel;obtain ⟨wk,rfl⟩:∃wk:World,wk=wr:=⟨_,rfl⟩;have D:zb w1 wk:=hS.out.ext;by_cases O:t<ps.length
    ·have d6:t<m.tasks.length:=by have:=f9.out;omega
     obtain ⟨bt,offt,sn,u1,u2,rfl,_,o8,h7,h8,j2,j3⟩:=AO o3.out d6;obtain ⟨bp,ofp,up,rfl,_,i0,f1⟩:=zO n8.out l9.out O O;have f0:=HL.out.tl _ (EO d6);have j8:=n6.out _ (EO O);have e7:ps.getD t []=ps[t]:=by rw [EM,EL O,Ft]
     have k6:m.tasks.getD t ([],[])=m.tasks[t]:=by simp [d6]
     have b7:(ps.take (t+1)).flatten=(ps.take t).flatten++ps[t]:=by rw [EU O,List.flatten_append];simp
     obtain ⟨p,c6⟩:=zak (ps[t]);obtain ⟨pre,V⟩:=zak ((ps.take t).flatten);have HF:Hid (pathB m t p pre=false->zJ m ps=false):=fun h=>rightB_path O (by rw [e7,<-c6,<-V];exact h)
     have HO:Hid (pathB m t p pre=true->∀t',t'<t+1->pathB m t' (ps.getD t' []) (ps.take t').flatten=true):=fun h t' h'=>by
      rcases Fk t' t with h1 | h1
      ·exact hO.out t' h1
      ·obtain rfl:t'=t:=by omega
       rw [e7,<-c6,<-V];exact h
     rw [<-c6] at f1 j8 b7;rw [<-V] at hS b7;have m6:=zh b7;have b2:=zh k6;have t1:=zh f1;have m7:=zh j2;have m8:=zh j3;obtain ⟨r7,r8⟩:=f0;have rt1:∀W,zb w1 W->W.cell? ⟨bt,offt+t*3+1,none⟩=some u1:=fun W hW=>zb.rule h7 W (o.trans hW)
     have rt2:∀W,zb w1 W->W.cell? ⟨bt,offt+t*3+2,none⟩=some u2:=fun W hW=>zb.rule h8 W (o.trans hW)
     obtain ⟨Aq,cq,rfl,v3,c8⟩:=f1;have ru:∀W,zb w1 W->W.cell? ⟨bp,ofp+t,none⟩=some (.slice Aq p.length cq):=fun W hW=>zb.rule i0 W (o.trans hW)
     clear hO o8 h7 h8 j2 j3 i0 e7 k6 b7 c6 V;have s3:(t:Int)<(ps.length:Int):=by omega
     have s4:(t:Int)<(m.tasks.length:Int):=by omega
     rcases Fz p.length with hp0 | hp0
     ·have j5:=Fe hp0;have z:Hid (zJ m ps=false):=HF.out (by rw [j5];rfl);have p4:((p.length:Int)==0)=true:=by rw [beq_iff_eq];omega
      have p5:decide (p.length=0)=true:=EQ hp0;clear j5 hp0;go_upto_region 8 with fail;go_quiet (fail)
      go_wp2;go_ret;exact ⟨zf z.out.symm,o.trans (D.drewN _)⟩
     ·have p4:((p.length:Int)==0)=false:=by rw [Fa];omega
      have p5:decide (p.length=0)=false:=ER (by omega);have j6:Hid (p≠[]):=fun h=>by rw [h] at hp0;simp at hp0
      obtain ⟨bq,ofq,rfl,_,U⟩:=zy c8 (k:=0) hp0 hp0;obtain ⟨bq',ofq',e9,_,J⟩:=zy c8 (k:=p.length - 1) (by omega) (by omega);injection e9 with e9;injection e9 with e1 e2;subst e1 e2
      have f6:Hid (∀j (hj:j<p.length),w.cell? ⟨bq,ofq+j,none⟩=some (.int .i64 p[j])):=fun j hj=>by
       obtain ⟨b9,of9,e9,_,p3⟩:=zy c8 (k:=j) hj hj;injection e9 with e9;injection e9 with e1 e2;subst e1 e2;exact p3
      have i8:p.getD 0 0=p[0]:=by rw [EM,EL hp0,Ft]
      have j0:p.getD (p.length - 1) 0=p[p.length - 1]:=by rw [EM,EL (by omega),Ft]
      rw [<-i8] at U;rw [<-j0] at J;obtain ⟨x0,T⟩:=zak (p.getD 0 0);obtain ⟨xl,f3⟩:=zak (p.getD (p.length - 1) 0);rw [<-T] at U;rw [<-f3] at J;have rx0:∀W,zb w1 W->W.cell? ⟨bq,ofq,none⟩=some (.int .i64 x0):=fun W hW=>zb.rule U W (o.trans hW)
      obtain ⟨n,hn⟩:∃n,p.length=n+1:=⟨p.length - 1,by omega⟩;rw [hn,Nat.add_sub_cancel] at J;have rxl:∀W,zb w1 W->W.cell? ⟨bq,ofq+n,none⟩=some (.int .i64 xl):=fun W hW=>zb.rule J W (o.trans hW)
      have x6:IntKind.i64.wrap ((p.length:Int) - 1)=(n:Int):=by rw [Fi];omega
      have s1:IntKind.i64.wrap ((n:Int)+1 - 1)=(n:Int):=by rw [Fi];omega
      have s2:IntKind.i64.wrap (n:Int)=(n:Int):=by rw [Fi];omega
      have w7:(0:Int)<=(n:Int):=by omega
      have r9:(n:Int)<(p.length:Int):=by omega
      have s0:(0:Int)<(p.length:Int):=by omega
      have g6:=zh T;have g7:=zh f3;have s8:=zh hn;have a1:Hid (∀W,zb w1 W->Calls Tryz.prog 12 #[u1,.int .i64 x0] W fun e w'=>e=.returned (.bool (decide (x0∈(m.tasks[t]).1)))/\W=w'):=fun W hW=>zL _ W (m7.out.below (o.trans hW)) (by omega)
      have a3:Hid (∀W,zb w1 W->Calls Tryz.prog 12 #[u2,.int .i64 xl] W fun e w'=>e=.returned (.bool (decide (xl∈(m.tasks[t]).2)))/\W=w'):=fun W hW=>zL _ W (m8.out.below (o.trans hW)) (by omega)
      have n0:=zh (Iff.refl (x0∈(m.tasks[t]).1));obtain ⟨d1,a8⟩:∃d1,d1=decide (x0∈(m.tasks[t]).1):=⟨_,rfl⟩;obtain ⟨d2,a9⟩:∃d2,d2=decide (xl∈(m.tasks[t]).2):=⟨_,rfl⟩;rw [<-a8] at a1;rw [<-a9] at a3;have f7:=zh a8;have f8:=zh a9;clear c8 U J i8 j0 T f3 hn a8 a9 n0;cases d1
      ·have z:Hid (zJ m ps=false):=HF.out (pathB_hd (by
        rw [b2.out,<-g6.out];have:=f7.out.symm
        rwa [Fl] at this))
       go_upto_region 8 with fail;go_quiet (first | (go_at_call 12;with_reducible refine (a1.out _ (D.drewN _)).mono ?_;rintro e w8 ⟨G,rfl⟩;exact ⟨G,⟨_,rfl⟩⟩) | (go_at_call 12;with_reducible refine (a3.out _ (D.drewN _)).mono ?_;rintro e w8 ⟨G,rfl⟩;exact ⟨G,⟨_,rfl⟩⟩))
       go_wp2;go_ret;exact ⟨zf z.out.symm,o.trans (D.drewN _)⟩
      ·cases d2
       ·have z:Hid (zJ m ps=false):=HF.out (pathB_lt (by
         rw [b2.out,<-g7.out];have:=f8.out.symm
         rwa [Fl] at this))
        go_upto_region 8 with fail;go_quiet (first | (go_at_call 12;with_reducible refine (a1.out _ (D.drewN _)).mono ?_;rintro e w8 ⟨G,rfl⟩;exact ⟨G,⟨_,rfl⟩⟩) | (go_at_call 12;with_reducible refine (a3.out _ (D.drewN _)).mono ?_;rintro e w8 ⟨G,rfl⟩;exact ⟨G,⟨_,rfl⟩⟩))
        go_wp2;go_ret;exact ⟨zf z.out.symm,o.trans (D.drewN _)⟩
       ·have n4:Hid ((∀k,k<p.length->BE m t p (pre++p.take k) k=true)->pathB m t p pre=true):=pathB_ok j6.out
         (by
          rw [b2.out,<-g6.out];have:=f7.out.symm
          rwa [EX] at this)
         (by
          rw [b2.out,<-g7.out];have:=f8.out.symm
          rwa [EX] at this)
        have n2:Hid (∀k,k<p.length->BE m t p (pre++p.take k) k=false->zJ m ps=false):=fun k hk h=>HF.out (DV hk h)
        go_upto_region 8 with fail;go_quiet (first | (go_at_call 12;with_reducible refine (a1.out _ (D.drewN _)).mono ?_;rintro e w8 ⟨G,rfl⟩;exact ⟨G,⟨_,rfl⟩⟩) | (go_at_call 12;with_reducible refine (a3.out _ (D.drewN _)).mono ?_;rintro e w8 ⟨G,rfl⟩;exact ⟨G,⟨_,rfl⟩⟩))
        generalize k8:wk.drewN nq=wz;have g9:zb wk wz:=by rw [<-k8];exact (zb.refl wk).drewN _
        clear k8
        have h5:Hid (SnI w1 wz gi N (pre++p.take 0)):=by
         have:=hS.out.more g9;rw [List.take_zero,List.append_nil];exact this
        clear rx0 rxl hS a1 a3
        go_wp2_with fail
        have s7:zb w1 wz:=D.trans g9;go_loopw [8] (fun i wr=>∃k:Nat,k<=p.length/\i=.int .i64 k/\Hid (SnI w1 wr gi N (pre++p.take k))/\Hid (∀k',k'<k->BE m t p (pre++p.take k') k'=true)) (fun i _=>p.length - (intOf i).toNat)
        case atStart=>exact ⟨0,Fb _,rfl,h5,fun k' h=>by omega⟩
        clear h5
        case round=>
         obtain ⟨k,hk,rfl,hS,hK⟩:=hrel;obtain ⟨wj,rfl⟩:∃wj:World,wj=wr:=⟨_,rfl⟩;have M:zb w1 wj:=hS.out.ext;by_cases b8:k<p.length
         ·have b5:=f6.out k b8;have e8:p.getD k 0=p[k]:=by rw [EM,EL b8,Ft]
          have Q:pre++p.take (k+1)=(pre++p.take k)++[p.getD k 0]:=by rw [EU b8,e8,List.append_assoc]
          rw [<-e8] at b5;obtain ⟨prk,Z⟩:=zak (pre++p.take k);have I:Hid (BE m t p prk k=false->zJ m ps=false):=by rw [Z];exact n2.out k b8
          have g3:Hid (BE m t p prk k=true->∀k',k'<k+1->BE m t p (pre++p.take k') k'=true):=fun h k' h'=>by
           rcases Fk k' k with h1 | h1
           ·exact hK.out k' h1
           ·obtain rfl:k'=k:=by omega
            rw [<-Z];exact h
          have a4:Hid (BE m t p prk k=(decide (0<=p.getD k 0) && (decide (p.getD k 0<m.n) && (!decide (p.getD k 0∈prk) && (zl m t (p.getD k 0) && (decide (k=0) || decide (p.getD k 0∈zm m (p.getD (k - 1) 0)))))))):=rfl;rw [<-Z] at hS Q;obtain ⟨x,hx⟩:=zak (p.getD k 0);rw [<-hx] at b5 Q a4;have g5:=zh Q;have rx:∀W,zb w1 W->W.cell? ⟨bq,ofq+k,none⟩=some (.int .i64 x):=fun W hW=>zb.rule b5 W (o.trans hW)
          have r5:(k:Int)<(p.length:Int):=by omega
          have w0:(0:Int)<=(k:Int):=by omega
          have d8:Hid (∀k',k'<k->0<=p.getD k' 0/\p.getD k' 0<m.n):=fun k' h'=>by
           have h1:=hK.out k' h';unfold BE at h1;simp only [EZ,EX] at h1;exact ⟨h1.1,h1.2.1⟩
          clear b5 e8 Q Z hx hK;by_cases T:x<0
          ·have q4:decide (x<0)=true:=EQ T;have z:Hid (zJ m ps=false):=I.out (by rw [a4.out,ER (by omega)];rfl)
           go_wp2_with fail
           go_quiet (fail)
           go_wp2;go_ret;exact ⟨zf z.out.symm,o.trans (M.drewN _)⟩
          ·have q4:decide (x<0)=false:=ER T;by_cases f4:(N:Int)<=x
           ·have q5:decide ((N:Int)<=x)=true:=EQ f4;have z:Hid (zJ m ps=false):=I.out (by rw [a4.out,ER (show ¬ x<m.n by have:m.n=m.w*m.h*m.l:=rfl;have:=HN.out;omega)];simp)
            go_wp2_with fail
            go_quiet (fail)
            go_wp2;go_ret;exact ⟨zf z.out.symm,o.trans (M.drewN _)⟩
           ·have q5:decide ((N:Int)<=x)=false:=ER f4;obtain ⟨X,rfl⟩:∃X:Nat,x=(X:Int):=⟨x.toNat,by omega⟩;have o6:X<N:=by omega
            have g8:Hid (decide (0<=(X:Int))=true/\decide ((X:Int)<m.n)=true):=⟨EQ (by omega),EQ (by have:m.n=m.w*m.h*m.l:=rfl;have:=HN.out;omega)⟩;obtain ⟨a0,c9⟩:=hS.out.cell (x:=(X:Int)) (by omega) (by omega);rw [FF] at a0 c9;have c7:t<m.free.length:=by rw [HG.out.fl];exact d6
            obtain ⟨bf,off3,uf,e1,_,a6,o7⟩:=zO n7.out l8.out c7 c7;subst e1;have e6:=HG.out.fn _ (EO c7);obtain ⟨A4,c4,rfl,o9,k3⟩:=o7;have b3:X<(m.free[t]).length:=by have:m.n=m.w*m.h*m.l:=rfl;have:=HN.out;omega
            obtain ⟨b4,off4,e4,_,a7⟩:=BR k3 b3 b3;subst e4;have i6:(m.free[t])[X]=zl m t (X:Int):=by simp [zl,c7,b3]
            rw [i6] at a7;obtain ⟨fl,i7⟩:=zak ((m.free[t]).length);rw [<-i7] at a6 b3 o9;have rf1:∀W,zb w1 W->W.cell? ⟨bf,off3+t,none⟩=some (.slice (some ⟨b4,off4,none⟩) fl c4):=fun W hW=>zb.rule a6 W (o.trans hW)
            have rf2:∀W,zb w1 W->W.cell? ⟨b4,off4+X,none⟩=some (.bool (zl m t (X:Int))):=fun W hW=>zb.rule a7 W (o.trans hW)
            have rs:=zb.rule a0;have t5:(0:Int)<=(X:Int):=by omega
            have t6:(X:Int)<(fl:Int):=by omega
            have t7:(X:Int)<(N:Int):=by omega
            have x7:(t:Int)<(m.free.length:Int):=by omega
            clear a6 a7 i6 i7 e6 k3 T f4
            have E:Hid (BE m t p prk k=(!decide ((X:Int)∈prk) && (zl m t (X:Int) && (decide (k=0) || decide ((X:Int)∈zm m (p.getD (k - 1) 0)))))):=by
             show _=_;rw [a4.out,g8.out.1,g8.out.2,Bool.true_and,Bool.true_and]
            obtain ⟨d3,i1⟩:=zak (decide ((X:Int)∈prk));obtain ⟨d4,i2⟩:=zak (zl m t (X:Int));rw [<-i1] at E a0 rs;rw [<-i2] at E rf2;have l1:=zb.refl wj;clear i1 i2 a4;have x3:decide (N<=X)=false:=ER (by omega);have x4:decide ((X:Int)<0)=false:=ER (by omega);have x5:decide (X<N)=true:=EQ o6;cases d3
            ·cases d4
             ·have z:Hid (zJ m ps=false):=I.out (by rw [E.out];simp)
              go_wp2_with fail
              go_quiet (fail)
              go_wp2;go_ret;exact ⟨zf z.out.symm,o.trans (M.drewN _)⟩
             ·go_wp2_with fail
              go_quiet (fail)
              generalize k7:wj.drewN nq=wv;have d9:zb wj wv:=by rw [<-k7];exact (zb.refl wj).drewN _
              clear k7;have g4:=zh (hS.out.more d9);have b0:zb w1 wv:=M.trans d9;clear hS d9 rf1 rf2 rs a0 c9 l1;go_upto_region 15 with fail;go_cut [124] (fun s wx=>s=.bool (!(decide (k=0) || decide ((X:Int)∈zm m (p.getD (k - 1) 0))))/\Hid (SnI w1 wx gi N prk))
              case first=>
               cases k with
               | zero=>
                have hz:decide ((0:Int)<((0:Nat):Int))=false:=by simp
                go_quiet (fail)
                go_wp2_with fail
                go_meet;exact ⟨rfl,g4.out.more ((zb.refl wv).drewN _)⟩
               | succ j=>
                have hz:decide ((0:Int)<((j+1:Nat):Int))=true:=EQ (by omega);have q8:(0:Int)<(j:Int)+1:=by omega
                have y2:decide ((0:Int)<(j:Int)+1)=true:=EQ q8;have b6:=f6.out j (by omega);have i9:p.getD j 0=p[j]:=by rw [EM,EL (by omega),Ft]
                rw [<-i9] at b6;obtain ⟨l2,l3⟩:=d8.out j (by omega);obtain ⟨y,hy⟩:=zak (p.getD j 0);rw [<-hy] at b6 l2 l3;have HY:=zh hy;have ry:∀W,zb w1 W->W.cell? ⟨bq,ofq+j,none⟩=some (.int .i64 y):=fun W hW=>zb.rule b6 W (o.trans hW)
                have y0:IntKind.i64.wrap ((j:Int)+1 - 1)=(j:Int):=by rw [Fi];omega
                have s5:IntKind.i64.wrap (j:Int)=(j:Int):=by rw [Fi];omega
                have v5:(0:Int)<=(j:Int):=by omega
                have v6:(j:Int)<(p.length:Int):=by omega
                have v7:(j:Int)+1<(p.length:Int):=by omega
                have v8:(0:Int)<=(j:Int)+1:=by omega
                have x1:=Ba m y;clear b6 i9 hy
                go_region_held3 (fun w'=>zb w1 w'/\zb wv w')
                 (first | (exact ⟨b0.drew,(zb.refl _).drew⟩) | (exact ⟨b0.drew.trans e5,(zb.refl _).drew.trans e5⟩))
                 (first | (go_at_call 81;refine (DK m y _ (g0.out.below (o.trans b0.drew)) HG.out.dim l2 l3).mono ?_;rintro e wn ⟨v9,rfl,e5,j4⟩) | (go_at_call 12;refine (zL (X:Int) _ (zV.of_own j4) (by omega)).mono ?_;rintro e w10 ⟨rfl,rfl⟩))
                rename_i h4
                have o0:=zh (g4.out.more h4.2);clear e5 j4 h4
                go_wp2_with fail
                go_meet;exact ⟨by rw [Nat.add_sub_cancel,<-HY.out];simp,o0.out⟩
              case rest=>
               obtain ⟨rfl,e3⟩:=hcut;obtain ⟨ws,rfl⟩:∃ws:World,ws=wc:=⟨_,rfl⟩;have k9:zb w1 ws:=e3.out.ext;obtain ⟨d5,i3⟩:=zak ((decide (k=0) || decide ((X:Int)∈zm m (p.getD (k - 1) 0))));rw [<-i3] at E⊢;clear i3;cases d5
               ·have z:Hid (zJ m ps=false):=I.out (by rw [E.out];rfl);go_wp2;go_ret;exact ⟨zf z.out.symm,o.trans k9⟩
               ·have m9:=zh (g3.out (by rw [E.out];rfl));obtain ⟨a0,c9⟩:=e3.out.cell (x:=(X:Int)) (by omega) (by omega);rw [FF] at a0 c9
                have o1:Hid (SnI w1 (ws.setCell ⟨gi,X,none⟩ (.bool true)) gi N (pre++p.take (k+1))):=by
                 have h1:=e3.out.set (x:=(X:Int)) (by omega);rw [FF] at h1;rw [g5.out];exact h1
                clear E
                go_wp2_with fail
                refine ⟨⟨k+1,by omega,by go_num,o1,m9⟩,?_⟩;simp [intOf];omega
            ·have z:Hid (zJ m ps=false):=I.out (by rw [E.out];simp)
             go_wp2_with fail
             go_quiet (fail)
             go_wp2;go_ret;exact ⟨zf z.out.symm,o.trans (M.drewN _)⟩
         ·obtain rfl:k=p.length:=by omega
          have n5:Hid (pathB m t p pre=true):=n4.out hK.out
          have n9:Hid (SnI w1 wj gi N (ps.take (t+1)).flatten):=by
           have h1:=hS.out;rw [EY] at h1;rw [m6.out];exact h1
          have n3:=zh (HO.out n5.out);have w3:decide (p.length<p.length)=false:=ER (by omega)
          go_wp2_with fail
          go_roundw
          case rel=>exact ⟨t+1,O,by go_num,n9,n3⟩
          case measure=>simp [intOf];omega
    ·obtain rfl:t=ps.length:=by omega
     have hR:Hid (zJ m ps=true):=rightB_ok b1.out.symm f9.out hO.out;have x9:decide (ps.length<ps.length)=false:=ER (by omega);go_wp2;go_ret;exact ⟨zf hR.out.symm,o.trans D⟩
theorem intss_sing {w:World} {g:Nat} {v1:Value} {a:List Int} (s:zg w g 23 #[v1]) (z:ok g) (h1:zi w ok v1 a):zq w ok (.slice (some ⟨g,0,none⟩) 1 1) [a]:=by
 refine ⟨[v1],⟨_,_,rfl,EN _,zN.block (cs:=#[v1]) s z rfl⟩,fun i x o=>?_⟩
 match i,o with
 | 0,o=>(injection o with o;subst o;exact ⟨_,rfl,h1⟩)
 | k+1,o=>cases o
theorem mem_crossP:(k:Int)∈CM ps p↔k<ps.length/\∃x,x∈ps.getD k []/\x∈p:=by
 unfold CM;rw [zac];constructor
 ·rintro ⟨j,o,e⟩;obtain rfl:j=k:=by have:(j:Int)=(k:Int):=e;omega
  rw [zab,zad] at o;refine ⟨o.1,?_⟩;have h:=o.2;unfold Cg at h;rw [zaf] at h;obtain ⟨x,h1,h2⟩:=h;exact ⟨x,h1,zah h2⟩
 ·rintro ⟨s,x,h1,h2⟩;refine ⟨k,?_,rfl⟩;rw [zab,zad];refine ⟨s,?_⟩;unfold Cg;rw [zaf];exact ⟨x,h1,EQ h2⟩
theorem one_eq {l:List Int} (h:l.length<=1) {a b:Int} (o:a∈l) (s:b∈l):a=b:=by
 match l,h with
 | [x],_=>
  rw [Fv] at o s;rw [o,s]
theorem le_one {l:List Int} (o:l.Nodup) (h:∀a∈l,∀b∈l,a=b):l.length<=1:=by
 match l,o with
 | [],_=>simp
 | [x],_=>simp
 | x :: y :: l,o=>
  have:=h x (by simp) y (by simp);subst this;simp at o
theorem crossP_nodup (ps:List (List Int)) (p:List Int):(CM ps p).Nodup:=nodup_ints ((range_nodup _).filter _)
theorem laid_ref (O:AY m=0) (T:ps.length=m.tasks.length):AV m ps=true↔∀j,j<ps.length->CF m ps j=true/\(CM ps (ps.getD j [])).length<=1:=by
 have Q:AV m ps=true↔(∀j,j<ps.length->CF m ps j=true)/\Apart ps:=by
  unfold AV;simp only [EZ,EX,zag,zad,apart_iff];exact ⟨fun h=>h.2.2,fun h=>⟨O,T,h⟩⟩
 rw [Q];constructor
 ·rintro ⟨h1,h2⟩ j o;refine ⟨h1 j o,le_one (crossP_nodup _ _) fun a z b M=>?_⟩
  have G:∀a∈CM ps (ps.getD j []),a=(j:Int):=fun a z=>by
   obtain ⟨k,-,rfl⟩:=zac.1 z;obtain ⟨G,x,J,L⟩:=mem_crossP.1 z;have:=h2.2 k j x J L;rw [this];rfl
  rw [G a z,G b M]
 ·intro h
  have s:∀(i:Nat) (x:Int),x∈ps.getD i []->i<ps.length:=fun i x E=>by
   rcases Fk i ps.length with h | h
   ·exact h
   ·rw [EM,Fg h] at E;exact absurd E (zaa)
  refine ⟨fun j o=>(h j o).1,fun i=>?_,fun i j x D o=>?_⟩
  ·by_cases I:ps.getD i []=[]
   ·rw [I];exact List.nodup_nil
   ·have D:i<ps.length:=by
     obtain ⟨x,E⟩:=List.exists_mem_of_ne_nil _ I;exact s i x E
    have h1:=(h i D).1;unfold CF at h1;rw [zae,EX] at h1;rcases h1 with h1 | h1
    ·exact absurd h1 I
    ·exact ((DE.1 h1).2.2.2).1 0
  ·have h1:=(h j (s j x o)).2;have a:=mem_crossP.2 ⟨s i x D,x,D,o⟩;have b:=mem_crossP.2 ⟨s j x o,x,o,o⟩;have:=one_eq h1 a b;omega
theorem qlaid_calls {okf:Nat->Prop} {vf:Value} (w:World) (hm:zt w okm v m) (hl:Lens m) (hf:zq w okf vf ps) (g8:ps.length<=1000000000000) (d4:∀x∈ps,x.length<=20000000000000):
  Calls Tryz.prog 24 #[v,vf] w fun e w'=>e=.returned (.bool (AV m ps))/\zb w w':=by
 have HM:=zh hm;have HL:=zh hl;have HF:=zh hf;have b7:=zh d4;obtain ⟨Af,cf,Au,cu,At,ct,rfl,-,-,-⟩:=hm.parts;obtain ⟨_,⟨Ap,cp,rfl,-,-⟩,-⟩:=id hf;have h5:=hl.ts;clear hm hl hf d4;obtain ⟨R,hR⟩:=zak (AV m ps);rw [<-hR];have HR:=zh hR;clear hR
 go_enter Tryz.func24,Tryz.ntmps24
 go_upto_region 1 with fail;obtain ⟨a8,r0,r1,r2,r3,r4,r5⟩:=CG w (.int .i64 m.w) (.int .i64 m.h) (.int .i64 m.l) (.slice Af m.free.length cf) (.slice Au m.up.length cu) (.slice At m.tasks.length ct);generalize w.alloc _=w1 at a8 r0 r1 r2 r3 r4 r5⊢;obtain ⟨gm,d5⟩:=zak w.heap.size;rw [<-d5] at r0 r1 r2 r3 r4 r5⊢;have s:=zh a8;clear d5 a8;have E:zb w1 w1:=zb.refl w1
 go_wp2_with fail
 refine (Cm w1 (HM.out.below s.out) HL.out).mono ?_;rintro e w2 ⟨rfl,c7⟩;clear E;have E:zb w1 w2:=c7;obtain ⟨ck0,T⟩:∃c,c=AY m:=⟨_,rfl⟩;rw [<-T];have b6:=zh T;clear c7 T;by_cases h0:ck0=0
 ·subst h0;have HC:Hid (AY m=0):=b6.out.symm;by_cases h1:ps.length=m.tasks.length
  ·have e8:((ps.length:Int) != (m.tasks.length:Int))=false:=by rw [h1];simp
   have U:=zh h1;have f7:=(zI.of HC.out).tk;have g9:ps.length<=6:=by omega
   have c6:=zh E;clear h1 f7
   go_wp2_with fail
   clear E;go_loopw [5] (fun i wr=>∃k:Nat,k<=ps.length/\i=.int .i64 (k:Nat)/\Hid (∀j,j<k->CF m ps j=true/\(CM ps (ps.getD j [])).length<=1)/\Hid (zb w1 wr)) (fun i _=>ps.length - (intOf i).toNat)
   case atStart=>exact ⟨0,Fb _,rfl,(fun j hj=>absurd hj (Nat.not_lt_zero _)),c6.out⟩
   clear c6
   case round=>
    obtain ⟨k,hk,rfl,a0,hE⟩:=hrel;obtain ⟨wk,rfl⟩:∃wk:World,wk=wr:=⟨_,rfl⟩;have E:zb w1 wk:=hE.out;by_cases J:k<ps.length
    ·have g5:(k:Int)<(ps.length:Int):=by omega
     have g4:(0:Int)<=(k:Int):=by omega
     have hF:=HF.out;obtain ⟨_,⟨_,_,e1,-,d9⟩,c9⟩:=hF;injection e1 with e1 eqn eqc;subst e1;clear eqn eqc;obtain ⟨bp,offp,up,rfl,-,a3,b4⟩:=zO d9 c9 J J;have Z:ps.getD k []=ps[k]:=zgd J
     have a5:CF m ps k=(decide (ps[k]=[]) || zJ (ownM m k) [ps[k]]):=by unfold CF;rw [Z]
     have b3:=b7.out _ (EO J);obtain ⟨p,d8⟩:=zak (ps[k]);rw [<-d8] at b4 Z a5 b3;have b8:=zh a5;have e7:=zh Z;have a4:=zh b4;obtain ⟨Aq,cq,rfl,-,-⟩:=b4;have rp:∀W,zb w1 W->W.cell? ⟨bp,offp+k,none⟩=some (.slice Aq p.length cq):=zb.rule (s.out.cell a3);have f2:k<m.tasks.length:=by have:=U.out;omega
     have f1:k<m.free.length:=by have:=(zI.of HC.out).fl;omega
     have c0:Hid (∀W,zb w1 W->Calls Tryz.prog 58 #[.agg #[.int .i64 m.w,.int .i64 m.h,.int .i64 m.l,.slice Af m.free.length cf,.slice Au m.up.length cu,.slice At m.tasks.length ct],.int .i64 (k:Nat)] W fun e w'=>∃v',e=.returned v'/\zb W w'/\zt w' (fun _=>True) v' (ownM m k)):=fun W hW=>only_calls k W (HM.out.below (s.out.trans hW)) f2 f1
     have e4:Hid (∀W,zb w1 W->Calls Tryz.prog 21 #[.slice (some ⟨bp,offp,none⟩) ps.length cp,.slice Aq p.length cq] W fun e w'=>∃v',e=.returned v'/\Mk W w' v' (CM ps p)):=fun W hW=>EB W (HF.out.below (s.out.trans hW)) (by omega) b7.out (a4.out.below (s.out.trans hW)) b3
     have e6:=zh (ownM_lens HL.out k);clear d9 c9 a3 Z a5 d8;go_upto_region 6 with fail;obtain ⟨bad,a1⟩:∃b:Bool,b=!(CF m ps k):=⟨_,rfl⟩;have L:=zh a1;clear a1;go_cut [40] (fun v wx=>v=.bool bad/\zb w1 wx)
     case first=>
      by_cases Q:p=[]
      ·have HB:Hid (bad=false):=by (show _=_);rw [L.out,b8.out,Q];rfl
       have f5:p.length=0:=by rw [Q];rfl
       have f6:¬ ((0:Int)<(p.length:Int)):=by omega
       clear Q;refine Fd (S:=(fun W=>zb w1 W)) zU (E.drew) fun zH=>?_;have M:zb w1 wk.drew:=zH;generalize wk.drew=wd at zH M⊢;refine ze 0 zH ?_;refine ze 1 zH ?_;simp only [za,EK];refine ze 2 zH ?_;refine ze 3 zH ?_;simp only [za,EK];refine ze 4 zH ?_;refine ze 5 zH ?_;simp only [za,EK];refine ze 6 zH ?_;refine AC 7 zH ?_;simp only [za,EK];refine AC 8 zH ?_;refine AC 9 zH ?_;simp only [za,EK];refine AC 10 zH ?_;refine AC 11 zH ?_;simp only [za,EK];refine AC 12 zH ?_;refine AC 13 zH ?_;simp only [za,EK];refine AC 14 zH ?_;refine AC 15 zH ?_;simp only [za,EK];refine AC 16 zH ?_;refine ze 17 zH ?_;simp only [za,EK];refine Fs (by kernel_rfl) ?_ _
       go_wp2_with fail
       go_meet;exact ⟨by rw [HB.out],zH⟩
      ·have f5:0<p.length:=List.length_pos_iff.2 Q;have f6:(0:Int)<(p.length:Int):=by omega
       obtain ⟨rb,b2⟩:=zak (zJ (ownM m k) [p]);have HB:Hid (bad=!rb):=by (show _=_);rw [L.out,b8.out,ER Q,Bool.false_or,b2]
       have c5:Hid (∀(W:World) (vo vl:Value),zt W (fun _=>True) vo (ownM m k)->zq W (fun _=>True) vl [p]->Calls Tryz.prog 57 #[vo,vl] W fun e w'=>e=.returned (.bool rb)/\zb W w'):=fun W vo vl h1 h2=>by
        rw [b2];exact qRight_calls W h1 e6.out h2 (by simp) (fun x E=>by rw [Fv.1 E];exact b3)
       clear Q b2;refine Fd (S:=(fun W=>zb w1 W)) zU (E.drew) fun zH=>?_;have M:zb w1 wk.drew:=zH;generalize wk.drew=wd at zH M⊢;refine ze 0 zH ?_;refine ze 1 zH ?_;simp only [za,EK];refine ze 2 zH ?_;refine ze 3 zH ?_;simp only [za,EK];refine ze 4 zH ?_;refine ze 5 zH ?_;simp only [za,EK];refine ze 6 zH ?_;refine ze 7 zH ?_;simp only [za,EK];refine ze 8 zH ?_;refine ze 10 zH ?_;simp only [za,EK];refine ze 11 zH ?_;refine ze 12 zH ?_;simp only [za,EK];refine ze 13 zH ?_;simp only [za,EK];refine rdA [9,14] ?_;refine Fp rfl (fun K o=>?_) ?_
       ·go_simp;go_at_call 58;refine (c0.out wd (M)).mono ?_;rintro e wo ⟨vo,rfl,V,b0⟩;have O:zb w1 wo:=zb.trans (M) V;refine zal o (O) fun zH=>?_;clear o K;try simp only [za,EK]
        refine zx 14 fun K o=>?_;go_simp;have a9:=zg.new wo #[.slice Aq p.length cq] 23 (g:=wo.heap.size) rfl;have I:zb w1 (wo.alloc (.cells #[.slice Aq p.length cq] 23)):=zb.alloc (O) _;have d6:=b0.below ((zb.refl wo).alloc (.cells #[.slice Aq p.length cq] 23));generalize (wo.alloc (.cells #[.slice Aq p.length cq] 23))=wb at*;generalize wo.heap.size=gb at*;refine zal o (I) fun zH=>?_;clear o K;try simp only [za,EK]
        refine zx 15 fun K o=>?_;go_simp;go_at_call 57;refine (c5.out wb _ _ d6 (intss_sing a9 trivial (((a4.out.below s.out).below (I)).weaken fun _ _=>trivial))).mono ?_;rintro e wr9 ⟨rfl,G⟩;have D:zb w1 wr9:=zb.trans (I) G;refine zal o (D) fun zH=>?_;clear o K;try simp only [za,EK]
        refine zx 16 fun K o=>?_;go_simp;refine zal o (D) fun zH=>?_;clear o K;try simp only [za,EK]
        refine zx 17 fun K o=>?_;go_simp;refine zal o (D) fun zH=>?_;clear o K;try simp only [za,EK]
        refine Fs (by kernel_rfl) ?_ _
        go_wp2_with fail
        go_meet;exact ⟨by rw [HB.out],D⟩
       refine Fp rfl (fun K o=>?_) .nil;go_simp;have a9:=zg.new wd #[.slice Aq p.length cq] 23 (g:=wd.heap.size) rfl;have I:zb w1 (wd.alloc (.cells #[.slice Aq p.length cq] 23)):=zb.alloc (M) _;generalize (wd.alloc (.cells #[.slice Aq p.length cq] 23))=wb at*;generalize wd.heap.size=gb at*;refine zal o (I) fun zH=>?_;clear o K;try simp only [za,EK]
       refine zx 9 fun K o=>?_;go_simp;go_at_call 58;refine (c0.out wb (I)).mono ?_;rintro e wo ⟨vo,rfl,V,b0⟩;have O:zb w1 wo:=zb.trans (I) V;have c8:=a9.ext V;refine zal o (O) fun zH=>?_;clear o K;try simp only [za,EK]
       refine zx 15 fun K o=>?_;go_simp;go_at_call 57;refine (c5.out wo _ _ b0 (intss_sing c8 trivial (((a4.out.below s.out).below (O)).weaken fun _ _=>trivial))).mono ?_;rintro e wr9 ⟨rfl,G⟩;have D:zb w1 wr9:=zb.trans (O) G;refine zal o (D) fun zH=>?_;clear o K;try simp only [za,EK]
       refine zx 16 fun K o=>?_;go_simp;refine zal o (D) fun zH=>?_;clear o K;try simp only [za,EK]
       refine zx 17 fun K o=>?_;go_simp;refine zal o (D) fun zH=>?_;clear o K;try simp only [za,EK]
       refine Fs (by kernel_rfl) ?_ _
       go_wp2_with fail
       go_meet;exact ⟨by rw [HB.out],D⟩
     case rest=>
      obtain ⟨rfl,G⟩:=hcut
      cases bad with
      | true=>
       have z:Hid (R=false):=by
        (show _=_)
        rw [HR.out,<-Bool.not_eq_true,laid_ref HC.out U.out];intro h;have h1:=(h k J).1;have h2:=L.out;rw [h1] at h2;cases h2
       go_wp2_with fail
       go_ret;exact ⟨zf z.out.symm,s.out.trans G⟩
      | false=>
       have e5:Hid (CF m ps k=true):=by
        (show _=_)
        have h2:=L.out
        cases hb:CF m ps k with
        | true=>rfl
        | false=>rw [hb] at h2;cases h2
       clear E;have E:zb w1 wc:=G;clear G
       go_wp2_with fail
       refine (e4.out wc E).mono ?_;rintro e wd ⟨v',rfl,a6⟩;obtain ⟨Ad,cd,rfl,-⟩:=a6.slice;have e0:zb w1 wd:=E.trans a6.ext;obtain ⟨nc,b1⟩:∃n,n=(CM ps p).length:=⟨_,rfl⟩;have b9:Hid (nc=(CM ps (ps.getD k [])).length):=by (show _=_);rw [e7.out,b1]
       rw [<-b1];clear a6 E b1;by_cases d7:nc<=1
       ·have f4:¬ ((1:Int)<(nc:Int)):=by omega
        have a7:Hid (∀j,j<k+1->CF m ps j=true/\(CM ps (ps.getD j [])).length<=1):=fun j hj=>by
         rcases Fk j k with h | h
         ·exact a0.out j h
         ·obtain rfl:j=k:=by omega
          exact ⟨e5.out,by rw [<-b9.out];exact d7⟩
        go_wp2_with fail
        go_roundw
        case rel=>exact ⟨k+1,J,by go_num,a7,e0⟩
        case measure=>simp [intOf];omega
       ·have f4:(1:Int)<(nc:Int):=by omega
        have z:Hid (R=false):=by
         (show _=_)
         rw [HR.out,<-Bool.not_eq_true,laid_ref HC.out U.out];intro h;exact d7 (by rw [b9.out];exact (h k J).2)
        go_wp2_with fail
        go_ret;exact ⟨zf z.out.symm,s.out.trans e0⟩
    ·obtain rfl:k=ps.length:=by omega
     have z:Hid (R=true):=by (show _=_);rw [HR.out];exact (laid_ref HC.out U.out).2 a0.out
     go_wp2_with fail
     go_ret;exact ⟨zf z.out.symm,s.out.trans E⟩
  ·have e8:((ps.length:Int) != (m.tasks.length:Int))=true:=by rw [bne_iff_ne];omega
   have z:Hid (R=false):=by (show _=_);rw [HR.out];unfold AV;rw [ER h1];simp
   go_wp2_with fail
   go_ret;exact ⟨zf z.out.symm,s.out.trans E⟩
 ·have h4:(ck0 != 0)=true:=by rw [bne_iff_ne];exact h0
  have z:Hid (R=false):=by (show _=_);rw [HR.out];unfold AV;rw [ER (by rw [<-b6.out];exact h0)];rfl
  clear h0
  go_wp2_with fail
  go_ret;exact ⟨zf z.out.symm,s.out.trans E⟩
end
section
open Go.RowKit
structure AL (w1 w:World) (v:Value) (l:List (List Int)) (xs:List Value):Prop where
 ext:zb w1 w
 own:Cf w w1.heap.size v xs
 len:xs.length=l.length
 el:∀(i:Nat) q,l[i]?=some q->∃x,xs[i]?=some x/\zi w1 (fun _=>True) x q
theorem AL.nil (w:World):AL w w (.slice none 0 0) [] []:=⟨zb.refl w,World.ownsRow_nil _ _ _ _,rfl,fun i q h=>by cases h⟩
theorem AL.more {w1 w w':World} (h:AL w1 w v l xs) (o:zb w w'):AL w1 w' v l xs:=
 ⟨h.ext.trans o,Ai h.own fun g s=>o.block g (World.ownsRow.lt h.own g s).2,h.len,h.el⟩
theorem AL.form {w1 w:World} (h:AL w1 w v l xs):∃A c,v=.slice A l.length c:=by
 obtain ⟨A,c,e,-⟩:=zV.of_own h.own;rw [h.len] at e;exact ⟨A,c,e⟩
theorem AL.intss {w1 w:World} (h:AL w1 w v l xs):zq w (fun _=>True) v l:=by
 have h1:=zV.of_own h.own;rw [h.len] at h1
 exact ⟨xs,h1.weaken fun _ _=>trivial,fun i q o=>by
  obtain ⟨x,h2,h3⟩:=h.el i q o;exact ⟨x,h2,h3.below h.ext⟩⟩
theorem AL.push {w1 w w':World} {x:Value} (h:AL w1 w v l xs) (G:zi w1 (fun _=>True) x q) (E:Cf w' w1.heap.size v' (xs++[x])) (z:Hid (w.grownBy w' v.ownBlock)):AL w1 w' v' (l++[q]) (xs++[x]):=by
 refine ⟨Ae h.ext z h.ext.size (fun k D=>(World.ownsRow.lt h.own k D).1),E,by simp [h.len],fun i q' o=>?_⟩;rcases Fk i l.length with hi | hi
 ·rw [ES hi] at o;obtain ⟨y,h1,h2⟩:=h.el i q' o;exact ⟨y,by rw [ES (by rw [h.len];exact hi)];exact h1,h2⟩
 ·have s:i=l.length:=by
   rcases Fk i (l++[q]).length with h1 | h1
   ·simp at h1;omega
   ·rw [Fg h1] at o;cases o
  subst s;rw [ET (EN _),Nat.sub_self] at o;have hp:q=q':=by simpa using o
  subst hp;exact ⟨x,by rw [<-h.len,ET (EN _),Nat.sub_self];rfl,G⟩
end
section
open Go.RowKit
attribute [local go_sem ↓] Go.wp_at_zero Go.wp_at_succ
theorem ints_upto {w:World} {A:Option Addr} {n c N:Nat} {l:List Int} (h:zi w ok (.slice A n c) l) (z:N<=n):zi w ok (.slice A N c) (l.take N):=by
 obtain ⟨A',c',e,G,I,E⟩:=h;injection e with e1 e2 e3;subst e1 e2 e3;refine ⟨A,c,?_,?_,?_,?_⟩
 ·rw [FH,Nat.min_eq_left z]
 ·rw [FH];omega
 ·simp
 ·intro hp;rw [FH] at hp;obtain ⟨b,off,rfl,D,s⟩:=E (by omega);refine ⟨b,off,rfl,D,fun j v o=>s j v ?_⟩;rw [List.map_take,List.getElem?_take] at o
  split at o
  ·exact o
  ·cases o
def cutL (ls:List (List Int)):List (List Int):=(ls.take 4).map (·.take 8)
theorem cutL_len (ls:List (List Int)):(cutL ls).length<=4:=by unfold cutL;simp;omega
theorem cutL_mem {x:List Int} (h:x∈cutL ls):x.length<=8:=by
 unfold cutL at h;obtain ⟨y,-,rfl⟩:=zac.1 h;simp;omega
theorem cutL_succ (h:k<ls.length):(ls.take (k+1)).map (·.take 8)=(ls.take k).map (·.take 8)++[(ls[k]).take 8]:=by
 rw [EU h,FG];rfl
theorem cut31_calls (w:World) (h:zq w ok v ls) (c8:ls.length<=9223372036854775807) (O:∀x∈ls,x.length<=9223372036854775807):
  Calls Tryz.prog 16 #[v] w fun e w'=>∃v',e=.returned v'/\zb w w'/\zq w' (fun _=>True) v' (cutL ls):=by
 obtain ⟨vs,⟨A,c,rfl,hc,hr⟩,he⟩:=h;have HR:=zh hr;have HE:=zh he;have HX:=zh O;clear hr he O
 go_enter Tryz.func16,Tryz.ntmps16
 go_wp2_with fail
 have G:=zh (AL.nil w);go_loopw [3,4] (fun v i wr=>∃(k:Nat) (xs:List Value),k<=ls.length/\k<=4/\i=.int .i64 (k:Nat)/\Hid (AL w wr v ((ls.take k).map (·.take 8)) xs)) (fun _ i _=>ls.length - (intOf i).toNat)
 case atStart=>exact ⟨0,[],Fb _,by omega,rfl,G.out⟩
 clear G
 case round=>
  obtain ⟨k,xs,hk,a3,rfl,hA⟩:=hrel;obtain ⟨wk,rfl⟩:∃wk:World,wk=wr:=⟨_,rfl⟩;by_cases s:k<ls.length
  ·have b3:(k:Int)<(ls.length:Int):=by omega
   have b2:(0:Int)<=(k:Int):=by omega
   by_cases h4:k<4
   ·have T:(k:Int)<4:=by omega
    obtain ⟨b,off,u,rfl,_,o,E⟩:=zO HR.out HE.out s s;have rc:∀W,zb w W->W.cell? ⟨b,off+k,none⟩=some u:=zb.rule o;have a8:zb w wk:=hA.out.ext;have a6:=HX.out _ (EO s);have HS:=zh (cutL_succ s);obtain ⟨q,hq⟩:=zak (ls[k]);rw [<-hq] at E a6 HS;have HU:=zh E;obtain ⟨Aq,cq,rfl,c6,-⟩:=E;obtain ⟨N,hN⟩:=zak (min q.length 8);have U:N<=q.length:=by omega
    have HT:Hid (zi w ok (.slice Aq N cq) (q.take 8)):=by
     have h:=ints_upto HU.out U;have e:q.take N=q.take 8:=by rw [hN];simp [Nat.min_comm]
     rwa [e] at h
    have b4:min (q.length:Int) 8=(N:Int):=by omega
    have a4:(if (8:Int)<(q.length:Int) then (8:Int) else (q.length:Int))=(N:Int):=by split <;> omega
    have b1:(N:Int)<=(cq:Int):=by omega
    have c5:(0:Int)<=(N:Int):=by omega
    have d4:=hA.out.len;have c9:((ls.take k).map (·.take 8)).length<=4:=by simp;omega
    have a7:zb wk wk:=zb.refl wk;clear hq o hN;clear hk;go_upto_region 5 with fail;refine Fd (S:=(fun W=>zb w W)) zU (a8.drew) fun zH=>?_;have J:zb w wk.drew:=zH;have L:zb wk wk.drew:=a7.drew;generalize wk.drew=wd at zH J L⊢;refine ze 0 zH ?_;refine ze 1 zH ?_;simp only [za,EK];refine ze 2 zH ?_;refine ze 3 zH ?_;simp only [za,EK];refine ze 4 zH ?_;refine ze 5 zH ?_;simp only [za,EK];refine ze 6 zH ?_;refine ze 7 zH ?_;simp only [za,EK];refine ze 8 zH ?_;refine ze 9 zH ?_;simp only [za,EK];refine ze 10 zH ?_;refine ze 11 zH ?_;simp only [za,EK];refine zx 12 fun K z=>?_;go_simp;have a0:=zg.new wd #[.slice Aq N cq] 23 (g:=wd.heap.size) rfl;have Z:zb w (wd.alloc (.cells #[.slice Aq N cq] 23)):=zb.alloc (J) _;have V:zb wk (wd.alloc (.cells #[.slice Aq N cq] 23)):=zb.alloc (L) _;generalize wd.alloc _=wb at*;generalize wd.heap.size=gb at*;refine zal z (Z) fun zH=>?_;clear z K;try simp only [za,EK]
    refine zx 13 fun K z=>?_;have D:=zh (hA.out.more V);refine zB (ok:=fun _=>True) (by rfl) wb _ _ eInts (by rfl) w.heap.size xs.length 1 xs [.slice Aq N cq] _ _ (by rfl) (by rfl) D.out.own ⟨_,1,rfl,EN _,zN.block (cs:=#[.slice Aq N cq]) a0 trivial rfl⟩ (fun u E=>by simp at E;subst E;rfl) D.out.ext.size (by unfold maxLen;omega) (by omega) ?_;intro v8 w8 a5 a1 _;have I:=zh (D.out.push (x:=.slice Aq N cq) (q:=q.take 8) (HT.out.weaken fun _ _=>trivial) (by unfold Cf;rw [EV];exact a5) a1);have M:zb w w8:=I.out.ext;refine zal z (M) fun zH=>?_;clear z K;try simp only [za,EK]
    refine zx 14 fun K z=>?_;go_simp;refine zal z (M) fun zH=>?_;clear z K;try simp only [za,EK]
    refine Fs (by kernel_rfl) ?_ _
    go_wp2_with fail
    go_roundw
    case rel=>exact ⟨k+1,_,s,by omega,by go_num,by rw [HS.out];exact I.out⟩
    case measure=>simp [intOf];omega
   ·have T:¬ ((k:Int)<4):=by omega
    obtain rfl:k=4:=by omega
    have Q:=hA.out.intss
    go_wp2_with fail
    go_ret;exact ⟨_,rfl,hA.out.ext,Q⟩
  ·obtain rfl:k=ls.length:=by omega
   have Q:=hA.out.intss;have e:(ls.take ls.length).map (·.take 8)=cutL ls:=by unfold cutL;rw [EY,List.take_of_length_le a3]
   rw [e] at Q
   go_wp2_with fail
   go_ret;exact ⟨_,rfl,hA.out.ext,Q⟩
end
end Go.Proofs.YthbjngbhbbkkgaaGreat
