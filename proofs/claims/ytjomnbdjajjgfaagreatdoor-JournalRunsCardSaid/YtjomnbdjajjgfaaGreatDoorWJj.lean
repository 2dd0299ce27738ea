import Derived.Test.YtjomnbdjajjgfaaGreatDoorWJi
set_option linter.unusedVariables false
set_option linter.unusedSimpArgs false
set_option maxRecDepth 100000
set_option maxHeartbeats 16000000
namespace Go.Proofs.YtjomnbdjajjgfaaGreatDoor
variable {ps:List (List Int)} {ch us:List Int} {m:MZ} {c n:Nat} {ok okc:Nat->Prop} {v vc:Value} {w:World}
section
open Go.RowKit
attribute [local go_sem ↓] Go.wp_at_zero Go.wp_at_succ
theorem Ek (w:World) (hm:zL w ok v m) (g:zZ m) (hl:Lens m) (l6:zg w okc vc ch) (hc:zw m ch):
  Calls Tryz.prog 180 #[v,vc] w fun e w'=>∃v',e=.returned v'/\Mk w w' v' (Bn m ch):=by
 have s3:=hc.len300 g;have h7:=zh hm;obtain ⟨vfr,vup,vts,rfl,q6,_,m8⟩:=hm;obtain ⟨vsf,⟨Af,cf,rfl,t6,m6⟩,l8⟩:=q6;have l3:=zh m8;obtain ⟨vst,⟨At,ct,rfl,t7,-⟩,-⟩:=m8;have g7:=zh l6;obtain ⟨A,c,rfl,t5,hr⟩:=l6;have l2:=zh m6;have k6:=zh l8;have HC:=zh hc;have HL:=zh hl;have HG:=zh g;have x7:=g.tk;have k7:=zh g.fl;have t8:m.free.length<=6:=by rw [g.fl];exact g.tk
 have r6:=g.dim.layer;have w3:=g.dim.n1;obtain ⟨v8,w0⟩:=r6;clear hr hc g hl m6 l8
 go_enter Tryz.func180,Tryz.ntmps180
 go_wp2_with fail
 generalize j7:w.alloc (.cells #[.int .i64 m.w,.int .i64 m.h,.int .i64 m.l,.slice Af m.free.length cf,vup,.slice At m.tasks.length ct] 32)=w1;have D:za w w1:=by rw [<-j7];exact (za.refl w).alloc _
 have b5:ze w1 w.heap.size 32 #[.int .i64 m.w,.int .i64 m.h,.int .i64 m.l,.slice Af m.free.length cf,vup,.slice At m.tasks.length ct]:=by rw [<-j7];exact zax _ _
 clear j7;have r0:∀W,za w1 W->W.cell? ⟨w.heap.size,0,none⟩=some (.int .i64 m.w):=za.rule (b5.cell (k:=0) rfl);have r1:∀W,za w1 W->W.cell? ⟨w.heap.size,1,none⟩=some (.int .i64 m.h):=za.rule (b5.cell (k:=1) rfl);have r2:∀W,za w1 W->W.cell? ⟨w.heap.size,2,none⟩=some (.int .i64 m.l):=za.rule (b5.cell (k:=2) rfl);have r3:∀W,za w1 W->W.cell? ⟨w.heap.size,3,none⟩=some (.slice Af m.free.length cf):=za.rule (b5.cell (k:=3) rfl);have r4:∀W,za w1 W->W.cell? ⟨w.heap.size,4,none⟩=some vup:=za.rule (b5.cell (k:=4) rfl);have r5:∀W,za w1 W->W.cell? ⟨w.heap.size,5,none⟩=some (.slice At m.tasks.length ct):=za.rule (b5.cell (k:=5) rfl);clear b5;have x8:za w1 w1:=za.refl w1;refine (DH w1 (h7.out.below D) HG.out HL.out (g7.out.below D) HC.out).mono ?_;rintro e w2 ⟨v2,rfl,r7,j4⟩;have hx:za w1 w2:=r7
 cases c0:zV m ch
 ·obtain ⟨qs,p,g4,a8,m7⟩:=ps_form HC.out c0;have c9:=zh g4;have k5:=zh c0;rw [m7] at j4;obtain ⟨vs,⟨Ap,cp,rfl,i5,e7⟩,f7⟩:=j4;have m5:(qs++[p]).length=qs.length+1:=by simp
  rw [m5] at i5 e7⊢;obtain ⟨bp,ofp,up,rfl,_,i6,j6⟩:=AW e7 f7 (k:=qs.length) (by omega) (by simp);have m1:(qs++[p])[qs.length]=p:=by simp
  rw [m1] at j6;clear e7 f7 m7 g4 c0 m1 m5;have ru:=za.rule i6;have s7:za w2 w2:=za.refl w2;have w4:decide ((m.tasks.length:Int)<=(qs.length:Int))=false:=FC (by omega);have w6:decide (m.tasks.length<=qs.length)=false:=FC (by omega);have w7:(qs.length:Int)<(qs.length:Int)+1:=by omega
  have l1:=zh j6;obtain ⟨Aq,cq,rfl,l7,j5⟩:=j6;rcases List.eq_nil_or_concat p with rfl | ⟨q,y,rfl⟩
  ·have hz:([]:List Int).length=0:=rfl;rw [hz] at i6 ru l7 l1;obtain ⟨bt,offt,sn,u1,u2,rfl,_,i2,d7,i3,a6,f8⟩:=Bz l3.out a8;have e3:=(HL.out.tl _ (Fz a8)).1;have e8:(m.tasks.getD qs.length ([],[])).1=(m.tasks[qs.length]).1:=by simp [a8]
   have U:Hid (Bn m ch=begL m qs.length ch):=cand_beg HG.out c9.out k5.out a8;unfold begL at U;rw [e8] at U;obtain ⟨fm,d8⟩:=zaI ((m.tasks[qs.length]).1);rw [<-d8] at a6 e3 U;clear e8 d8 i2 i3 f8;have g9:=zh a6;clear a6;have rt:∀W,za w1 W->W.cell? ⟨bt,offt+qs.length*3+1,none⟩=some u1:=fun W hW=>za.rule d7 W (D.trans hW)
   have a7:qs.length<m.free.length:=by rw [k7.out];exact a8
   obtain ⟨bf,off3,uf,rfl,_,a0,h9⟩:=AW l2.out k6.out a7 a7;have M:=HG.out.fn _ (Fz a7);obtain ⟨A4,c4,rfl,i4,e6⟩:=h9;have d5:=zh e6;clear e6;have c7:Hid (∀x:Nat,(hx:x<(m.free[qs.length]).length)->(m.free[qs.length])[x]=zj m qs.length (x:Int)):=fun x hx=>by simp [zj,a7,hx]
   obtain ⟨fl,a2⟩:=zaI (m.free[qs.length]);rw [<-a2] at a0 M i4 d5;have c8:Hid (∀x:Nat,(hx:x<fl.length)->fl[x]=zj m qs.length (x:Int)):=by subst a2;exact c7
   clear c7 a2;have rf:∀W,za w1 W->W.cell? ⟨bf,off3+qs.length,none⟩=some (.slice A4 fl.length c4):=fun W hW=>za.rule a0 W (D.trans hW)
   clear d7 a0;obtain ⟨N,hN⟩:∃N:Nat,m.w*m.h*m.l=(N:Int):=⟨(m.w*m.h*m.l).toNat,by omega⟩;have l9:fl.length=N:=by have:m.n=m.w*m.h*m.l:=rfl;omega
   have t2:N<=300:=by omega
   have o6:Hid (m.n.toNat=N):=by have:m.n=m.w*m.h*m.l:=rfl;show _=_;omega
   have HN:=zh hN;have g8:=zh l9;obtain ⟨PR,h8⟩:∃PR:Int->Bool,PR=fun k=>decide (k∈fm) && zj m qs.length k && !decide (k∈ch):=⟨_,rfl⟩
   rw [o6.out,<-h8] at U;have o7:=zh h8;have d6:Hid (Mk w2 w2 (.slice none 0 0) (((List.range 0).map Int.ofNat).filter PR)):=Mk.nil w2;clear h8 M hN l9
   go_wp2_with fail
   go_loopw [8,9] (fun v i wr=>∃k:Nat,k<=N/\i=.int .i64 k/\Hid (Mk w2 wr v (((List.range k).map Int.ofNat).filter PR))) (fun _ i _=>N - (intOf i).toNat)
   case atStart=>exact ⟨0,FN _,rfl,d6⟩
   clear d6
   case round=>
    obtain ⟨k,hk,rfl,hM⟩:=hrel;obtain ⟨wk,rfl⟩:∃wk:World,wk=wr:=⟨_,rfl⟩;have f1:za w2 wk:=hM.out.ext;have a4:za w1 wk:=hx.trans f1
    go_wp2_with fail
    refine (AB _ _ _ _ _ _ _ (by omega) (by omega)).mono ?_;rintro e wA ⟨rfl,f5⟩;rw [HN.out];have V:=zh (hM.out.more f5);have a3:za w1 wA:=a4.trans f5;have g5:za w2 wA:=f1.trans f5;clear hM f1 a4 f5;by_cases G:k<N
    ·have O:((List.range (k+1)).map Int.ofNat).filter PR=((List.range k).map Int.ofNat).filter PR++[(k:Int)].filter PR:=by
      rw [List.range_succ,za2,zay];rfl
     have HS:=zh O;clear O;have j2:(((List.range k).map Int.ofNat).filter PR).length<=k:=FA (zan _ _) (by simp);obtain ⟨lk,a9⟩:=zaI (((List.range k).map Int.ofNat).filter PR);rw [<-a9] at V j2 HS;clear a9;have b6:k<fl.length:=by rw [g8.out];exact G
     obtain ⟨b4,off4,e4,_,a1⟩:=BS d5.out b6 b6;rw [c8.out k b6] at a1;subst e4;have rb:∀W,za w1 W->W.cell? ⟨b4,off4+k,none⟩=some (.bool (zj m qs.length (k:Int))):=fun W hW=>za.rule a1 W (D.trans hW)
     clear a1;have J:Hid (∀W,za w1 W->Calls Tryz.prog 73 #[u1,.int .i64 k] W fun e w'=>e=.returned (.bool (decide ((k:Int)∈fm)))/\W=w'):=fun W hW=>AO _ W (g9.out.below (D.trans hW)) (by omega)
     have b1:Hid (∀W,za w1 W->Calls Tryz.prog 73 #[.slice A ch.length c,.int .i64 k] W fun e w'=>e=.returned (.bool (decide ((k:Int)∈ch)))/\W=w'):=fun W hW=>AO _ W (g7.out.below (D.trans hW)) (by omega)
     have E:Hid (PR k=(decide ((k:Int)∈fm) && zj m qs.length k && !decide ((k:Int)∈ch))):=by rw [o7.out];rfl
     generalize decide ((k:Int)∈fm)=d1 at J E;generalize decide ((k:Int)∈ch)=d2 at b1 E;generalize zj m qs.length (k:Int)=d3 at rb E
     cases d1 <;> cases d2 <;> cases d3
     ·have o:Hid (((List.range (k+1)).map Int.ofNat).filter PR=lk):=by rw [HS.out,zas (by rw [E.out];simp),List.filter_nil,List.append_nil];exact (by rfl:lk=lk)
      go_wp2_with fail
      refine (J.out _ a3).mono ?_;rintro e w8 ⟨rfl,rfl⟩
      go_wp2_with fail
      go_roundw
      case rel=>exact ⟨k+1,G,by go_num,by rw [o.out];exact V⟩
      case measure=>simp [intOf];omega
     ·have o:Hid (((List.range (k+1)).map Int.ofNat).filter PR=lk):=by rw [HS.out,zas (by rw [E.out];simp),List.filter_nil,List.append_nil];exact (by rfl:lk=lk)
      go_wp2_with fail
      refine (J.out _ a3).mono ?_;rintro e w8 ⟨rfl,rfl⟩
      go_wp2_with fail
      go_roundw
      case rel=>exact ⟨k+1,G,by go_num,by rw [o.out];exact V⟩
      case measure=>simp [intOf];omega
     ·have o:Hid (((List.range (k+1)).map Int.ofNat).filter PR=lk):=by rw [HS.out,zas (by rw [E.out];simp),List.filter_nil,List.append_nil];exact (by rfl:lk=lk)
      go_wp2_with fail
      refine (J.out _ a3).mono ?_;rintro e w8 ⟨rfl,rfl⟩
      go_wp2_with fail
      go_roundw
      case rel=>exact ⟨k+1,G,by go_num,by rw [o.out];exact V⟩
      case measure=>simp [intOf];omega
     ·have o:Hid (((List.range (k+1)).map Int.ofNat).filter PR=lk):=by rw [HS.out,zas (by rw [E.out];simp),List.filter_nil,List.append_nil];exact (by rfl:lk=lk)
      go_wp2_with fail
      refine (J.out _ a3).mono ?_;rintro e w8 ⟨rfl,rfl⟩
      go_wp2_with fail
      go_roundw
      case rel=>exact ⟨k+1,G,by go_num,by rw [o.out];exact V⟩
      case measure=>simp [intOf];omega
     ·have o:Hid (((List.range (k+1)).map Int.ofNat).filter PR=lk):=by rw [HS.out,zas (by rw [E.out];simp),List.filter_nil,List.append_nil];exact (by rfl:lk=lk)
      go_wp2_with fail
      refine (J.out _ a3).mono ?_;rintro e w8 ⟨rfl,rfl⟩
      go_wp2_with fail
      go_roundw
      case rel=>exact ⟨k+1,G,by go_num,by rw [o.out];exact V⟩
      case measure=>simp [intOf];omega
     ·have o:Hid (((List.range (k+1)).map Int.ofNat).filter PR=lk++[(k:Int)]):=by rw [HS.out,za4 (by rw [E.out];simp),List.filter_nil];exact rfl
      go_wp2_with fail
      refine (J.out _ a3).mono ?_;rintro e w8 ⟨rfl,rfl⟩
      go_wp2_with fail
      refine (b1.out _ a3).mono ?_;rintro e w8 ⟨rfl,rfl⟩
      go_wp2_with (at_builtin;refine AZ rfl _ _ rfl _ lk (k:Int) w2.heap.size wA.heap.size 1 _ rfl rfl (V.out.own.alloc _) ?d1 ?d2 ?d3 ?_)
      (try case d1=>exact zy _ _ _ (by simp))
      case d2=>(first | (simp;done) | (have:=g5.size;simp;omega) | (have:=g5.size;omega))
      case d3=>omega
      intro v' wb e5 d9 i1;have f3:=zh ((V.out.alloc _).app e5 d9);clear e5 d9 i1;go_wp2;go_roundw
      case rel=>exact ⟨k+1,G,by go_num,by rw [o.out];exact f3⟩
      case measure=>simp [intOf];omega
     ·have o:Hid (((List.range (k+1)).map Int.ofNat).filter PR=lk):=by rw [HS.out,zas (by rw [E.out];simp),List.filter_nil,List.append_nil];exact (by rfl:lk=lk)
      go_wp2_with fail
      refine (J.out _ a3).mono ?_;rintro e w8 ⟨rfl,rfl⟩
      go_wp2_with fail
      go_roundw
      case rel=>exact ⟨k+1,G,by go_num,by rw [o.out];exact V⟩
      case measure=>simp [intOf];omega
     ·have o:Hid (((List.range (k+1)).map Int.ofNat).filter PR=lk):=by rw [HS.out,zas (by rw [E.out];simp),List.filter_nil,List.append_nil];exact (by rfl:lk=lk)
      go_wp2_with fail
      refine (J.out _ a3).mono ?_;rintro e w8 ⟨rfl,rfl⟩
      go_wp2_with fail
      refine (b1.out _ a3).mono ?_;rintro e w8 ⟨rfl,rfl⟩
      go_wp2_with fail
      go_roundw
      case rel=>exact ⟨k+1,G,by go_num,by rw [o.out];exact V⟩
      case measure=>simp [intOf];omega
    ·obtain rfl:k=N:=by omega
     go_wp2;go_ret;refine ⟨_,rfl,(D.trans hx).mono_mk ?_⟩;rw [U.out];exact V.out
  ·rw [List.concat_eq_append] at*;obtain ⟨bq,ofq,rfl,_,i7⟩:=Ai j5 (k:=q.length) (by simp) (by simp);have m2:(q++[y])[q.length]'(by simp)=y:=by simp
   rw [m2] at i7;have m4:(q++[y]).length=q.length+1:=by simp
   have s4:q.length+1<=300:=by
    have h5:=HC.out.psOk.fl;have h6:=flat_le (ps:=zS m ch) (p:=q++[y]) (by rw [c9.out];simp);rw [h5] at h6;omega
   have r8:0<=y/\y<m.w*m.h*m.l:=(HC.out.range HG.out).1 y (by rw [<-HC.out.psOk.fl,c9.out];simp);rw [m4] at i6 ru l7 l1;have ry:=za.rule i7;have x0:((q.length:Int)+1==0)=false:=by rw [FM];omega
   have x1:decide ((q.length:Int)+1=0)=false:=FC (by omega);have x2:(q.length:Int)<(q.length:Int)+1:=by omega
   have o9:Hid (∀j (hj:j<q.length),w2.cell? ⟨bq,ofq+j,none⟩=some (.int .i64 q[j])):=fun j hj=>by
    obtain ⟨b9,of9,e9,_,q5⟩:=Ai j5 (k:=j) (by simp;omega) (by simp;omega);injection e9 with e9;injection e9 with e1 e2;subst e1 e2;rw [q5,List.getElem_append_left hj]
   have o8:Hid (∀j (hj:j<q.length),0<=q[j]/\q[j]<m.w*m.h*m.l):=fun j hj=>(HC.out.range HG.out).1 _ (by rw [<-HC.out.psOk.fl,c9.out];simp)
   clear i7 m2 j5 m4;obtain ⟨bt,offt,sn,u1,u2,rfl,_,i2,d7,i3,a6,f8⟩:=Bz l3.out a8;have e3:=(HL.out.tl _ (Fz a8)).1;have e8:(m.tasks.getD qs.length ([],[])).1=(m.tasks[qs.length]).1:=by simp [a8]
   have U:Hid (Bn m ch=(zp m y).filter (zX m ch qs.length q (m.tasks.getD qs.length ([],[])).1)):=cand_on c9.out k5.out;rw [e8] at U;obtain ⟨fm,d8⟩:=zaI ((m.tasks[qs.length]).1);rw [<-d8] at a6 e3 U;clear e8 d8 i2 i3 f8;have g9:=zh a6;clear a6;have rt:∀W,za w1 W->W.cell? ⟨bt,offt+qs.length*3+1,none⟩=some u1:=fun W hW=>za.rule d7 W (D.trans hW)
   have a7:qs.length<m.free.length:=by rw [k7.out];exact a8
   obtain ⟨bf,off3,uf,rfl,_,a0,h9⟩:=AW l2.out k6.out a7 a7;have M:=HG.out.fn _ (Fz a7);obtain ⟨A4,c4,rfl,i4,e6⟩:=h9;have d5:=zh e6;clear e6;have c7:Hid (∀x:Nat,(hx:x<(m.free[qs.length]).length)->(m.free[qs.length])[x]=zj m qs.length (x:Int)):=fun x hx=>by simp [zj,a7,hx]
   obtain ⟨fl,a2⟩:=zaI (m.free[qs.length]);rw [<-a2] at a0 M i4 d5;have c8:Hid (∀x:Nat,(hx:x<fl.length)->fl[x]=zj m qs.length (x:Int)):=by subst a2;exact c7
   clear c7 a2;have rf:∀W,za w1 W->W.cell? ⟨bf,off3+qs.length,none⟩=some (.slice A4 fl.length c4):=fun W hW=>za.rule a0 W (D.trans hW)
   clear d7 a0;have g8:Hid ((fl.length:Int)=m.n):=M;clear M;have q8:=Dp m y
   go_wp2_with fail
   obtain ⟨n4,n5⟩:=r8;have x5:IntKind.i64.wrap ((q.length:Int)+1 - 1)=(q.length:Int):=by rw [zag];omega
   have s5:IntKind.i64.wrap (q.length:Int)=(q.length:Int):=by rw [zag];omega
   have x3:(0:Int)<=(q.length:Int):=by omega
   have hR:=zh (za.refl w2)
   go_region_held3 (fun w'=>za w1 w'/\za w2 w')
    (first | (exact Ep hx) | (exact held_ext (by assumption) l5))
    ((go_at_call 165;refine (Fj m y _ (h7.out.below (D.trans hx.drew)) HG.out.dim n4 n5).mono ?_;rintro e w9 ⟨v9,rfl,l5,j3⟩))
   rename_i hS
   have s9:=zh hS;have j8:za w1 w9:=hS.1;have m9:za w2 w9:=hS.2;have l0:Hid (zQ w9 w2.drew.heap.size v9 (zp m y)):=j3;obtain ⟨A3,c3,rfl,p9,q9⟩:=AS.of_own j3;clear j3 l5 hS q9;obtain ⟨L,hL⟩:=zaI (zp m y);rw [<-hL] at l0 U p9 q8⊢;have o3:=zh hL;obtain ⟨F,hF⟩:=zaI (zX m ch qs.length q fm);rw [<-hF] at U;have o0:=zh hF;have d6:Hid (Mk w9 w9 (.slice none 0 0) ((L.take 0).filter F)):=Mk.nil w9;clear hL hF
   go_wp2_with fail
   go_loopw [8,11] (fun v i wr=>∃k:Nat,k<=L.length/\i=.int .i64 k/\Hid (Mk w9 wr v ((L.take k).filter F))) (fun _ i _=>L.length - (intOf i).toNat)
   case atStart=>exact ⟨0,FN _,rfl,d6⟩
   clear d6
   case round=>
    obtain ⟨k,hk,rfl,hM⟩:=hrel;obtain ⟨wk,rfl⟩:∃wk:World,wk=wr:=⟨_,rfl⟩;have n0:za w9 wk:=hM.out.ext;have a4:za w1 wk:=j8.trans n0;by_cases G:k<L.length
    ·obtain ⟨b3,rfl,f4,b2⟩:=own_at l0.out G
     have O:(L.take (k+1)).filter F=(L.take k).filter F++[L[k]].filter F:=by
      rw [FF G,zay]
     have n2:0<=L[k]/\L[k]<m.n:=Co HG.out.dim n4 (show y<m.n from n5) (by rw [<-o3.out];exact Fz G);obtain ⟨x,n3⟩:=zaI (L[k]);rw [<-n3] at b2 O n2;have HS:=zh O;clear O n3;obtain ⟨X,hX⟩:∃X:Nat,(X:Int)=x:=⟨x.toNat,by omega⟩;have b6:X<fl.length:=by have:=g8.out;omega
     obtain ⟨b4,off4,e4,_,a1⟩:=BS d5.out b6 b6;rw [c8.out X b6] at a1;subst e4;subst hX;have rb:∀W,za w1 W->W.cell? ⟨b4,off4+X,none⟩=some (.bool (zj m qs.length (X:Int))):=fun W hW=>za.rule a1 W (D.trans hW)
     have rx:∀W,za w9 W->W.cell? ⟨b3,k,none⟩=some (.int .i64 (X:Int)):=za.rule b2;have t4:(0:Int)<=(X:Int):=by omega
     have p6:(X:Int)<(fl.length:Int):=by omega
     have j2:((L.take k).filter F).length<=k:=FA (zan _ _) (by simp;omega);obtain ⟨lk,a9⟩:=zaI ((L.take k).filter F);rw [<-a9] at hM j2 HS;clear b2 a1 a9 n2;have J:Hid (∀W,za w1 W->Calls Tryz.prog 73 #[u1,.int .i64 X] W fun e w'=>e=.returned (.bool (decide ((X:Int)∈fm)))/\W=w'):=fun W hW=>AO _ W (g9.out.below (D.trans hW)) (by omega)
     have b1:Hid (∀W,za w1 W->Calls Tryz.prog 73 #[.slice A ch.length c,.int .i64 X] W fun e w'=>e=.returned (.bool (decide ((X:Int)∈ch)))/\W=w'):=fun W hW=>AO _ W (g7.out.below (D.trans hW)) (by omega)
     have E:Hid (F X=(zj m qs.length X && !decide ((X:Int)∈ch) && !(q.any fun y=>decide ((X:Int)∈zp m y)) && !decide ((X:Int)∈fm))):=by rw [o0.out];rfl
     generalize decide ((X:Int)∈fm)=d1 at J E;generalize decide ((X:Int)∈ch)=d2 at b1 E;generalize zj m qs.length (X:Int)=d3 at rb E
     go_wp2_with fail
     have x4:(X:Int)<(fl.length:Int):=p6;go_cut [12] (fun s wx=>s=.bool (d3 && !d2 && !d1)/\Hid (za wk wx))
     case first=>
      cases d1 <;> cases d2 <;> cases d3
      all_goals
       go_quiet (first | (go_at_call 73;with_reducible refine (J.out _ (a4.drewN _)).mono ?_;rintro e w8 ⟨j1,rfl⟩;exact ⟨j1,⟨_,rfl⟩⟩) | (go_at_call 73;with_reducible refine (b1.out _ (a4.drewN _)).mono ?_;rintro e w8 ⟨j1,rfl⟩;exact ⟨j1,⟨_,rfl⟩⟩))
       go_wp2_with fail
       go_meet;exact ⟨rfl,(za.refl wk).drewN _⟩
     case rest=>
      obtain ⟨rfl,hE⟩:=hcut;have f3:=zh (hM.out.more hE.out);have s6:za w1 wc:=a4.trans hE.out;clear hM hE rb J b1
      have g3:Hid (F X=((d3 && !d2 && !d1) && !(q.any fun y=>decide ((X:Int)∈zp m y)))):=by
       show _=_;rw [E.out]
       cases d1 <;> cases d2 <;> cases d3 <;> simp
      clear E;obtain ⟨g0,m0⟩:=zaI ((d3 && !d2 && !d1));rw [<-m0] at g3⊢;clear m0
      go_wp2_with fail
      go_loopw [12,13] (fun gv i wr=>∃i0:Nat,i0<=q.length/\i=.int .i64 i0/\gv=.bool (g0 && !((q.take i0).any fun y=>decide ((X:Int)∈zp m y)))/\Hid (Mk w9 wr u8 lk)) (fun _ i _=>q.length - (intOf i).toNat)
      case atStart=>exact ⟨0,FN _,rfl,by simp,f3⟩
      clear f3
      case round=>
       obtain ⟨i0,v5,rfl,rfl,hM⟩:=hrel;obtain ⟨wj,rfl⟩:∃wj:World,wj=wr:=⟨_,rfl⟩;obtain ⟨bb,Q⟩:=zaI ((g0 && !((q.take i0).any fun y=>decide ((X:Int)∈zp m y))));rw [<-Q];have a5:za w9 wj:=hM.out.ext;have f0:za w1 wj:=j8.trans a5;have g6:za w2 wj:=m9.trans a5;by_cases I:i0<q.length/\bb=true
       ·obtain ⟨I,rfl⟩:=I;have i9:=o9.out i0 I;obtain ⟨n6,f9⟩:=o8.out i0 I
        have k9:Hid ((g0 && !((q.take (i0+1)).any fun y=>decide ((X:Int)∈zp m y)))=!decide ((X:Int)∈zp m q[i0])):=by
         show _=_;have h1:=Q.symm;rw [FK,Bool.not_eq_true'] at h1;rw [FF I,List.any_append,h1.1,h1.2];simp
        obtain ⟨z,hz⟩:=zaI (q[i0]);rw [<-hz] at i9 k9 n6 f9;have rz:=za.rule i9;have a6:(i0:Int)+1<(q.length:Int)+1:=by omega
        have f8:i0<q.length+1:=by omega
        have v6:(i0:Int)<(q.length:Int)+1:=by omega
        have e0:decide ((i0:Int)+1<(q.length:Int)+1)=true:=FB a6;clear i9 Q hz;have o4:=zh (hM.out.drew)
        go_wp2_with fail
        go_region_held3 (fun w'=>(za w1 w'/\za w2 w'/\za w9 w')/\za wj w')
         (first | (exact ⟨⟨f0.drew,g6.drew,a5.drew⟩,(za.refl _).drew⟩) | (exact ⟨⟨f0.drew.trans b8,g6.drew.trans b8,a5.drew.trans b8⟩,(za.refl _).drew.trans b8⟩))
         (first | (go_at_call 165;refine (Fj m z _ (h7.out.below (D.trans f0.drew)) HG.out.dim n6 f9).mono ?_;rintro e wn ⟨v9,rfl,b8,m3⟩) | (go_at_call 73;refine (AO (X:Int) _ (AS.of_own m3) (by have:=Dp m z;omega)).mono ?_;rintro e w10 ⟨rfl,rfl⟩))
        rename_i hS
        have o5:=zh (o4.out.more b8);clear b8 m3 hS
        go_wp2_with fail
        go_roundw
        case rel=>exact ⟨i0+1,I,by go_num,by rw [k9.out],o5⟩
        case measure=>simp [intOf];omega
       ·have k8:Hid (F X=bb):=by
         show _=_;rw [g3.out,Q];by_cases D:i0<q.length
         ·have p7:bb=false:=by
           cases f4:bb
           ·rfl
           ·exact absurd ⟨D,f4⟩ I
          rw [p7] at Q;rw [<-Q]
          cases hg:g0
          ·rfl
          ·rw [hg,Bool.true_and] at Q;have Q:=Q.symm;rw [Bool.not_eq_false',zaE] at Q;obtain ⟨z,f9,r9⟩:=Q;rw [Bool.true_and,Bool.not_eq_false',zaE];exact ⟨z,List.mem_of_mem_take f9,r9⟩
         ·rw [List.take_of_length_le (by omega)]
        clear Q
        have f6:(decide ((i0:Int)+1<(q.length:Int)+1) && bb)=false:=by
         cases f4:bb
         ·rw [Bool.and_false]
         ·rw [Bool.and_true,zai];intro h;exact I ⟨by omega,f4⟩
        cases bb
        ·have o:Hid ((L.take (k+1)).filter F=lk):=by rw [HS.out,zas (by rw [k8.out];simp),List.filter_nil,List.append_nil];exact (by rfl:lk=lk)
         clear I f6;by_cases s1:i0<q.length
         ·have e0:decide ((i0:Int)+1<(q.length:Int)+1)=true:=FB (by omega)
          go_wp2_with fail
          go_roundw
          case rel=>exact ⟨k+1,G,by go_num,by rw [o.out];exact hM⟩
          case measure=>simp [intOf];omega
         ·have e0:decide ((i0:Int)+1<(q.length:Int)+1)=false:=FC (by omega)
          go_wp2_with fail
          go_roundw
          case rel=>exact ⟨k+1,G,by go_num,by rw [o.out];exact hM⟩
          case measure=>simp [intOf];omega
        ·have o:Hid ((L.take (k+1)).filter F=lk++[(X:Int)]):=by rw [HS.out,za4 (by rw [k8.out]),List.filter_nil];exact rfl
         have e0:decide ((i0:Int)+1<(q.length:Int)+1)=false:=by rw [Bool.and_true] at f6;exact f6
         have q7:i0=q.length:=by rw [zai] at e0;omega
         subst q7;clear e0;clear I f6
         go_wp2_with (at_builtin;refine AZ rfl _ _ rfl _ lk (X:Int) w9.heap.size wj.heap.size 1 _ rfl rfl (hM.out.own.alloc _) ?d1 ?d2 ?d3 ?_)
         (try case d1=>exact zy _ _ _ (by simp))
         case d2=>(first | (simp;done) | (have:=a5.size;simp;omega) | (have:=a5.size;omega))
         case d3=>omega
         intro v' wb e5 d9 i1;have l4:=zh ((hM.out.alloc _).app e5 d9);clear e5 d9 i1;go_wp2;go_roundw
         case rel=>exact ⟨k+1,G,by go_num,by rw [o.out];exact l4⟩
         case measure=>simp [intOf];omega
    ·obtain rfl:k=L.length:=by omega
     go_wp2;go_ret;refine ⟨_,rfl,(D.trans j8).mono_mk ?_⟩;rw [U.out];have:=hM.out
     rwa [FJ] at this
 ·have h1:=(Cr HC.out).1 c0;have n9:=zh (cand_cmp c0);obtain ⟨vs,⟨Ap,cp,rfl,i5,e7⟩,f7⟩:=j4;rw [h1] at i5⊢;clear e7 f7 h1 c0;go_wp2;go_ret;refine ⟨_,rfl,?_⟩;rw [n9.out];exact Mk.nil' (D.trans hx)
theorem El (w:World) (hm:zL w ok v m) (hl:Lens m) (a8:zg w okc vc ch) (e3:ch.length<=20000000000000):
  Calls Tryz.prog 176 #[v,vc] w fun e w'=>e=.returned (.bool (EH m ch))/\za w w':=by
 have a4:=zh hm;obtain ⟨vfr,vup,vts,rfl,-,-,-⟩:=hm;have b5:=zh a8;obtain ⟨A,c,rfl,d8,hr⟩:=a8;have HR:=zh hr;have HL:=zh hl;clear hr hl;obtain ⟨ck,a9⟩:=zaI (AV m);have O:=zh a9;clear a9
 go_enter Tryz.func176,Tryz.ntmps176
 go_wp2_with fail
 generalize a1:w.alloc (.cells #[.int .i64 m.w,.int .i64 m.h,.int .i64 m.l,vfr,vup,vts] 32)=w1;have D:za w w1:=by rw [<-a1];exact (za.refl w).alloc _
 have b1:ze w1 w.heap.size 32 #[.int .i64 m.w,.int .i64 m.h,.int .i64 m.l,vfr,vup,vts]:=by rw [<-a1];exact zax _ _
 clear a1;obtain ⟨m0,m1,m2,m3,m4,m5⟩:=zt b1;have c0:=za.rule m0;have c1:=za.rule m1;have c2:=za.rule m2;have c3:=za.rule m3;have c4:=za.rule m4;have c5:=za.rule m5;clear m0 m1 m2 m3 m4 m5 b1;refine (BX w1 (a4.out.below D) HL.out).mono ?_;rintro e w2 ⟨rfl,a2⟩;have a2:za w1 w2:=a2;have a7:za w w2:=D.trans a2;rw [<-O.out];by_cases h0:ck=0
 case neg=>
  have e6:(ck==0)=false:=by rw [FM];exact h0
  have e7:(ck != 0)=true:=by rw [bne_iff_ne];exact h0
  have G:Hid (EH m ch=false):=by show _=_;unfold EH;rw [<-O.out,FC h0];rfl
  clear h0
  go_wp2_with fail
  go_ret;exact ⟨zm G.out.symm,a7⟩
 case pos=>
  subst h0;have HG:=zh (zZ.of O.out.symm);have e5:=HG.out.dim.n1;have c8:=HG.out.dim.layer;have a0:Hid (EH m ch=isChB m ch):=by show _=_;unfold EH;rw [<-O.out];rfl
  go_wp2_with fail
  refine (AB m.w m.h m.l vfr vup vts w2 (by omega) (by omega)).mono ?_;rintro e w3 ⟨rfl,b2⟩;have b7:za w w3:=a7.trans b2;have a6:za w1 w3:=za.trans ‹za w1 w2› b2;by_cases U:m.w*m.h*m.l<(ch.length:Int)
  ·have b0:decide (m.w*m.h*m.l<(ch.length:Int))=true:=FB U
   have G:Hid (EH m ch=false):=by
    show _=_;rw [a0.out,Bool.eq_false_iff];intro h;have h1:=(AX.1 h).len HG.out;have h2:m.n=m.w*m.h*m.l:=rfl;omega
   go_wp2_with fail
   go_ret;exact ⟨zm G.out.symm,b7⟩
  ·have b0:decide (m.w*m.h*m.l<(ch.length:Int))=false:=FC U;have b9:ch.length<=300:=by omega
   go_wp2_with fail
   clear b0;go_loopw [5] (fun i wr=>∃k:Nat,k<=ch.length/\i=.int .i64 k/\Hid (zw m (ch.take k))/\Hid (za w1 wr)) (fun i _=>ch.length - (intOf i).toNat)
   case atStart=>exact ⟨0,FN _,rfl,by rw [List.take_zero];exact zw.nil,a6⟩
   case round=>
    obtain ⟨k,hk,rfl,hI,hX⟩:=hrel;obtain ⟨wk,rfl⟩:∃wk:World,wk=wr:=⟨_,rfl⟩;have o:za w1 wk:=hX.out;by_cases J:k<ch.length
    ·obtain ⟨b,off,rfl,_,E⟩:=Ai HR.out J J;have a3:=zh (intsTake b5.out (show k<=ch.length by omega));have M:=zh (FF J)
     have a5:Hid (ch[k]∉Bn m (ch.take k)->EH m ch=false):=fun hn=>by
      rw [a0.out,Bool.eq_false_iff];intro h;exact hn ((AX.1 h).at J)
     obtain ⟨x,b3⟩:=zaI (ch[k]);rw [<-b3] at E M a5;clear b3;have rx:∀W,za w1 W->W.cell? ⟨b,off+k,none⟩=some (.int .i64 x):=fun W hW=>za.rule E W (D.trans hW)
     have e2:(k:Int)<=(c:Int):=by omega
     have e1:k<=c:=by omega
     have d9:(0:Int)<=(k:Int):=by omega
     have e0:(k:Int)<(ch.length:Int):=by omega
     clear E;have c9:=Dv HL.out (ch.take k)
     go_wp2_with fail
     go_region_held3 (fun w'=>za w1 w'/\za wk w')
      (first | (exact ⟨o.drew,(za.refl _).drew⟩) | (exact ⟨o.drew.trans Q.ext,(za.refl _).drew.trans Q.ext⟩))
      (first | (go_at_call 180;refine (Ek _ (a4.out.below (D.trans o.drew)) HG.out HL.out (a3.out.below (D.trans o.drew)) hI.out).mono ?_;rintro e wn ⟨v9,rfl,Q⟩) | (go_at_call 73;refine (AO x _ Q.ints (by omega)).mono ?_;rintro e w10 ⟨rfl,rfl⟩))
     rename_i hS
     have V:za w1 wn:=hS.1;clear Q hS;by_cases I:x∈Bn m (ch.take k)
     ·rw [FB I];have b8:Hid (zw m (ch.take (k+1))):=by show zw _ _;rw [M.out];exact zw.snoc hI.out I
      clear I
      go_wp2_with fail
      go_roundw
      case rel=>exact ⟨k+1,J,by go_num,b8,V⟩
      case measure=>simp [intOf];omega
     ·rw [FC I];have G:=zh (a5.out I);clear I;go_wp2;go_ret;exact ⟨zm G.out.symm,D.trans V⟩
    ·obtain rfl:k=ch.length:=by omega
     have G:Hid (EH m ch=true):=by
      show _=_;rw [a0.out,AX];have:=hI.out
      rwa [FJ] at this
     go_wp2;go_ret;exact ⟨zm G.out.symm,D.trans o⟩
theorem cmp_len (h:zw m ch):decide (m.tasks.length<(Ag m ch).length)=zV m ch:=by
 obtain ⟨h1,h2⟩:=Cr h
 cases o:zV m ch
 ·have:=h2 o;exact FC (by omega)
 ·have:=h1 o;exact FB (by omega)
theorem CD (w:World) (hm:zL w ok v m) (g:zZ m) (hl:Lens m) (J:zg w okc vc ch) (V:zw m ch):
  Calls Tryz.prog 167 #[v,vc] w fun e w'=>e=.returned (.bool (zV m ch))/\za w w':=by
 have U:=zh hm;obtain ⟨vfr,vup,vts,rfl,-,-,a1⟩:=hm;obtain ⟨vst,⟨At,ct,rfl,a9,-⟩,-⟩:=a1;have O:=zh J;obtain ⟨A,c,rfl,a8,hr⟩:=J;have HG:=zh g;have HL:=zh hl;have HC:=zh V;have Q:=zh (cmp_len V);clear hr g hl V
 go_enter Tryz.func167,Tryz.ntmps167
 go_wp2_with fail
 generalize I:w.alloc (.cells #[.int .i64 m.w,.int .i64 m.h,.int .i64 m.l,vfr,vup,.slice At m.tasks.length ct] 32)=w1;have E:za w w1:=by rw [<-I];exact (za.refl w).alloc _
 have M:ze w1 w.heap.size 32 #[.int .i64 m.w,.int .i64 m.h,.int .i64 m.l,vfr,vup,.slice At m.tasks.length ct]:=by rw [<-I];exact zax _ _
 clear I;obtain ⟨m0,m1,m2,m3,m4,m5⟩:=zt M;have c0:=za.rule m0;have c1:=za.rule m1;have c2:=za.rule m2;have c3:=za.rule m3;have c4:=za.rule m4;have c5:=za.rule m5;clear m0 m1 m2 m3 m4 m5 M;have D:za w1 w1:=za.refl w1
 go_wp2_with fail
 have o:=Cr HC.out
 have a0:(Ag m ch).length<=7:=by
  have:=HG.out.tk
  cases h:zV m ch
  ·have:=o.2 h;omega
  ·have:=o.1 h;omega
 clear o
 go_region_held3 (fun w'=>za w1 w')
  (first | (exact D.drew) | (exact D.drew.trans G))
  ((go_at_call 177;refine (DH _ (U.out.below (E.trans D.drew)) HG.out HL.out (O.out.below (E.trans D.drew)) HC.out).mono ?_;rintro e w9 ⟨v9,rfl,G,⟨vs9,⟨A9,c9,rfl,a7,-⟩,-⟩⟩;have G:za _ _:=G))
 rename_i hS
 clear a0
 go_wp2_with fail
 go_ret;exact ⟨zm Q.out,E.trans hS⟩
theorem qmeets_calls {ok':Nat->Prop} {va vb:Value} {a b:List Int} (w:World) (ha:zg w ok va a) (V:zg w ok' vb b) (a7:a.length<=20000000000000) (M:b.length<=20000000000000):
  Calls Tryz.prog 236 #[va,vb] w fun e w'=>e=.returned (.bool (a.any fun x=>decide (x∈b)))/\zT w w':=by
 have HB:=zh V;obtain ⟨A2,c2,rfl,a6,-⟩:=V;obtain ⟨A,c,rfl,hc,hr⟩:=ha;have HR:=zh hr;clear hr
 go_enter Tryz.func236,Tryz.ntmps236
 go_wp2_with fail
 go_loopw [5] (fun i wr=>∃k:Nat,k<=a.length/\i=.int .i64 k/\Hid ((a.take k).any (fun x=>decide (x∈b))=false)/\Hid (zT w wr)) (fun i _=>a.length - (intOf i).toNat)
 case atStart=>exact ⟨0,FN _,rfl,rfl,zT.refl w⟩
 case round=>
  obtain ⟨k,hk,rfl,hn,I⟩:=hrel;by_cases E:k<a.length
  ·obtain ⟨bb,off,rfl,_,o⟩:=Ai HR.out E E;have G:=zh (FF E);have U:Hid (a[k]∈a):=Fz E;obtain ⟨x,hx⟩:=zaI (a[k]);rw [<-hx] at o G U;clear hx;have rx:=za.rule o;have Q:za w wr:=I.out.below _;clear o
   go_wp2_with fail
   refine (AO x wr (HB.out.below Q) M).mono ?_;rintro e w9 ⟨rfl,rfl⟩;by_cases D:x∈b
   ·rw [FB D];have J:=zh D;clear D
    go_wp2_with fail
    go_ret;exact ⟨zm (by rw [eq_comm,zaE];exact ⟨x,U.out,by simpa using J.out⟩),I.out⟩
   ·rw [FC D]
    have O:Hid ((a.take (k+1)).any (fun x=>decide (x∈b))=false):=by
     show _=_;rw [G.out,List.any_append,hn.out];simpa using D
    clear D
    go_wp2_with fail
    go_roundw
    case rel=>exact ⟨k+1,E,by go_num,O,I⟩
    case measure=>simp [intOf];omega
  ·obtain rfl:k=a.length:=by omega
   go_wp2;go_ret;exact ⟨zm (by have h:=hn.out;rw [FJ] at h;rw [h]),I.out⟩
theorem qCandidates_calls (w:World) (hm:zL w ok v m) (hl:Lens m) (Q:zg w okc vc ch) (V:ch.length<=20000000000000):
  Calls Tryz.prog 122 #[v,vc] w fun e w'=>∃v',e=.returned v'/\Mk w w' v' (AD m ch):=by
 have M:=zh hm;obtain ⟨vfr,vup,vts,rfl,-,-,-⟩:=hm;have J:=zh Q;obtain ⟨A,c,rfl,a8,-⟩:=Q;have HL:=zh hl;clear hl;obtain ⟨bb,O⟩:=zaI (EH m ch);have D:=zh O;clear O
 go_enter Tryz.func122,Tryz.ntmps122
 go_wp2_with fail
 generalize I:w.alloc (.cells #[.int .i64 m.w,.int .i64 m.h,.int .i64 m.l,vfr,vup,vts] 32)=w1;have o:za w w1:=by rw [<-I];exact (za.refl w).alloc _
 have U:ze w1 w.heap.size 32 #[.int .i64 m.w,.int .i64 m.h,.int .i64 m.l,vfr,vup,vts]:=by rw [<-I];exact zax _ _
 clear I;obtain ⟨m0,m1,m2,m3,m4,m5⟩:=zt U;have c0:=za.rule m0;have c1:=za.rule m1;have c2:=za.rule m2;have c3:=za.rule m3;have c4:=za.rule m4;have c5:=za.rule m5;clear m0 m1 m2 m3 m4 m5 U;refine (El w1 (M.out.below o) HL.out (J.out.below o) V).mono ?_;rintro e w2 ⟨rfl,E⟩;rw [<-D.out];cases bb
 ·have G:Hid (AD m ch=[]):=by show _=_;unfold AD;rw [<-D.out];rfl
  go_wp2_with fail
  go_ret;exact ⟨_,rfl,by rw [G.out];exact Mk.nil' (o.trans E)⟩
 ·have G:Hid (AD m ch=Bn m ch):=by show _=_;unfold AD;rw [<-D.out];rfl
  obtain ⟨hg,hc⟩:=DY D.out.symm;have HG:=zh hg;have HC:=zh hc;clear hg hc
  go_wp2_with fail
  refine (Ek w2 (M.out.below (o.trans E)) HG.out HL.out (J.out.below (o.trans E)) HC.out).mono ?_;rintro e w3 ⟨v3,rfl,hM⟩;have HM:=zh ((o.trans E).mono_mk hM);clear hM
  go_wp2_with fail
  go_ret;exact ⟨_,rfl,by rw [G.out];exact HM.out⟩
theorem reachL_le (m:MZ) (t:Nat) (f us:List Int) (g:zZ m):(Cq m t f us).length<=20000000000000:=by
 unfold Cq;refine FA (zan _ _) ?_;have h1:=g.dim.n1;have h2:m.n=m.w*m.h*m.l:=rfl;simp;omega
theorem ints_last {b o:Nat} {q:List Int} {y:Int} (h:zg w ok (.slice (some ⟨b,o,none⟩) n c) (q++[y])):zg w ok (.slice (some ⟨b,o+q.length,none⟩) 1 (c - q.length)) [y]:=by
 obtain ⟨A',c',e,I,M,J⟩:=h;injection e with e1 e2 e3;subst e1 e2 e3;obtain ⟨b1,o1,e,G,D⟩:=J (by simp);injection e with e;injection e with e1 e2;subst e1 e2;refine ⟨some ⟨b,o+q.length,none⟩,c - q.length,rfl,by simp at I⊢;omega,rfl,fun _=>⟨b,o+q.length,rfl,G,fun j u E=>?_⟩⟩
 match j,E with
 | 0,E=>
  have:u=.int .i64 y:=by simpa using E.symm
  subst this;exact D q.length _ (by simp)
theorem Ee (w:World) (hm:zL w ok v m) (g:zZ m) (hl:Lens m) (j7:zg w okc vc ch) (hc:zw m ch):
  Calls Tryz.prog 221 #[v,vc] w fun e w'=>e=.returned (.bool (AA m ch))/\za w w':=by
 have s2:=hc.len300 g;have f4:=zh hm;obtain ⟨vfr,vup,vts,rfl,q6,_,m7⟩:=hm;obtain ⟨vsf,⟨Af,cf,rfl,t5,l4⟩,j8⟩:=q6;have o5:=zh m7;obtain ⟨vst,⟨At,ct,rfl,t6,-⟩,-⟩:=m7;have e5:=zh j7;obtain ⟨A,c,rfl,t4,hr⟩:=j7;have o3:=zh l4;have n4:=zh j8;have HC:=zh hc;have HL:=zh hl;have HG:=zh g;have w4:=g.tk;have n6:=zh g.fl;have t7:m.free.length<=6:=by rw [g.fl];exact g.tk
 have r7:=g.dim.layer;have v5:=g.dim.n1;obtain ⟨t8,t9⟩:=r7;clear hr hc g hl l4 j8
 go_enter Tryz.func221,Tryz.ntmps221
 go_wp2_with fail
 generalize g9:w.alloc (.cells #[.int .i64 m.w,.int .i64 m.h,.int .i64 m.l,.slice Af m.free.length cf,vup,.slice At m.tasks.length ct] 32)=w1;have D:za w w1:=by rw [<-g9];exact (za.refl w).alloc _
 have k7:ze w1 w.heap.size 32 #[.int .i64 m.w,.int .i64 m.h,.int .i64 m.l,.slice Af m.free.length cf,vup,.slice At m.tasks.length ct]:=by rw [<-g9];exact zax _ _
 clear g9;obtain ⟨m0,m1,m2,m3,m4,m5⟩:=zt k7;have c0:=za.rule m0;have c1:=za.rule m1;have c2:=za.rule m2;have c3:=za.rule m3;have c4:=za.rule m4;have c5:=za.rule m5;clear m0 m1 m2 m3 m4 m5 k7;refine (DH w1 (f4.out.below D) HG.out HL.out (e5.out.below D) HC.out).mono ?_;rintro e w2 ⟨v2,rfl,r8,l1⟩;have hx:za w1 w2:=r8;have s7:=zh l1;obtain ⟨vs,⟨Ap,cp,rfl,q5,l6⟩,j9⟩:=l1;have i5:=zh l6;have h7:=zh j9;clear l6 j9;have d5:=Cr HC.out
 have q7:0<(Ag m ch).length:=by
  cases h:zV m ch
  ·exact (d5.2 h).2
  ·have:=d5.1 h;omega
 have q8:(Ag m ch).length<=7:=by
  cases h:zV m ch
  ·have:=(d5.2 h).1;omega
  ·have:=d5.1 h;omega
 obtain ⟨t0,g8⟩:∃t0,(Ag m ch).length=t0+1:=⟨(Ag m ch).length - 1,by omega⟩;have J:=zh g8;rw [g8] at q5⊢;have w3:t0<=6:=by omega
 clear g8 q7 q8 d5
 go_wp2_with fail
 go_loopw [6] (fun i wr=>∃t:Nat,t0<=t/\i=.int .i64 t/\Hid (∀t',t0<=t'->t'<t->DA m (zS m ch) ch t'=true)/\Hid (za w2 wr)) (fun i _=>m.tasks.length - (intOf i).toNat)
 case atStart=>exact ⟨t0,Fy _,rfl,fun t' h1 h2=>by omega,za.refl _⟩
 case round=>
  obtain ⟨t,w6,rfl,hO,hX⟩:=hrel;obtain ⟨wk,rfl⟩:∃wk:World,wk=wr:=⟨_,rfl⟩;have a5:za w2 wk:=hX.out;have d7:za w1 wk:=hx.trans a5;by_cases Q:t<m.tasks.length
  ·have g0:zV m ch=false:=by
    cases h:zV m ch
    ·rfl
    ·have:=(Cr HC.out).1 h;have:=J.out;omega
   obtain ⟨qs,p,f1,r6,g7⟩:=ps_form HC.out g0;have l2:t0=qs.length:=by have:=J.out;rw [g7] at this;simp at this;omega
   obtain ⟨bt,offt,sn,u1,u2,rfl,_,p8,j5,j6,g1,g3⟩:=Bz o5.out Q;have a2:=HL.out.tl _ (Fz Q);have g5:∀x,x∈(m.tasks[t]).1->0<=x/\x<m.n:=fun x h=>HG.out.tn _ (Fz Q) x (.inl h)
   have b2:=zh f1
   have f7:Hid (DA m (zS m ch) ch t=(Cq m t (Bb m (zS m ch) ch t) ch).any fun x=>decide (x∈(m.tasks[t]).2)):=by
    show _=_;unfold DA;have h1:m.tasks.getD t ([],[])=m.tasks[t]:=by simp [Q]
    rw [h1,any_comm]
   have i3:Hid (DA m (zS m ch) ch t=false->AA m ch=false):=fun h=>openC_false HC.out (by have:=J.out;omega) Q h
   have l8:(m.tasks.getD t ([],[])).1=(m.tasks[t]).1:=by simp [Q]
   have a4:Hid (t≠qs.length\/p=[]->Bb m (zS m ch) ch t=((m.tasks[t]).1).filter fun n=>zj m t n && !decide (n∈ch)):=fun h=>by rw [fromL_off b2.out h,l8]
   obtain ⟨fm,k5⟩:=zaI ((m.tasks[t]).1);obtain ⟨tg,l9⟩:=zaI ((m.tasks[t]).2);rw [<-k5] at g1 a2 a4 g5;rw [<-l9] at g3 a2 f7;have k8:(Bb m (zS m ch) ch t).length<=20000000000000:=fromL_len (HC.out.sok HG.out HL.out) Q;have a9:t<m.free.length:=by rw [n6.out];exact Q
   obtain ⟨bf,off3,uf,rfl,_,b7,p5⟩:=AW o3.out n4.out a9 a9;have a1:=HG.out.fn _ (Fz a9);obtain ⟨A4,c4,rfl,p9,l3⟩:=p5;have i4:=zh l3;clear l3;have h8:Hid (∀x:Nat,(hx:x<(m.free[t]).length)->(m.free[t])[x]=zj m t (x:Int)):=fun x hx=>by simp [zj,a9,hx]
   obtain ⟨fl,c6⟩:=zaI (m.free[t]);rw [<-c6] at b7 a1 p9 i4;have h9:Hid (∀x:Nat,(hx:x<fl.length)->fl[x]=zj m t (x:Int)):=by subst c6;exact h8
   have s6:Hid (∀u k,u<m.free.length->m.free[u]?=some k->(k.length:Int)=m.n):=fun u k hu hk=>HG.out.fn _ (List.mem_of_getElem? hk)
   have n7:Hid ((fl.length:Int)=m.n):=a1;have n8:=zh g1;have i1:=zh g3;have rt1:∀W,za w1 W->W.cell? ⟨bt,offt+t*3+1,none⟩=some u1:=fun W hW=>za.rule j5 W (D.trans hW)
   have rt2:∀W,za w1 W->W.cell? ⟨bt,offt+t*3+2,none⟩=some u2:=fun W hW=>za.rule j6 W (D.trans hW)
   have rf:∀W,za w1 W->W.cell? ⟨bf,off3+t,none⟩=some (.slice A4 fl.length c4):=fun W hW=>za.rule b7 W (D.trans hW)
   have o0:=zh g5;obtain ⟨s3,s4⟩:=a2;clear h8 c6 k5 l9 l8 p8 j5 j6 g1 g3 b7 a1 g5 f1 g0;obtain ⟨bA,j4⟩:=zaI (decide (t=qs.length/\p≠[]));have e2:=zh j4;clear j4;have i7:=zh g7;clear g7;have U:=zh l2;clear l2;clear r6;go_upto_region 6 with fail;go_cut [34] (fun s wx=>s=.bool bA/\wk=wx)
   case first=>
    by_cases m6:t=t0
    ·subst m6;obtain ⟨bp,ofp,up,e1,_,b9,b0⟩:=AW i5.out h7.out (k:=t) (by have:=J.out;omega) (by have:=J.out;omega);subst e1
     have c8:(Ag m ch)[t]'(by have:=J.out;omega)=p:=by
      have h1:=U.out;subst h1;simp only [i7.out];simp
     rw [c8] at b0;obtain ⟨Aq,cq,rfl,e6,-⟩:=b0;have ru:=za.rule b9;have q9:(t:Int)<(t:Int)+1:=by omega
     clear b9 c8;have a8:bA=decide (p≠[]):=by rw [e2.out,U.out];simp
     rcases List.eq_nil_or_concat p with rfl | ⟨q,y,rfl⟩
     ·have b6:bA=false:=by rw [a8];simp
      clear a8;subst b6;have hz:([]:List Int).length=0:=rfl;rw [hz] at ru e6
      go_wp2_with fail
      go_meet;exact ⟨rfl,rfl⟩
     ·have b6:bA=true:=by rw [a8];simp
      clear a8;subst b6;have c9:(q.concat y).length=q.length+1:=by simp
      rw [c9] at ru e6;clear c9;have g6:(0:Int)<(q.length:Int)+1:=by omega
      have r5:decide ((0:Int)<(q.length:Int)+1)=true:=FB g6
      go_wp2_with fail
      go_meet;exact ⟨rfl,rfl⟩
    ·have a8:bA=false:=by rw [e2.out];exact FC (fun h=>m6 (by rw [U.out];exact h.1))
     subst a8;have g6:¬ ((t:Int)<(t0:Int)+1):=by omega
     have r5:decide ((t:Int)<(t0:Int)+1)=false:=FC g6
     go_wp2_with fail
     go_meet;exact ⟨rfl,rfl⟩
   case rest=>
    obtain ⟨rfl,rfl⟩:=hcut;cases bA
    ·have i0:=zh (a4.out (by
      have h1:=e2.out.symm;rw [zai] at h1;by_cases h2:t=qs.length
      ·right
       exact Decidable.byContradiction fun h3=>h1 ⟨h2,h3⟩
      ·exact .inl h2))
     obtain ⟨PR,f9⟩:∃PR:Int->Bool,PR=fun n=>zj m t n && !decide (n∈ch):=⟨_,rfl⟩
     rw [<-f9] at i0;have o1:=zh f9;have e9:=n8;obtain ⟨Am,cm,rfl,g0,l5⟩:=e9.out;have o4:=zh l5;have j3:Hid (Mk wk wk (.slice none 0 0) ((fm.take 0).filter PR)):=Mk.nil wk;clear f9 e9 l5 a4
     go_wp2_with fail
     go_loopw [7,8] (fun v i wr=>∃k:Nat,k<=fm.length/\i=.int .i64 k/\Hid (Mk wk wr v ((fm.take k).filter PR))) (fun _ i _=>fm.length - (intOf i).toNat)
     case atStart=>exact ⟨0,FN _,rfl,j3⟩
     clear j3
     case round=>
      obtain ⟨k,hk,rfl,hM⟩:=hrel;obtain ⟨wj,rfl⟩:∃wj:World,wj=wr:=⟨_,rfl⟩;have a6:za wk wj:=hM.out.ext;have d6:za w1 wj:=d7.trans a6;by_cases O:k<fm.length
      ·obtain ⟨b3,off3',e3,_,a0⟩:=Ai o4.out O O;subst e3
       have a3:(fm.take (k+1)).filter PR=(fm.take k).filter PR++[fm[k]].filter PR:=by
        rw [FF O,zay]
       have n2:0<=fm[k]/\fm[k]<m.n:=o0.out _ (Fz O);obtain ⟨x,n3⟩:=zaI (fm[k]);rw [<-n3] at a0 a3 n2;have HS:=zh a3;clear a3 n3;obtain ⟨X,hX⟩:∃X:Nat,(X:Int)=x:=⟨x.toNat,by omega⟩;have g4:X<fl.length:=by have:=n7.out;omega
       obtain ⟨b4,off4,e4,_,b8⟩:=BS i4.out g4 g4;rw [h9.out X g4] at b8;subst e4;subst hX;have rb:∀W,za w1 W->W.cell? ⟨b4,off4+X,none⟩=some (.bool (zj m t (X:Int))):=fun W hW=>za.rule b8 W (D.trans hW)
       have rx:∀W,za w1 W->W.cell? ⟨b3,off3'+k,none⟩=some (.int .i64 (X:Int)):=fun W hW=>za.rule a0 W (D.trans hW)
       have t1:(0:Int)<=(X:Int):=by omega
       have t2:(X:Int)<(fl.length:Int):=by omega
       have k9:((fm.take k).filter PR).length<=k:=FA (zan _ _) (by simp;omega);obtain ⟨lk,f0⟩:=zaI ((fm.take k).filter PR);rw [<-f0] at hM k9 HS;clear a0 b8 f0 n2;have f3:Hid (∀W,za w1 W->Calls Tryz.prog 73 #[.slice A ch.length c,.int .i64 X] W fun e w'=>e=.returned (.bool (decide ((X:Int)∈ch)))/\W=w'):=fun W hW=>AO _ W (e5.out.below (D.trans hW)) (by omega)
       have a7:Hid (PR X=(zj m t X && !decide ((X:Int)∈ch))):=by rw [o1.out];rfl
       generalize decide ((X:Int)∈ch)=d2 at f3 a7;generalize zj m t (X:Int)=d3 at rb a7
       cases d3 <;> cases d2
       ·have V:Hid ((fm.take (k+1)).filter PR=lk):=by rw [HS.out,zas (by rw [a7.out];simp),List.filter_nil,List.append_nil];exact (by rfl:lk=lk)
        go_wp2_with fail
        go_roundw
        case rel=>exact ⟨k+1,O,by go_num,by rw [V.out];exact hM⟩
        case measure=>simp [intOf];omega
       ·have V:Hid ((fm.take (k+1)).filter PR=lk):=by rw [HS.out,zas (by rw [a7.out];simp),List.filter_nil,List.append_nil];exact (by rfl:lk=lk)
        go_wp2_with fail
        go_roundw
        case rel=>exact ⟨k+1,O,by go_num,by rw [V.out];exact hM⟩
        case measure=>simp [intOf];omega
       ·have V:Hid ((fm.take (k+1)).filter PR=lk++[(X:Int)]):=by rw [HS.out,za4 (by rw [a7.out];rfl),List.filter_nil];exact rfl
        go_wp2_with fail
        refine (f3.out _ d6).mono ?_;rintro e w8 ⟨rfl,rfl⟩
        go_wp2_with (at_builtin;refine AZ rfl _ _ rfl _ lk (X:Int) wk.heap.size wj.heap.size 1 _ rfl rfl (hM.out.own.alloc _) ?d1 ?d2 ?d3 ?_)
        (try case d1=>exact zy _ _ _ (by simp))
        case d2=>(first | (simp;done) | (have:=a6.size;simp;omega) | (have:=a6.size;omega))
        case d3=>omega
        intro v' wb l0 k6 p6;have j2:=zh ((hM.out.alloc _).app l0 k6);clear l0 k6 p6;go_wp2;go_roundw
        case rel=>exact ⟨k+1,O,by go_num,by rw [V.out];exact j2⟩
        case measure=>simp [intOf];omega
       ·have V:Hid ((fm.take (k+1)).filter PR=lk):=by rw [HS.out,zas (by rw [a7.out];simp),List.filter_nil,List.append_nil];exact (by rfl:lk=lk)
        go_wp2_with fail
        refine (f3.out _ d6).mono ?_;rintro e w8 ⟨rfl,rfl⟩
        go_wp2_with fail
        go_roundw
        case rel=>exact ⟨k+1,O,by go_num,by rw [V.out];exact hM⟩
        case measure=>simp [intOf];omega
      ·obtain rfl:k=fm.length:=by omega
       rw [FJ] at hM;have f2:Hid (zg wj (fun b=>wk.heap.size<=b) u7 (Bb m (zS m ch) ch t)):=by rw [i0.out];exact hM.out.ints
       obtain ⟨A7,c7,e7,t3⟩:=hM.out.slice;subst e7;have o:=d6;have I:=a5.trans a6
       go_wp2_with fail
       go_region_held3 (fun w'=>za w1 w'/\za w2 w')
        (first | (exact ⟨o.drew,I.drew⟩) | (exact ⟨o.drew.trans E.ext,I.drew.trans E.ext⟩) | (exact ⟨(o.drew.trans E.ext).trans (G.below _),(I.drew.trans E.ext).trans (G.below _)⟩))
        (first | (go_at_call 179;refine (EK t _ (f4.out.below (D.trans o.drew)) HG.out.dim a9 HG.out.fn (f2.out.below ((za.refl _).drew)) k8 (e5.out.below (D.trans o.drew)) (by omega)).mono ?_;rintro e wn ⟨v9,rfl,E⟩) | (go_at_call 236;refine (qmeets_calls _ E.ints (i1.out.below (D.trans (o.drew.trans E.ext))) (reachL_le _ _ _ _ HG.out) (by omega)).mono ?_;rintro e w10 ⟨rfl,G⟩))
       rename_i hS
       obtain ⟨d8,d9⟩:=hS;clear E G;rw [<-f7.out]
       cases M:DA m (zS m ch) ch t
       ·have f6:Hid (AA m ch=false):=i3.out M;clear M;go_wp2;go_ret;exact ⟨zm f6.out.symm,D.trans d8⟩
       ·have f5:Hid (∀t',t0<=t'->t'<t+1->DA m (zS m ch) ch t'=true):=fun t' h1 h2=>by
         rcases zah t' t with h3 | h3
         ·exact hO.out t' h1 h3
         ·obtain rfl:t'=t:=by omega
          exact M
        clear M
        go_wp2_with fail
        go_roundw
        case rel=>exact ⟨t+1,by omega,by go_num,f5,d9⟩
        case measure=>simp [intOf];omega
    ·obtain ⟨b5,j1⟩:t=qs.length/\p≠[]:=by have h1:=e2.out.symm;rwa [FI] at h1
     obtain ⟨bp,ofp,up,e1,_,b9,b0⟩:=AW i5.out h7.out (k:=t) (by have:=J.out;have:=U.out;omega) (by have:=J.out;have:=U.out;omega);subst e1
     have c8:(Ag m ch)[t]'(by have:=J.out;have:=U.out;omega)=p:=by
      simp only [i7.out,b5];simp
     rw [c8] at b0;rcases List.eq_nil_or_concat p with rfl | ⟨q,y,rfl⟩
     ·exact absurd rfl j1
     rw [List.concat_eq_append] at*;have n5:Hid (Bb m (zS m ch) ch t=[y]):=by show _=_;rw [b5];exact fromL_on b2.out
     have s8:=zh b5
     have s5:q.length+1<=300:=by
      have h5:=HC.out.psOk.fl;have h6:=flat_le (ps:=zS m ch) (p:=q++[y]) (by rw [b2.out];simp);rw [h5] at h6;simp at h6;omega
     have i9:=zh b0;obtain ⟨Aq,cq,rfl,e6,l7⟩:=b0;obtain ⟨bq,ofq,rfl,_,_⟩:=Ai l7 (k:=q.length) (by simp) (by simp);have c9:(q++[y]).length=q.length+1:=by simp
     have i2:=zh (ints_last i9.out);have ru:=za.rule b9;rw [c9] at ru e6;have m8:t=t0:=by rw [b5];exact U.out.symm
     subst m8;have q9:(t:Int)<(t:Int)+1:=by omega
     have v8:IntKind.i64.wrap ((q.length:Int)+1 - 1)=(q.length:Int):=by rw [zag];omega
     have v6:(q.length:Int)<=(q.length:Int)+1:=by omega
     have v7:q.length+1 - q.length=1:=by omega
     clear b5 j1 c8 l7 b9 c9 i9 a4
     go_wp2_with fail
     go_quiet (fail)
     generalize m9:wk.drewN nq=wz;have f8:za wk wz:=by rw [<-m9];exact (za.refl wk).drewN _
     clear m9;have o:za w1 wz:=d7.trans f8;have I:za w2 wz:=a5.trans f8
     have f2:Hid (zg wz (fun b=>w1.heap.size<=b) (.slice (some ⟨bq,ofq+q.length,none⟩) 1 (cq - q.length)) (Bb m (zS m ch) ch t)):=by
      show zg _ _ _ _;rw [n5.out];exact i2.out.below (a5.trans f8)
     go_wp2_with fail
     go_region_held3 (fun w'=>za w1 w'/\za w2 w')
      (first | (exact ⟨o.drew,I.drew⟩) | (exact ⟨o.drew.trans E.ext,I.drew.trans E.ext⟩) | (exact ⟨(o.drew.trans E.ext).trans (G.below _),(I.drew.trans E.ext).trans (G.below _)⟩))
      (first | (go_at_call 179;refine (EK t _ (f4.out.below (D.trans o.drew)) HG.out.dim a9 HG.out.fn (f2.out.below ((za.refl _).drew)) k8 (e5.out.below (D.trans o.drew)) (by omega)).mono ?_;rintro e wn ⟨v9,rfl,E⟩) | (go_at_call 236;refine (qmeets_calls _ E.ints (i1.out.below (D.trans (o.drew.trans E.ext))) (reachL_le _ _ _ _ HG.out) (by omega)).mono ?_;rintro e w10 ⟨rfl,G⟩))
     rename_i hS
     obtain ⟨d8,d9⟩:=hS;clear E G;rw [<-f7.out]
     cases M:DA m (zS m ch) ch t
     ·have f6:Hid (AA m ch=false):=i3.out M;clear M;go_wp2;go_ret;exact ⟨zm f6.out.symm,D.trans d8⟩
     ·have f5:Hid (∀t',t<=t'->t'<t+1->DA m (zS m ch) ch t'=true):=fun t' h1 h2=>by
       rcases zah t' t with h3 | h3
       ·exact hO.out t' h1 h3
       ·obtain rfl:t'=t:=by omega
        exact M
      clear M
      go_wp2_with fail
      go_roundw
      case rel=>exact ⟨t+1,by omega,by go_num,f5,d9⟩
      case measure=>simp [intOf];omega
  ·have o7:Hid (AA m ch=true):=openC_true HC.out (fun t' h1 h2=>hO.out t' (by have:=J.out;omega) (by omega));go_wp2;go_ret;exact ⟨zm o7.out.symm,D.trans d7⟩
theorem qOpen_calls (w:World) (hm:zL w ok v m) (hl:Lens m) (Q:zg w okc vc ch) (V:ch.length<=20000000000000):
  Calls Tryz.prog 192 #[v,vc] w fun e w'=>e=.returned (.bool (openO m ch))/\za w w':=by
 have M:=zh hm;obtain ⟨vfr,vup,vts,rfl,-,-,-⟩:=hm;have J:=zh Q;obtain ⟨A,c,rfl,a7,-⟩:=Q;have HL:=zh hl;clear hl;obtain ⟨bb,O⟩:=zaI (EH m ch);have D:=zh O;clear O
 go_enter Tryz.func192,Tryz.ntmps192
 go_wp2_with fail
 generalize I:w.alloc (.cells #[.int .i64 m.w,.int .i64 m.h,.int .i64 m.l,vfr,vup,vts] 32)=w1;have o:za w w1:=by rw [<-I];exact (za.refl w).alloc _
 have U:ze w1 w.heap.size 32 #[.int .i64 m.w,.int .i64 m.h,.int .i64 m.l,vfr,vup,vts]:=by rw [<-I];exact zax _ _
 clear I;obtain ⟨m0,m1,m2,m3,m4,m5⟩:=zt U;have c0:=za.rule m0;have c1:=za.rule m1;have c2:=za.rule m2;have c3:=za.rule m3;have c4:=za.rule m4;have c5:=za.rule m5;clear m0 m1 m2 m3 m4 m5 U;refine (El w1 (M.out.below o) HL.out (J.out.below o) V).mono ?_;rintro e w2 ⟨rfl,E⟩;rw [<-D.out];cases bb
 ·have G:Hid (openO m ch=false):=by show _=_;unfold openO;rw [<-D.out];rfl
  go_wp2_with fail
  go_ret;exact ⟨zm G.out.symm,o.trans E⟩
 ·have G:Hid (openO m ch=AA m ch):=by show _=_;unfold openO;rw [<-D.out];rfl
  obtain ⟨hg,hc⟩:=DY D.out.symm;have HG:=zh hg;have HC:=zh hc;clear hg hc
  go_wp2_with fail
  refine (Ee w2 (M.out.below (o.trans E)) HG.out HL.out (J.out.below (o.trans E)) HC.out).mono ?_;rintro e w3 ⟨rfl,a0⟩
  go_wp2_with fail
  go_ret;exact ⟨zm G.out.symm,o.trans (E.trans a0)⟩
def zq (m:MZ) (ch:List Int):List (List Int):=if EH m ch=true then (zS m ch).filter (fun p=>decide (p.length≠0)) else []
theorem splitL_drop (h:zw m ch):∀qs p,Ag m ch=qs++[p]->(∀q∈qs,q≠[])/\((zS m ch).filter fun p=>decide (p.length≠0))=(if p=[] then qs else qs++[p]):=by
 induction h with
 | nil=>
  intro qs p h;rw [splitL_nil] at h
  have h1:qs=[]/\p=[]:=by
   cases qs with
   | nil=>simp at h;exact ⟨rfl,h⟩
   | cons a l=>
    have:=congrArg List.length h;simp at this
  obtain ⟨rfl,rfl⟩:=h1;refine ⟨fun q hq=>(by cases hq),?_⟩;rw [psOf_nil];unfold ps0
  split <;> simp
 | @snoc ch n h M ih=>
  intro qs p I;have J:=CS M;obtain ⟨qs0,p0,h1,h2,h3⟩:=ps_form h J;obtain ⟨i1,i2⟩:=ih qs0 p0 h3;have h4:=split_step n h1 h2;rw [I] at h4
  have o:∀(ps:List (List Int)) (a:List Int),(∀q∈ps,q≠[])->(ps++[a]).filter (fun p=>decide (p.length≠0))=if a=[] then ps else ps++[a]:=fun ps a G=>by
   rw [zay,List.filter_eq_self.2 (fun q hq=>by have:=G q hq;simpa using this)];by_cases D:a=[]
   ·rw [if_pos D];subst D;simp
   ·rw [if_neg D];congr 1;simp [D]
  have key:∀q∈qs,q≠[]:=by
   intro q hq
   split at h4
   ·have E:qs=qs0++[p0++[n]]:=(List.append_inj' h4 rfl).1;rw [E] at hq;rcases za0.1 hq with hq | hq
    ·exact i1 q hq
    ·rw [zar] at hq;subst hq;simp
   ·rw [List.append_nil] at h4;have E:qs=qs0:=(List.append_inj' h4 rfl).1;rw [E] at hq;exact i1 q hq
  refine ⟨key,?_⟩;rw [<-o qs p key,<-I];unfold Ag;rw [zay]
  split <;> simp
theorem pathsO_eq (h:EH m ch=true) {qs:List (List Int)} {p:List Int} (o:Ag m ch=qs++[p]):zq m ch=if p=[] then qs else qs++[p]:=by
 unfold zq;rw [if_pos h];exact (splitL_drop (DY h).2 qs p o).2
theorem splitL_last (h:zw m ch):∃qs p,Ag m ch=qs++[p]:=by
 have D:=Cr h
 have o:0<(Ag m ch).length:=by
  cases h:zV m ch
  ·exact (D.2 h).2
  ·have:=D.1 h;omega
 rcases List.eq_nil_or_concat (Ag m ch) with h1 | ⟨qs,p,h1⟩
 ·rw [h1] at o;simp at o
 ·exact ⟨qs,p,by rw [h1,List.concat_eq_append]⟩
def PathsPost (w:World) (m:MZ) (ch:List Int) (e:Ending) (w':World):Prop:=
 ∃v,e=.returned (.tuple #[v,.bool (EH m ch)])/\za w w'/\zU w' (fun b=>w.heap.size<=b) v (zq m ch)
theorem intss_take {A:Option Addr} {N:Nat} {l:List (List Int)} (h:zU w ok (.slice A n c) l) (M:N<=n):zU w ok (.slice A N c) (l.take N):=by
 obtain ⟨vs,⟨A',c',e,O,Q,G⟩,he⟩:=h;injection e with e1 e2 e3;subst e1 e2 e3;refine ⟨vs.take N,⟨A,c,by rw [za3,Nat.min_eq_left (by omega)],by rw [za3];omega,by rw [za3,za3];omega,fun hp=>?_⟩,fun i x E=>?_⟩
 ·rw [za3] at hp;obtain ⟨b,off,e,I,o⟩:=G (by omega);refine ⟨b,off,e,I,fun j u D=>o j u ?_⟩;rw [List.getElem?_take] at D
  split at D
  ·exact D
  ·cases D
 ·rw [List.getElem?_take] at E
  split at E
  ·rename_i J
   obtain ⟨u,D,G⟩:=he i x E;exact ⟨u,by rw [List.getElem?_take,if_pos J];exact D,G⟩
  ·cases E
theorem EJ (w:World) (hm:zL w ok v m) (hl:Lens m) (a5:zg w okc vc ch) (b9:ch.length<=20000000000000):
  Calls Tryz.prog 118 #[v,vc] w (PathsPost w m ch):=by
 have a2:=zh hm;obtain ⟨vfr,vup,vts,rfl,-,-,-⟩:=hm;have a0:=zh a5;obtain ⟨A,c,rfl,e0,-⟩:=a5;have HL:=zh hl;clear hl;obtain ⟨bb,a4⟩:=zaI (EH m ch);have D:=zh a4;clear a4
 go_enter Tryz.func118,Tryz.ntmps118
 go_wp2_with fail
 generalize V:w.alloc (.cells #[.int .i64 m.w,.int .i64 m.h,.int .i64 m.l,vfr,vup,vts] 32)=w1;have E:za w w1:=by rw [<-V];exact (za.refl w).alloc _
 have a8:ze w1 w.heap.size 32 #[.int .i64 m.w,.int .i64 m.h,.int .i64 m.l,vfr,vup,vts]:=by rw [<-V];exact zax _ _
 clear V;obtain ⟨m0,m1,m2,m3,m4,m5⟩:=zt a8;have c0:=za.rule m0;have c1:=za.rule m1;have c2:=za.rule m2;have c3:=za.rule m3;have c4:=za.rule m4;have c5:=za.rule m5;clear m0 m1 m2 m3 m4 m5 a8;refine (El w1 (a2.out.below E) HL.out (a0.out.below E) b9).mono ?_;rintro e w2 ⟨rfl,I⟩;rw [<-D.out];cases bb
 ·have o:Hid (PathsPost w m ch (.returned (.tuple #[.slice none 0 0,.bool false])) w2):=⟨_,by rw [<-D.out],E.trans I,by unfold zq;rw [<-D.out];exact ⟨[],⟨none,0,rfl,Fy _,Ba.nil _ _ _ _⟩,fun i x hx=>by simp at hx⟩⟩
  go_wp2_with fail
  go_ret2
  exact o.out
 ·obtain ⟨hg,hc⟩:=DY D.out.symm;obtain ⟨qs,p,Q⟩:=splitL_last hc;have a3:=zh (pathsO_eq D.out.symm Q);have U:=Cr hc
  have c6:(Ag m ch).length<=7:=by
   have e3:=hg.tk
   cases h:zV m ch
   ·have:=(U.2 h).1;omega
   ·have:=U.1 h;omega
  have HG:=zh hg;have HC:=zh hc;have G:=zh Q;clear hg hc Q U
  go_wp2_with fail
  refine (DH w2 (a2.out.below (E.trans I)) HG.out HL.out (a0.out.below (E.trans I)) HC.out).mono ?_;rintro e w3 ⟨v3,rfl,b3,b0⟩;have b5:=zh b0;obtain ⟨vs,⟨Ap,cp,rfl,b6,b1⟩,a7⟩:=b0;obtain ⟨bp,ofp,up,rfl,_,a6,b2⟩:=AW b1 a7 (k:=qs.length) (by rw [G.out];simp) (by rw [G.out];simp);have a9:(Ag m ch)[qs.length]'(by rw [G.out];simp)=p:=by simp only [G.out];simp
  rw [a9] at b2;obtain ⟨Aq,cq,rfl,b7,-⟩:=b2;have ru:=za.rule a6;have O:(Ag m ch).length=qs.length+1:=by rw [G.out];simp
  rw [O] at b6 c6⊢;have e2:(qs.length:Int)<(qs.length:Int)+1:=by omega
  have d7:za w3 w3:=za.refl w3;have a1:Hid (za w w3):=E.trans (I.trans b3);have c9:=I.size;have c8:=E.size
  have M:Hid (zU w3 (fun b=>w.heap.size<=b) (.slice (some ⟨bp,ofp,none⟩) (qs.length+1) cp) (qs++[p])):=by
   have h1:=b5.out;rw [O] at h1;rw [G.out] at h1;exact h1.weaken fun b hb=>by omega
  clear b1 a7 a9 a6 O b3 I c8 c9;by_cases J:p=[]
  ·subst J;have hz:([]:List Int).length=0:=rfl;rw [hz] at ru b7
   have o:Hid (PathsPost w m ch (.returned (.tuple #[.slice (some ⟨bp,ofp,none⟩) qs.length cp,.bool true])) w3):=⟨_,by rw [<-D.out],a1.out,by
    rw [a3.out,if_pos rfl];have h1:=intss_take M.out (N:=qs.length) (by omega)
    rwa [List.take_append_of_le_length (Fy _),FJ] at h1⟩
   have c7:(qs.length:Int)<=(cp:Int):=by omega
   go_wp2_with fail
   go_ret2
   exact o.out
  ·have o:Hid (PathsPost w m ch (.returned (.tuple #[.slice (some ⟨bp,ofp,none⟩) (qs.length+1) cp,.bool true])) w3):=⟨_,by rw [<-D.out],a1.out,by
    rw [a3.out,if_neg J];exact M.out⟩
   have e1:p.length≠0:=fun h=>J (zac h)
   have c7:((p.length:Int)==0)=false:=by rw [FM];omega
   clear J
   go_wp2_with fail
   go_ret2
   exact o.out
end
section
open Go.RowKit
inductive PT where
 | node (task:Int) (side:List Int) (kids:List PT)
def PT.task:PT->Int | .node t _ _=>t
def PT.side:PT->List Int | .node _ s _=>s
def PT.kids:PT->List PT | .node _ _ k=>k
def PT.zero:PT:=.node 0 [] []
def endB (m:MZ) (pp:List (List Int)) (t:Nat):Bool:=match (pp.getD t []).getLast? with
 | none=>false
 | some x=>decide (x∈(m.tasks.getD t ([],[])).2)
def curF (m:MZ) (pp:List (List Int)):Nat->Nat->Nat
 | 0,t=>t
 | f+1,t=>if t<pp.length/\endB m pp t=true then curF m pp f (t+1) else t
def Bd (m:MZ) (ch:List Int):Nat:=curF m (zq m ch) (zq m ch).length 0
def Cx (m:MZ) (ch:List Int) (t:Nat):List Int:=if t<(zq m ch).length then ((zq m ch).getD t []).getLast?.toList else (m.tasks.getD t ([],[])).1.filter fun n=>zj m t n && !decide (n∈ch)
noncomputable def Dd (m:MZ) (ch:List Int) (t:Nat):List Int:=Dq m t (Cx m ch t) ch
noncomputable def offB (m:MZ) (ch:List Int) (t:Nat):Bool:=!((Dd m ch t).any fun n=>decide (n∈(m.tasks.getD t ([],[])).2)) && (decide (Dd m ch t≠[]) || decide (Bd m ch<t))
noncomputable def cutT (m:MZ) (ch:List Int):Option Nat:=((List.range (m.tasks.length - Bd m ch)).map (Bd m ch+·)).find? (offB m ch)
def Az (f:Int->Nat->Int×PT×Nat):List Int->Nat->List PT->Int×List PT×Nat
 | [],k,acc=>(0,acc,k)
 | n :: l,k,acc=>if (f n k).1=0 then Az f l (f n k).2.2 (acc++[(f n k).2.1]) else ((f n k).1,[],(f n k).2.2)
noncomputable def zk (m:MZ):Nat->List Int->Nat->Int×PT×Nat
 | 0,_,k=>(53,.zero,k)
 | f+1,ch,k=>
  if m.tasks.length<=Bd m ch then (51,.zero,k)
  else if 3000<k+1 then (53,.zero,k+1)
  else match cutT m ch with
   | some t=>(0,.node t (Dd m ch t) [],k+1)
   | none=>
    let r:=Az (fun n k=>zk m f (ch++[n]) k) (AD m ch) (k+1) []
    if r.1=0 then (0,.node (Bd m ch) [] r.2.1,r.2.2) else (r.1,.zero,r.2.2)
noncomputable def zA (m:MZ):Int×PT:=if AV m=0 then ((zk m (m.n.toNat+2) [] 0).1,(zk m (m.n.toNat+2) [] 0).2.1) else (AV m,.zero)
mutual
def PT.size:PT->Nat
 | .node _ _ ks=>1+PT.sizeL ks
def PT.sizeL:List PT->Nat
 | []=>0
 | k :: ks=>k.size+PT.sizeL ks
end
def incB (N:Int):Int->List Int->Bool
 | _,[]=>true
 | b,x :: l=>decide (b<x) && (decide (x<N) && incB N x l)
def wallB (m:MZ) (ch:List Int) (t:Nat) (s:List Int):Bool:=s.all fun n=>(nextO m n).all fun k=>!(zj m t k && !decide (k∈ch)) || decide (k∈s)
def cutB (m:MZ) (ch:List Int) (t:Int) (s:List Int) (nk:Nat):Bool:=
 if t<Bd m ch\/(m.tasks.length:Int)<=t\/(t=Bd m ch/\s=[])\/nk≠0 then false
 else incB m.n (-1) s && (!(s.any fun n=>decide (n∈(m.tasks.getD t.toNat ([],[])).2)) && ((Cx m ch t.toNat).all (fun n=>decide (n∈s)) && wallB m ch t.toNat s))
mutual
def holdsT (m:MZ):PT->List Int->Bool
 | .node t s ks,ch=>if m.tasks.length<=Bd m ch then false else if t≠Bd m ch\/s≠[] then cutB m ch t s ks.length else holdsL m ks ch (AD m ch)
def holdsL (m:MZ):List PT->List Int->List Int->Bool
 | [],_,[]=>true
 | k :: ks,ch,n :: l=>holdsT m k (ch++[n]) && holdsL m ks ch l
 | [],_,_ :: _=>false
 | _ :: _,_,[]=>false
end
theorem mem_flat_iff {x:Int}:x∈ps.flatten↔∃i,x∈ps.getD i []:=by
 rw [List.mem_flatten];constructor
 ·rintro ⟨p,hp,o⟩;obtain ⟨i,D,rfl⟩:=zaq hp;exact ⟨i,by rw [Fx,Fw D];exact o⟩
 ·rintro ⟨i,o⟩;by_cases D:i<ps.length
  ·exact ⟨_,getD_mem D,o⟩
  ·rw [Fx,zae (by omega)] at o;cases o
structure PathR (m:MZ) (t:Nat) (p:List Int):Prop where
 hd:∀x,p.head?=some x->x∈(m.tasks.getD t ([],[])).1
 fr:∀x∈p,zj m t x=true
 nb:∀k x y,p[k]?=some x->p[k+1]?=some y->y∈zp m x
def FinP (m:MZ) (t:Nat) (p:List Int):Prop:=∃x,p.getLast?=some x/\x∈(m.tasks.getD t ([],[])).2
theorem PathR.nil (m:MZ) (t:Nat):PathR m t []:=⟨(fun x h=>by cases h),(fun x h=>by cases h),(fun k x y h=>by simp at h)⟩
theorem PathR.snoc {m:MZ} {t:Nat} {p:List Int} {n:Int} (h:PathR m t p) (hf:zj m t n=true) (h0:p=[]->n∈(m.tasks.getD t ([],[])).1) (h1:∀x,p.getLast?=some x->n∈zp m x):PathR m t (p++[n]):=by
 refine ⟨fun x hx=>?_,fun x hx=>?_,fun k x y hx o=>?_⟩
 ·cases p with
  | nil=>
   have:n=x:=by simpa using hx
   subst this;exact h0 rfl
  | cons a p=>exact h.hd x (by simpa using hx)
 ·rcases za0.1 hx with hx | hx
  ·exact h.fr x hx
  ·rw [zar] at hx;subst hx;exact hf
 ·rcases zah (k+1) p.length with hk | hk
  ·rw [FD (by omega)] at hx;rw [FD hk] at o;exact h.nb k x y hx o
  ·have D:k+1<(p++[n]).length:=by
    rcases zah (k+1) (p++[n]).length with h2 | h2
    ·exact h2
    ·rw [zae h2] at o;cases o
   have E:k+1=p.length:=by simp at D;omega
   rw [FE (by omega),show k+1 - p.length=0 from by omega] at o;have:n=y:=by simpa using o
   subst this;rw [FD (by omega)] at hx;refine h1 x ?_;rw [List.getLast?_eq_getElem?,show p.length - 1=k from by omega];exact hx
structure PsR (m:MZ) (ps:List (List Int)):Prop where
 one:∀t p,ps[t]?=some p->PathR m t p
 fin:∀t p,ps[t]?=some p->t+1<ps.length->FinP m t p
theorem cand_step {n:Int} (h:n∈CR m ps us):zj m (ps.length - 1) n=true/\((ps.getD (ps.length - 1) [])=[]->n∈(m.tasks.getD (ps.length - 1) ([],[])).1)/\(∀x,(ps.getD (ps.length - 1) []).getLast?=some x->n∈zp m x):=by
 unfold CR at h
 split at h
 ·cases h
 ·split at h
  ·rename_i o
   obtain ⟨h1,h2⟩:=za9.1 h;simp only [FK] at h2;exact ⟨h2.1,fun _=>mem_sortL.1 (Fc h1),fun x E=>by rw [o] at E;cases E⟩
  ·rename_i x o
   obtain ⟨h1,h2⟩:=za9.1 h;unfold zX at h2;simp only [FK] at h2;refine ⟨h2.1.1.1,(fun h0=>by rw [h0] at o;cases o),fun y D=>?_⟩;rw [o] at D;injection D with D;subst D;exact h1
theorem PsR.add {n:Int} (h:PsR m ps) (hp:0<ps.length) (J:n∈CR m ps us):PsR m (CF ps n):=by
 obtain ⟨h1,h2,h3⟩:=cand_step J;obtain ⟨qs,p,rfl,he⟩:=addN_eq hp n;rw [he];have I:(qs++[p]).length - 1=qs.length:=by simp
 have G:(qs++[p]).getD qs.length []=p:=by simp
 rw [I] at h1 h2 h3;rw [G] at h2 h3;refine ⟨fun t q D=>?_,fun t q D ht=>?_⟩
 ·rcases zah t qs.length with o | hge
  ·rw [FD o] at D;exact h.one t q (by rw [FD o];exact D)
  ·have E:t=qs.length:=by
    rcases zah t (qs++[p++[n]]).length with h4 | h4
    ·simp at h4;omega
    ·rw [zae h4] at D;cases D
   subst E;rw [FE (Fy _),Nat.sub_self] at D;have:p++[n]=q:=by simpa using D
   subst this;exact (h.one qs.length p (by simp)).snoc h1 h2 h3
 ·have o:t<qs.length:=by simp at ht;omega
  rw [FD o] at D;exact h.fin t q (by rw [FD o];exact D) (by simp;omega)
theorem PsR.with {m:MZ} {ps:List (List Int)} {us:List Int} {n:Int} (h:PsR m ps) (hp:0<ps.length) (I:n∈CR m ps us):PsR m (Ch m ps n):=by
 have h1:=h.add hp I;unfold Ch
 split
 ·rename_i hf
  have o:(CF ps n).length=ps.length:=DQ
  have hF:∀t p,(CF ps n)[t]?=some p->t+1=ps.length->FinP m t p:=fun t p ht he=>by
   have h2:=hf.1;unfold finB at h2;rw [o,show ps.length - 1=t from by omega,Fx,ht] at h2;simp only [zap] at h2
   split at h2
   ·cases h2
   ·rename_i x J
    exact ⟨x,J,of_decide_eq_true h2⟩
  refine ⟨fun t p ht=>?_,fun t p ht D=>?_⟩
  ·rcases zah t (CF ps n).length with h2 | h2
   ·rw [FD h2] at ht;exact h1.one t p ht
   ·rw [FE h2] at ht
    have E:p=[]:=by
     cases G:t - (CF ps n).length with
     | zero=>rw [G] at ht;simpa using ht.symm
     | succ j=>rw [G] at ht;simp at ht
    subst E;exact PathR.nil m t
  ·have h2:t<(CF ps n).length:=by simp at D;omega
   rw [FD h2] at ht;rcases zah (t+1) (CF ps n).length with h3 | h3
   ·exact h1.fin t p ht h3
   ·exact hF t p ht (by omega)
 ·exact h1
theorem zw.psR (h:zw m ch):PsR m (zS m ch):=by
 induction h with
 | nil=>
  rw [psOf_nil];unfold ps0
  split
  ·exact ⟨fun t p h=>by simp at h,fun t p h=>by simp at h⟩
  ·refine ⟨fun t p h=>?_,fun t p h D=>by simp at D⟩
   match t,h with
   | 0,h=>
    have:p=[]:=by simpa using h.symm
    subst this;exact PathR.nil m 0
 | @snoc ch n h o ih=>
  rw [Eu];exact ih.with (h.psOk.pn (BU (CS o))) o
theorem zw.all (h:zw m ch) (o:zV m ch=true):(zS m ch).length=m.tasks.length/\(∀t p,(zS m ch)[t]?=some p->PathR m t p/\FinP m t p):=by
 have D:=h.psR;have E:=h.psOk;unfold zV cmpB at o;rw [zaD,FI,FK,FI] at o;rcases o with h0 | ⟨h0,h1⟩
 ·have:=E.pl;refine ⟨by omega,fun t p ht=>?_⟩;rw [zae (by omega)] at ht;cases ht
 ·refine ⟨h0,fun t p ht=>⟨D.one t p ht,?_⟩⟩
  have G:t<(zS m ch).length:=by
   rcases zah t (zS m ch).length with h2 | h2
   ·exact h2
   ·rw [zae h2] at ht;cases ht
  rcases zah (t+1) (zS m ch).length with h2 | h2
  ·exact D.fin t p ht h2
  ·unfold finB at h1;rw [show (zS m ch).length - 1=t from by omega,Fx,ht] at h1;simp only [zap] at h1
   split at h1
   ·cases h1
   ·rename_i x I
    exact ⟨x,I,of_decide_eq_true h1⟩
end
end Go.Proofs.YtjomnbdjajjgfaaGreatDoor
