import Derived.Test.YtjomnbdjajjgfaaGreatDoorWKh
set_option linter.unusedVariables false
set_option linter.unusedSimpArgs false
set_option maxRecDepth 100000
set_option maxHeartbeats 16000000
namespace Go.Proofs.YtjomnbdjajjgfaaGreatDoor
variable {n:Int} {l ps qs:List (List Int)} {ch p us:List Int} {m:MZ} {t:Nat} {ok okc:Nat->Prop} {v vc:Value}
section
open Go.RowKit
attribute [local go_sem ↓] Go.wp_at_zero Go.wp_at_succ
theorem qbehind_calls (w:World) (hm:zt w ok v m) (g:AN m) (hl:Lens m) (k8:zk w okc vc ch) (hc:zy m ch):
  Calls Tryz.prog 180 #[v,vc] w fun e w'=>∃v',e=.returned v'/\Mk w w' v' (BK m ch):=by
 have q4:=hc.len300 g;have g7:=zh hm;obtain ⟨vfr,vup,vts,rfl,o7,_,m0⟩:=hm;obtain ⟨vsf,⟨Af,cf,rfl,s3,l8⟩,l0⟩:=o7;have k5:=zh m0;obtain ⟨vst,⟨At,ct,rfl,s4,-⟩,-⟩:=m0;have g4:=zh k8;obtain ⟨A,c,rfl,s2,hr⟩:=k8;have k4:=zh l8;have j5:=zh l0;have HC:=zh hc;have HL:=zh hl;have HG:=zh g;have v6:=g.tk;have j6:=zh g.fl;have s5:m.free.length<=6:=by rw [g.fl];exact g.tk
 have p4:=g.dim.layer;have t2:=g.dim.n1;obtain ⟨t0,t1⟩:=p4;clear hr hc g hl l8 l0
 go_enter Tryz.func180,Tryz.ntmps180
 go_wp2_with fail
 generalize j1:w.alloc (.cells #[.int .i64 m.w,.int .i64 m.h,.int .i64 m.l,.slice Af m.free.length cf,vup,.slice At m.tasks.length ct] 32)=w1;have B:za w w1:=by rw [<-j1];exact (za.refl w).alloc _
 have b1:zd w1 w.heap.size 32 #[.int .i64 m.w,.int .i64 m.h,.int .i64 m.l,.slice Af m.free.length cf,vup,.slice At m.tasks.length ct]:=by rw [<-j1];exact EE _ _
 clear j1;have r0:∀W,za w1 W->W.cell? ⟨w.heap.size,0,none⟩=some (.int .i64 m.w):=za.rule (b1.cell (k:=0) rfl);have r1:∀W,za w1 W->W.cell? ⟨w.heap.size,1,none⟩=some (.int .i64 m.h):=za.rule (b1.cell (k:=1) rfl);have r2:∀W,za w1 W->W.cell? ⟨w.heap.size,2,none⟩=some (.int .i64 m.l):=za.rule (b1.cell (k:=2) rfl);have r3:∀W,za w1 W->W.cell? ⟨w.heap.size,3,none⟩=some (.slice Af m.free.length cf):=za.rule (b1.cell (k:=3) rfl);have r4:∀W,za w1 W->W.cell? ⟨w.heap.size,4,none⟩=some vup:=za.rule (b1.cell (k:=4) rfl);have r5:∀W,za w1 W->W.cell? ⟨w.heap.size,5,none⟩=some (.slice At m.tasks.length ct):=za.rule (b1.cell (k:=5) rfl);clear b1;have v7:za w1 w1:=za.refl w1;refine (qsplit_calls w1 (g7.out.below B) HG.out HL.out (g4.out.below B) HC.out).mono ?_;rintro e w2 ⟨v2,rfl,p5,i8⟩;have hx:za w1 w2:=p5
 cases b7:cmpC m ch
 ·obtain ⟨qs,p,f9,a6,l9⟩:=ps_form HC.out b7;have c7:=zh f9;have j4:=zh b7;rw [l9] at i8;obtain ⟨vs,⟨Ap,cp,rfl,i1,e3⟩,f4⟩:=i8;have l7:(qs++[p]).length=qs.length+1:=by simp
  rw [l7] at i1 e3⊢;obtain ⟨bp,ofp,up,rfl,_,i2,j0⟩:=Br e3 f4 (k:=qs.length) (by omega) (by simp);have l3:(qs++[p])[qs.length]=p:=by simp
  rw [l3] at j0;clear e3 f4 l9 f9 b7 l3 l7;have ru:=za.rule i2;have q8:za w2 w2:=za.refl w2;have t3:decide ((m.tasks.length:Int)<=(qs.length:Int))=false:=DV (by omega);have t4:decide (m.tasks.length<=qs.length)=false:=DV (by omega);have t5:(qs.length:Int)<(qs.length:Int)+1:=by omega
  have k3:=zh j0;obtain ⟨Aq,cq,rfl,k9,i9⟩:=j0;rcases List.eq_nil_or_concat p with rfl | ⟨q,y,rfl⟩
  ·have hz:([]:List Int).length=0:=rfl;rw [hz] at i2 ru k9 k3;obtain ⟨bt,offt,sn,u1,u2,rfl,_,h7,d4,h8,a4,f5⟩:=Bm k5.out a6;have d8:=(HL.out.tl _ (DS a6)).1;have e5:(m.tasks.getD qs.length ([],[])).1=(m.tasks[qs.length]).1:=by simp [a6]
   have O:Hid (BK m ch=begL m qs.length ch):=cand_beg HG.out c7.out j4.out a6;unfold begL at O;rw [e5] at O;obtain ⟨fm,d5⟩:=EY ((m.tasks[qs.length]).1);rw [<-d5] at a4 d8 O;clear e5 d5 h7 h8 f5;have g6:=zh a4;clear a4;have rt:∀W,za w1 W->W.cell? ⟨bt,offt+qs.length*3+1,none⟩=some u1:=fun W hW=>za.rule d4 W (B.trans hW)
   have a5:qs.length<m.free.length:=by rw [j6.out];exact a6
   obtain ⟨bf,off3,uf,rfl,_,U,g9⟩:=Br k4.out j5.out a5 a5;have J:=HG.out.fn _ (DS a5);obtain ⟨A4,c4,rfl,h9,e0⟩:=g9;have c8:=zh e0;clear e0;have c0:Hid (∀x:Nat,(hx:x<(m.free[qs.length]).length)->(m.free[qs.length])[x]=ze m qs.length (x:Int)):=fun x hx=>by simp [ze,a5,hx]
   obtain ⟨fl,a0⟩:=EY (m.free[qs.length]);rw [<-a0] at U J h9 c8;have c6:Hid (∀x:Nat,(hx:x<fl.length)->fl[x]=ze m qs.length (x:Int)):=by subst a0;exact c0
   clear c0 a0;have rf:∀W,za w1 W->W.cell? ⟨bf,off3+qs.length,none⟩=some (.slice A4 fl.length c4):=fun W hW=>za.rule U W (B.trans hW)
   clear d4 U;obtain ⟨N,hN⟩:∃N:Nat,m.w*m.h*m.l=(N:Int):=⟨(m.w*m.h*m.l).toNat,by omega⟩;have l1:fl.length=N:=by have:m.n=m.w*m.h*m.l:=rfl;omega
   have r9:N<=300:=by omega
   have n7:Hid (m.n.toNat=N):=by have:m.n=m.w*m.h*m.l:=rfl;show _=_;omega
   have HN:=zh hN;have g5:=zh l1;obtain ⟨PR,g8⟩:∃PR:Int->Bool,PR=fun k=>decide (k∈fm) && ze m qs.length k && !decide (k∈ch):=⟨_,rfl⟩
   rw [n7.out,<-g8] at O;have n8:=zh g8;have c9:Hid (Mk w2 w2 (.slice none 0 0) (((List.range 0).map Int.ofNat).filter PR)):=Mk.nil w2;clear g8 J hN l1
   go_wp2_with fail
   go_loopw [8,9] (fun v i wr=>∃k:Nat,k<=N/\i=.int .i64 k/\Hid (Mk w2 wr v (((List.range k).map Int.ofNat).filter PR))) (fun _ i _=>N - (intOf i).toNat)
   case atStart=>exact ⟨0,Ef _,rfl,c9⟩
   clear c9
   case round=>
    obtain ⟨k,hk,rfl,hM⟩:=hrel;obtain ⟨wk,rfl⟩:∃wk:World,wk=wr:=⟨_,rfl⟩;have e7:za w2 wk:=hM.out.ext;have a2:za w1 wk:=hx.trans e7
    go_wp2_with fail
    refine (zQ _ _ _ _ _ _ _ (by omega) (by omega)).mono ?_;rintro e wA ⟨rfl,f2⟩;rw [HN.out];have Q:=zh (hM.out.more f2);have a1:za w1 wA:=a2.trans f2;have g1:za w2 wA:=e7.trans f2;clear hM e7 a2 f2;by_cases E:k<N
    ·have K:((List.range (k+1)).map Int.ofNat).filter PR=((List.range k).map Int.ofNat).filter PR++[(k:Int)].filter PR:=by
      rw [List.range_succ,EI,EF];rfl
     have HS:=zh K;clear K;have i6:(((List.range k).map Int.ofNat).filter PR).length<=k:=DT (Eu _ _) (by simp);obtain ⟨lk,a7⟩:=EY (((List.range k).map Int.ofNat).filter PR);rw [<-a7] at Q i6 HS;clear a7;have b2:k<fl.length:=by rw [g5.out];exact E
     obtain ⟨b4,off4,e4,_,V⟩:=BP c8.out b2 b2;rw [c6.out k b2] at V;subst e4;have rb:∀W,za w1 W->W.cell? ⟨b4,off4+k,none⟩=some (.bool (ze m qs.length (k:Int))):=fun W hW=>za.rule V W (B.trans hW)
     clear V;have I:Hid (∀W,za w1 W->Calls Tryz.prog 73 #[u1,.int .i64 k] W fun e w'=>e=.returned (.bool (decide ((k:Int)∈fm)))/\W=w'):=fun W hW=>zL _ W (g6.out.below (B.trans hW)) (by omega)
     have a9:Hid (∀W,za w1 W->Calls Tryz.prog 73 #[.slice A ch.length c,.int .i64 k] W fun e w'=>e=.returned (.bool (decide ((k:Int)∈ch)))/\W=w'):=fun W hW=>zL _ W (g4.out.below (B.trans hW)) (by omega)
     have D:Hid (PR k=(decide ((k:Int)∈fm) && ze m qs.length k && !decide ((k:Int)∈ch))):=by rw [n8.out];rfl
     generalize decide ((k:Int)∈fm)=d1 at I D;generalize decide ((k:Int)∈ch)=d2 at a9 D;generalize ze m qs.length (k:Int)=d3 at rb D
     cases d1 <;> cases d2 <;> cases d3
     ·have o:Hid (((List.range (k+1)).map Int.ofNat).filter PR=lk):=by rw [HS.out,Ez (by rw [D.out];simp),List.filter_nil,List.append_nil];exact (by rfl:lk=lk)
      go_wp2_with fail
      refine (I.out _ a1).mono ?_;rintro e w8 ⟨rfl,rfl⟩
      go_wp2_with fail
      go_roundw
      case rel=>exact ⟨k+1,E,by go_num,by rw [o.out];exact Q⟩
      case measure=>simp [intOf];omega
     ·have o:Hid (((List.range (k+1)).map Int.ofNat).filter PR=lk):=by rw [HS.out,Ez (by rw [D.out];simp),List.filter_nil,List.append_nil];exact (by rfl:lk=lk)
      go_wp2_with fail
      refine (I.out _ a1).mono ?_;rintro e w8 ⟨rfl,rfl⟩
      go_wp2_with fail
      go_roundw
      case rel=>exact ⟨k+1,E,by go_num,by rw [o.out];exact Q⟩
      case measure=>simp [intOf];omega
     ·have o:Hid (((List.range (k+1)).map Int.ofNat).filter PR=lk):=by rw [HS.out,Ez (by rw [D.out];simp),List.filter_nil,List.append_nil];exact (by rfl:lk=lk)
      go_wp2_with fail
      refine (I.out _ a1).mono ?_;rintro e w8 ⟨rfl,rfl⟩
      go_wp2_with fail
      go_roundw
      case rel=>exact ⟨k+1,E,by go_num,by rw [o.out];exact Q⟩
      case measure=>simp [intOf];omega
     ·have o:Hid (((List.range (k+1)).map Int.ofNat).filter PR=lk):=by rw [HS.out,Ez (by rw [D.out];simp),List.filter_nil,List.append_nil];exact (by rfl:lk=lk)
      go_wp2_with fail
      refine (I.out _ a1).mono ?_;rintro e w8 ⟨rfl,rfl⟩
      go_wp2_with fail
      go_roundw
      case rel=>exact ⟨k+1,E,by go_num,by rw [o.out];exact Q⟩
      case measure=>simp [intOf];omega
     ·have o:Hid (((List.range (k+1)).map Int.ofNat).filter PR=lk):=by rw [HS.out,Ez (by rw [D.out];simp),List.filter_nil,List.append_nil];exact (by rfl:lk=lk)
      go_wp2_with fail
      refine (I.out _ a1).mono ?_;rintro e w8 ⟨rfl,rfl⟩
      go_wp2_with fail
      go_roundw
      case rel=>exact ⟨k+1,E,by go_num,by rw [o.out];exact Q⟩
      case measure=>simp [intOf];omega
     ·have o:Hid (((List.range (k+1)).map Int.ofNat).filter PR=lk++[(k:Int)]):=by rw [HS.out,EK (by rw [D.out];simp),List.filter_nil];exact rfl
      go_wp2_with fail
      refine (I.out _ a1).mono ?_;rintro e w8 ⟨rfl,rfl⟩
      go_wp2_with fail
      refine (a9.out _ a1).mono ?_;rintro e w8 ⟨rfl,rfl⟩
      go_wp2_with (at_builtin;refine AF rfl _ _ rfl _ lk (k:Int) w2.heap.size wA.heap.size 1 _ rfl rfl (Q.out.own.alloc _) ?d1 ?d2 ?d3 ?_)
      (try case d1=>exact zC _ _ _ (by simp))
      case d2=>(first | (simp;done) | (have:=g1.size;simp;omega) | (have:=g1.size;omega))
      case d3=>omega
      intro v' wb d9 d6 h4;have f0:=zh ((Q.out.alloc _).app d9 d6);clear d9 d6 h4;go_wp2;go_roundw
      case rel=>exact ⟨k+1,E,by go_num,by rw [o.out];exact f0⟩
      case measure=>simp [intOf];omega
     ·have o:Hid (((List.range (k+1)).map Int.ofNat).filter PR=lk):=by rw [HS.out,Ez (by rw [D.out];simp),List.filter_nil,List.append_nil];exact (by rfl:lk=lk)
      go_wp2_with fail
      refine (I.out _ a1).mono ?_;rintro e w8 ⟨rfl,rfl⟩
      go_wp2_with fail
      go_roundw
      case rel=>exact ⟨k+1,E,by go_num,by rw [o.out];exact Q⟩
      case measure=>simp [intOf];omega
     ·have o:Hid (((List.range (k+1)).map Int.ofNat).filter PR=lk):=by rw [HS.out,Ez (by rw [D.out];simp),List.filter_nil,List.append_nil];exact (by rfl:lk=lk)
      go_wp2_with fail
      refine (I.out _ a1).mono ?_;rintro e w8 ⟨rfl,rfl⟩
      go_wp2_with fail
      refine (a9.out _ a1).mono ?_;rintro e w8 ⟨rfl,rfl⟩
      go_wp2_with fail
      go_roundw
      case rel=>exact ⟨k+1,E,by go_num,by rw [o.out];exact Q⟩
      case measure=>simp [intOf];omega
    ·obtain rfl:k=N:=by omega
     go_wp2;go_ret;refine ⟨_,rfl,(B.trans hx).mono_mk ?_⟩;rw [O.out];exact Q.out
  ·rw [List.concat_eq_append] at*;obtain ⟨bq,ofq,rfl,_,i3⟩:=zE i9 (k:=q.length) (by simp) (by simp);have l4:(q++[y])[q.length]'(by simp)=y:=by simp
   rw [l4] at i3;have l6:(q++[y]).length=q.length+1:=by simp
   have q5:q.length+1<=300:=by
    have h5:=HC.out.psOk.fl;have h6:=flat_le (ps:=Aw m ch) (p:=q++[y]) (by rw [c7.out];simp);rw [h5] at h6;omega
   have p6:0<=y/\y<m.w*m.h*m.l:=(HC.out.range HG.out).1 y (by rw [<-HC.out.psOk.fl,c7.out];simp);rw [l6] at i2 ru k9 k3;have ry:=za.rule i3;have t6:((q.length:Int)+1==0)=false:=by rw [Ee];omega
   have t7:decide ((q.length:Int)+1=0)=false:=DV (by omega);have t8:(q.length:Int)<(q.length:Int)+1:=by omega
   have o0:Hid (∀j (hj:j<q.length),w2.cell? ⟨bq,ofq+j,none⟩=some (.int .i64 q[j])):=fun j hj=>by
    obtain ⟨b9,of9,e9,_,o6⟩:=zE i9 (k:=j) (by simp;omega) (by simp;omega);injection e9 with e9;injection e9 with e1 e2;subst e1 e2;rw [o6,List.getElem_append_left hj]
   have n9:Hid (∀j (hj:j<q.length),0<=q[j]/\q[j]<m.w*m.h*m.l):=fun j hj=>(HC.out.range HG.out).1 _ (by rw [<-HC.out.psOk.fl,c7.out];simp)
   clear i3 l4 i9 l6;obtain ⟨bt,offt,sn,u1,u2,rfl,_,h7,d4,h8,a4,f5⟩:=Bm k5.out a6;have d8:=(HL.out.tl _ (DS a6)).1;have e5:(m.tasks.getD qs.length ([],[])).1=(m.tasks[qs.length]).1:=by simp [a6]
   have O:Hid (BK m ch=(zo m y).filter (zD m ch qs.length q (m.tasks.getD qs.length ([],[])).1)):=cand_on c7.out j4.out;rw [e5] at O;obtain ⟨fm,d5⟩:=EY ((m.tasks[qs.length]).1);rw [<-d5] at a4 d8 O;clear e5 d5 h7 h8 f5;have g6:=zh a4;clear a4;have rt:∀W,za w1 W->W.cell? ⟨bt,offt+qs.length*3+1,none⟩=some u1:=fun W hW=>za.rule d4 W (B.trans hW)
   have a5:qs.length<m.free.length:=by rw [j6.out];exact a6
   obtain ⟨bf,off3,uf,rfl,_,U,g9⟩:=Br k4.out j5.out a5 a5;have J:=HG.out.fn _ (DS a5);obtain ⟨A4,c4,rfl,h9,e0⟩:=g9;have c8:=zh e0;clear e0;have c0:Hid (∀x:Nat,(hx:x<(m.free[qs.length]).length)->(m.free[qs.length])[x]=ze m qs.length (x:Int)):=fun x hx=>by simp [ze,a5,hx]
   obtain ⟨fl,a0⟩:=EY (m.free[qs.length]);rw [<-a0] at U J h9 c8;have c6:Hid (∀x:Nat,(hx:x<fl.length)->fl[x]=ze m qs.length (x:Int)):=by subst a0;exact c0
   clear c0 a0;have rf:∀W,za w1 W->W.cell? ⟨bf,off3+qs.length,none⟩=some (.slice A4 fl.length c4):=fun W hW=>za.rule U W (B.trans hW)
   clear d4 U;have g5:Hid ((fl.length:Int)=m.n):=J;clear J;have o9:=BZ m y
   go_wp2_with fail
   obtain ⟨m5,m6⟩:=p6;have v4:IntKind.i64.wrap ((q.length:Int)+1 - 1)=(q.length:Int):=by rw [Em];omega
   have q6:IntKind.i64.wrap (q.length:Int)=(q.length:Int):=by rw [Em];omega
   have t9:(0:Int)<=(q.length:Int):=by omega
   have hR:=zh (za.refl w2)
   go_region_held3 (fun w'=>za w1 w'/\za w2 w')
    (first | (exact CZ hx) | (exact held_ext (by assumption) k7))
    ((go_at_call 165;refine (CU m y _ (g7.out.below (B.trans hx.drew)) HG.out.dim m5 m6).mono ?_;rintro e w9 ⟨v9,rfl,k7,i7⟩))
   rename_i hS
   have r6:=zh hS;have j2:za w1 w9:=hS.1;have m1:za w2 w9:=hS.2;have j9:Hid (zB w9 w2.drew.heap.size v9 (zo m y)):=i7;obtain ⟨A3,c3,rfl,o5,p3⟩:=Ae.of_own i7;clear i7 k7 hS p3;obtain ⟨L,hL⟩:=EY (zo m y);rw [<-hL] at j9 O o5 o9⊢;have n4:=zh hL;obtain ⟨F,hF⟩:=EY (zD m ch qs.length q fm);rw [<-hF] at O;have n2:=zh hF;have c9:Hid (Mk w9 w9 (.slice none 0 0) ((L.take 0).filter F)):=Mk.nil w9;clear hL hF
   go_wp2_with fail
   go_loopw [8,11] (fun v i wr=>∃k:Nat,k<=L.length/\i=.int .i64 k/\Hid (Mk w9 wr v ((L.take k).filter F))) (fun _ i _=>L.length - (intOf i).toNat)
   case atStart=>exact ⟨0,Ef _,rfl,c9⟩
   clear c9
   case round=>
    obtain ⟨k,hk,rfl,hM⟩:=hrel;obtain ⟨wk,rfl⟩:∃wk:World,wk=wr:=⟨_,rfl⟩;have m2:za w9 wk:=hM.out.ext;have a2:za w1 wk:=j2.trans m2;by_cases E:k<L.length
    ·obtain ⟨b3,rfl,f1,b0⟩:=own_at j9.out E
     have K:(L.take (k+1)).filter F=(L.take k).filter F++[L[k]].filter F:=by
      rw [DY E,EF]
     have m3:0<=L[k]/\L[k]<m.n:=Bg HG.out.dim m5 (show y<m.n from m6) (by rw [<-n4.out];exact DS E);obtain ⟨x,m4⟩:=EY (L[k]);rw [<-m4] at b0 K m3;have HS:=zh K;clear K m4;obtain ⟨X,hX⟩:∃X:Nat,(X:Int)=x:=⟨x.toNat,by omega⟩;have b2:X<fl.length:=by have:=g5.out;omega
     obtain ⟨b4,off4,e4,_,V⟩:=BP c8.out b2 b2;rw [c6.out X b2] at V;subst e4;subst hX;have rb:∀W,za w1 W->W.cell? ⟨b4,off4+X,none⟩=some (.bool (ze m qs.length (X:Int))):=fun W hW=>za.rule V W (B.trans hW)
     have rx:∀W,za w9 W->W.cell? ⟨b3,k,none⟩=some (.int .i64 (X:Int)):=za.rule b0;have s1:(0:Int)<=(X:Int):=by omega
     have o2:(X:Int)<(fl.length:Int):=by omega
     have i6:((L.take k).filter F).length<=k:=DT (Eu _ _) (by simp;omega);obtain ⟨lk,a7⟩:=EY ((L.take k).filter F);rw [<-a7] at hM i6 HS;clear b0 V a7 m3;have I:Hid (∀W,za w1 W->Calls Tryz.prog 73 #[u1,.int .i64 X] W fun e w'=>e=.returned (.bool (decide ((X:Int)∈fm)))/\W=w'):=fun W hW=>zL _ W (g6.out.below (B.trans hW)) (by omega)
     have a9:Hid (∀W,za w1 W->Calls Tryz.prog 73 #[.slice A ch.length c,.int .i64 X] W fun e w'=>e=.returned (.bool (decide ((X:Int)∈ch)))/\W=w'):=fun W hW=>zL _ W (g4.out.below (B.trans hW)) (by omega)
     have D:Hid (F X=(ze m qs.length X && !decide ((X:Int)∈ch) && !(q.any fun y=>decide ((X:Int)∈zo m y)) && !decide ((X:Int)∈fm))):=by rw [n2.out];rfl
     generalize decide ((X:Int)∈fm)=d1 at I D;generalize decide ((X:Int)∈ch)=d2 at a9 D;generalize ze m qs.length (X:Int)=d3 at rb D
     go_wp2_with fail
     have v3:(X:Int)<(fl.length:Int):=o2;go_cut [12] (fun s wx=>s=.bool (d3 && !d2 && !d1)/\Hid (za wk wx))
     case first=>
      cases d1 <;> cases d2 <;> cases d3
      all_goals
       go_quiet (first | (go_at_call 73;with_reducible refine (I.out _ (a2.drewN _)).mono ?_;rintro e w8 ⟨i5,rfl⟩;exact ⟨i5,⟨_,rfl⟩⟩) | (go_at_call 73;with_reducible refine (a9.out _ (a2.drewN _)).mono ?_;rintro e w8 ⟨i5,rfl⟩;exact ⟨i5,⟨_,rfl⟩⟩))
       go_wp2_with fail
       go_meet;exact ⟨rfl,(za.refl wk).drewN _⟩
     case rest=>
      obtain ⟨rfl,hE⟩:=hcut;have f0:=zh (hM.out.more hE.out);have q7:za w1 wc:=a2.trans hE.out;clear hM hE rb I a9
      have f8:Hid (F X=((d3 && !d2 && !d1) && !(q.any fun y=>decide ((X:Int)∈zo m y)))):=by
       show _=_;rw [D.out]
       cases d1 <;> cases d2 <;> cases d3 <;> simp
      clear D;obtain ⟨g0,l2⟩:=EY ((d3 && !d2 && !d1));rw [<-l2] at f8⊢;clear l2
      go_wp2_with fail
      go_loopw [12,13] (fun gv i wr=>∃i0:Nat,i0<=q.length/\i=.int .i64 i0/\gv=.bool (g0 && !((q.take i0).any fun y=>decide ((X:Int)∈zo m y)))/\Hid (Mk w9 wr u8 lk)) (fun _ i _=>q.length - (intOf i).toNat)
      case atStart=>exact ⟨0,Ef _,rfl,by simp,f0⟩
      clear f0
      case round=>
       obtain ⟨i0,s7,rfl,rfl,hM⟩:=hrel;obtain ⟨wj,rfl⟩:∃wj:World,wj=wr:=⟨_,rfl⟩;obtain ⟨bb,M⟩:=EY ((g0 && !((q.take i0).any fun y=>decide ((X:Int)∈zo m y))));rw [<-M];have a3:za w9 wj:=hM.out.ext;have e6:za w1 wj:=j2.trans a3;have g3:za w2 wj:=m1.trans a3;by_cases G:i0<q.length/\bb=true
       ·obtain ⟨G,rfl⟩:=G;have i4:=o0.out i0 G;obtain ⟨m7,f6⟩:=n9.out i0 G
        have j8:Hid ((g0 && !((q.take (i0+1)).any fun y=>decide ((X:Int)∈zo m y)))=!decide ((X:Int)∈zo m q[i0])):=by
         show _=_;have h1:=M.symm;rw [Ed,Bool.not_eq_true'] at h1;rw [DY G,List.any_append,h1.1,h1.2];simp
        obtain ⟨z,hz⟩:=EY (q[i0]);rw [<-hz] at i4 j8 m7 f6;have rz:=za.rule i4;have a4:(i0:Int)+1<(q.length:Int)+1:=by omega
        have f5:i0<q.length+1:=by omega
        have s8:(i0:Int)<(q.length:Int)+1:=by omega
        have d7:decide ((i0:Int)+1<(q.length:Int)+1)=true:=DU a4;clear i4 M hz;have n5:=zh (hM.out.drew)
        go_wp2_with fail
        go_region_held3 (fun w'=>(za w1 w'/\za w2 w'/\za w9 w')/\za wj w')
         (first | (exact ⟨⟨e6.drew,g3.drew,a3.drew⟩,(za.refl _).drew⟩) | (exact ⟨⟨e6.drew.trans b6,g3.drew.trans b6,a3.drew.trans b6⟩,(za.refl _).drew.trans b6⟩))
         (first | (go_at_call 165;refine (CU m z _ (g7.out.below (B.trans e6.drew)) HG.out.dim m7 f6).mono ?_;rintro e wn ⟨v9,rfl,b6,l5⟩) | (go_at_call 73;refine (zL (X:Int) _ (Ae.of_own l5) (by have:=BZ m z;omega)).mono ?_;rintro e w10 ⟨rfl,rfl⟩))
        rename_i hS
        have n6:=zh (n5.out.more b6);clear b6 l5 hS
        go_wp2_with fail
        go_roundw
        case rel=>exact ⟨i0+1,G,by go_num,by rw [j8.out],n6⟩
        case measure=>simp [intOf];omega
       ·have j7:Hid (F X=bb):=by
         show _=_;rw [f8.out,M];by_cases B:i0<q.length
         ·have o3:bb=false:=by
           cases f1:bb
           ·rfl
           ·exact absurd ⟨B,f1⟩ G
          rw [o3] at M;rw [<-M]
          cases hg:g0
          ·rfl
          ·rw [hg,Bool.true_and] at M;have M:=M.symm;rw [Bool.not_eq_false',ET] at M;obtain ⟨z,f6,p7⟩:=M;rw [Bool.true_and,Bool.not_eq_false',ET];exact ⟨z,List.mem_of_mem_take f6,p7⟩
         ·rw [List.take_of_length_le (by omega)]
        clear M
        have f3:(decide ((i0:Int)+1<(q.length:Int)+1) && bb)=false:=by
         cases f1:bb
         ·rw [Bool.and_false]
         ·rw [Bool.and_true,Eo];intro h;exact G ⟨by omega,f1⟩
        cases bb
        ·have o:Hid ((L.take (k+1)).filter F=lk):=by rw [HS.out,Ez (by rw [j7.out];simp),List.filter_nil,List.append_nil];exact (by rfl:lk=lk)
         clear G f3;by_cases p9:i0<q.length
         ·have d7:decide ((i0:Int)+1<(q.length:Int)+1)=true:=DU (by omega)
          go_wp2_with fail
          go_roundw
          case rel=>exact ⟨k+1,E,by go_num,by rw [o.out];exact hM⟩
          case measure=>simp [intOf];omega
         ·have d7:decide ((i0:Int)+1<(q.length:Int)+1)=false:=DV (by omega)
          go_wp2_with fail
          go_roundw
          case rel=>exact ⟨k+1,E,by go_num,by rw [o.out];exact hM⟩
          case measure=>simp [intOf];omega
        ·have o:Hid ((L.take (k+1)).filter F=lk++[(X:Int)]):=by rw [HS.out,EK (by rw [j7.out]),List.filter_nil];exact rfl
         have d7:decide ((i0:Int)+1<(q.length:Int)+1)=false:=by rw [Bool.and_true] at f3;exact f3
         have o8:i0=q.length:=by rw [Eo] at d7;omega
         subst o8;clear d7;clear G f3
         go_wp2_with (at_builtin;refine AF rfl _ _ rfl _ lk (X:Int) w9.heap.size wj.heap.size 1 _ rfl rfl (hM.out.own.alloc _) ?d1 ?d2 ?d3 ?_)
         (try case d1=>exact zC _ _ _ (by simp))
         case d2=>(first | (simp;done) | (have:=a3.size;simp;omega) | (have:=a3.size;omega))
         case d3=>omega
         intro v' wb d9 d6 h4;have k6:=zh ((hM.out.alloc _).app d9 d6);clear d9 d6 h4;go_wp2;go_roundw
         case rel=>exact ⟨k+1,E,by go_num,by rw [o.out];exact k6⟩
         case measure=>simp [intOf];omega
    ·obtain rfl:k=L.length:=by omega
     go_wp2;go_ret;refine ⟨_,rfl,(B.trans j2).mono_mk ?_⟩;rw [O.out];have:=hM.out
     rwa [Ec] at this
 ·have h1:=(splitL_len HC.out).1 b7;have n0:=zh (cand_cmp b7);obtain ⟨vs,⟨Ap,cp,rfl,i1,e3⟩,f4⟩:=i8;rw [h1] at i1⊢;clear e3 f4 h1 b7;go_wp2;go_ret;refine ⟨_,rfl,?_⟩;rw [n0.out];exact Mk.nil' (B.trans hx)
theorem qchosen_calls (w:World) (hm:zt w ok v m) (hl:Lens m) (a5:zk w okc vc ch) (d9:ch.length<=20000000000000):
  Calls Tryz.prog 176 #[v,vc] w fun e w'=>e=.returned (.bool (DM m ch))/\za w w':=by
 have a1:=zh hm;obtain ⟨vfr,vup,vts,rfl,-,-,-⟩:=hm;have b2:=zh a5;obtain ⟨A,c,rfl,d4,hr⟩:=a5;have HR:=zh hr;have HL:=zh hl;clear hr hl;obtain ⟨ck,a6⟩:=EY (Bq m);have K:=zh a6;clear a6
 go_enter Tryz.func176,Tryz.ntmps176
 go_wp2_with fail
 generalize U:w.alloc (.cells #[.int .i64 m.w,.int .i64 m.h,.int .i64 m.l,vfr,vup,vts] 32)=w1;have B:za w w1:=by rw [<-U];exact (za.refl w).alloc _
 have a8:zd w1 w.heap.size 32 #[.int .i64 m.w,.int .i64 m.h,.int .i64 m.l,vfr,vup,vts]:=by rw [<-U];exact EE _ _
 clear U;obtain ⟨m0,m1,m2,m3,m4,m5⟩:=zq a8;have c0:=za.rule m0;have c1:=za.rule m1;have c2:=za.rule m2;have c3:=za.rule m3;have c4:=za.rule m4;have c5:=za.rule m5;clear m0 m1 m2 m3 m4 m5 a8;refine (Ce w1 (a1.out.below B) HL.out).mono ?_;rintro e w2 ⟨rfl,V⟩;have V:za w1 w2:=V;have a4:za w w2:=B.trans V;rw [<-K.out];by_cases h0:ck=0
 case neg=>
  have e2:(ck==0)=false:=by rw [Ee];exact h0
  have e3:(ck != 0)=true:=by rw [bne_iff_ne];exact h0
  have E:Hid (DM m ch=false):=by show _=_;unfold DM;rw [<-K.out,DV h0];rfl
  clear h0
  go_wp2_with fail
  go_ret;exact ⟨zi E.out.symm,a4⟩
 case pos=>
  subst h0;have HG:=zh (AN.of K.out.symm);have e1:=HG.out.dim.n1;have b9:=HG.out.dim.layer;have Q:Hid (DM m ch=isChB m ch):=by show _=_;unfold DM;rw [<-K.out];rfl
  go_wp2_with fail
  refine (zQ m.w m.h m.l vfr vup vts w2 (by omega) (by omega)).mono ?_;rintro e w3 ⟨rfl,a9⟩;have b4:za w w3:=a4.trans a9;have a3:za w1 w3:=za.trans ‹za w1 w2› a9;by_cases M:m.w*m.h*m.l<(ch.length:Int)
  ·have a7:decide (m.w*m.h*m.l<(ch.length:Int))=true:=DU M
   have E:Hid (DM m ch=false):=by
    show _=_;rw [Q.out,Bool.eq_false_iff];intro h;have h1:=(BY.1 h).len HG.out;have h2:m.n=m.w*m.h*m.l:=rfl;omega
   go_wp2_with fail
   go_ret;exact ⟨zi E.out.symm,b4⟩
  ·have a7:decide (m.w*m.h*m.l<(ch.length:Int))=false:=DV M;have b6:ch.length<=300:=by omega
   go_wp2_with fail
   clear a7;go_loopw [5] (fun i wr=>∃k:Nat,k<=ch.length/\i=.int .i64 k/\Hid (zy m (ch.take k))/\Hid (za w1 wr)) (fun i _=>ch.length - (intOf i).toNat)
   case atStart=>exact ⟨0,Ef _,rfl,by rw [List.take_zero];exact zy.nil,a3⟩
   case round=>
    obtain ⟨k,hk,rfl,hI,hX⟩:=hrel;obtain ⟨wk,rfl⟩:∃wk:World,wk=wr:=⟨_,rfl⟩;have o:za w1 wk:=hX.out;by_cases I:k<ch.length
    ·obtain ⟨b,off,rfl,_,D⟩:=zE HR.out I I;have a0:=zh (intsTake b2.out (show k<=ch.length by omega));have J:=zh (DY I)
     have a2:Hid (ch[k]∉BK m (ch.take k)->DM m ch=false):=fun hn=>by
      rw [Q.out,Bool.eq_false_iff];intro h;exact hn ((BY.1 h).at I)
     obtain ⟨x,b0⟩:=EY (ch[k]);rw [<-b0] at D J a2;clear b0;have rx:∀W,za w1 W->W.cell? ⟨b,off+k,none⟩=some (.int .i64 x):=fun W hW=>za.rule D W (B.trans hW)
     have d8:(k:Int)<=(c:Int):=by omega
     have d7:k<=c:=by omega
     have d5:(0:Int)<=(k:Int):=by omega
     have d6:(k:Int)<(ch.length:Int):=by omega
     clear D;have c6:=CE HL.out (ch.take k)
     go_wp2_with fail
     go_region_held3 (fun w'=>za w1 w'/\za wk w')
      (first | (exact ⟨o.drew,(za.refl _).drew⟩) | (exact ⟨o.drew.trans L.ext,(za.refl _).drew.trans L.ext⟩))
      (first | (go_at_call 180;refine (qbehind_calls _ (a1.out.below (B.trans o.drew)) HG.out HL.out (a0.out.below (B.trans o.drew)) hI.out).mono ?_;rintro e wn ⟨v9,rfl,L⟩) | (go_at_call 73;refine (zL x _ L.ints (by omega)).mono ?_;rintro e w10 ⟨rfl,rfl⟩))
     rename_i hS
     have O:za w1 wn:=hS.1;clear L hS;by_cases G:x∈BK m (ch.take k)
     ·rw [DU G];have b5:Hid (zy m (ch.take (k+1))):=by show zy _ _;rw [J.out];exact zy.snoc hI.out G
      clear G
      go_wp2_with fail
      go_roundw
      case rel=>exact ⟨k+1,I,by go_num,b5,O⟩
      case measure=>simp [intOf];omega
     ·rw [DV G];have E:=zh (a2.out G);clear G;go_wp2;go_ret;exact ⟨zi E.out.symm,B.trans O⟩
    ·obtain rfl:k=ch.length:=by omega
     have E:Hid (DM m ch=true):=by
      show _=_;rw [Q.out,BY];have:=hI.out
      rwa [Ec] at this
     go_wp2;go_ret;exact ⟨zi E.out.symm,B.trans o⟩
theorem CT (w:World) (hm:zt w ok v m) (hl:Lens m) (L:zk w okc vc ch) (O:ch.length<=20000000000000):
  Calls Tryz.prog 122 #[v,vc] w fun e w'=>∃v',e=.returned v'/\Mk w w' v' (zu m ch):=by
 have J:=zh hm;obtain ⟨vfr,vup,vts,rfl,-,-,-⟩:=hm;have I:=zh L;obtain ⟨A,c,rfl,a5,-⟩:=L;have Q:=zh hl;clear hl;obtain ⟨bb,K⟩:=EY (DM m ch);have B:=zh K;clear K
 go_enter Tryz.func122,Tryz.ntmps122
 go_wp2_with fail
 generalize G:w.alloc (.cells #[.int .i64 m.w,.int .i64 m.h,.int .i64 m.l,vfr,vup,vts] 32)=w1;have o:za w w1:=by rw [<-G];exact (za.refl w).alloc _
 have M:zd w1 w.heap.size 32 #[.int .i64 m.w,.int .i64 m.h,.int .i64 m.l,vfr,vup,vts]:=by rw [<-G];exact EE _ _
 clear G;obtain ⟨m0,m1,m2,m3,m4,m5⟩:=zq M;have c0:=za.rule m0;have c1:=za.rule m1;have c2:=za.rule m2;have c3:=za.rule m3;have c4:=za.rule m4;have c5:=za.rule m5;clear m0 m1 m2 m3 m4 m5 M;refine (qchosen_calls w1 (J.out.below o) Q.out (I.out.below o) O).mono ?_;rintro e w2 ⟨rfl,D⟩;rw [<-B.out];cases bb
 ·have E:Hid (zu m ch=[]):=by show _=_;unfold zu;rw [<-B.out];rfl
  go_wp2_with fail
  go_ret;exact ⟨_,rfl,by rw [E.out];exact Mk.nil' (o.trans D)⟩
 ·have E:Hid (zu m ch=BK m ch):=by show _=_;unfold zu;rw [<-B.out];rfl
  obtain ⟨hg,V⟩:=Da B.out.symm;have HG:=zh hg;have HC:=zh V;clear hg V
  go_wp2_with fail
  refine (qbehind_calls w2 (J.out.below (o.trans D)) HG.out Q.out (I.out.below (o.trans D)) HC.out).mono ?_;rintro e w3 ⟨v3,rfl,U⟩;have HM:=zh ((o.trans D).mono_mk U);clear U
  go_wp2_with fail
  go_ret;exact ⟨_,rfl,by rw [E.out];exact HM.out⟩
theorem reachL_le (m:MZ) (t:Nat) (f us:List Int) (g:AN m):(Cm m t f us).length<=20000000000000:=by
 unfold Cm;refine DT (Eu _ _) ?_;have h1:=g.dim.n1;have h2:m.n=m.w*m.h*m.l:=rfl;simp;omega
def zm (m:MZ) (ch:List Int):List (List Int):=if DM m ch=true then (Aw m ch).filter (fun p=>decide (p.length≠0)) else []
theorem splitL_drop (h:zy m ch):∀qs p,zY m ch=qs++[p]->(∀q∈qs,q≠[])/\((Aw m ch).filter fun p=>decide (p.length≠0))=(if p=[] then qs else qs++[p]):=by
 induction h with
 | nil=>
  intro qs p h;rw [splitL_nil] at h
  have h1:qs=[]/\p=[]:=by
   cases qs with
   | nil=>simp at h;exact ⟨rfl,h⟩
   | cons a l=>
    have:=congrArg List.length h;simp at this
  obtain ⟨rfl,rfl⟩:=h1;refine ⟨fun q hq=>(by cases hq),?_⟩;rw [psOf_nil];unfold ps0
  split <;> simp
 | @snoc ch n h K ih=>
  intro qs p I;have J:=BW K;obtain ⟨qs0,p0,h1,h2,h3⟩:=ps_form h J;obtain ⟨i1,i2⟩:=ih qs0 p0 h3;have o:=split_step n h1 h2;rw [I] at o
  have B:∀(ps:List (List Int)) (a:List Int),(∀q∈ps,q≠[])->(ps++[a]).filter (fun p=>decide (p.length≠0))=if a=[] then ps else ps++[a]:=fun ps a G=>by
   rw [EF,List.filter_eq_self.2 (fun q hq=>by have:=G q hq;simpa using this)];by_cases D:a=[]
   ·rw [if_pos D];subst D;simp
   ·rw [if_neg D];congr 1;simp [D]
  have key:∀q∈qs,q≠[]:=by
   intro q hq
   split at o
   ·have E:qs=qs0++[p0++[n]]:=(List.append_inj' o rfl).1;rw [E] at hq;rcases EH.1 hq with hq | hq
    ·exact i1 q hq
    ·rw [Ey] at hq;subst hq;simp
   ·rw [List.append_nil] at o;have E:qs=qs0:=(List.append_inj' o rfl).1;rw [E] at hq;exact i1 q hq
  refine ⟨key,?_⟩;rw [<-B qs p key,<-I];unfold zY;rw [EF]
  split <;> simp
theorem pathsO_eq (h:DM m ch=true) (o:zY m ch=qs++[p]):zm m ch=if p=[] then qs else qs++[p]:=by
 unfold zm;rw [if_pos h];exact (splitL_drop (Da h).2 qs p o).2
theorem splitL_last (h:zy m ch):∃qs p,zY m ch=qs++[p]:=by
 have B:=splitL_len h
 have o:0<(zY m ch).length:=by
  cases h:cmpC m ch
  ·exact (B.2 h).2
  ·have:=B.1 h;omega
 rcases List.eq_nil_or_concat (zY m ch) with h1 | ⟨qs,p,h1⟩
 ·rw [h1] at o;simp at o
 ·exact ⟨qs,p,by rw [h1,List.concat_eq_append]⟩
def PathsPost (w:World) (m:MZ) (ch:List Int) (e:Ending) (w':World):Prop:=
 ∃v,e=.returned (.tuple #[v,.bool (DM m ch)])/\za w w'/\zR w' (fun b=>w.heap.size<=b) v (zm m ch)
theorem intss_take {w:World} {A:Option Addr} {n c N:Nat} (h:zR w ok (.slice A n c) l) (J:N<=n):zR w ok (.slice A N c) (l.take N):=by
 obtain ⟨vs,⟨A',c',e,K,L,E⟩,he⟩:=h;injection e with e1 e2 e3;subst e1 e2 e3;refine ⟨vs.take N,⟨A,c,by rw [EJ,Nat.min_eq_left (by omega)],by rw [EJ];omega,by rw [EJ,EJ];omega,fun hp=>?_⟩,fun i x D=>?_⟩
 ·rw [EJ] at hp;obtain ⟨b,off,e,G,o⟩:=E (by omega);refine ⟨b,off,e,G,fun j u B=>o j u ?_⟩;rw [List.getElem?_take] at B
  split at B
  ·exact B
  ·cases B
 ·rw [List.getElem?_take] at D
  split at D
  ·rename_i I
   obtain ⟨u,B,E⟩:=he i x D;exact ⟨u,by rw [List.getElem?_take,if_pos I];exact B,E⟩
  ·cases D
theorem Cx (w:World) (hm:zt w ok v m) (hl:Lens m) (a2:zk w okc vc ch) (b6:ch.length<=20000000000000):
  Calls Tryz.prog 118 #[v,vc] w (PathsPost w m ch):=by
 have V:=zh hm;obtain ⟨vfr,vup,vts,rfl,-,-,-⟩:=hm;have Q:=zh a2;obtain ⟨A,c,rfl,d6,-⟩:=a2;have HL:=zh hl;clear hl;obtain ⟨bb,a1⟩:=EY (DM m ch);have B:=zh a1;clear a1
 go_enter Tryz.func118,Tryz.ntmps118
 go_wp2_with fail
 generalize O:w.alloc (.cells #[.int .i64 m.w,.int .i64 m.h,.int .i64 m.l,vfr,vup,vts] 32)=w1;have D:za w w1:=by rw [<-O];exact (za.refl w).alloc _
 have a5:zd w1 w.heap.size 32 #[.int .i64 m.w,.int .i64 m.h,.int .i64 m.l,vfr,vup,vts]:=by rw [<-O];exact EE _ _
 clear O;obtain ⟨m0,m1,m2,m3,m4,m5⟩:=zq a5;have c0:=za.rule m0;have c1:=za.rule m1;have c2:=za.rule m2;have c3:=za.rule m3;have c4:=za.rule m4;have c5:=za.rule m5;clear m0 m1 m2 m3 m4 m5 a5;refine (qchosen_calls w1 (V.out.below D) HL.out (Q.out.below D) b6).mono ?_;rintro e w2 ⟨rfl,G⟩;rw [<-B.out];cases bb
 ·have o:Hid (PathsPost w m ch (.returned (.tuple #[.slice none 0 0,.bool false])) w2):=⟨_,by rw [<-B.out],D.trans G,by unfold zm;rw [<-B.out];exact ⟨[],⟨none,0,rfl,DR _,AE.nil _ _ _ _⟩,fun i x hx=>by simp at hx⟩⟩
  go_wp2_with fail
  go_ret2
  exact o.out
 ·obtain ⟨hg,hc⟩:=Da B.out.symm;obtain ⟨qs,p,L⟩:=splitL_last hc;have a0:=zh (pathsO_eq B.out.symm L);have M:=splitL_len hc
  have b7:(zY m ch).length<=7:=by
   have d9:=hg.tk
   cases h:cmpC m ch
   ·have:=(M.2 h).1;omega
   ·have:=M.1 h;omega
  have HG:=zh hg;have HC:=zh hc;have E:=zh L;clear hg hc L M
  go_wp2_with fail
  refine (qsplit_calls w2 (V.out.below (D.trans G)) HG.out HL.out (Q.out.below (D.trans G)) HC.out).mono ?_;rintro e w3 ⟨v3,rfl,b0,a7⟩;have b2:=zh a7;obtain ⟨vs,⟨Ap,cp,rfl,b3,a8⟩,a4⟩:=a7;obtain ⟨bp,ofp,up,rfl,_,a3,a9⟩:=Br a8 a4 (k:=qs.length) (by rw [E.out];simp) (by rw [E.out];simp);have a6:(zY m ch)[qs.length]'(by rw [E.out];simp)=p:=by simp only [E.out];simp
  rw [a6] at a9;obtain ⟨Aq,cq,rfl,b4,-⟩:=a9;have ru:=za.rule a3;have K:(zY m ch).length=qs.length+1:=by rw [E.out];simp
  rw [K] at b3 b7⊢;have d8:(qs.length:Int)<(qs.length:Int)+1:=by omega
  have c9:za w3 w3:=za.refl w3;have U:Hid (za w w3):=D.trans (G.trans b0);have c6:=G.size;have b9:=D.size
  have J:Hid (zR w3 (fun b=>w.heap.size<=b) (.slice (some ⟨bp,ofp,none⟩) (qs.length+1) cp) (qs++[p])):=by
   have h1:=b2.out;rw [K] at h1;rw [E.out] at h1;exact h1.weaken fun b hb=>by omega
  clear a8 a4 a6 a3 K b0 G b9 c6;by_cases I:p=[]
  ·subst I;have hz:([]:List Int).length=0:=rfl;rw [hz] at ru b4
   have o:Hid (PathsPost w m ch (.returned (.tuple #[.slice (some ⟨bp,ofp,none⟩) qs.length cp,.bool true])) w3):=⟨_,by rw [<-B.out],U.out,by
    rw [a0.out,if_pos rfl];have h1:=intss_take J.out (N:=qs.length) (by omega)
    rwa [List.take_append_of_le_length (DR _),Ec] at h1⟩
   have b8:(qs.length:Int)<=(cp:Int):=by omega
   go_wp2_with fail
   go_ret2
   exact o.out
  ·have o:Hid (PathsPost w m ch (.returned (.tuple #[.slice (some ⟨bp,ofp,none⟩) (qs.length+1) cp,.bool true])) w3):=⟨_,by rw [<-B.out],U.out,by
    rw [a0.out,if_neg I];exact J.out⟩
   have d7:p.length≠0:=fun h=>I (Ei h)
   have b8:((p.length:Int)==0)=false:=by rw [Ee];omega
   clear I
   go_wp2_with fail
   go_ret2
   exact o.out
end
section
open Go.RowKit
inductive PT where
 | node (task:Int) (side:List Int) (kids:List PT)
def PT.task:PT->Int | .node t _ _=>t
def PT.side:PT->List Int | .node _ s _=>s
def PT.kids:PT->List PT | .node _ _ k=>k
def PT.zero:PT:=.node 0 [] []
def endB (m:MZ) (pp:List (List Int)) (t:Nat):Bool:=match (pp.getD t []).getLast? with
 | none=>false
 | some x=>decide (x∈(m.tasks.getD t ([],[])).2)
def curF (m:MZ) (pp:List (List Int)):Nat->Nat->Nat
 | 0,t=>t
 | f+1,t=>if t<pp.length/\endB m pp t=true then curF m pp f (t+1) else t
def zF (m:MZ) (ch:List Int):Nat:=curF m (zm m ch) (zm m ch).length 0
def Aj (m:MZ) (ch:List Int) (t:Nat):List Int:=if t<(zm m ch).length then ((zm m ch).getD t []).getLast?.toList else (m.tasks.getD t ([],[])).1.filter fun n=>ze m t n && !decide (n∈ch)
noncomputable def BI (m:MZ) (ch:List Int) (t:Nat):List Int:=Cf m t (Aj m ch t) ch
noncomputable def offB (m:MZ) (ch:List Int) (t:Nat):Bool:=!((BI m ch t).any fun n=>decide (n∈(m.tasks.getD t ([],[])).2)) && (decide (BI m ch t≠[]) || decide (zF m ch<t))
noncomputable def cutT (m:MZ) (ch:List Int):Option Nat:=((List.range (m.tasks.length - zF m ch)).map (zF m ch+·)).find? (offB m ch)
def zJ (f:Int->Nat->Int×PT×Nat):List Int->Nat->List PT->Int×List PT×Nat
 | [],k,acc=>(0,acc,k)
 | n :: l,k,acc=>if (f n k).1=0 then zJ f l (f n k).2.2 (acc++[(f n k).2.1]) else ((f n k).1,[],(f n k).2.2)
noncomputable def zj (m:MZ):Nat->List Int->Nat->Int×PT×Nat
 | 0,_,k=>(53,.zero,k)
 | f+1,ch,k=>
  if m.tasks.length<=zF m ch then (51,.zero,k)
  else if 3000<k+1 then (53,.zero,k+1)
  else match cutT m ch with
   | some t=>(0,.node t (BI m ch t) [],k+1)
   | none=>
    let r:=zJ (fun n k=>zj m f (ch++[n]) k) (zu m ch) (k+1) []
    if r.1=0 then (0,.node (zF m ch) [] r.2.1,r.2.2) else (r.1,.zero,r.2.2)
noncomputable def AP (m:MZ):Int×PT:=if Bq m=0 then ((zj m (m.n.toNat+2) [] 0).1,(zj m (m.n.toNat+2) [] 0).2.1) else (Bq m,.zero)
mutual
def PT.size:PT->Nat
 | .node _ _ ks=>1+PT.sizeL ks
def PT.sizeL:List PT->Nat
 | []=>0
 | k :: ks=>k.size+PT.sizeL ks
end
def incB (N:Int):Int->List Int->Bool
 | _,[]=>true
 | b,x :: l=>decide (b<x) && (decide (x<N) && incB N x l)
def wallB (m:MZ) (ch:List Int) (t:Nat) (s:List Int):Bool:=s.all fun n=>(Bh m n).all fun k=>!(ze m t k && !decide (k∈ch)) || decide (k∈s)
def cutB (m:MZ) (ch:List Int) (t:Int) (s:List Int) (nk:Nat):Bool:=
 if t<zF m ch\/(m.tasks.length:Int)<=t\/(t=zF m ch/\s=[])\/nk≠0 then false
 else incB m.n (-1) s && (!(s.any fun n=>decide (n∈(m.tasks.getD t.toNat ([],[])).2)) && ((Aj m ch t.toNat).all (fun n=>decide (n∈s)) && wallB m ch t.toNat s))
mutual
def AU (m:MZ):PT->List Int->Bool
 | .node t s ks,ch=>if m.tasks.length<=zF m ch then false else if t≠zF m ch\/s≠[] then cutB m ch t s ks.length else AT m ks ch (zu m ch)
def AT (m:MZ):List PT->List Int->List Int->Bool
 | [],_,[]=>true
 | k :: ks,ch,n :: l=>AU m k (ch++[n]) && AT m ks ch l
 | [],_,_ :: _=>false
 | _ :: _,_,[]=>false
end
def AR (m:MZ) (p:PT):Bool:=decide (Bq m=0) && (decide (0<m.tasks.length) && (decide (p.size<=3000) && AU m p []))
theorem mem_flat_iff {x:Int}:x∈ps.flatten↔∃i,x∈ps.getD i []:=by
 rw [List.mem_flatten];constructor
 ·rintro ⟨p,hp,o⟩;obtain ⟨i,B,rfl⟩:=Ex hp;exact ⟨i,by rw [DP,DO B];exact o⟩
 ·rintro ⟨i,o⟩;by_cases B:i<ps.length
  ·exact ⟨_,getD_mem B,o⟩
  ·rw [DP,Ek (by omega)] at o;cases o
structure PathR (m:MZ) (t:Nat) (p:List Int):Prop where
 hd:∀x,p.head?=some x->x∈(m.tasks.getD t ([],[])).1
 fr:∀x∈p,ze m t x=true
 nb:∀k x y,p[k]?=some x->p[k+1]?=some y->y∈zo m x
def FinP (m:MZ) (t:Nat) (p:List Int):Prop:=∃x,p.getLast?=some x/\x∈(m.tasks.getD t ([],[])).2
theorem PathR.nil (m:MZ) (t:Nat):PathR m t []:=⟨(fun x h=>by cases h),(fun x h=>by cases h),(fun k x y h=>by simp at h)⟩
theorem PathR.snoc {m:MZ} {t:Nat} {p:List Int} {n:Int} (h:PathR m t p) (hf:ze m t n=true) (h0:p=[]->n∈(m.tasks.getD t ([],[])).1) (h1:∀x,p.getLast?=some x->n∈zo m x):PathR m t (p++[n]):=by
 refine ⟨fun x hx=>?_,fun x hx=>?_,fun k x y hx o=>?_⟩
 ·cases p with
  | nil=>
   have:n=x:=by simpa using hx
   subst this;exact h0 rfl
  | cons a p=>exact h.hd x (by simpa using hx)
 ·rcases EH.1 hx with hx | hx
  ·exact h.fr x hx
  ·rw [Ey] at hx;subst hx;exact hf
 ·rcases En (k+1) p.length with hk | hk
  ·rw [DW (by omega)] at hx;rw [DW hk] at o;exact h.nb k x y hx o
  ·have B:k+1<(p++[n]).length:=by
    rcases En (k+1) (p++[n]).length with h2 | h2
    ·exact h2
    ·rw [Ek h2] at o;cases o
   have D:k+1=p.length:=by simp at B;omega
   rw [DX (by omega),show k+1 - p.length=0 from by omega] at o;have:n=y:=by simpa using o
   subst this;rw [DW (by omega)] at hx;refine h1 x ?_;rw [List.getLast?_eq_getElem?,show p.length - 1=k from by omega];exact hx
structure PsR (m:MZ) (ps:List (List Int)):Prop where
 one:∀t p,ps[t]?=some p->PathR m t p
 fin:∀t p,ps[t]?=some p->t+1<ps.length->FinP m t p
theorem cand_step (h:n∈BV m ps us):ze m (ps.length - 1) n=true/\((ps.getD (ps.length - 1) [])=[]->n∈(m.tasks.getD (ps.length - 1) ([],[])).1)/\(∀x,(ps.getD (ps.length - 1) []).getLast?=some x->n∈zo m x):=by
 unfold BV at h
 split at h
 ·cases h
 ·split at h
  ·rename_i o
   obtain ⟨h1,h2⟩:=EO.1 h;simp only [Ed] at h2;exact ⟨h2.1,fun _=>mem_sortL.1 (DA h1),fun x D=>by rw [o] at D;cases D⟩
  ·rename_i x o
   obtain ⟨h1,h2⟩:=EO.1 h;unfold zD at h2;simp only [Ed] at h2;refine ⟨h2.1.1.1,(fun h0=>by rw [h0] at o;cases o),fun y B=>?_⟩;rw [o] at B;injection B with B;subst B;exact h1
theorem PsR.add (h:PsR m ps) (hp:0<ps.length) (I:n∈BV m ps us):PsR m (BQ ps n):=by
 obtain ⟨h1,h2,h3⟩:=cand_step I;obtain ⟨qs,p,rfl,he⟩:=addN_eq hp n;rw [he];have G:(qs++[p]).length - 1=qs.length:=by simp
 have E:(qs++[p]).getD qs.length []=p:=by simp
 rw [G] at h1 h2 h3;rw [E] at h2 h3;refine ⟨fun t q B=>?_,fun t q B ht=>?_⟩
 ·rcases En t qs.length with o | hge
  ·rw [DW o] at B;exact h.one t q (by rw [DW o];exact B)
  ·have D:t=qs.length:=by
    rcases En t (qs++[p++[n]]).length with h4 | h4
    ·simp at h4;omega
    ·rw [Ek h4] at B;cases B
   subst D;rw [DX (DR _),Nat.sub_self] at B;have:p++[n]=q:=by simpa using B
   subst this;exact (h.one qs.length p (by simp)).snoc h1 h2 h3
 ·have o:t<qs.length:=by simp at ht;omega
  rw [DW o] at B;exact h.fin t q (by rw [DW o];exact B) (by simp;omega)
theorem PsR.with {m:MZ} {ps:List (List Int)} {us:List Int} {n:Int} (h:PsR m ps) (hp:0<ps.length) (G:n∈BV m ps us):PsR m (Bv m ps n):=by
 have h1:=h.add hp G;unfold Bv
 split
 ·rename_i hf
  have o:(BQ ps n).length=ps.length:=CD
  have hF:∀t p,(BQ ps n)[t]?=some p->t+1=ps.length->FinP m t p:=fun t p ht he=>by
   have h2:=hf.1;unfold finB at h2;rw [o,show ps.length - 1=t from by omega,DP,ht] at h2;simp only [Ew] at h2
   split at h2
   ·cases h2
   ·rename_i x I
    exact ⟨x,I,EV h2⟩
  refine ⟨fun t p ht=>?_,fun t p ht B=>?_⟩
  ·rcases En t (BQ ps n).length with h2 | h2
   ·rw [DW h2] at ht;exact h1.one t p ht
   ·rw [DX h2] at ht
    have D:p=[]:=by
     cases E:t - (BQ ps n).length with
     | zero=>rw [E] at ht;simpa using ht.symm
     | succ j=>rw [E] at ht;simp at ht
    subst D;exact PathR.nil m t
  ·have h2:t<(BQ ps n).length:=by simp at B;omega
   rw [DW h2] at ht;rcases En (t+1) (BQ ps n).length with h3 | h3
   ·exact h1.fin t p ht h3
   ·exact hF t p ht (by omega)
 ·exact h1
theorem zy.psR (h:zy m ch):PsR m (Aw m ch):=by
 induction h with
 | nil=>
  rw [psOf_nil];unfold ps0
  split
  ·exact ⟨fun t p h=>by simp at h,fun t p h=>by simp at h⟩
  ·refine ⟨fun t p h=>?_,fun t p h B=>by simp at B⟩
   match t,h with
   | 0,h=>
    have:p=[]:=by simpa using h.symm
    subst this;exact PathR.nil m 0
 | @snoc ch n h o ih=>
  rw [Db];exact ih.with (h.psOk.pn (BS (BW o))) o
theorem zy.all (h:zy m ch) (o:cmpC m ch=true):(Aw m ch).length=m.tasks.length/\(∀t p,(Aw m ch)[t]?=some p->PathR m t p/\FinP m t p):=by
 have B:=h.psR;have D:=h.psOk;unfold cmpC cmpB at o;rw [ES,Eb,Ed,Eb] at o;rcases o with h0 | ⟨h0,h1⟩
 ·have:=D.pl;refine ⟨by omega,fun t p ht=>?_⟩;rw [Ek (by omega)] at ht;cases ht
 ·refine ⟨h0,fun t p ht=>⟨B.one t p ht,?_⟩⟩
  have E:t<(Aw m ch).length:=by
   rcases En t (Aw m ch).length with h2 | h2
   ·exact h2
   ·rw [Ek h2] at ht;cases ht
  rcases En (t+1) (Aw m ch).length with h2 | h2
  ·exact B.fin t p ht h2
  ·unfold finB at h1;rw [show (Aw m ch).length - 1=t from by omega,DP,ht] at h1;simp only [Ew] at h1
   split at h1
   ·cases h1
   ·rename_i x G
    exact ⟨x,G,EV h1⟩
theorem okC_of (o:Bq m=0) (h:zy m ch):DM m ch=true:=by
 unfold DM;rw [DU o,BY.2 h];rfl
theorem curF_eq {m:MZ} {pp:List (List Int)} {c:Nat}:∀(f t:Nat),t<=c->c<=t+f->(∀j,t<=j->j<c->j<pp.length/\endB m pp j=true)->¬ (c<pp.length/\endB m pp c=true)->curF m pp f t=c
 | 0,t,h0,h1,_,_=>by unfold curF;omega
 | f+1,t,h0,h1,h2,h3=>by
  unfold curF;by_cases h:t=c
  ·subst h;rw [if_neg h3]
  ·rw [if_pos (h2 t (DR _) (by omega))];exact curF_eq f (t+1) (by omega) (by omega) (fun j B o=>h2 j (by omega) o) h3
theorem fin_last (h:zy m ch) (o:(Aw m ch).length<m.tasks.length):finB m (Aw m ch)=false:=by
 have B:∀l:List (List Int),finB m (l++[[]])=false:=fun l=>by
  unfold finB
  have:(l++[([]:List Int)]).getD ((l++[([]:List Int)]).length - 1) []=[]:=by
   rw [DZ,Er,Nat.add_sub_cancel,DP,DX (DR _)];simp
  rw [this];rfl
 cases h with
 | nil=>
  rw [psOf_nil] at o⊢;unfold ps0 at o⊢
  split
  ·rename_i h0;omega
  ·exact B []
 | @snoc ch n h D=>
  rw [Db] at o⊢;unfold Bv at o⊢
  split
  ·exact B _
  ·rename_i h0
   rw [if_neg h0,CD] at o
   cases hf:finB m (BQ (Aw m ch) n) with
   | false=>rfl
   | true=>exact absurd ⟨hf,o⟩ h0
structure Cur (m:MZ) (ch:List Int) (qs:List (List Int)) (a:List Int):Prop where
 ps:Aw m ch=qs++[a]
 lt:qs.length<m.tasks.length
 cur:zF m ch=qs.length
 pp:zm m ch=if a=[] then qs else qs++[a]
theorem ne_of_fin (h:FinP m t p):p≠[]:=by
 obtain ⟨x,o,-⟩:=h;intro e;subst e;cases o
theorem endB_fin {pp:List (List Int)} (hp:pp[t]?=some p) (h:FinP m t p):endB m pp t=true:=by
 obtain ⟨x,o,h2⟩:=h;unfold endB;rw [DP,hp,Ew,o];exact DU h2
theorem filter_ne (h:∀q∈l,q≠[]):l.filter (fun p=>decide (p.length≠0))=l:=
 List.filter_eq_self.2 fun q o=>DU (fun e=>h q o (List.length_eq_zero_iff.1 e))
theorem cur_of (hc:Bq m=0) (h:zy m ch):(cmpC m ch=true/\zF m ch=m.tasks.length)\/(cmpC m ch=false/\∃qs a,Cur m ch qs a):=by
 have g:=AN.of hc;have hO:=h.psOk;have hR:=h.psR;have Q:zm m ch=(Aw m ch).filter (fun p=>decide (p.length≠0)):=by unfold zm;rw [if_pos (okC_of hc h)]
 cases D:cmpC m ch with
 | true=>
  left
  obtain ⟨h1,h2⟩:=h.all D
  have L:zm m ch=Aw m ch:=by
   rw [Q];refine filter_ne fun q hq=>?_
   obtain ⟨i,hi,rfl⟩:=Ex hq;exact ne_of_fin (h2 i _ (DO hi)).2
  refine ⟨rfl,?_⟩;unfold zF;rw [L];refine curF_eq _ _ (Ef _) (by omega) (fun j _ o=>?_) (fun hx=>by omega);have J:j<(Aw m ch).length:=by omega
  exact ⟨J,endB_fin (DO J) (h2 j _ (DO J)).2⟩
 | false=>
  right
  refine ⟨rfl,?_⟩;have ht:=BS (ps:=Aw m ch) D;have I:=hO.pn ht;rcases List.eq_nil_or_concat (Aw m ch) with he | ⟨qs,a,he⟩
  ·rw [he] at I;cases I
  ·rw [List.concat_eq_append] at he;have G:(Aw m ch).length=qs.length+1:=by rw [he];simp
   have E:∀j (o:j<qs.length),FinP m j qs[j]:=fun j o=>hR.fin j _ (by rw [he,DW o,DO o]) (by omega)
   have a2:∀q∈qs,q≠[]:=fun q hq=>by
    obtain ⟨i,hi,rfl⟩:=Ex hq;exact ne_of_fin (E i hi)
   have B:zm m ch=if a=[] then qs else qs++[a]:=by
    rw [Q,he,EF,filter_ne a2];by_cases K:a=[]
    ·subst K;simp
    ·rw [if_neg K,filter_ne (l:=[a]) (by simpa using K)]
   have a8:=hO.pl;refine ⟨qs,a,he,by omega,?_,B⟩
   have o:∀j (o:j<qs.length),(zm m ch)[j]?=some qs[j]:=fun j o=>by
    rw [B]
    split
    ·exact DO o
    ·rw [DW o,DO o]
   unfold zF;refine curF_eq _ _ (Ef _) ?_ (fun j _ O=>?_) ?_
   ·rw [B];split <;> simp
   ·have h3:=o j O;obtain ⟨U,-⟩:=List.getElem?_eq_some_iff.1 h3;exact ⟨U,endB_fin h3 (E j O)⟩
   ·rintro ⟨U,V⟩;have K:a≠[]:=fun e=>by rw [B,if_pos e] at U;omega
    have h6:(zm m ch).getD qs.length []=a:=by
     rw [B,if_neg K,DP,DX (DR _)];simp
    unfold endB at V;rw [h6] at V
    have M:finB m (Aw m ch)=true:=by
     unfold finB;rw [G,Nat.add_sub_cancel]
     have:(Aw m ch).getD qs.length []=a:=by
      rw [he,DP,DX (DR _)];simp
     rw [this];exact V
    unfold cmpC cmpB at D;rw [M,Bool.and_true,Bool.or_eq_false_iff,Eo,Eo] at D;have h7:qs.length+1<m.tasks.length:=by omega
    exact absurd M (by rw [fin_last h (by rw [G];exact h7)];simp)
theorem headP_range {a:List Int} (D:Bq m=0) (B:zy m ch) (h:Cur m ch qs a) (ht:t<m.tasks.length):∀x∈Aj m ch t,0<=x/\x<m.n:=by
 have g:=AN.of D;intro x o;unfold Aj at o
 split at o
 ·rw [Option.mem_toList] at o;have h1:x∈(zm m ch).flatten:=mem_flat_iff.2 ⟨t,List.mem_of_getLast? o⟩;refine (B.range g).1 x ?_;rw [<-B.psOk.fl,h.ps];rw [h.pp] at h1
  split at h1
  ·rw [List.flatten_append];exact List.mem_append_left _ h1
  ·exact h1
 ·rw [EO,DP,DO ht] at o;exact g.tn _ (DS ht) x (.inl o.1)
theorem sideP_eq (o:Bq m=0) (ht:t<m.tasks.length):BI m ch t=Cm m t (Aj m ch t) ch:=by
 unfold BI Cf;rw [if_pos ⟨o,by omega,by omega⟩,Int.toNat_natCast]
inductive All2 (P:Int->PT->Prop):List Int->List PT->Prop
 | nil:All2 P [] []
 | cons {n:Int} {p:PT} {l:List Int} {ps:List PT}:P n p->All2 P l ps->All2 P (n :: l) (p :: ps)
theorem kidsR_ok {f:Int->Nat->Int×PT×Nat} {P:Int->PT->Prop}:∀(l:List Int) (k:Nat) (acc:List PT),(∀n∈l,∀k,k<=3000->(f n k).1=0->P n (f n k).2.1/\(f n k).2.2=k+(f n k).2.1.size/\(f n k).2.2<=3000)->k<=3000->(zJ f l k acc).1=0->
  ∃ps,(zJ f l k acc).2.1=acc++ps/\All2 P l ps/\(zJ f l k acc).2.2=k+PT.sizeL ps/\(zJ f l k acc).2.2<=3000
 | [],k,acc,_,o,_=>⟨[],by simp [zJ],.nil,by simp [zJ,PT.sizeL],o⟩
 | n :: l,k,acc,hf,o,h=>by
  unfold zJ at h⊢;by_cases h0:(f n k).1=0
  ·rw [if_pos h0] at h⊢;obtain ⟨h1,h2,h3⟩:=hf n (ED ..) k o h0;obtain ⟨ps,q1,q2,q3,q4⟩:=kidsR_ok l _ (acc++[(f n k).2.1]) (fun n' B=>hf n' (El _ B)) h3 h;exact ⟨(f n k).2.1 :: ps,by rw [q1];simp,.cons h1 q2,by rw [q3,h2];simp only [PT.sizeL];omega,q4⟩
  ·rw [if_neg h0] at h;exact absurd h h0
theorem holdsL_of {l:List Int} {ps:List PT} (h:All2 (fun n p=>AU m p (ch++[n])=true) l ps):AT m ps ch l=true:=by
 induction h with
 | nil=>simp [AT]
 | cons h1 _ ih=>unfold AT;rw [h1,ih];rfl
theorem incB_of {N:Int}:∀{l:List Int} {b:Int},l.Pairwise (·<·)->(∀x∈l,b<x)->(∀x∈l,x<N)->incB N b l=true
 | [],_,_,_,_=>rfl
 | x :: l,b,hp,h1,h2=>by
  rw [List.pairwise_cons] at hp;unfold incB;rw [DU (h1 x (ED ..)),DU (h2 x (ED ..)),incB_of hp.2 hp.1 (fun y o=>h2 y (El _ o))];rfl
theorem cutT_some (h:cutT m ch=some t):zF m ch<=t/\t<m.tasks.length/\offB m ch t=true:=by
 unfold cutT at h;have h1:=List.find?_some h;have h2:=List.mem_of_find?_eq_some h;obtain ⟨k,o,rfl⟩:=EP.1 h2;rw [EQ] at o;exact ⟨by omega,by omega,h1⟩
theorem cut_holds (B:Bq m=0) (I:zy m ch) (h:cutT m ch=some t):cutB m ch t (BI m ch t) 0=true/\((t:Int)≠zF m ch\/BI m ch t≠[]):=by
 obtain ⟨h1,h2,h3⟩:=cutT_some h;have g:=AN.of B;have d:=g.dim;rcases cur_of B I with ⟨-,U⟩ | ⟨-,qs,a,O⟩
 ·omega
 ·have Q:=sideP_eq (ch:=ch) B h2;have J:=headP_range B I O h2;unfold offB at h3;rw [Ed,ES,Eb,Eb,Bool.not_eq_true'] at h3;obtain ⟨L,h6⟩:=h3;refine ⟨?_,h6.symm.imp (fun h=>by omega) id⟩;unfold cutB;rw [if_neg]
  ·rw [Int.toNat_natCast,L,Bool.not_false,Bool.true_and,Ed,Ed];rw [Q];refine ⟨incB_of (reachL_pw ..) (fun x o=>?_) (fun x o=>?_),?_,?_⟩
   ·have:=((CN d).1 o).range d;omega
   ·exact (((CN d).1 o).range d).2
   ·rw [EU];intro x o;exact DU ((CN d).2 (RP.base o (J x o).1 (J x o).2))
   ·unfold wallB;rw [EU];intro x o;rw [EU];intro y D;have G:=(CN d).1 o;unfold Bh at D
    split at D
    ·by_cases hf:ze m t y=true
     ·by_cases K:y∈ch
      ·rw [DU K];simp
      ·rw [DU ((CN d).2 (G.step D hf K))];simp
     ·have E:ze m t y=false:=by simpa using hf
      rw [E];simp
    ·cases D
  ·rintro (h7 | h7 | ⟨h7,M⟩ | h7)
   ·omega
   ·omega
   ·rcases h6 with h6 | h6
    ·exact h6 M
    ·omega
   ·exact h7 rfl
theorem proveP_ok {m:MZ} (o:Bq m=0):∀(f:Nat) (ch:List Int) (k:Nat),zy m ch->k<=3000->(zj m f ch k).1=0->AU m (zj m f ch k).2.1 ch=true/\(zj m f ch k).2.2=k+(zj m f ch k).2.1.size/\(zj m f ch k).2.2<=3000
 | 0,ch,k,_,_,h=>by simp [zj] at h
 | f+1,ch,k,B,I,h=>by
  unfold zj at h⊢
  split at h
  ·simp at h
  ·rename_i h1
   rw [if_neg h1]
   split at h
   ·simp at h
   ·rename_i h2
    rw [if_neg h2]
    split at h
    ·rename_i t ht
     obtain ⟨h3,G⟩:=cut_holds o B ht;refine ⟨?_,by simp [PT.size,PT.sizeL],by show k+1<=3000;omega⟩;unfold AU;rw [if_neg h1,if_pos G];exact h3
    ·rename_i E
     have e:zu m ch=BK m ch:=by unfold zu;rw [if_pos (okC_of o B)]
     simp only at h⊢
     split at h
     ·rename_i h3
      rw [if_pos h3];obtain ⟨ps,q1,q2,q3,q4⟩:=kidsR_ok (P:=fun n p=>AU m p (ch++[n])=true) (zu m ch) (k+1) [] (fun n E k' D h0=>proveP_ok o f (ch++[n]) k' (.snoc B (by rw [<-e];exact E)) D h0) (by omega) h3;rw [q1,List.nil_append];refine ⟨?_,by rw [q3];simp only [PT.size];omega,q4⟩;unfold AU;rw [if_neg h1,if_neg (by simp)];exact holdsL_of q2
     ·rename_i h3;exact absurd h h3
end
end Go.Proofs.YtjomnbdjajjgfaaGreatDoor
