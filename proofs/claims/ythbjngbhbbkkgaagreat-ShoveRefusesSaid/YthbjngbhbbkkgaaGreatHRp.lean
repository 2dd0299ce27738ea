import Derived.Test.YthbjngbhbbkkgaaGreatHRn
import Derived.Test.YthbjngbhbbkkgaaGreatHRo
set_option linter.unusedVariables false
set_option linter.unusedSimpArgs false
set_option maxRecDepth 100000
set_option maxHeartbeats 16000000
namespace Go.Proofs.YthbjngbhbbkkgaaGreat
variable {ch:List Int} {m:MZ} {ok okc:Nat->Prop} {v vc:Value}
section
open Go.RowKit
attribute [local go_sem ↓] Go.wp_at_zero Go.wp_at_succ
theorem qbehind_calls (w:World) (hm:zw w ok v m) (g:zC m) (hl:Lens m) (k6:zj w okc vc ch) (hc:zx m ch):
  Calls Tryz.prog 124 #[v,vc] w fun e w'=>∃v',e=.returned v'/\Mk w w' v' (cand m ch):=by
 have p8:=hc.len300 g;have g7:=zh hm;obtain ⟨vfr,vup,vts,rfl,o6,_,l8⟩:=hm;obtain ⟨vsf,⟨Af,cf,rfl,r8,l6⟩,k8⟩:=o6;have k3:=zh l8;obtain ⟨vst,⟨At,ct,rfl,r9,-⟩,-⟩:=l8;have g4:=zh k6;obtain ⟨A,c,rfl,r7,hr⟩:=k6;have k2:=zh l6;have j5:=zh k8;have HC:=zh hc;have HL:=zh hl;have HG:=zh g;have t8:=g.tk;have j6:=zh g.fl;have s0:m.free.length<=6:=by rw [g.fl];exact g.tk
 have p1:=g.dim.layer;have s7:=g.dim.n1;obtain ⟨s5,s6⟩:=p1;clear hr hc g hl l6 k8
 go_enter Tryz.func124,Tryz.ntmps124
 go_wp2_with fail
 generalize j1:w.alloc (.cells #[.int .i64 m.w,.int .i64 m.h,.int .i64 m.l,.slice Af m.free.length cf,vup,.slice At m.tasks.length ct] 32)=w1;have B:zb w w1:=by rw [<-j1];exact (zb.refl w).alloc _
 have b1:zk w1 w.heap.size 32 #[.int .i64 m.w,.int .i64 m.h,.int .i64 m.l,.slice Af m.free.length cf,vup,.slice At m.tasks.length ct]:=by rw [<-j1];exact Fu _ _
 clear j1;have r0:∀W,zb w1 W->W.cell? ⟨w.heap.size,0,none⟩=some (.int .i64 m.w):=zb.rule (b1.cell (k:=0) rfl);have r1:∀W,zb w1 W->W.cell? ⟨w.heap.size,1,none⟩=some (.int .i64 m.h):=zb.rule (b1.cell (k:=1) rfl);have r2:∀W,zb w1 W->W.cell? ⟨w.heap.size,2,none⟩=some (.int .i64 m.l):=zb.rule (b1.cell (k:=2) rfl);have r3:∀W,zb w1 W->W.cell? ⟨w.heap.size,3,none⟩=some (.slice Af m.free.length cf):=zb.rule (b1.cell (k:=3) rfl);have r4:∀W,zb w1 W->W.cell? ⟨w.heap.size,4,none⟩=some vup:=zb.rule (b1.cell (k:=4) rfl);have r5:∀W,zb w1 W->W.cell? ⟨w.heap.size,5,none⟩=some (.slice At m.tasks.length ct):=zb.rule (b1.cell (k:=5) rfl);clear b1;have t9:zb w1 w1:=zb.refl w1;refine (qsplit_calls w1 (g7.out.below B) HG.out HL.out (g4.out.below B) HC.out).mono ?_;rintro e w2 ⟨v2,rfl,p2,i8⟩;have hx:zb w1 w2:=p2
 cases b7:zX m ch
 ·obtain ⟨qs,p,f8,a6,l7⟩:=ps_form HC.out b7;have c6:=zh f8;have j4:=zh b7;rw [l7] at i8;obtain ⟨vs,⟨Ap,cp,rfl,i1,e0⟩,f3⟩:=i8;have l5:(qs++[p]).length=qs.length+1:=by simp
  rw [l5] at i1 e0⊢;obtain ⟨bp,ofp,up,rfl,_,i2,j0⟩:=Ai e0 f3 (k:=qs.length) (by omega) (by simp);have l1:(qs++[p])[qs.length]=p:=by simp
  rw [l1] at j0;clear e0 f3 l7 f8 b7 l1 l5;have ru:=zb.rule i2;have q3:zb w2 w2:=zb.refl w2;have s8:decide ((m.tasks.length:Int)<=(qs.length:Int))=false:=EK (by omega);have s9:decide (m.tasks.length<=qs.length)=false:=EK (by omega);have t0:(qs.length:Int)<(qs.length:Int)+1:=by omega
  have k1:=zh j0;obtain ⟨Aq,cq,rfl,k7,i9⟩:=j0;rcases List.eq_nil_or_concat p with rfl | ⟨q,y,rfl⟩
  ·have hz:([]:List Int).length=0:=rfl;rw [hz] at i2 ru k7 k1;obtain ⟨bt,offt,sn,u1,u2,rfl,_,h7,c9,h8,a4,f4⟩:=AJ k3.out a6;have d7:=(HL.out.tl _ (EH a6)).1;have e3:(m.tasks.getD qs.length ([],[])).1=(m.tasks[qs.length]).1:=by simp [a6]
   have Q:Hid (cand m ch=begL m qs.length ch):=cand_beg HG.out c6.out j4.out a6;unfold begL at Q;rw [e3] at Q;obtain ⟨fm,d4⟩:=zad ((m.tasks[qs.length]).1);rw [<-d4] at a4 d7 Q;clear e3 d4 h7 h8 f4;have g6:=zh a4;clear a4;have rt:∀W,zb w1 W->W.cell? ⟨bt,offt+qs.length*3+1,none⟩=some u1:=fun W hW=>zb.rule c9 W (B.trans hW)
   have a5:qs.length<m.free.length:=by rw [j6.out];exact a6
   obtain ⟨bf,off3,uf,rfl,_,U,g9⟩:=Ai k2.out j5.out a5 a5;have J:=HG.out.fn _ (EH a5);obtain ⟨A4,c4,rfl,h9,d9⟩:=g9;have c7:=zh d9;clear d9;have c0:Hid (∀x:Nat,(hx:x<(m.free[qs.length]).length)->(m.free[qs.length])[x]=zi m qs.length (x:Int)):=fun x hx=>by simp [zi,a5,hx]
   obtain ⟨fl,a0⟩:=zad (m.free[qs.length]);rw [<-a0] at U J h9 c7;have c5:Hid (∀x:Nat,(hx:x<fl.length)->fl[x]=zi m qs.length (x:Int)):=by subst a0;exact c0
   clear c0 a0;have rf:∀W,zb w1 W->W.cell? ⟨bf,off3+qs.length,none⟩=some (.slice A4 fl.length c4):=fun W hW=>zb.rule U W (B.trans hW)
   clear c9 U;obtain ⟨N,hN⟩:∃N:Nat,m.w*m.h*m.l=(N:Int):=⟨(m.w*m.h*m.l).toNat,by omega⟩;have k9:fl.length=N:=by have:m.n=m.w*m.h*m.l:=rfl;omega
   have q8:N<=300:=by omega
   have n5:Hid (m.n.toNat=N):=by have:m.n=m.w*m.h*m.l:=rfl;show _=_;omega
   have HN:=zh hN;have g5:=zh k9;obtain ⟨PR,g8⟩:∃PR:Int->Bool,PR=fun k=>decide (k∈fm) && zi m qs.length k && !decide (k∈ch):=⟨_,rfl⟩
   rw [n5.out,<-g8] at Q;have n6:=zh g8;have c8:Hid (Mk w2 w2 (.slice none 0 0) (((List.range 0).map Int.ofNat).filter PR)):=Mk.nil w2;clear g8 J hN k9
   go_wp2_with fail
   go_loopw [8,9] (fun v i wr=>∃k:Nat,k<=N/\i=.int .i64 k/\Hid (Mk w2 wr v (((List.range k).map Int.ofNat).filter PR))) (fun _ i _=>N - (intOf i).toNat)
   case atStart=>exact ⟨0,EU _,rfl,c8⟩
   clear c8
   case round=>
    obtain ⟨k,hk,rfl,hM⟩:=hrel;obtain ⟨wk,rfl⟩:∃wk:World,wk=wr:=⟨_,rfl⟩;have e6:zb w2 wk:=hM.out.ext;have a2:zb w1 wk:=hx.trans e6
    go_wp2_with fail
    refine (AP _ _ _ _ _ _ _ (by omega) (by omega)).mono ?_;rintro e wA ⟨rfl,f1⟩;rw [HN.out];have T:=zh (hM.out.more f1);have a1:zb w1 wA:=a2.trans f1;have f9:zb w2 wA:=e6.trans f1;clear hM e6 a2 f1;by_cases E:k<N
    ·have M:((List.range (k+1)).map Int.ofNat).filter PR=((List.range k).map Int.ofNat).filter PR++[(k:Int)].filter PR:=by
      rw [List.range_succ,Fz,Fv];rfl
     have HS:=zh M;clear M;have i6:(((List.range k).map Int.ofNat).filter PR).length<=k:=EI (Fi _ _) (by simp);obtain ⟨lk,a7⟩:=zad (((List.range k).map Int.ofNat).filter PR);rw [<-a7] at T i6 HS;clear a7;have b2:k<fl.length:=by rw [g5.out];exact E
     obtain ⟨b4,off4,e4,_,V⟩:=Cj c7.out b2 b2;rw [c5.out k b2] at V;subst e4;have rb:∀W,zb w1 W->W.cell? ⟨b4,off4+k,none⟩=some (.bool (zi m qs.length (k:Int))):=fun W hW=>zb.rule V W (B.trans hW)
     clear V;have I:Hid (∀W,zb w1 W->Calls Tryz.prog 12 #[u1,.int .i64 k] W fun e w'=>e=.returned (.bool (decide ((k:Int)∈fm)))/\W=w'):=fun W hW=>zU _ W (g6.out.below (B.trans hW)) (by omega)
     have a9:Hid (∀W,zb w1 W->Calls Tryz.prog 12 #[.slice A ch.length c,.int .i64 k] W fun e w'=>e=.returned (.bool (decide ((k:Int)∈ch)))/\W=w'):=fun W hW=>zU _ W (g4.out.below (B.trans hW)) (by omega)
     have D:Hid (PR k=(decide ((k:Int)∈fm) && zi m qs.length k && !decide ((k:Int)∈ch))):=by rw [n6.out];rfl
     generalize decide ((k:Int)∈fm)=d1 at I D;generalize decide ((k:Int)∈ch)=d2 at a9 D;generalize zi m qs.length (k:Int)=d3 at rb D
     cases d1 <;> cases d2 <;> cases d3
     ·have o:Hid (((List.range (k+1)).map Int.ofNat).filter PR=lk):=by rw [HS.out,Fp (by rw [D.out];simp),List.filter_nil,List.append_nil];exact (by rfl:lk=lk)
      go_wp2_with fail
      refine (I.out _ a1).mono ?_;rintro e w8 ⟨rfl,rfl⟩
      go_wp2_with fail
      go_roundw
      case rel=>exact ⟨k+1,E,by go_num,by rw [o.out];exact T⟩
      case measure=>simp [intOf];omega
     ·have o:Hid (((List.range (k+1)).map Int.ofNat).filter PR=lk):=by rw [HS.out,Fp (by rw [D.out];simp),List.filter_nil,List.append_nil];exact (by rfl:lk=lk)
      go_wp2_with fail
      refine (I.out _ a1).mono ?_;rintro e w8 ⟨rfl,rfl⟩
      go_wp2_with fail
      go_roundw
      case rel=>exact ⟨k+1,E,by go_num,by rw [o.out];exact T⟩
      case measure=>simp [intOf];omega
     ·have o:Hid (((List.range (k+1)).map Int.ofNat).filter PR=lk):=by rw [HS.out,Fp (by rw [D.out];simp),List.filter_nil,List.append_nil];exact (by rfl:lk=lk)
      go_wp2_with fail
      refine (I.out _ a1).mono ?_;rintro e w8 ⟨rfl,rfl⟩
      go_wp2_with fail
      go_roundw
      case rel=>exact ⟨k+1,E,by go_num,by rw [o.out];exact T⟩
      case measure=>simp [intOf];omega
     ·have o:Hid (((List.range (k+1)).map Int.ofNat).filter PR=lk):=by rw [HS.out,Fp (by rw [D.out];simp),List.filter_nil,List.append_nil];exact (by rfl:lk=lk)
      go_wp2_with fail
      refine (I.out _ a1).mono ?_;rintro e w8 ⟨rfl,rfl⟩
      go_wp2_with fail
      go_roundw
      case rel=>exact ⟨k+1,E,by go_num,by rw [o.out];exact T⟩
      case measure=>simp [intOf];omega
     ·have o:Hid (((List.range (k+1)).map Int.ofNat).filter PR=lk):=by rw [HS.out,Fp (by rw [D.out];simp),List.filter_nil,List.append_nil];exact (by rfl:lk=lk)
      go_wp2_with fail
      refine (I.out _ a1).mono ?_;rintro e w8 ⟨rfl,rfl⟩
      go_wp2_with fail
      go_roundw
      case rel=>exact ⟨k+1,E,by go_num,by rw [o.out];exact T⟩
      case measure=>simp [intOf];omega
     ·have o:Hid (((List.range (k+1)).map Int.ofNat).filter PR=lk++[(k:Int)]):=by rw [HS.out,FB (by rw [D.out];simp),List.filter_nil];exact rfl
      go_wp2_with fail
      refine (I.out _ a1).mono ?_;rintro e w8 ⟨rfl,rfl⟩
      go_wp2_with fail
      refine (a9.out _ a1).mono ?_;rintro e w8 ⟨rfl,rfl⟩
      go_wp2_with (at_builtin;refine AQ rfl _ _ rfl _ lk (k:Int) w2.heap.size wA.heap.size 1 _ rfl rfl (T.out.own.alloc _) ?d1 ?d2 ?d3 ?_)
      (try case d1=>exact zr _ _ _ (by simp))
      case d2=>(first | (simp;done) | (have:=f9.size;simp;omega) | (have:=f9.size;omega))
      case d3=>omega
      intro v' wb d8 d5 h4;have e8:=zh ((T.out.alloc _).app d8 d5);clear d8 d5 h4;go_wp2;go_roundw
      case rel=>exact ⟨k+1,E,by go_num,by rw [o.out];exact e8⟩
      case measure=>simp [intOf];omega
     ·have o:Hid (((List.range (k+1)).map Int.ofNat).filter PR=lk):=by rw [HS.out,Fp (by rw [D.out];simp),List.filter_nil,List.append_nil];exact (by rfl:lk=lk)
      go_wp2_with fail
      refine (I.out _ a1).mono ?_;rintro e w8 ⟨rfl,rfl⟩
      go_wp2_with fail
      go_roundw
      case rel=>exact ⟨k+1,E,by go_num,by rw [o.out];exact T⟩
      case measure=>simp [intOf];omega
     ·have o:Hid (((List.range (k+1)).map Int.ofNat).filter PR=lk):=by rw [HS.out,Fp (by rw [D.out];simp),List.filter_nil,List.append_nil];exact (by rfl:lk=lk)
      go_wp2_with fail
      refine (I.out _ a1).mono ?_;rintro e w8 ⟨rfl,rfl⟩
      go_wp2_with fail
      refine (a9.out _ a1).mono ?_;rintro e w8 ⟨rfl,rfl⟩
      go_wp2_with fail
      go_roundw
      case rel=>exact ⟨k+1,E,by go_num,by rw [o.out];exact T⟩
      case measure=>simp [intOf];omega
    ·obtain rfl:k=N:=by omega
     go_wp2;go_ret;refine ⟨_,rfl,(B.trans hx).mono_mk ?_⟩;rw [Q.out];exact T.out
  ·rw [List.concat_eq_append] at*;obtain ⟨bq,ofq,rfl,_,i3⟩:=zy i9 (k:=q.length) (by simp) (by simp);have l2:(q++[y])[q.length]'(by simp)=y:=by simp
   rw [l2] at i3;have l4:(q++[y]).length=q.length+1:=by simp
   have p9:q.length+1<=300:=by
    have h5:=HC.out.psOk.fl;have h6:=flat_le (ps:=zP m ch) (p:=q++[y]) (by rw [c6.out];simp);rw [h5] at h6;omega
   have p3:0<=y/\y<m.w*m.h*m.l:=(HC.out.range HG.out).1 y (by rw [<-HC.out.psOk.fl,c6.out];simp);rw [l4] at i2 ru k7 k1;have ry:=zb.rule i3;have t1:((q.length:Int)+1==0)=false:=by rw [ET];omega
   have t2:decide ((q.length:Int)+1=0)=false:=EK (by omega);have t3:(q.length:Int)<(q.length:Int)+1:=by omega
   have n8:Hid (∀j (hj:j<q.length),w2.cell? ⟨bq,ofq+j,none⟩=some (.int .i64 q[j])):=fun j hj=>by
    obtain ⟨b9,of9,e9,_,o5⟩:=zy i9 (k:=j) (by simp;omega) (by simp;omega);injection e9 with e9;injection e9 with e1 e2;subst e1 e2;rw [o5,List.getElem_append_left hj]
   have n7:Hid (∀j (hj:j<q.length),0<=q[j]/\q[j]<m.w*m.h*m.l):=fun j hj=>(HC.out.range HG.out).1 _ (by rw [<-HC.out.psOk.fl,c6.out];simp)
   clear i3 l2 i9 l4;obtain ⟨bt,offt,sn,u1,u2,rfl,_,h7,c9,h8,a4,f4⟩:=AJ k3.out a6;have d7:=(HL.out.tl _ (EH a6)).1;have e3:(m.tasks.getD qs.length ([],[])).1=(m.tasks[qs.length]).1:=by simp [a6]
   have Q:Hid (cand m ch=(zl m y).filter (zN m ch qs.length q (m.tasks.getD qs.length ([],[])).1)):=cand_on c6.out j4.out;rw [e3] at Q;obtain ⟨fm,d4⟩:=zad ((m.tasks[qs.length]).1);rw [<-d4] at a4 d7 Q;clear e3 d4 h7 h8 f4;have g6:=zh a4;clear a4;have rt:∀W,zb w1 W->W.cell? ⟨bt,offt+qs.length*3+1,none⟩=some u1:=fun W hW=>zb.rule c9 W (B.trans hW)
   have a5:qs.length<m.free.length:=by rw [j6.out];exact a6
   obtain ⟨bf,off3,uf,rfl,_,U,g9⟩:=Ai k2.out j5.out a5 a5;have J:=HG.out.fn _ (EH a5);obtain ⟨A4,c4,rfl,h9,d9⟩:=g9;have c7:=zh d9;clear d9;have c0:Hid (∀x:Nat,(hx:x<(m.free[qs.length]).length)->(m.free[qs.length])[x]=zi m qs.length (x:Int)):=fun x hx=>by simp [zi,a5,hx]
   obtain ⟨fl,a0⟩:=zad (m.free[qs.length]);rw [<-a0] at U J h9 c7;have c5:Hid (∀x:Nat,(hx:x<fl.length)->fl[x]=zi m qs.length (x:Int)):=by subst a0;exact c0
   clear c0 a0;have rf:∀W,zb w1 W->W.cell? ⟨bf,off3+qs.length,none⟩=some (.slice A4 fl.length c4):=fun W hW=>zb.rule U W (B.trans hW)
   clear c9 U;have g5:Hid ((fl.length:Int)=m.n):=J;clear J;have o8:=Bc m y
   go_wp2_with fail
   obtain ⟨m3,m4⟩:=p3;have t6:IntKind.i64.wrap ((q.length:Int)+1 - 1)=(q.length:Int):=by rw [Fb];omega
   have q1:IntKind.i64.wrap (q.length:Int)=(q.length:Int):=by rw [Fb];omega
   have t4:(0:Int)<=(q.length:Int):=by omega
   have hR:=zh (zb.refl w2)
   go_region_held3 (fun w'=>zb w1 w'/\zb w2 w')
    (first | (exact DJ hx) | (exact held_ext (by assumption) k5))
    ((go_at_call 81;refine (Es m y _ (g7.out.below (B.trans hx.drew)) HG.out.dim m3 m4).mono ?_;rintro e w9 ⟨v9,rfl,k5,i7⟩))
   rename_i hS
   have q5:=zh hS;have j2:zb w1 w9:=hS.1;have l9:zb w2 w9:=hS.2;have j9:Hid (zD w9 w2.drew.heap.size v9 (zl m y)):=i7;obtain ⟨A3,c3,rfl,o4,o9⟩:=AI.of_own i7;clear i7 k5 hS o9;obtain ⟨L,hL⟩:=zad (zl m y);rw [<-hL] at j9 Q o4 o8⊢;have n2:=zh hL;obtain ⟨F,hF⟩:=zad (zN m ch qs.length q fm);rw [<-hF] at Q;have m9:=zh hF;have c8:Hid (Mk w9 w9 (.slice none 0 0) ((L.take 0).filter F)):=Mk.nil w9;clear hL hF
   go_wp2_with fail
   go_loopw [8,11] (fun v i wr=>∃k:Nat,k<=L.length/\i=.int .i64 k/\Hid (Mk w9 wr v ((L.take k).filter F))) (fun _ i _=>L.length - (intOf i).toNat)
   case atStart=>exact ⟨0,EU _,rfl,c8⟩
   clear c8
   case round=>
    obtain ⟨k,hk,rfl,hM⟩:=hrel;obtain ⟨wk,rfl⟩:∃wk:World,wk=wr:=⟨_,rfl⟩;have m0:zb w9 wk:=hM.out.ext;have a2:zb w1 wk:=j2.trans m0;by_cases E:k<L.length
    ·obtain ⟨b3,rfl,f0,b0⟩:=own_at j9.out E
     have M:(L.take (k+1)).filter F=(L.take k).filter F++[L[k]].filter F:=by
      rw [EN E,Fv]
     have m1:0<=L[k]/\L[k]<m.n:=An HG.out.dim m3 (show y<m.n from m4) (by rw [<-n2.out];exact EH E);obtain ⟨x,m2⟩:=zad (L[k]);rw [<-m2] at b0 M m1;have HS:=zh M;clear M m2;obtain ⟨X,hX⟩:∃X:Nat,(X:Int)=x:=⟨x.toNat,by omega⟩;have b2:X<fl.length:=by have:=g5.out;omega
     obtain ⟨b4,off4,e4,_,V⟩:=Cj c7.out b2 b2;rw [c5.out X b2] at V;subst e4;subst hX;have rb:∀W,zb w1 W->W.cell? ⟨b4,off4+X,none⟩=some (.bool (zi m qs.length (X:Int))):=fun W hW=>zb.rule V W (B.trans hW)
     have rx:∀W,zb w9 W->W.cell? ⟨b3,k,none⟩=some (.int .i64 (X:Int)):=zb.rule b0;have r6:(0:Int)<=(X:Int):=by omega
     have o1:(X:Int)<(fl.length:Int):=by omega
     have i6:((L.take k).filter F).length<=k:=EI (Fi _ _) (by simp;omega);obtain ⟨lk,a7⟩:=zad ((L.take k).filter F);rw [<-a7] at hM i6 HS;clear b0 V a7 m1;have I:Hid (∀W,zb w1 W->Calls Tryz.prog 12 #[u1,.int .i64 X] W fun e w'=>e=.returned (.bool (decide ((X:Int)∈fm)))/\W=w'):=fun W hW=>zU _ W (g6.out.below (B.trans hW)) (by omega)
     have a9:Hid (∀W,zb w1 W->Calls Tryz.prog 12 #[.slice A ch.length c,.int .i64 X] W fun e w'=>e=.returned (.bool (decide ((X:Int)∈ch)))/\W=w'):=fun W hW=>zU _ W (g4.out.below (B.trans hW)) (by omega)
     have D:Hid (F X=(zi m qs.length X && !decide ((X:Int)∈ch) && !(q.any fun y=>decide ((X:Int)∈zl m y)) && !decide ((X:Int)∈fm))):=by rw [m9.out];rfl
     generalize decide ((X:Int)∈fm)=d1 at I D;generalize decide ((X:Int)∈ch)=d2 at a9 D;generalize zi m qs.length (X:Int)=d3 at rb D
     go_wp2_with fail
     have t5:(X:Int)<(fl.length:Int):=o1;go_cut [12] (fun s wx=>s=.bool (d3 && !d2 && !d1)/\Hid (zb wk wx))
     case first=>
      cases d1 <;> cases d2 <;> cases d3
      all_goals
       go_quiet (first | (go_at_call 12;with_reducible refine (I.out _ (a2.drewN _)).mono ?_;rintro e w8 ⟨i5,rfl⟩;exact ⟨i5,⟨_,rfl⟩⟩) | (go_at_call 12;with_reducible refine (a9.out _ (a2.drewN _)).mono ?_;rintro e w8 ⟨i5,rfl⟩;exact ⟨i5,⟨_,rfl⟩⟩))
       go_wp2_with fail
       go_meet;exact ⟨rfl,(zb.refl wk).drewN _⟩
     case rest=>
      obtain ⟨rfl,hE⟩:=hcut;have e8:=zh (hM.out.more hE.out);have q2:zb w1 wc:=a2.trans hE.out;clear hM hE rb I a9
      have f7:Hid (F X=((d3 && !d2 && !d1) && !(q.any fun y=>decide ((X:Int)∈zl m y)))):=by
       show _=_;rw [D.out]
       cases d1 <;> cases d2 <;> cases d3 <;> simp
      clear D;obtain ⟨g0,l0⟩:=zad ((d3 && !d2 && !d1));rw [<-l0] at f7⊢;clear l0
      go_wp2_with fail
      go_loopw [12,13] (fun gv i wr=>∃i0:Nat,i0<=q.length/\i=.int .i64 i0/\gv=.bool (g0 && !((q.take i0).any fun y=>decide ((X:Int)∈zl m y)))/\Hid (Mk w9 wr u8 lk)) (fun _ i _=>q.length - (intOf i).toNat)
      case atStart=>exact ⟨0,EU _,rfl,by simp,e8⟩
      clear e8
      case round=>
       obtain ⟨i0,s2,rfl,rfl,hM⟩:=hrel;obtain ⟨wj,rfl⟩:∃wj:World,wj=wr:=⟨_,rfl⟩;obtain ⟨bb,O⟩:=zad ((g0 && !((q.take i0).any fun y=>decide ((X:Int)∈zl m y))));rw [<-O];have a3:zb w9 wj:=hM.out.ext;have e5:zb w1 wj:=j2.trans a3;have g3:zb w2 wj:=l9.trans a3;by_cases G:i0<q.length/\bb=true
       ·obtain ⟨G,rfl⟩:=G;have i4:=n8.out i0 G;obtain ⟨m5,f5⟩:=n7.out i0 G
        have j8:Hid ((g0 && !((q.take (i0+1)).any fun y=>decide ((X:Int)∈zl m y)))=!decide ((X:Int)∈zl m q[i0])):=by
         show _=_;have h1:=O.symm;rw [ES,Bool.not_eq_true'] at h1;rw [EN G,List.any_append,h1.1,h1.2];simp
        obtain ⟨z,hz⟩:=zad (q[i0]);rw [<-hz] at i4 j8 m5 f5;have rz:=zb.rule i4;have a4:(i0:Int)+1<(q.length:Int)+1:=by omega
        have f4:i0<q.length+1:=by omega
        have s3:(i0:Int)<(q.length:Int)+1:=by omega
        have d6:decide ((i0:Int)+1<(q.length:Int)+1)=true:=EJ a4;clear i4 O hz;have n3:=zh (hM.out.drew)
        go_wp2_with fail
        go_region_held3 (fun w'=>(zb w1 w'/\zb w2 w'/\zb w9 w')/\zb wj w')
         (first | (exact ⟨⟨e5.drew,g3.drew,a3.drew⟩,(zb.refl _).drew⟩) | (exact ⟨⟨e5.drew.trans b6,g3.drew.trans b6,a3.drew.trans b6⟩,(zb.refl _).drew.trans b6⟩))
         (first | (go_at_call 81;refine (Es m z _ (g7.out.below (B.trans e5.drew)) HG.out.dim m5 f5).mono ?_;rintro e wn ⟨v9,rfl,b6,l3⟩) | (go_at_call 12;refine (zU (X:Int) _ (AI.of_own l3) (by have:=Bc m z;omega)).mono ?_;rintro e w10 ⟨rfl,rfl⟩))
        rename_i hS
        have n4:=zh (n3.out.more b6);clear b6 l3 hS
        go_wp2_with fail
        go_roundw
        case rel=>exact ⟨i0+1,G,by go_num,by rw [j8.out],n4⟩
        case measure=>simp [intOf];omega
       ·have j7:Hid (F X=bb):=by
         show _=_;rw [f7.out,O];by_cases B:i0<q.length
         ·have o2:bb=false:=by
           cases f0:bb
           ·rfl
           ·exact absurd ⟨B,f0⟩ G
          rw [o2] at O;rw [<-O]
          cases hg:g0
          ·rfl
          ·rw [hg,Bool.true_and] at O;have O:=O.symm;rw [Bool.not_eq_false',FM] at O;obtain ⟨z,f5,p4⟩:=O;rw [Bool.true_and,Bool.not_eq_false',FM];exact ⟨z,List.mem_of_mem_take f5,p4⟩
         ·rw [List.take_of_length_le (by omega)]
        clear O
        have f2:(decide ((i0:Int)+1<(q.length:Int)+1) && bb)=false:=by
         cases f0:bb
         ·rw [Bool.and_false]
         ·rw [Bool.and_true,Fd];intro h;exact G ⟨by omega,f0⟩
        cases bb
        ·have o:Hid ((L.take (k+1)).filter F=lk):=by rw [HS.out,Fp (by rw [j7.out];simp),List.filter_nil,List.append_nil];exact (by rfl:lk=lk)
         clear G f2;by_cases p6:i0<q.length
         ·have d6:decide ((i0:Int)+1<(q.length:Int)+1)=true:=EJ (by omega)
          go_wp2_with fail
          go_roundw
          case rel=>exact ⟨k+1,E,by go_num,by rw [o.out];exact hM⟩
          case measure=>simp [intOf];omega
         ·have d6:decide ((i0:Int)+1<(q.length:Int)+1)=false:=EK (by omega)
          go_wp2_with fail
          go_roundw
          case rel=>exact ⟨k+1,E,by go_num,by rw [o.out];exact hM⟩
          case measure=>simp [intOf];omega
        ·have o:Hid ((L.take (k+1)).filter F=lk++[(X:Int)]):=by rw [HS.out,FB (by rw [j7.out]),List.filter_nil];exact rfl
         have d6:decide ((i0:Int)+1<(q.length:Int)+1)=false:=by rw [Bool.and_true] at f2;exact f2
         have o7:i0=q.length:=by rw [Fd] at d6;omega
         subst o7;clear d6;clear G f2
         go_wp2_with (at_builtin;refine AQ rfl _ _ rfl _ lk (X:Int) w9.heap.size wj.heap.size 1 _ rfl rfl (hM.out.own.alloc _) ?d1 ?d2 ?d3 ?_)
         (try case d1=>exact zr _ _ _ (by simp))
         case d2=>(first | (simp;done) | (have:=a3.size;simp;omega) | (have:=a3.size;omega))
         case d3=>omega
         intro v' wb d8 d5 h4;have k4:=zh ((hM.out.alloc _).app d8 d5);clear d8 d5 h4;go_wp2;go_roundw
         case rel=>exact ⟨k+1,E,by go_num,by rw [o.out];exact k4⟩
         case measure=>simp [intOf];omega
    ·obtain rfl:k=L.length:=by omega
     go_wp2;go_ret;refine ⟨_,rfl,(B.trans j2).mono_mk ?_⟩;rw [Q.out];have:=hM.out
     rwa [ER] at this
 ·have h1:=(splitL_len HC.out).1 b7;have m8:=zh (cand_cmp b7);obtain ⟨vs,⟨Ap,cp,rfl,i1,e0⟩,f3⟩:=i8;rw [h1] at i1⊢;clear e0 f3 h1 b7;go_wp2;go_ret;refine ⟨_,rfl,?_⟩;rw [m8.out];exact Mk.nil' (B.trans hx)
theorem qchosen_calls (w:World) (hm:zw w ok v m) (hl:Lens m) (a4:zj w okc vc ch) (d8:ch.length<=20000000000000):
  Calls Tryz.prog 120 #[v,vc] w fun e w'=>e=.returned (.bool (EA m ch))/\zb w w':=by
 have a0:=zh hm;obtain ⟨vfr,vup,vts,rfl,-,-,-⟩:=hm;have b1:=zh a4;obtain ⟨A,c,rfl,c9,hr⟩:=a4;have HR:=zh hr;have HL:=zh hl;clear hr hl;obtain ⟨ck,a5⟩:=zad (AO m);have J:=zh a5;clear a5
 go_enter Tryz.func120,Tryz.ntmps120
 go_wp2_with fail
 generalize T:w.alloc (.cells #[.int .i64 m.w,.int .i64 m.h,.int .i64 m.l,vfr,vup,vts] 32)=w1;have z:zb w w1:=by rw [<-T];exact (zb.refl w).alloc _
 have a7:zk w1 w.heap.size 32 #[.int .i64 m.w,.int .i64 m.h,.int .i64 m.l,vfr,vup,vts]:=by rw [<-T];exact Fu _ _
 clear T;obtain ⟨m0,m1,m2,m3,m4,m5⟩:=zA a7;have c0:=zb.rule m0;have c1:=zb.rule m1;have c2:=zb.rule m2;have c3:=zb.rule m3;have c4:=zb.rule m4;have c5:=zb.rule m5;clear m0 m1 m2 m3 m4 m5 a7;refine (Db w1 (a0.out.below z) HL.out).mono ?_;rintro e w2 ⟨rfl,U⟩;have U:zb w1 w2:=U;have a3:zb w w2:=z.trans U;rw [<-J.out];by_cases h0:ck=0
 case neg=>
  have e3:(ck==0)=false:=by rw [ET];exact h0
  have e4:(ck != 0)=true:=by rw [bne_iff_ne];exact h0
  have D:Hid (EA m ch=false):=by show _=_;unfold EA;rw [<-J.out,EK h0];rfl
  clear h0
  go_wp2_with fail
  go_ret;exact ⟨ze D.out.symm,a3⟩
 case pos=>
  subst h0;have HG:=zh (zC.of J.out.symm);have e0:=HG.out.dim.n1;have b8:=HG.out.dim.layer;have Q:Hid (EA m ch=isChB m ch):=by show _=_;unfold EA;rw [<-J.out];rfl
  go_wp2_with fail
  refine (AP m.w m.h m.l vfr vup vts w2 (by omega) (by omega)).mono ?_;rintro e w3 ⟨rfl,a8⟩;have b3:zb w w3:=a3.trans a8;have a2:zb w1 w3:=zb.trans ‹zb w1 w2› a8;by_cases M:m.w*m.h*m.l<(ch.length:Int)
  ·have a6:decide (m.w*m.h*m.l<(ch.length:Int))=true:=EJ M
   have D:Hid (EA m ch=false):=by
    show _=_;rw [Q.out,Bool.eq_false_iff];intro h;have h1:=(Bn.1 h).len HG.out;have h2:m.n=m.w*m.h*m.l:=rfl;omega
   go_wp2_with fail
   go_ret;exact ⟨ze D.out.symm,b3⟩
  ·have a6:decide (m.w*m.h*m.l<(ch.length:Int))=false:=EK M;have b5:ch.length<=300:=by omega
   go_wp2_with fail
   clear a6;go_loopw [5] (fun i wr=>∃k:Nat,k<=ch.length/\i=.int .i64 k/\Hid (zx m (ch.take k))/\Hid (zb w1 wr)) (fun i _=>ch.length - (intOf i).toNat)
   case atStart=>exact ⟨0,EU _,rfl,by rw [List.take_zero];exact zx.nil,a2⟩
   case round=>
    obtain ⟨k,hk,rfl,hI,hX⟩:=hrel;obtain ⟨wk,rfl⟩:∃wk:World,wk=wr:=⟨_,rfl⟩;have o:zb w1 wk:=hX.out;by_cases G:k<ch.length
    ·obtain ⟨b,off,rfl,_,B⟩:=zy HR.out G G;have V:=zh (intsTake b1.out (show k<=ch.length by omega));have I:=zh (EN G)
     have a1:Hid (ch[k]∉cand m (ch.take k)->EA m ch=false):=fun hn=>by
      rw [Q.out,Bool.eq_false_iff];intro h;exact hn ((Bn.1 h).at G)
     obtain ⟨x,a9⟩:=zad (ch[k]);rw [<-a9] at B I a1;clear a9;have rx:∀W,zb w1 W->W.cell? ⟨b,off+k,none⟩=some (.int .i64 x):=fun W hW=>zb.rule B W (z.trans hW)
     have d7:(k:Int)<=(c:Int):=by omega
     have d6:k<=c:=by omega
     have d4:(0:Int)<=(k:Int):=by omega
     have d5:(k:Int)<(ch.length:Int):=by omega
     clear B;have b9:=CT HL.out (ch.take k)
     go_wp2_with fail
     go_region_held3 (fun w'=>zb w1 w'/\zb wk w')
      (first | (exact ⟨o.drew,(zb.refl _).drew⟩) | (exact ⟨o.drew.trans L.ext,(zb.refl _).drew.trans L.ext⟩))
      (first | (go_at_call 124;refine (qbehind_calls _ (a0.out.below (z.trans o.drew)) HG.out HL.out (V.out.below (z.trans o.drew)) hI.out).mono ?_;rintro e wn ⟨v9,rfl,L⟩) | (go_at_call 12;refine (zU x _ L.ints (by omega)).mono ?_;rintro e w10 ⟨rfl,rfl⟩))
     rename_i hS
     have O:zb w1 wn:=hS.1;clear L hS;by_cases E:x∈cand m (ch.take k)
     ·rw [EJ E];have b4:Hid (zx m (ch.take (k+1))):=by show zx _ _;rw [I.out];exact zx.snoc hI.out E
      clear E
      go_wp2_with fail
      go_roundw
      case rel=>exact ⟨k+1,G,by go_num,b4,O⟩
      case measure=>simp [intOf];omega
     ·rw [EK E];have D:=zh (a1.out E);clear E;go_wp2;go_ret;exact ⟨ze D.out.symm,z.trans O⟩
    ·obtain rfl:k=ch.length:=by omega
     have D:Hid (EA m ch=true):=by
      show _=_;rw [Q.out,Bn];have:=hI.out
      rwa [ER] at this
     go_wp2;go_ret;exact ⟨ze D.out.symm,z.trans o⟩
theorem qCandidates_calls (w:World) (hm:zw w ok v m) (hl:Lens m) (L:zj w okc vc ch) (O:ch.length<=20000000000000):
  Calls Tryz.prog 97 #[v,vc] w fun e w'=>∃v',e=.returned v'/\Mk w w' v' (zO m ch):=by
 have I:=zh hm;obtain ⟨vfr,vup,vts,rfl,-,-,-⟩:=hm;have G:=zh L;obtain ⟨A,c,rfl,a4,-⟩:=L;have Q:=zh hl;clear hl;obtain ⟨bb,J⟩:=zad (EA m ch);have z:=zh J;clear J
 go_enter Tryz.func97,Tryz.ntmps97
 go_wp2_with fail
 generalize E:w.alloc (.cells #[.int .i64 m.w,.int .i64 m.h,.int .i64 m.l,vfr,vup,vts] 32)=w1;have o:zb w w1:=by rw [<-E];exact (zb.refl w).alloc _
 have M:zk w1 w.heap.size 32 #[.int .i64 m.w,.int .i64 m.h,.int .i64 m.l,vfr,vup,vts]:=by rw [<-E];exact Fu _ _
 clear E;obtain ⟨m0,m1,m2,m3,m4,m5⟩:=zA M;have c0:=zb.rule m0;have c1:=zb.rule m1;have c2:=zb.rule m2;have c3:=zb.rule m3;have c4:=zb.rule m4;have c5:=zb.rule m5;clear m0 m1 m2 m3 m4 m5 M;refine (qchosen_calls w1 (I.out.below o) Q.out (G.out.below o) O).mono ?_;rintro e w2 ⟨rfl,B⟩;rw [<-z.out];cases bb
 ·have D:Hid (zO m ch=[]):=by show _=_;unfold zO;rw [<-z.out];rfl
  go_wp2_with fail
  go_ret;exact ⟨_,rfl,by rw [D.out];exact Mk.nil' (o.trans B)⟩
 ·have D:Hid (zO m ch=cand m ch):=by show _=_;unfold zO;rw [<-z.out];rfl
  obtain ⟨V,U⟩:=DL z.out.symm;have HG:=zh V;have HC:=zh U;clear V U
  go_wp2_with fail
  refine (qbehind_calls w2 (I.out.below (o.trans B)) HG.out Q.out (G.out.below (o.trans B)) HC.out).mono ?_;rintro e w3 ⟨v3,rfl,T⟩;have HM:=zh ((o.trans B).mono_mk T);clear T
  go_wp2_with fail
  go_ret;exact ⟨_,rfl,by rw [D.out];exact HM.out⟩
theorem reachL_le (m:MZ) (t:Nat) (f us:List Int) (g:zC m):(Cg m t f us).length<=20000000000000:=by
 unfold Cg;refine EI (Fi _ _) ?_;have h1:=g.dim.n1;have h2:m.n=m.w*m.h*m.l:=rfl;simp;omega
def zq (m:MZ) (ch:List Int):List (List Int):=if EA m ch=true then (zP m ch).filter (fun p=>decide (p.length≠0)) else []
theorem splitL_drop (h:zx m ch):∀qs p,AH m ch=qs++[p]->(∀q∈qs,q≠[])/\((zP m ch).filter fun p=>decide (p.length≠0))=(if p=[] then qs else qs++[p]):=by
 induction h with
 | nil=>
  intro qs p h;rw [splitL_nil] at h
  have h1:qs=[]/\p=[]:=by
   cases qs with
   | nil=>simp at h;exact ⟨rfl,h⟩
   | cons a l=>
    have:=congrArg List.length h;simp at this
  obtain ⟨rfl,rfl⟩:=h1;refine ⟨fun q hq=>(by cases hq),?_⟩;rw [psOf_nil];unfold ps0
  split <;> simp
 | @snoc ch n h J ih=>
  intro qs p G;have I:=Cb J;obtain ⟨qs0,p0,h1,h2,h3⟩:=ps_form h I;obtain ⟨i1,i2⟩:=ih qs0 p0 h3;have o:=split_step n h1 h2;rw [G] at o
  have z:∀(ps:List (List Int)) (a:List Int),(∀q∈ps,q≠[])->(ps++[a]).filter (fun p=>decide (p.length≠0))=if a=[] then ps else ps++[a]:=fun ps a E=>by
   rw [Fv,List.filter_eq_self.2 (fun q hq=>by have:=E q hq;simpa using this)];by_cases B:a=[]
   ·rw [if_pos B];subst B;simp
   ·rw [if_neg B];congr 1;simp [B]
  have key:∀q∈qs,q≠[]:=by
   intro q hq
   split at o
   ·have D:qs=qs0++[p0++[n]]:=(List.append_inj' o rfl).1;rw [D] at hq;rcases Fx.1 hq with hq | hq
    ·exact i1 q hq
    ·rw [Fo] at hq;subst hq;simp
   ·rw [List.append_nil] at o;have D:qs=qs0:=(List.append_inj' o rfl).1;rw [D] at hq;exact i1 q hq
  refine ⟨key,?_⟩;rw [<-z qs p key,<-G];unfold AH;rw [Fv]
  split <;> simp
theorem pathsO_eq (h:EA m ch=true) {qs:List (List Int)} {p:List Int} (o:AH m ch=qs++[p]):zq m ch=if p=[] then qs else qs++[p]:=by
 unfold zq;rw [if_pos h];exact (splitL_drop (DL h).2 qs p o).2
theorem splitL_last (h:zx m ch):∃qs p,AH m ch=qs++[p]:=by
 have z:=splitL_len h
 have o:0<(AH m ch).length:=by
  cases h:zX m ch
  ·exact (z.2 h).2
  ·have:=z.1 h;omega
 rcases List.eq_nil_or_concat (AH m ch) with h1 | ⟨qs,p,h1⟩
 ·rw [h1] at o;simp at o
 ·exact ⟨qs,p,by rw [h1,List.concat_eq_append]⟩
def PathsPost (w:World) (m:MZ) (ch:List Int) (e:Ending) (w':World):Prop:=
 ∃v,e=.returned (.tuple #[v,.bool (EA m ch)])/\zb w w'/\zv w' (fun b=>w.heap.size<=b) v (zq m ch)
theorem intss_take {w:World} {A:Option Addr} {n c N:Nat} {l:List (List Int)} (h:zv w ok (.slice A n c) l) (I:N<=n):zv w ok (.slice A N c) (l.take N):=by
 obtain ⟨vs,⟨A',c',e,J,L,D⟩,he⟩:=h;injection e with e1 e2 e3;subst e1 e2 e3;refine ⟨vs.take N,⟨A,c,by rw [FA,Nat.min_eq_left (by omega)],by rw [FA];omega,by rw [FA,FA];omega,fun hp=>?_⟩,fun i x B=>?_⟩
 ·rw [FA] at hp;obtain ⟨b,off,e,E,o⟩:=D (by omega);refine ⟨b,off,e,E,fun j u z=>o j u ?_⟩;rw [List.getElem?_take] at z
  split at z
  ·exact z
  ·cases z
 ·rw [List.getElem?_take] at B
  split at B
  ·rename_i G
   obtain ⟨u,z,D⟩:=he i x B;exact ⟨u,by rw [List.getElem?_take,if_pos G];exact z,D⟩
  ·cases B
theorem DX (w:World) (hm:zw w ok v m) (hl:Lens m) (a1:zj w okc vc ch) (b5:ch.length<=20000000000000):
  Calls Tryz.prog 94 #[v,vc] w (PathsPost w m ch):=by
 have U:=zh hm;obtain ⟨vfr,vup,vts,rfl,-,-,-⟩:=hm;have Q:=zh a1;obtain ⟨A,c,rfl,d5,-⟩:=a1;have HL:=zh hl;clear hl;obtain ⟨bb,a0⟩:=zad (EA m ch);have z:=zh a0;clear a0
 go_enter Tryz.func94,Tryz.ntmps94
 go_wp2_with fail
 generalize O:w.alloc (.cells #[.int .i64 m.w,.int .i64 m.h,.int .i64 m.l,vfr,vup,vts] 32)=w1;have B:zb w w1:=by rw [<-O];exact (zb.refl w).alloc _
 have a4:zk w1 w.heap.size 32 #[.int .i64 m.w,.int .i64 m.h,.int .i64 m.l,vfr,vup,vts]:=by rw [<-O];exact Fu _ _
 clear O;obtain ⟨m0,m1,m2,m3,m4,m5⟩:=zA a4;have c0:=zb.rule m0;have c1:=zb.rule m1;have c2:=zb.rule m2;have c3:=zb.rule m3;have c4:=zb.rule m4;have c5:=zb.rule m5;clear m0 m1 m2 m3 m4 m5 a4;refine (qchosen_calls w1 (U.out.below B) HL.out (Q.out.below B) b5).mono ?_;rintro e w2 ⟨rfl,E⟩;rw [<-z.out];cases bb
 ·have o:Hid (PathsPost w m ch (.returned (.tuple #[.slice none 0 0,.bool false])) w2):=⟨_,by rw [<-z.out],B.trans E,by unfold zq;rw [<-z.out];exact ⟨[],⟨none,0,rfl,EG _,Ae.nil _ _ _ _⟩,fun i x hx=>by simp at hx⟩⟩
  go_wp2_with fail
  go_ret2
  exact o.out
 ·obtain ⟨hg,hc⟩:=DL z.out.symm;obtain ⟨qs,p,L⟩:=splitL_last hc;have V:=zh (pathsO_eq z.out.symm L);have M:=splitL_len hc
  have b6:(AH m ch).length<=7:=by
   have d8:=hg.tk
   cases h:zX m ch
   ·have:=(M.2 h).1;omega
   ·have:=M.1 h;omega
  have HG:=zh hg;have HC:=zh hc;have D:=zh L;clear hg hc L M
  go_wp2_with fail
  refine (qsplit_calls w2 (U.out.below (B.trans E)) HG.out HL.out (Q.out.below (B.trans E)) HC.out).mono ?_;rintro e w3 ⟨v3,rfl,a9,a6⟩;have b1:=zh a6;obtain ⟨vs,⟨Ap,cp,rfl,b2,a7⟩,a3⟩:=a6;obtain ⟨bp,ofp,up,rfl,_,a2,a8⟩:=Ai a7 a3 (k:=qs.length) (by rw [D.out];simp) (by rw [D.out];simp);have a5:(AH m ch)[qs.length]'(by rw [D.out];simp)=p:=by simp only [D.out];simp
  rw [a5] at a8;obtain ⟨Aq,cq,rfl,b3,-⟩:=a8;have ru:=zb.rule a2;have J:(AH m ch).length=qs.length+1:=by rw [D.out];simp
  rw [J] at b2 b6⊢;have d7:(qs.length:Int)<(qs.length:Int)+1:=by omega
  have c8:zb w3 w3:=zb.refl w3;have T:Hid (zb w w3):=B.trans (E.trans a9);have b9:=E.size;have b8:=B.size
  have I:Hid (zv w3 (fun b=>w.heap.size<=b) (.slice (some ⟨bp,ofp,none⟩) (qs.length+1) cp) (qs++[p])):=by
   have h1:=b1.out;rw [J] at h1;rw [D.out] at h1;exact h1.weaken fun b hb=>by omega
  clear a7 a3 a5 a2 J a9 E b8 b9;by_cases G:p=[]
  ·subst G;have hz:([]:List Int).length=0:=rfl;rw [hz] at ru b3
   have o:Hid (PathsPost w m ch (.returned (.tuple #[.slice (some ⟨bp,ofp,none⟩) qs.length cp,.bool true])) w3):=⟨_,by rw [<-z.out],T.out,by
    rw [V.out,if_pos rfl];have h1:=intss_take I.out (N:=qs.length) (by omega)
    rwa [List.take_append_of_le_length (EG _),ER] at h1⟩
   have b7:(qs.length:Int)<=(cp:Int):=by omega
   go_wp2_with fail
   go_ret2
   exact o.out
  ·have o:Hid (PathsPost w m ch (.returned (.tuple #[.slice (some ⟨bp,ofp,none⟩) (qs.length+1) cp,.bool true])) w3):=⟨_,by rw [<-z.out],T.out,by
    rw [V.out,if_neg G];exact I.out⟩
   have d6:p.length≠0:=fun h=>G (EX h)
   have b7:((p.length:Int)==0)=false:=by rw [ET];omega
   clear G
   go_wp2_with fail
   go_ret2
   exact o.out
end
section
open Go.RowKit
inductive PT where
 | node (task:Int) (side:List Int) (kids:List PT)
def PT.task:PT->Int | .node t _ _=>t
def PT.side:PT->List Int | .node _ s _=>s
def PT.kids:PT->List PT | .node _ _ k=>k
def PT.zero:PT:=.node 0 [] []
def ownM (m:MZ) (k:Nat):MZ:=⟨m.w,m.h,m.l,[m.free.getD k []],m.up,[m.tasks.getD k ([],[])]⟩
def laidK (m:MZ) (ps:List (List Int)) (k:Nat):Bool:=decide (ps.getD k []=[]) || AS (ownM m k) [ps.getD k []]
def By (m:MZ) (ps:List (List Int)):Bool:=decide (AO m=0) && (decide (ps.length=m.tasks.length) && ((List.range ps.length).all (laidK m ps) && decide ps.flatten.Nodup))
def BG (ps:List (List Int)) (t k:Nat):Bool:=decide (k=t) || decide (ps.getD k []≠[])
def keepL (ps:List (List Int)) (t:Nat):List Nat:=(List.range ps.length).filter (BG ps t)
def Bx (m:MZ) (ps:List (List Int)) (t:Nat):MZ:=⟨m.w,m.h,m.l,(keepL ps t).map (m.free.getD · []),m.up,(keepL ps t).map (m.tasks.getD · ([],[]))⟩
def zeroM:MZ:=⟨0,0,0,[],[],[]⟩
def subO (m:MZ) (ps:List (List Int)) (t:Int):MZ:=if (By m ps && AM m t)=true then Bx m ps t.toNat else zeroM
def zI:Nat->List Int->List (List Int)
 | 0,_=>[[]]
 | _+1,[]=>[]
 | k+1,x :: l=>(zI k l).map (x :: ·)++zI (k+1) l
def AV (l:List Int):List (List Int):=(List.range (l.length+1)).flatMap fun k=>zI k l
def BX (ps:List (List Int)):List Int:=((List.range ps.length).filter fun k=>decide (ps.getD k []≠[])).map Int.ofNat
def Cn (ps:List (List Int)) (set:List Int):List (List Int):=set.foldl (fun o k=>o.set k.toNat []) ps
def pushL (m:MZ):List Int->List (List Int)->Option (List (List Int))
 | [],o=>some o
 | k :: l,o=>match BM m k o with
  | none=>none
  | some p=>pushL m l (o.set k.toNat p)
def Dv (m:MZ) (ps:List (List Int)) (t:Int) (set:List Int):Option (List (List Int)):=pushL m (t :: set) (Cn ps set)
def endB (m:MZ) (pp:List (List Int)) (t:Nat):Bool:=match (pp.getD t []).getLast? with
 | none=>false
 | some x=>decide (x∈(m.tasks.getD t ([],[])).2)
def curF (m:MZ) (pp:List (List Int)):Nat->Nat->Nat
 | 0,t=>t
 | f+1,t=>if t<pp.length/\endB m pp t=true then curF m pp f (t+1) else t
def zR (m:MZ) (ch:List Int):Nat:=curF m (zq m ch) (zq m ch).length 0
def AE (m:MZ) (ch:List Int) (t:Nat):List Int:=if t<(zq m ch).length then ((zq m ch).getD t []).getLast?.toList else (m.tasks.getD t ([],[])).1.filter fun n=>zi m t n && !decide (n∈ch)
noncomputable def Cw (m:MZ) (ch:List Int) (t:Nat):List Int:=reachO m t (AE m ch t) ch
noncomputable def offB (m:MZ) (ch:List Int) (t:Nat):Bool:=!((Cw m ch t).any fun n=>decide (n∈(m.tasks.getD t ([],[])).2)) && (decide (Cw m ch t≠[]) || decide (zR m ch<t))
noncomputable def cutT (m:MZ) (ch:List Int):Option Nat:=((List.range (m.tasks.length - zR m ch)).map (zR m ch+·)).find? (offB m ch)
def zZ (f:Int->Nat->Int×PT×Nat):List Int->Nat->List PT->Int×List PT×Nat
 | [],k,acc=>(0,acc,k)
 | n :: l,k,acc=>if (f n k).1=0 then zZ f l (f n k).2.2 (acc++[(f n k).2.1]) else ((f n k).1,[],(f n k).2.2)
noncomputable def zu (m:MZ):Nat->List Int->Nat->Int×PT×Nat
 | 0,_,k=>(53,.zero,k)
 | f+1,ch,k=>
  if m.tasks.length<=zR m ch then (51,.zero,k)
  else if 3000<k+1 then (53,.zero,k+1)
  else match cutT m ch with
   | some t=>(0,.node t (Cw m ch t) [],k+1)
   | none=>
    let r:=zZ (fun n k=>zu m f (ch++[n]) k) (zO m ch) (k+1) []
    if r.1=0 then (0,.node (zR m ch) [] r.2.1,r.2.2) else (r.1,.zero,r.2.2)
noncomputable def BV (m:MZ):Int×PT:=if AO m=0 then ((zu m (m.n.toNat+2) [] 0).1,(zu m (m.n.toNat+2) [] 0).2.1) else (AO m,.zero)
mutual
def PT.size:PT->Nat
 | .node _ _ ks=>1+PT.sizeL ks
def PT.sizeL:List PT->Nat
 | []=>0
 | k :: ks=>k.size+PT.sizeL ks
end
def incB (N:Int):Int->List Int->Bool
 | _,[]=>true
 | b,x :: l=>decide (b<x) && (decide (x<N) && incB N x l)
def wallB (m:MZ) (ch:List Int) (t:Nat) (s:List Int):Bool:=s.all fun n=>(AR m n).all fun k=>!(zi m t k && !decide (k∈ch)) || decide (k∈s)
def cutB (m:MZ) (ch:List Int) (t:Int) (s:List Int) (nk:Nat):Bool:=
 if t<zR m ch\/(m.tasks.length:Int)<=t\/(t=zR m ch/\s=[])\/nk≠0 then false
 else incB m.n (-1) s && (!(s.any fun n=>decide (n∈(m.tasks.getD t.toNat ([],[])).2)) && ((AE m ch t.toNat).all (fun n=>decide (n∈s)) && wallB m ch t.toNat s))
mutual
def Bl (m:MZ):PT->List Int->Bool
 | .node t s ks,ch=>if m.tasks.length<=zR m ch then false else if t≠zR m ch\/s≠[] then cutB m ch t s ks.length else Bk m ks ch (zO m ch)
def Bk (m:MZ):List PT->List Int->List Int->Bool
 | [],_,[]=>true
 | k :: ks,ch,n :: l=>Bl m k (ch++[n]) && Bk m ks ch l
 | [],_,_ :: _=>false
 | _ :: _,_,[]=>false
end
def BD (m:MZ) (p:PT):Bool:=decide (AO m=0) && (decide (0<m.tasks.length) && (decide (p.size<=3000) && Bl m p []))
structure AddR where
 ps:List (List Int)
 mv:List Int
 why:PT
 err:Int
def mvP (ps:List (List Int)) (t k:Nat) (f:List Int) (mv:List Int):List Int:=if k≠t/\ps.getD k []≠f then mv++[(k:Int)] else mv
def CW (ps:List (List Int)) (t:Nat):List Nat->List (List Int)->List (List Int)->List Int->List (List Int)×List Int
 | [],_,o,mv=>(o,mv)
 | k :: l,fd,o,mv=>if BG ps t k=true then CW ps t l fd.tail (o.set k (fd.headD [])) (mvP ps t k (fd.headD []) mv) else CW ps t l fd o mv
noncomputable def endS (m:MZ) (ps:List (List Int)) (t:Nat):RS:=RS.run (Bx m ps t) 20000 ⟨[],zX (Bx m ps t) [],0⟩
noncomputable def AD (m:MZ) (ps:List (List Int)) (t:Nat):AddR:=
 if (endS m ps t).done=false then ⟨[],[],.zero,53⟩
 else if zX (Bx m ps t) (endS m ps t).ch=true then ⟨(CW ps t (List.range ps.length) (zP (Bx m ps t) (endS m ps t).ch) ps []).1,(CW ps t (List.range ps.length) (zP (Bx m ps t) (endS m ps t).ch) ps []).2,.zero,0⟩
 else if (BV (Bx m ps t)).1=0 then ⟨[],[],(BV (Bx m ps t)).2,54⟩ else ⟨[],[],.zero,(BV (Bx m ps t)).1⟩
noncomputable def BW (m:MZ) (ps:List (List Int)) (t:Int):AddR:=
 if (By m ps && (AM m t && decide (ps.getD t.toNat []=[])))=true then
  match (AV (BX ps)).findSome? fun s=>(Dv m ps t s).map fun o=>(o,s) with
  | some r=>⟨r.1,r.2,.zero,0⟩
  | none=>AD m ps t.toNat
 else ⟨[],[],.zero,1⟩
def reachLX (m:MZ) (t:Nat) (f us:List Int):List Int:=((List.range m.n.toNat).map Int.ofNat).filter fun x=>decide (x∈reachX m t f us)
def sideX (m:MZ) (ch:List Int) (t:Nat):List Int:=if AO m=0/\t<m.tasks.length then reachLX m t (AE m ch t) ch else []
theorem side_x (d:Ex m) (ch:List Int) (t:Nat):Cw m ch t=sideX m ch t:=by
 unfold Cw sideX reachO reachLX;by_cases h:AO m=0/\t<m.tasks.length
 ·rw [if_pos h,if_pos ⟨h.1,by omega,by have:=h.2;omega⟩,reachL_x d]
  all_goals rfl
 ·rw [if_neg h,if_neg (fun o=>h ⟨o.1,by have:=o.2.2;omega⟩)]
def offX (m:MZ) (ch:List Int) (t:Nat):Bool:=!((sideX m ch t).any fun n=>decide (n∈(m.tasks.getD t ([],[])).2)) && (decide (sideX m ch t≠[]) || decide (zR m ch<t))
def cutX (m:MZ) (ch:List Int):Option Nat:=((List.range (m.tasks.length - zR m ch)).map (zR m ch+·)).find? (offX m ch)
theorem cut_x (d:Ex m) (ch:List Int):cutT m ch=cutX m ch:=by
 unfold cutT cutX;congr 1;funext t;unfold offB offX;rw [side_x d]
def proveX (m:MZ):Nat->List Int->Nat->Int×PT×Nat
 | 0,_,k=>(53,.zero,k)
 | f+1,ch,k=>
  if m.tasks.length<=zR m ch then (51,.zero,k)
  else if 3000<k+1 then (53,.zero,k+1)
  else match cutX m ch with
   | some t=>(0,.node t (sideX m ch t) [],k+1)
   | none=>
    let r:=zZ (fun n k=>proveX m f (ch++[n]) k) (zO m ch) (k+1) []
    if r.1=0 then (0,.node (zR m ch) [] r.2.1,r.2.2) else (r.1,.zero,r.2.2)
theorem prove_x {m:MZ} (d:Ex m):∀(f:Nat) (ch:List Int) (k:Nat),zu m f ch k=proveX m f ch k
 | 0,ch,k=>rfl
 | f+1,ch,k=>by
  unfold zu proveX;rw [cut_x d]
  have h:(fun n k=>zu m f (ch++[n]) k)=fun n k=>proveX m f (ch++[n]) k:=by
   funext n k;exact prove_x d f _ _
  rw [h];by_cases h1:m.tasks.length<=zR m ch
  ·rw [if_pos h1,if_pos h1]
  ·rw [if_neg h1,if_neg h1];by_cases h2:3000<k+1
   ·rw [if_pos h2,if_pos h2]
   ·rw [if_neg h2,if_neg h2]
    cases cutX m ch with
    | some t=>show (0,PT.node _ (Cw m ch t) _,_)=(0,PT.node _ (sideX m ch t) _,_);rw [side_x d]
    | none=>rfl
def makeX (m:MZ):Int×PT:=if AO m=0 then ((proveX m (m.n.toNat+2) [] 0).1,(proveX m (m.n.toNat+2) [] 0).2.1) else (AO m,.zero)
theorem make_x (d:Ex m):BV m=makeX m:=by
 unfold BV makeX;rw [prove_x d]
theorem subM_dim (d:Ex m) (ps:List (List Int)) (t:Nat):Ex (Bx m ps t):=⟨d.w1,d.w2,d.h1,d.h2,d.l1,d.l2,d.n1,d.up⟩
def endX (m:MZ) (ps:List (List Int)) (t:Nat):RS:=RS.runX (Bx m ps t) 20000 ⟨[],zX (Bx m ps t) [],0⟩
theorem end_x (d:Ex m) (ps:List (List Int)) (t:Nat):endS m ps t=endX m ps t:=run_x (subM_dim d ps t) _ _
def searchX (m:MZ) (ps:List (List Int)) (t:Nat):AddR:=
 if (endX m ps t).done=false then ⟨[],[],.zero,53⟩
 else if zX (Bx m ps t) (endX m ps t).ch=true then ⟨(CW ps t (List.range ps.length) (zP (Bx m ps t) (endX m ps t).ch) ps []).1,(CW ps t (List.range ps.length) (zP (Bx m ps t) (endX m ps t).ch) ps []).2,.zero,0⟩
 else if (makeX (Bx m ps t)).1=0 then ⟨[],[],(makeX (Bx m ps t)).2,54⟩ else ⟨[],[],.zero,(makeX (Bx m ps t)).1⟩
theorem search_x (d:Ex m) (ps:List (List Int)) (t:Nat):AD m ps t=searchX m ps t:=by
 unfold AD searchX;rw [end_x d,make_x (subM_dim d ps t)]
def addX (m:MZ) (ps:List (List Int)) (t:Int):AddR:=
 if (By m ps && (AM m t && decide (ps.getD t.toNat []=[])))=true then
  match (AV (BX ps)).findSome? fun s=>(Dv m ps t s).map fun o=>(o,s) with
  | some r=>⟨r.1,r.2,.zero,0⟩
  | none=>searchX m ps t.toNat
 else ⟨[],[],.zero,1⟩
theorem add_x (d:Ex m) (ps:List (List Int)) (t:Int):BW m ps t=addX m ps t:=by
 unfold BW addX;rw [search_x d]
 all_goals rfl
end
end Go.Proofs.YthbjngbhbbkkgaaGreat
