import Derived.Test.YtjomnbdjajjgfaaGreatDoorWIj
import Derived.Test.YtjomnbdjajjgfaaGreatDoorWIl
set_option linter.unusedVariables false
set_option linter.unusedSimpArgs false
set_option maxRecDepth 100000
set_option maxHeartbeats 16000000
namespace Go.Proofs.YtjomnbdjajjgfaaGreatDoor
variable {Q:Exit->Act->World->Prop} {x:Int} {ps:List (List Int)} {ch us:List Int} {m:MZ} {S bytes g sz:Nat} {X ok okc:Nat->Prop} {o:Oper} {s:Rd} {vc z:Value} {a b w w':World}
section
open Go.RowKit
attribute [local go_sem ↓] Go.wp_at_zero Go.wp_at_succ
theorem reachL_le (m:MZ) (t:Nat) (f us:List Int) (g:AG m):(Cs m t f us).length<=20000000000000:=by
 unfold Cs;refine Ea (EB _ _) ?_;have h1:=g.dim.n1;have h2:m.n=m.w*m.h*m.l:=rfl;simp;omega
theorem ints_last {b o n c:Nat} {q:List Int} {y:Int} (h:zk w ok (.slice (some ⟨b,o,none⟩) n c) (q++[y])):zk w ok (.slice (some ⟨b,o+q.length,none⟩) 1 (c - q.length)) [y]:=by
 obtain ⟨A',c',e,G,J,I⟩:=h;injection e with e1 e2 e3;subst e1 e2 e3;obtain ⟨b1,o1,e,E,d⟩:=I (by simp);injection e with e;injection e with e1 e2;subst e1 e2;refine ⟨some ⟨b,o+q.length,none⟩,c - q.length,rfl,by simp at G⊢;omega,rfl,fun _=>⟨b,o+q.length,rfl,E,fun j u D=>?_⟩⟩
 match j,D with
 | 0,D=>
  have:u=.int .i64 y:=by simpa using D.symm
  subst this;exact d q.length _ (by simp)
theorem qopen_calls {v:Value} (w:World) (hm:zY w ok v m) (g:AG m) (hl:Lens m) (j4:zk w okc vc ch) (hc:zK m ch):
  Calls Tryz.prog 221 #[v,vc] w fun e w'=>e=.returned (.bool (Az m ch))/\za w w':=by
 have r4:=hc.len300 g;have f3:=zh hm;obtain ⟨vfr,vup,vts,rfl,p5,_,l7⟩:=hm;obtain ⟨vsf,⟨Af,cf,rfl,s6,l0⟩,j5⟩:=p5;have o0:=zh l7;obtain ⟨vst,⟨At,ct,rfl,s7,-⟩,-⟩:=l7;have e2:=zh j4;obtain ⟨A,c,rfl,s5,hr⟩:=j4;have n8:=zh l0;have m9:=zh j5;have HC:=zh hc;have HL:=zh hl;have HG:=zh g;have t8:=g.tk;have n2:=zh g.fl;have s8:m.free.length<=6:=by rw [g.fl];exact g.tk
 have q5:=g.dim.layer;have t2:=g.dim.n1;obtain ⟨s9,t1⟩:=q5;clear hr hc g hl l0 j5
 go_enter Tryz.func221,Tryz.ntmps221
 go_wp2_with fail
 generalize g8:w.alloc (.cells #[.int .i64 m.w,.int .i64 m.h,.int .i64 m.l,.slice Af m.free.length cf,vup,.slice At m.tasks.length ct] 32)=w1;have D:za w w1:=by rw [<-g8];exact (za.refl w).alloc _
 have j9:zl w1 w.heap.size 32 #[.int .i64 m.w,.int .i64 m.h,.int .i64 m.l,.slice Af m.free.length cf,vup,.slice At m.tasks.length ct]:=by rw [<-g8];exact EL _ _
 clear g8;obtain ⟨m0,m1,m2,m3,m4,m5⟩:=zt j9;have c0:=za.rule m0;have c1:=za.rule m1;have c2:=za.rule m2;have c3:=za.rule m3;have c4:=za.rule m4;have c5:=za.rule m5;clear m0 m1 m2 m3 m4 m5 j9;refine (Dy w1 (f3.out.below D) HG.out HL.out (e2.out.below D) HC.out).mono ?_;rintro e w2 ⟨v2,rfl,q6,k7⟩;have hx:za w1 w2:=q6;have r9:=zh k7;obtain ⟨vs,⟨Ap,cp,rfl,p4,l2⟩,j6⟩:=k7;have i3:=zh l2;have g9:=zh j6;clear l2 j6;have d4:=Ct HC.out
 have p6:0<(Aj m ch).length:=by
  cases h:zV m ch
  ·exact (d4.2 h).2
  ·have:=d4.1 h;omega
 have p7:(Aj m ch).length<=7:=by
  cases h:zV m ch
  ·have:=(d4.2 h).1;omega
  ·have:=d4.1 h;omega
 obtain ⟨t0,g7⟩:∃t0,(Aj m ch).length=t0+1:=⟨(Aj m ch).length - 1,by omega⟩;have J:=zh g7;rw [g7] at p4⊢;have t7:t0<=6:=by omega
 clear g7 p6 p7 d4
 go_wp2_with fail
 go_loopw [6] (fun i wr=>∃t:Nat,t0<=t/\i=.int .i64 t/\Hid (∀t',t0<=t'->t'<t->CC m (zW m ch) ch t'=true)/\Hid (za w2 wr)) (fun i _=>m.tasks.length - (intOf i).toNat)
 case atStart=>exact ⟨t0,DY _,rfl,fun t' h1 h2=>by omega,za.refl _⟩
 case round=>
  obtain ⟨t,t9,rfl,hO,hX⟩:=hrel;obtain ⟨wk,rfl⟩:∃wk:World,wk=wr:=⟨_,rfl⟩;have a5:za w2 wk:=hX.out;have d6:za w1 wk:=hx.trans a5;by_cases O:t<m.tasks.length
  ·have f9:zV m ch=false:=by
    cases h:zV m ch
    ·rfl
    ·have:=(Ct HC.out).1 h;have:=J.out;omega
   obtain ⟨qs,p,f0,q4,g6⟩:=ps_form HC.out f9;have k8:t0=qs.length:=by have:=J.out;rw [g6] at this;simp at this;omega
   obtain ⟨bt,offt,sn,u1,u2,rfl,_,o8,j2,j3,g0,g1⟩:=Ce o0.out O;have a2:=HL.out.tl _ (DZ O);have g4:∀x,x∈(m.tasks[t]).1->0<=x/\x<m.n:=fun x h=>HG.out.tn _ (DZ O) x (.inl h)
   have b2:=zh f0
   have f6:Hid (CC m (zW m ch) ch t=(Cs m t (Ay m (zW m ch) ch t) ch).any fun x=>decide (x∈(m.tasks[t]).2)):=by
    show _=_;unfold CC;have h1:m.tasks.getD t ([],[])=m.tasks[t]:=by simp [O]
    rw [h1,any_comm]
   have i1:Hid (CC m (zW m ch) ch t=false->Az m ch=false):=fun h=>openC_false HC.out (by have:=J.out;omega) O h
   have l4:(m.tasks.getD t ([],[])).1=(m.tasks[t]).1:=by simp [O]
   have a4:Hid (t≠qs.length\/p=[]->Ay m (zW m ch) ch t=((m.tasks[t]).1).filter fun n=>zi m t n && !decide (n∈ch)):=fun h=>by rw [fromL_off b2.out h,l4]
   obtain ⟨fm,j7⟩:=Fd ((m.tasks[t]).1);obtain ⟨tg,l5⟩:=Fd ((m.tasks[t]).2);rw [<-j7] at g0 a2 a4 g4;rw [<-l5] at g1 a2 f6;have k4:(Ay m (zW m ch) ch t).length<=20000000000000:=fromL_len (HC.out.sok HG.out HL.out) O;have a9:t<m.free.length:=by rw [n2.out];exact O
   obtain ⟨bf,off3,uf,rfl,_,b7,o5⟩:=AX n8.out m9.out a9 a9;have a1:=HG.out.fn _ (DZ a9);obtain ⟨A4,c4,rfl,o9,k9⟩:=o5;have i2:=zh k9;clear k9;have h4:Hid (∀x:Nat,(hx:x<(m.free[t]).length)->(m.free[t])[x]=zi m t (x:Int)):=fun x hx=>by simp [zi,a9,hx]
   obtain ⟨fl,c6⟩:=Fd (m.free[t]);rw [<-c6] at b7 a1 o9 i2;have h7:Hid (∀x:Nat,(hx:x<fl.length)->fl[x]=zi m t (x:Int)):=by subst c6;exact h4
   have r8:Hid (∀u k,u<m.free.length->m.free[u]?=some k->(k.length:Int)=m.n):=fun u k hu hk=>HG.out.fn _ (List.mem_of_getElem? hk)
   have n3:Hid ((fl.length:Int)=m.n):=a1;have n4:=zh g0;have h9:=zh g1;have rt1:∀W,za w1 W->W.cell? ⟨bt,offt+t*3+1,none⟩=some u1:=fun W hW=>za.rule j2 W (D.trans hW)
   have rt2:∀W,za w1 W->W.cell? ⟨bt,offt+t*3+2,none⟩=some u2:=fun W hW=>za.rule j3 W (D.trans hW)
   have rf:∀W,za w1 W->W.cell? ⟨bf,off3+t,none⟩=some (.slice A4 fl.length c4):=fun W hW=>za.rule b7 W (D.trans hW)
   have n6:=zh g4;obtain ⟨r5,r6⟩:=a2;clear h4 c6 j7 l5 l4 o8 j2 j3 g0 g1 b7 a1 g4 f0 f9;obtain ⟨bA,j1⟩:=Fd (decide (t=qs.length/\p≠[]));have e0:=zh j1;clear j1;have i5:=zh g6;clear g6;have U:=zh k8;clear k8;clear q4;go_upto_region 6 with fail;go_cut [34] (fun s wx=>s=.bool bA/\wk=wx)
   case first=>
    by_cases l6:t=t0
    ·subst l6;obtain ⟨bp,ofp,up,e1,_,b9,b0⟩:=AX i3.out g9.out (k:=t) (by have:=J.out;omega) (by have:=J.out;omega);subst e1
     have c8:(Aj m ch)[t]'(by have:=J.out;omega)=p:=by
      have h1:=U.out;subst h1;simp only [i5.out];simp
     rw [c8] at b0;obtain ⟨Aq,cq,rfl,e5,-⟩:=b0;have ru:=za.rule b9;have p8:(t:Int)<(t:Int)+1:=by omega
     clear b9 c8;have a8:bA=decide (p≠[]):=by rw [e0.out,U.out];simp
     rcases List.eq_nil_or_concat p with rfl | ⟨q,y,rfl⟩
     ·have b6:bA=false:=by rw [a8];simp
      clear a8;subst b6;have hz:([]:List Int).length=0:=rfl;rw [hz] at ru e5
      go_wp2_with fail
      go_meet;exact ⟨rfl,rfl⟩
     ·have b6:bA=true:=by rw [a8];simp
      clear a8;subst b6;have c9:(q.concat y).length=q.length+1:=by simp
      rw [c9] at ru e5;clear c9;have g5:(0:Int)<(q.length:Int)+1:=by omega
      have p9:decide ((0:Int)<(q.length:Int)+1)=true:=Eb g5
      go_wp2_with fail
      go_meet;exact ⟨rfl,rfl⟩
    ·have a8:bA=false:=by rw [e0.out];exact Ec (fun h=>l6 (by rw [U.out];exact h.1))
     subst a8;have g5:¬ ((t:Int)<(t0:Int)+1):=by omega
     have p9:decide ((t:Int)<(t0:Int)+1)=false:=Ec g5
     go_wp2_with fail
     go_meet;exact ⟨rfl,rfl⟩
   case rest=>
    obtain ⟨rfl,rfl⟩:=hcut;cases bA
    ·have h8:=zh (a4.out (by
      have h1:=e0.out.symm;rw [Ew] at h1;by_cases h2:t=qs.length
      ·right
       exact Decidable.byContradiction fun h3=>h1 ⟨h2,h3⟩
      ·exact .inl h2))
     obtain ⟨PR,f8⟩:∃PR:Int->Bool,PR=fun n=>zi m t n && !decide (n∈ch):=⟨_,rfl⟩
     rw [<-f8] at h8;have n7:=zh f8;have e8:=n4;obtain ⟨Am,cm,rfl,f9,l1⟩:=e8.out;have n9:=zh l1;have i9:Hid (Mk wk wk (.slice none 0 0) ((fm.take 0).filter PR)):=Mk.nil wk;clear f8 e8 l1 a4
     go_wp2_with fail
     go_loopw [7,8] (fun v i wr=>∃k:Nat,k<=fm.length/\i=.int .i64 k/\Hid (Mk wk wr v ((fm.take k).filter PR))) (fun _ i _=>fm.length - (intOf i).toNat)
     case atStart=>exact ⟨0,Em _,rfl,i9⟩
     clear i9
     case round=>
      obtain ⟨k,hk,rfl,hM⟩:=hrel;obtain ⟨wj,rfl⟩:∃wj:World,wj=wr:=⟨_,rfl⟩;have a6:za wk wj:=hM.out.ext;have d5:za w1 wj:=d6.trans a6;by_cases M:k<fm.length
      ·obtain ⟨b3,off3',e3,_,a0⟩:=AH n9.out M M;subst e3
       have a3:(fm.take (k+1)).filter PR=(fm.take k).filter PR++[fm[k]].filter PR:=by
        rw [Ef M,List.filter_append]
       have m7:0<=fm[k]/\fm[k]<m.n:=n6.out _ (DZ M);obtain ⟨x,m8⟩:=Fd (fm[k]);rw [<-m8] at a0 a3 m7;have HS:=zh a3;clear a3 m8;obtain ⟨X,hX⟩:∃X:Nat,(X:Int)=x:=⟨x.toNat,by omega⟩;have g3:X<fl.length:=by have:=n3.out;omega
       obtain ⟨b4,off4,e4,_,b8⟩:=Bu i2.out g3 g3;rw [h7.out X g3] at b8;subst e4;subst hX;have rb:∀W,za w1 W->W.cell? ⟨b4,off4+X,none⟩=some (.bool (zi m t (X:Int))):=fun W hW=>za.rule b8 W (D.trans hW)
       have rx:∀W,za w1 W->W.cell? ⟨b3,off3'+k,none⟩=some (.int .i64 (X:Int)):=fun W hW=>za.rule a0 W (D.trans hW)
       have s2:(0:Int)<=(X:Int):=by omega
       have s3:(X:Int)<(fl.length:Int):=by omega
       have k5:((fm.take k).filter PR).length<=k:=Ea (EB _ _) (by simp;omega);obtain ⟨lk,e9⟩:=Fd ((fm.take k).filter PR);rw [<-e9] at hM k5 HS;clear a0 b8 e9 m7;have f2:Hid (∀W,za w1 W->Calls Tryz.prog 73 #[.slice A ch.length c,.int .i64 X] W fun e w'=>e=.returned (.bool (decide ((X:Int)∈ch)))/\W=w'):=fun W hW=>AK _ W (e2.out.below (D.trans hW)) (by omega)
       have a7:Hid (PR X=(zi m t X && !decide ((X:Int)∈ch))):=by rw [n7.out];rfl
       generalize decide ((X:Int)∈ch)=d2 at f2 a7;generalize zi m t (X:Int)=d3 at rb a7
       cases d3 <;> cases d2
       ·have V:Hid ((fm.take (k+1)).filter PR=lk):=by rw [HS.out,EG (by rw [a7.out];simp),List.filter_nil,List.append_nil];exact (by rfl:lk=lk)
        go_wp2_with fail
        go_roundw
        case rel=>exact ⟨k+1,M,by go_num,by rw [V.out];exact hM⟩
        case measure=>simp [intOf];omega
       ·have V:Hid ((fm.take (k+1)).filter PR=lk):=by rw [HS.out,EG (by rw [a7.out];simp),List.filter_nil,List.append_nil];exact (by rfl:lk=lk)
        go_wp2_with fail
        go_roundw
        case rel=>exact ⟨k+1,M,by go_num,by rw [V.out];exact hM⟩
        case measure=>simp [intOf];omega
       ·have V:Hid ((fm.take (k+1)).filter PR=lk++[(X:Int)]):=by rw [HS.out,List.filter_cons_of_pos (by rw [a7.out];rfl),List.filter_nil];exact rfl
        go_wp2_with fail
        refine (f2.out _ d5).mono ?_;rintro e w8 ⟨rfl,rfl⟩
        go_wp2_with (at_builtin;refine AR rfl _ _ rfl _ lk (X:Int) wk.heap.size wj.heap.size 1 _ rfl rfl (hM.out.own.alloc _) ?d1 ?d2 ?d3 ?_)
        (try case d1=>exact zA _ _ _ (by simp))
        case d2=>(first | (simp;done) | (have:=a6.size;simp;omega) | (have:=a6.size;omega))
        case d3=>omega
        intro v' wb k6 j8 o6;have i8:=zh ((hM.out.alloc _).app k6 j8);clear k6 j8 o6;go_wp2;go_roundw
        case rel=>exact ⟨k+1,M,by go_num,by rw [V.out];exact i8⟩
        case measure=>simp [intOf];omega
       ·have V:Hid ((fm.take (k+1)).filter PR=lk):=by rw [HS.out,EG (by rw [a7.out];simp),List.filter_nil,List.append_nil];exact (by rfl:lk=lk)
        go_wp2_with fail
        refine (f2.out _ d5).mono ?_;rintro e w8 ⟨rfl,rfl⟩
        go_wp2_with fail
        go_roundw
        case rel=>exact ⟨k+1,M,by go_num,by rw [V.out];exact hM⟩
        case measure=>simp [intOf];omega
      ·obtain rfl:k=fm.length:=by omega
       rw [Ej] at hM;have f1:Hid (zk wj (fun b=>wk.heap.size<=b) u7 (Ay m (zW m ch) ch t)):=by rw [h8.out];exact hM.out.ints
       obtain ⟨A7,c7,e7,s4⟩:=hM.out.slice;subst e7;have d:=d5;have I:=a5.trans a6
       go_wp2_with fail
       go_region_held3 (fun w'=>za w1 w'/\za w2 w')
        (first | (exact ⟨d.drew,I.drew⟩) | (exact ⟨d.drew.trans E.ext,I.drew.trans E.ext⟩) | (exact ⟨(d.drew.trans E.ext).trans (G.below _),(I.drew.trans E.ext).trans (G.below _)⟩))
        (first | (go_at_call 179;refine (qreach_calls t _ (f3.out.below (D.trans d.drew)) HG.out.dim a9 HG.out.fn (f1.out.below ((za.refl _).drew)) k4 (e2.out.below (D.trans d.drew)) (by omega)).mono ?_;rintro e wn ⟨v9,rfl,E⟩) | (go_at_call 236;refine (qmeets_calls _ E.ints (h9.out.below (D.trans (d.drew.trans E.ext))) (reachL_le _ _ _ _ HG.out) (by omega)).mono ?_;rintro e w10 ⟨rfl,G⟩))
       rename_i hS
       obtain ⟨d7,d8⟩:=hS;clear E G;rw [<-f6.out]
       cases K:CC m (zW m ch) ch t
       ·have f5:Hid (Az m ch=false):=i1.out K;clear K;go_wp2;go_ret;exact ⟨zo f5.out.symm,D.trans d7⟩
       ·have f4:Hid (∀t',t0<=t'->t'<t+1->CC m (zW m ch) ch t'=true):=fun t' h1 h2=>by
         rcases Ev t' t with h3 | h3
         ·exact hO.out t' h1 h3
         ·obtain rfl:t'=t:=by omega
          exact K
        clear K
        go_wp2_with fail
        go_roundw
        case rel=>exact ⟨t+1,by omega,by go_num,f4,d8⟩
        case measure=>simp [intOf];omega
    ·obtain ⟨b5,i7⟩:t=qs.length/\p≠[]:=by have h1:=e0.out.symm;rwa [Ei] at h1
     obtain ⟨bp,ofp,up,e1,_,b9,b0⟩:=AX i3.out g9.out (k:=t) (by have:=J.out;have:=U.out;omega) (by have:=J.out;have:=U.out;omega);subst e1
     have c8:(Aj m ch)[t]'(by have:=J.out;have:=U.out;omega)=p:=by
      simp only [i5.out,b5];simp
     rw [c8] at b0;rcases List.eq_nil_or_concat p with rfl | ⟨q,y,rfl⟩
     ·exact absurd rfl i7
     rw [List.concat_eq_append] at*;have n0:Hid (Ay m (zW m ch) ch t=[y]):=by show _=_;rw [b5];exact fromL_on b2.out
     have s0:=zh b5
     have r7:q.length+1<=300:=by
      have h5:=HC.out.psOk.fl;have h6:=flat_le (ps:=zW m ch) (p:=q++[y]) (by rw [b2.out];simp);rw [h5] at h6;simp at h6;omega
     have i6:=zh b0;obtain ⟨Aq,cq,rfl,e5,l3⟩:=b0;obtain ⟨bq,ofq,rfl,_,_⟩:=AH l3 (k:=q.length) (by simp) (by simp);have c9:(q++[y]).length=q.length+1:=by simp
     have i0:=zh (ints_last i6.out);have ru:=za.rule b9;rw [c9] at ru e5;have l8:t=t0:=by rw [b5];exact U.out.symm
     subst l8;have p8:(t:Int)<(t:Int)+1:=by omega
     have t5:IntKind.i64.wrap ((q.length:Int)+1 - 1)=(q.length:Int):=by rw [Eu];omega
     have t3:(q.length:Int)<=(q.length:Int)+1:=by omega
     have t4:q.length+1 - q.length=1:=by omega
     clear b5 i7 c8 l3 b9 c9 i6 a4
     go_wp2_with fail
     go_quiet (fail)
     generalize l9:wk.drewN nq=wz;have f7:za wk wz:=by rw [<-l9];exact (za.refl wk).drewN _
     clear l9;have d:za w1 wz:=d6.trans f7;have I:za w2 wz:=a5.trans f7
     have f1:Hid (zk wz (fun b=>w1.heap.size<=b) (.slice (some ⟨bq,ofq+q.length,none⟩) 1 (cq - q.length)) (Ay m (zW m ch) ch t)):=by
      show zk _ _ _ _;rw [n0.out];exact i0.out.below (a5.trans f7)
     go_wp2_with fail
     go_region_held3 (fun w'=>za w1 w'/\za w2 w')
      (first | (exact ⟨d.drew,I.drew⟩) | (exact ⟨d.drew.trans E.ext,I.drew.trans E.ext⟩) | (exact ⟨(d.drew.trans E.ext).trans (G.below _),(I.drew.trans E.ext).trans (G.below _)⟩))
      (first | (go_at_call 179;refine (qreach_calls t _ (f3.out.below (D.trans d.drew)) HG.out.dim a9 HG.out.fn (f1.out.below ((za.refl _).drew)) k4 (e2.out.below (D.trans d.drew)) (by omega)).mono ?_;rintro e wn ⟨v9,rfl,E⟩) | (go_at_call 236;refine (qmeets_calls _ E.ints (h9.out.below (D.trans (d.drew.trans E.ext))) (reachL_le _ _ _ _ HG.out) (by omega)).mono ?_;rintro e w10 ⟨rfl,G⟩))
     rename_i hS
     obtain ⟨d7,d8⟩:=hS;clear E G;rw [<-f6.out]
     cases K:CC m (zW m ch) ch t
     ·have f5:Hid (Az m ch=false):=i1.out K;clear K;go_wp2;go_ret;exact ⟨zo f5.out.symm,D.trans d7⟩
     ·have f4:Hid (∀t',t<=t'->t'<t+1->CC m (zW m ch) ch t'=true):=fun t' h1 h2=>by
       rcases Ev t' t with h3 | h3
       ·exact hO.out t' h1 h3
       ·obtain rfl:t'=t:=by omega
        exact K
      clear K
      go_wp2_with fail
      go_roundw
      case rel=>exact ⟨t+1,by omega,by go_num,f4,d8⟩
      case measure=>simp [intOf];omega
  ·have o2:Hid (Az m ch=true):=openC_true HC.out (fun t' h1 h2=>hO.out t' (by have:=J.out;omega) (by omega));go_wp2;go_ret;exact ⟨zo o2.out.symm,D.trans d6⟩
theorem qOpen_calls {v:Value} (w:World) (hm:zY w ok v m) (hl:Lens m) (O:zk w okc vc ch) (V:ch.length<=20000000000000):
  Calls Tryz.prog 192 #[v,vc] w fun e w'=>e=.returned (.bool (openO m ch))/\za w w':=by
 have K:=zh hm;obtain ⟨vfr,vup,vts,rfl,-,-,-⟩:=hm;have J:=zh O;obtain ⟨A,c,rfl,a7,-⟩:=O;have HL:=zh hl;clear hl;obtain ⟨bb,M⟩:=Fd (okC m ch);have D:=zh M;clear M
 go_enter Tryz.func192,Tryz.ntmps192
 go_wp2_with fail
 generalize I:w.alloc (.cells #[.int .i64 m.w,.int .i64 m.h,.int .i64 m.l,vfr,vup,vts] 32)=w1;have d:za w w1:=by rw [<-I];exact (za.refl w).alloc _
 have U:zl w1 w.heap.size 32 #[.int .i64 m.w,.int .i64 m.h,.int .i64 m.l,vfr,vup,vts]:=by rw [<-I];exact EL _ _
 clear I;obtain ⟨m0,m1,m2,m3,m4,m5⟩:=zt U;have c0:=za.rule m0;have c1:=za.rule m1;have c2:=za.rule m2;have c3:=za.rule m3;have c4:=za.rule m4;have c5:=za.rule m5;clear m0 m1 m2 m3 m4 m5 U;refine (qchosen_calls w1 (K.out.below d) HL.out (J.out.below d) V).mono ?_;rintro e w2 ⟨rfl,E⟩;rw [<-D.out];cases bb
 ·have G:Hid (openO m ch=false):=by show _=_;unfold openO;rw [<-D.out];rfl
  go_wp2_with fail
  go_ret;exact ⟨zo G.out.symm,d.trans E⟩
 ·have G:Hid (openO m ch=Az m ch):=by show _=_;unfold openO;rw [<-D.out];rfl
  obtain ⟨hg,hc⟩:=okC_true D.out.symm;have HG:=zh hg;have HC:=zh hc;clear hg hc
  go_wp2_with fail
  refine (qopen_calls w2 (K.out.below (d.trans E)) HG.out HL.out (J.out.below (d.trans E)) HC.out).mono ?_;rintro e w3 ⟨rfl,a0⟩
  go_wp2_with fail
  go_ret;exact ⟨zo G.out.symm,d.trans (E.trans a0)⟩
def pathsO (m:MZ) (ch:List Int):List (List Int):=if okC m ch=true then (zW m ch).filter (fun p=>decide (p.length≠0)) else []
end
section
open Go.RowKit
inductive PT where
 | node (task:Int) (side:List Int) (kids:List PT)
def PT.task:PT->Int | .node t _ _=>t
def PT.side:PT->List Int | .node _ s _=>s
def PT.kids:PT->List PT | .node _ _ k=>k
def PT.zero:PT:=.node 0 [] []
def endB (m:MZ) (pp:List (List Int)) (t:Nat):Bool:=match (pp.getD t []).getLast? with
 | none=>false
 | some x=>decide (x∈(m.tasks.getD t ([],[])).2)
def curF (m:MZ) (pp:List (List Int)):Nat->Nat->Nat
 | 0,t=>t
 | f+1,t=>if t<pp.length/\endB m pp t=true then curF m pp f (t+1) else t
def curT (m:MZ) (ch:List Int):Nat:=curF m (pathsO m ch) (pathsO m ch).length 0
def headP (m:MZ) (ch:List Int) (t:Nat):List Int:=if t<(pathsO m ch).length then ((pathsO m ch).getD t []).getLast?.toList else (m.tasks.getD t ([],[])).1.filter fun n=>zi m t n && !decide (n∈ch)
noncomputable def sideP (m:MZ) (ch:List Int) (t:Nat):List Int:=reachO m t (headP m ch t) ch
noncomputable def offB (m:MZ) (ch:List Int) (t:Nat):Bool:=!((sideP m ch t).any fun n=>decide (n∈(m.tasks.getD t ([],[])).2)) && (decide (sideP m ch t≠[]) || decide (curT m ch<t))
noncomputable def cutT (m:MZ) (ch:List Int):Option Nat:=((List.range (m.tasks.length - curT m ch)).map (curT m ch+·)).find? (offB m ch)
def kidsR (f:Int->Nat->Int×PT×Nat):List Int->Nat->List PT->Int×List PT×Nat
 | [],k,acc=>(0,acc,k)
 | n :: l,k,acc=>if (f n k).1=0 then kidsR f l (f n k).2.2 (acc++[(f n k).2.1]) else ((f n k).1,[],(f n k).2.2)
noncomputable def proveP (m:MZ):Nat->List Int->Nat->Int×PT×Nat
 | 0,_,k=>(53,.zero,k)
 | f+1,ch,k=>
  if m.tasks.length<=curT m ch then (51,.zero,k)
  else if 3000<k+1 then (53,.zero,k+1)
  else match cutT m ch with
   | some t=>(0,.node t (sideP m ch t) [],k+1)
   | none=>
    let r:=kidsR (fun n k=>proveP m f (ch++[n]) k) (candO m ch) (k+1) []
    if r.1=0 then (0,.node (curT m ch) [] r.2.1,r.2.2) else (r.1,.zero,r.2.2)
noncomputable def Bg (m:MZ):Int×PT:=if BM m=0 then ((proveP m (m.n.toNat+2) [] 0).1,(proveP m (m.n.toNat+2) [] 0).2.1) else (BM m,.zero)
mutual
def PT.size:PT->Nat
 | .node _ _ ks=>1+PT.sizeL ks
def PT.sizeL:List PT->Nat
 | []=>0
 | k :: ks=>k.size+PT.sizeL ks
end
structure PathR (m:MZ) (t:Nat) (p:List Int):Prop where
 hd:∀x,p.head?=some x->x∈(m.tasks.getD t ([],[])).1
 fr:∀x∈p,zi m t x=true
 nb:∀k x y,p[k]?=some x->p[k+1]?=some y->y∈zm m x
def FinP (m:MZ) (t:Nat) (p:List Int):Prop:=∃x,p.getLast?=some x/\x∈(m.tasks.getD t ([],[])).2
theorem PathR.nil (m:MZ) (t:Nat):PathR m t []:=⟨(fun x h=>by cases h),(fun x h=>by cases h),(fun k x y h=>by simp at h)⟩
theorem PathR.snoc {m:MZ} {t:Nat} {p:List Int} {n:Int} (h:PathR m t p) (hf:zi m t n=true) (h0:p=[]->n∈(m.tasks.getD t ([],[])).1) (h1:∀x,p.getLast?=some x->n∈zm m x):PathR m t (p++[n]):=by
 refine ⟨fun x hx=>?_,fun x hx=>?_,fun k x y hx d=>?_⟩
 ·cases p with
  | nil=>
   have:n=x:=by simpa using hx
   subst this;exact h0 rfl
  | cons a p=>exact h.hd x (by simpa using hx)
 ·rcases EN.1 hx with hx | hx
  ·exact h.fr x hx
  ·rw [EF] at hx;subst hx;exact hf
 ·rcases Ev (k+1) p.length with hk | hk
  ·rw [Ed (by omega)] at hx;rw [Ed hk] at d;exact h.nb k x y hx d
  ·have D:k+1<(p++[n]).length:=by
    rcases Ev (k+1) (p++[n]).length with h2 | h2
    ·exact h2
    ·rw [Es h2] at d;cases d
   have E:k+1=p.length:=by simp at D;omega
   rw [Ee (by omega),show k+1 - p.length=0 from by omega] at d;have:n=y:=by simpa using d
   subst this;rw [Ed (by omega)] at hx;refine h1 x ?_;rw [List.getLast?_eq_getElem?,show p.length - 1=k from by omega];exact hx
structure PsR (m:MZ) (ps:List (List Int)):Prop where
 one:∀t p,ps[t]?=some p->PathR m t p
 fin:∀t p,ps[t]?=some p->t+1<ps.length->FinP m t p
theorem cand_step {n:Int} (h:n∈BS m ps us):zi m (ps.length - 1) n=true/\((ps.getD (ps.length - 1) [])=[]->n∈(m.tasks.getD (ps.length - 1) ([],[])).1)/\(∀x,(ps.getD (ps.length - 1) []).getLast?=some x->n∈zm m x):=by
 unfold BS at h
 split at h
 ·cases h
 ·split at h
  ·rename_i d
   obtain ⟨h1,h2⟩:=EV.1 h;simp only [Ek] at h2;exact ⟨h2.1,fun _=>mem_sortL.1 (DN h1),fun x E=>by rw [d] at E;cases E⟩
  ·rename_i x d
   obtain ⟨h1,h2⟩:=EV.1 h;unfold zB at h2;simp only [Ek] at h2;refine ⟨h2.1.1.1,(fun h0=>by rw [h0] at d;cases d),fun y D=>?_⟩;rw [d] at D;injection D with D;subst D;exact h1
theorem PsR.add {n:Int} (h:PsR m ps) (hp:0<ps.length) (J:n∈BS m ps us):PsR m (Ca ps n):=by
 obtain ⟨h1,h2,h3⟩:=cand_step J;obtain ⟨qs,p,rfl,he⟩:=addN_eq hp n;rw [he];have I:(qs++[p]).length - 1=qs.length:=by simp
 have G:(qs++[p]).getD qs.length []=p:=by simp
 rw [I] at h1 h2 h3;rw [G] at h2 h3;refine ⟨fun t q D=>?_,fun t q D ht=>?_⟩
 ·rcases Ev t qs.length with d | hge
  ·rw [Ed d] at D;exact h.one t q (by rw [Ed d];exact D)
  ·have E:t=qs.length:=by
    rcases Ev t (qs++[p++[n]]).length with h4 | h4
    ·simp at h4;omega
    ·rw [Es h4] at D;cases D
   subst E;rw [Ee (DY _),Nat.sub_self] at D;have:p++[n]=q:=by simpa using D
   subst this;exact (h.one qs.length p (by simp)).snoc h1 h2 h3
 ·have d:t<qs.length:=by simp at ht;omega
  rw [Ed d] at D;exact h.fin t q (by rw [Ed d];exact D) (by simp;omega)
theorem PsR.with {m:MZ} {ps:List (List Int)} {us:List Int} {n:Int} (h:PsR m ps) (hp:0<ps.length) (I:n∈BS m ps us):PsR m (BB m ps n):=by
 have h1:=h.add hp I;unfold BB
 split
 ·rename_i hf
  have d:(Ca ps n).length=ps.length:=Dl
  have hF:∀t p,(Ca ps n)[t]?=some p->t+1=ps.length->FinP m t p:=fun t p ht he=>by
   have h2:=hf.1;unfold finB at h2;rw [d,show ps.length - 1=t from by omega,DX,ht] at h2;simp only [ED] at h2
   split at h2
   ·cases h2
   ·rename_i x J
    exact ⟨x,J,of_decide_eq_true h2⟩
  refine ⟨fun t p ht=>?_,fun t p ht D=>?_⟩
  ·rcases Ev t (Ca ps n).length with h2 | h2
   ·rw [Ed h2] at ht;exact h1.one t p ht
   ·rw [Ee h2] at ht
    have E:p=[]:=by
     cases G:t - (Ca ps n).length with
     | zero=>rw [G] at ht;simpa using ht.symm
     | succ j=>rw [G] at ht;simp at ht
    subst E;exact PathR.nil m t
  ·have h2:t<(Ca ps n).length:=by simp at D;omega
   rw [Ed h2] at ht;rcases Ev (t+1) (Ca ps n).length with h3 | h3
   ·exact h1.fin t p ht h3
   ·exact hF t p ht (by omega)
 ·exact h1
theorem zK.psR (h:zK m ch):PsR m (zW m ch):=by
 induction h with
 | nil=>
  rw [psOf_nil];unfold ps0
  split
  ·exact ⟨fun t p h=>by simp at h,fun t p h=>by simp at h⟩
  ·refine ⟨fun t p h=>?_,fun t p h D=>by simp at D⟩
   match t,h with
   | 0,h=>
    have:p=[]:=by simpa using h.symm
    subst this;exact PathR.nil m 0
 | @snoc ch n h d ih=>
  rw [psOf_snoc];exact ih.with (h.psOk.pn (By (Cl d))) d
theorem zK.all (h:zK m ch) (d:zV m ch=true):(zW m ch).length=m.tasks.length/\(∀t p,(zW m ch)[t]?=some p->PathR m t p/\FinP m t p):=by
 have D:=h.psR;have E:=h.psOk;unfold zV cmpB at d;rw [EY,Ei,Ek,Ei] at d;rcases d with h0 | ⟨h0,h1⟩
 ·have:=E.pl;refine ⟨by omega,fun t p ht=>?_⟩;rw [Es (by omega)] at ht;cases ht
 ·refine ⟨h0,fun t p ht=>⟨D.one t p ht,?_⟩⟩
  have G:t<(zW m ch).length:=by
   rcases Ev t (zW m ch).length with h2 | h2
   ·exact h2
   ·rw [Es h2] at ht;cases ht
  rcases Ev (t+1) (zW m ch).length with h2 | h2
  ·exact D.fin t p ht h2
  ·unfold finB at h1;rw [show (zW m ch).length - 1=t from by omega,DX,ht] at h1;simp only [ED] at h1
   split at h1
   ·cases h1
   ·rename_i x I
    exact ⟨x,I,of_decide_eq_true h1⟩
end
section
open Go.RowKit
attribute [local go_sem ↓] Go.wp_at_zero Go.wp_at_succ
theorem zY.parts {v:Value} (h:zY w ok v m):∃Af cf Au cu At ct,v=.agg #[.int .i64 m.w,.int .i64 m.h,.int .i64 m.l,.slice Af m.free.length cf,.slice Au m.up.length cu,.slice At m.tasks.length ct]/\
  Bw w ok (.slice Af m.free.length cf) m.free/\Be w ok (.slice Au m.up.length cu) m.up/\BR w ok (.slice At m.tasks.length ct) m.tasks:=by
 obtain ⟨vfr,vup,vts,rfl,hf,G,ht⟩:=h;have d:=hf;have E:=G;have D:=ht;obtain ⟨_,⟨Af,cf,rfl,-⟩,-⟩:=d;obtain ⟨Au,cu,rfl,-⟩:=E;obtain ⟨_,⟨At,ct,rfl,-⟩,-⟩:=D;exact ⟨Af,cf,Au,cu,At,ct,rfl,hf,G,ht⟩
theorem z8.ext (h:z8 w w'):za w w':=h.below _
end
section
open Go.RowKit
structure ElemI (t e:TypeId) (z:Value) (sz bytes:Nat):Prop where
 ht:Tryz.prog.underlying t=some (.slice e)
 hi:(Tryz.prog.info? e).map (fun i=>(i.zero,i.size,i.bytes))=some (some z,sz,bytes)
 hz:z.cells.size=sz
 h0:0<sz
theorem run_append_rowS (w:World) (base:Nat) (t ty e:TypeId) (z:Value) (sz bytes:Nat) (I:ElemI t e z sz bytes)
  (v:Value) (n:Nat) (xs:List Value) (G:w.ownsRow base e sz v n xs) (u:Value) (m:Nat) (news:List Value) (hu:Bv w ok sz u m news) (h1:∀u∈news,u.oneCell'=true)
  (M:n+m<=maxLen) (D:(n+m)*bytes<=140737488355328) (J:base<=w.heap.size):
  ∃v' w',(Builtin.append_ #[t,t] ty #[v,u]).run Tryz.prog w=.ok v' w'/\w'.ownsRow base e sz v' (n+m) (xs++news)/\w.grownBy w' v.ownBlock/\(v'.ownBlock=v.ownBlock\/v'.ownBlock=some w.heap.size):=by
 obtain ⟨i,V,hz,d,O⟩:=info_parts I.hi;have ht:=I.ht;have U:=I.hz;have K:=I.h0;obtain ⟨A,c,rfl,hc,hl,E⟩:=hu;rcases A with _ | a
 ·have hm:m=0:=by
   rcases EJ m with h | h
   ·exact h
   ·obtain ⟨b,off,e,_⟩:=E h;cases e
  subst hm;have hn:news=[]:=Ep (by simpa using hl);subst hn;refine ⟨v,w,?_,by simpa using G,⟨rfl,rfl,rfl,DY _,fun _ _ _=>rfl⟩,.inl rfl⟩;rcases G.2 with ⟨rfl,rfl⟩ | ⟨g,cap,cur,rfl,a7,hg,b1,a8,a9,a4⟩
  ·simp [Builtin.append_,run_underlying ht,sizeOf,typeInfo,V,d,Builtin.lenOf,Builtin.firstCells,loadCells,loadCellsFrom]
  ·have h:=run_append_room_src (P:=Tryz.prog) w t t ty e i ht V g 0 n cap (.slice none 0 c) 0 [] (by rw [d];exact Src.ofNil w ht c) (by omega) (by simp) (by simp);rw [setCells_nil] at h;simpa using h
 ·rcases EJ m with h0 | hmp
  ·subst h0;have hn:news=[]:=Ep (by simpa using hl);subst hn;obtain ⟨v',w',h1,h2,h3,h4,h5⟩:=run_append_own_at (P:=Tryz.prog) w base t ty e i z sz bytes ht V hz d O U K v n xs G a 0 c [] (by simp) (by simp) (by simp) M D J;exact ⟨v',w',h1,h2,h3,h5⟩
  ·obtain ⟨b,off,he,_,a1⟩:=E hmp;injection he with he;subst he;obtain ⟨v',w',h1,h2,h3,h4,h5⟩:=run_append_own_at (P:=Tryz.prog) w base t ty e i z sz bytes ht V hz d O U K v n xs G ⟨b,off,none⟩ m c news hl (fun j u hj=>by rw [Addr.add_lit];exact a1 j u hj) h1 M D J;exact ⟨v',w',h1,h2,h3,h5⟩
theorem wp_append_row {a:Act} {K:Act->World->Prop} (W:World) (s x:Operand) {t e:TypeId} (I:ElemI t e z sz bytes)
  (M:o.op=.call { callee:=.builtin .append,args:=#[s,x],argTypes:=#[t,t] }) (base n m:Nat) (l l2:List Value) (v u:Value) (U:a.eval s=v) (hx:a.eval x=u)
  (D:W.ownsRow base e sz v n l) (V:Bv W ok sz u m l2) (h1:∀u∈l2,u.oneCell'=true) (d:base<=W.heap.size) (E:n+m<=maxLen) (J:(n+m)*bytes<=140737488355328)
  (h:∀v' w',w'.ownsRow base e sz v' (n+m) (l++l2)->W.grownBy w' v.ownBlock->(v'.ownBlock=v.ownBlock\/v'.ownBlock=some W.heap.size)->K (a.put o.dst v') w'):Oper.wp Tryz.prog o a W K Q:=by
 obtain ⟨v',w',O,h2,h3,G⟩:=run_append_rowS (ok:=ok) W base t o.type e z sz bytes I v n l D u m l2 V h1 E J d;unfold Oper.wp execOp;simp only [M,resolve,invoke,builtin,Sem.run_bind,Sem.run_pure,Result.andThen_ok,List.map_toArray,List.map_cons,List.map_nil,U,hx,O];exact h v' w' h2 h3 G
theorem Dh {ops:Array Oper} {rest:List Oper} {a:Act} (G:o.guard=none) (W:World) (s x:Operand) {t e:TypeId} (I:ElemI t e z sz bytes)
  (O:o.op=.call { callee:=.builtin .append,args:=#[s,x],argTypes:=#[t,t] }) (base n m:Nat) (l l2:List Value) (v u:Value) (U:a.eval s=v) (hx:a.eval x=u)
  (D:W.ownsRow base e sz v n l) (V:Bv W ok sz u m l2) (h1:∀u∈l2,u.oneCell'=true) (d:base<=W.heap.size) (E:n+m<=maxLen) (M:(n+m)*bytes<=140737488355328)
  (h:∀v' w',w'.ownsRow base e sz v' (n+m) (l++l2)->W.grownBy w' v.ownBlock->(v'.ownBlock=v.ownBlock\/v'.ownBlock=some W.heap.size)->wpList Tryz.prog ops Q rest (a.put o.dst v') w'):wpList Tryz.prog ops Q (o :: rest) a W:=by
 refine wpList_plain G fun K J=>?_
 exact wp_append_row W s x I O base n m l l2 v u U hx D V h1 d E M fun v' w' h1 h2 h3=>J _ _ (h v' w' h1 h2 h3)
end
section
open Go.RowKit
attribute [local go_sem ↓] Go.wp_at_zero Go.wp_at_succ
inductive DG (w:World) (ok:Nat->Prop):Value->PT->Prop
 | mk {t:Int} {side:List Int} {kids:List PT} {vs vk:Value} {cs:List Value} (hs:zk w ok vs side) (hk:Bv w ok 3 vk kids.length cs)
  (he:∀(i:Nat) (hi:i<kids.length),DG w ok (.agg #[cs.getD (i*3) undef,cs.getD (i*3+1) undef,cs.getD (i*3+2) undef]) kids[i]):DG w ok (.agg #[.int .i64 t,vs,vk]) (.node t side kids)
theorem DG.keepW {ok':Nat->Prop} {v:Value} {p:PT} (h:DG w ok v p) (d:Ar ok w w') (D:∀b,ok b->ok' b):DG w' ok' v p:=by
 induction h with
 | mk h1 h2 _ ih=>exact .mk ((h1.keep d).weaken D) ((h2.keep d).weaken D) ih
theorem DG.ext {v:Value} {p:PT} (h:DG w ok v p) (d:za w w'):DG w' ok v p:=h.keepW (Ar.of_below d) (fun _ h=>h)
theorem DG.zero (w:World) (ok:Nat->Prop):DG w ok (.agg #[.int .i64 0,.slice none 0 0,.slice none 0 0]) PT.zero:=
 .mk (cs:=[]) (zk.nil _ _) ⟨none,0,rfl,DY _,AT.nil _ _ _ _⟩ (fun i d=>absurd d (by simp))
theorem DG.form {v:Value} {p:PT} (h:DG w ok v p):∃As cs Ak ck,v=.agg #[.int .i64 p.task,.slice As p.side.length cs,.slice Ak p.kids.length ck]/\zk w ok (.slice As p.side.length cs) p.side:=by
 cases h with
 | mk h1 h2 _=>
  have d:=h1;obtain ⟨As,cs,rfl,-,-⟩:=h1;obtain ⟨Ak,ck,rfl,-,-⟩:=h2;exact ⟨As,cs,Ak,ck,rfl,d⟩
end
section
open Go.RowKit
attribute [local go_sem ↓] Go.wp_at_zero Go.wp_at_succ
attribute [local go_sem] Oper.semAt_some
mutual
def PT.Lens:PT->Prop
 | .node _ s ks=>s.length<=20000000000000/\ks.length<=20000000000000/\PT.LensL ks
def PT.LensL:List PT->Prop
 | []=>True
 | k :: ks=>k.Lens/\PT.LensL ks
end
end
section
open Go.RowKit
theorem DG.bound {w:World} {ok:Nat->Prop} {v:Value} {p:PT} (h:DG w ok v p):DG w (fun b=>ok b/\b<w.heap.size) v p:=by
 induction h with
 | mk h1 h2 _ ih=>exact .mk h1.bound (h2.bound (by decide)) ih
theorem zC.wide {X':Nat->Prop} (h:zC X a b) (d:∀k,X k->X' k):zC X' a b:=⟨h.os,h.tape,h.output,h.size,fun b D E=>h.block b D fun e=>E (d b e)⟩
theorem zC.set (h:zC X a b) (g k:Nat) (v:Value) (D:X g):zC X a (b.setCell ⟨g,k,none⟩ v):=
 ⟨h.os,h.tape,h.output,by simpa using h.size,fun i E d=>(Eh b ⟨g,k,none⟩ v i (fun e=>d (by rw [e];exact D))).trans (h.block i E d)⟩
theorem zC.grown {c:World} {r:Option Nat} (h:zC X a b) (d:b.grownBy c r) (G:∀k,r=some k->k<a.heap.size->X k):zC X a c:=
 ⟨d.os.trans h.os,d.tape.trans h.tape,d.output.trans h.output,Ea h.size d.size,fun i D E=>(d.block i (EA D h.size) (fun e=>E (G i e.symm D))).trans (h.block i D E)⟩
theorem zC.blk {t:TypeId} {cs:Array Value} (h:zC X a b) (d:zl a g t cs) (D:¬ X g):zl b g t cs:=(h.block g (zc d) D).trans d
end
section
open Go.RowKit Go.Shelf
attribute [local go_sem ↓] Go.wp_at_zero Go.wp_at_succ
theorem elsF_len:∀(f:Nat) (s:Rd) (l:List Int),(AJ f s l).2.1.length<=s.1.length
 | 0,s,l=>DY _
 | f+1,s,l=>by
  unfold AJ
  split
  ·exact DY _
  ·exact Ea (elsF_len f _ _) (intF_len s).1
theorem intsF_len (s:Rd):(zZ s).2.1.length<=s.1.length:=by
 unfold zZ
 split
 ·simp
 ·have h:=elsF_len s.1.tail.length (s.1.tail,false) [];unfold intsE
  split
  ·simp
  ·simp only [List.length_tail] at h⊢;omega
def lv (s:Rd):Nat:=if s.2=true then 0 else s.1.length+1
theorem lv_ok (h:s.2=false):lv s=s.1.length+1:=by unfold lv;rw [h];rfl
theorem lv_dec {t:Rd} (h:t.2=false->t.1.length<s.1.length) (D:s.2=false):lv t<lv s:=by
 rw [lv_ok D];unfold lv
 split
 ·omega
 ·rename_i d
  have:=h (by simpa using d);omega
theorem var_new (h:zq w) {b:Nat} (d:w.heap.size<=b):¬ isVar b:=by
 rintro ⟨n,E,D⟩
 have f:∀cs,w.var? Tryz.prog n=some cs->False:=fun cs h=>by
  unfold World.var? at h;rw [D,Option.bind_some,Array.getElem?_eq_none d] at h;cases h
 rcases E with rfl | rfl | rfl
 ·exact f _ h.tab
 ·obtain ⟨tp,p,h⟩:=h.syn;exact f _ h
 ·obtain ⟨tp,p,h⟩:=h.rng;exact f _ h
mutual
def PT.wt:PT->Nat
 | .node _ s ks=>1+s.length+PT.wtL ks
def PT.wtL:List PT->Nat
 | []=>0
 | k :: ks=>k.wt+PT.wtL ks
end
theorem intF_lv (s:Rd):lv (AS s).2<=lv s - 1:=by
 cases d:s.2 with
 | true=>rw [intF_bad d];simp [lv]
 | false=>have:=lv_dec (intF_len s).2 d;omega
theorem elsF_lv:∀(f:Nat) (s:Rd) (l:List Int),(AJ f s l).1.length+lv (AJ f s l).2<=l.length+lv s/\((∀x∈l,BI x)->∀x∈(AJ f s l).1,BI x)
 | 0,s,l=>⟨DY _,fun h=>h⟩
 | f+1,s,l=>by
  unfold AJ
  split
  ·exact ⟨DY _,fun h=>h⟩
  ·rename_i d
   have D:s.2=false:=by
    cases h:s.2 with
    | false=>rfl
    | true=>exact absurd (.inl (by unfold zU;rw [h];rfl)) d
   obtain ⟨h1,h2⟩:=elsF_lv f (AS s).2 (l++[(AS s).1]);have h3:=intF_lv s;have E:=lv_ok D;refine ⟨by rw [Eg,Ey] at h1;omega,fun h=>h2 fun x hx=>?_⟩;rcases EN.1 hx with hx | hx
   ·exact h x hx
   ·rw [EF.1 hx];exact Cp s
theorem intsF_lv (s:Rd):(zZ s).1.length+lv (zZ s).2<=lv s/\∀x∈(zZ s).1,BI x:=by
 unfold zZ
 split
 ·exact ⟨by simp [lv],fun x d=>by cases d⟩
 ·rename_i G
  have I:s.2=false:=by
   cases h:s.2 with
   | false=>rfl
   | true=>exact absurd (.inl (by unfold zU;rw [h];rfl)) G
  obtain ⟨h1,h2⟩:=elsF_lv s.1.tail.length (s.1.tail,false) [];have h0:lv (s.1.tail,false)<=lv s:=by rw [lv_ok I];simp [lv]
  unfold intsE
  split
  ·exact ⟨by simp [lv],fun x d=>by cases d⟩
  ·rename_i E
   have D:(AJ s.1.tail.length (s.1.tail,false) []).2.2=false:=by
    cases h:(AJ s.1.tail.length (s.1.tail,false) []).2.2 with
    | false=>rfl
    | true=>exact absurd (by unfold zU;rw [h];rfl) E
   have J:lv ((AJ s.1.tail.length (s.1.tail,false) []).2.1.tail,false)<=lv (AJ s.1.tail.length (s.1.tail,false) []).2:=by rw [lv_ok D];simp [lv]
   refine ⟨?_,h2 fun x d=>by cases d⟩;simp only [Fc,Nat.zero_add] at h1;show (AJ s.1.tail.length (s.1.tail,false) []).1.length+lv ((AJ s.1.tail.length (s.1.tail,false) []).2.1.tail,false)<=_;omega
end
section
open Go.RowKit
structure J6 (B:Nat) (w0:World) (ge n t:Nat) (e:Nat->Bool) (v:Nat->Value) (W:World):Prop where
 gb:w0.grownBy W (some ge)
 dr:zT B W ge
 v0:e 0=true->∃(g:Nat) (a b c:NetS),v 0=.slice (some ⟨g,0,none⟩) 3 3/\w0.heap.size<=g/\zl W g 9 #[.string a,.string b,.string c]
 v1:e 1=true->v 1=.int .i64 (t:Int)
 v2:e 2=true->∃(g:Nat) (a b c:NetS),v 2=.pointer (some ⟨g,t,none⟩)/\w0.heap.size<=g/\zl W g 9 #[.string a,.string b,.string c]
 v3:e 3=true->∃s:NetS,v 3=.string s
 v4:e 4=true->v 4=.pointer (some ⟨ge,0,none⟩)
 v5:e 5=true->v 5=.int .i64 (n:Int)
 v6:e 6=true->∃x,v 6=.int .i64 x/\0<=x/\x<(n:Int)
 v7:e 7=true->∃g x,v 7=.slice (some ⟨g,0,none⟩) 1 1/\w0.heap.size<=g/\zl W g 3 #[.int .i64 x]/\0<=x/\x<(n:Int)
 v8:e 8=true->v 8=.pointer (some ⟨ge,0,none⟩)
 v9:e 9=true->v 9=.int .i64 (n:Int)
 v10:e 10=true->∃x,v 10=.int .i64 x/\0<=x/\x<(n:Int)
 v11:e 11=true->∃g x,v 11=.slice (some ⟨g,0,none⟩) 1 1/\w0.heap.size<=g/\zl W g 3 #[.int .i64 x]/\0<=x/\x<(n:Int)
 ne:e 7=true->e 11=true->(v 7).ownBlock≠(v 11).ownBlock
 v12:e 12=true->v 12=.agg #[v 3,v 7,v 11]/\e 3=true/\e 7=true/\e 11=true
 v13:e 13=true->∃g,v 13=.pointer (some ⟨g,0,none⟩)/\w0.heap.size<=g/\(e 14=false->zl W g 87 #[.string ⟨#[]⟩,.slice none 0 0,.slice none 0 0])/\(e 14=true->zl W g 87 #[v 3,v 7,v 11])
 d14:e 14=true->e 12=true/\e 13=true
section
variable {B:Nat} {w0 W W':World} {ge n t:Nat} {e:Nat->Bool} {v:Nat->Value}
theorem J6.init (d:zT B w0 ge) (he:∀j∈[0,1,2,3,4,5,6,7,8,9,10,11,12,13,14],e j=false):J6 B w0 ge n t e v w0.drew:=
 ⟨⟨rfl,rfl,rfl,DY _,fun _ _ _=>rfl⟩,d,fun a=>ff (he 0 (by simp)) a,fun a=>ff (he 1 (by simp)) a,fun a=>ff (he 2 (by simp)) a,fun a=>ff (he 3 (by simp)) a,fun a=>ff (he 4 (by simp)) a,fun a=>ff (he 5 (by simp)) a,fun a=>ff (he 6 (by simp)) a,fun a=>ff (he 7 (by simp)) a,fun a=>ff (he 8 (by simp)) a,fun a=>ff (he 9 (by simp)) a,fun a=>ff (he 10 (by simp)) a,fun a=>ff (he 11 (by simp)) a,fun a=>ff (he 7 (by simp)) a,fun a=>ff (he 12 (by simp)) a,fun a=>ff (he 13 (by simp)) a,fun a=>ff (he 14 (by simp)) a⟩
theorem J6.move (h:J6 B w0 ge n t e v W) (gb:W.grownBy W' (some ge)) (dr:zT B W' ge) (d:∀g ty cs,w0.heap.size<=g->zl W g ty cs->zl W' g ty cs):J6 B w0 ge n t e v W':=
 ⟨h.gb.trans gb,dr,fun a=>let ⟨g,x,y,z,h1,h2,h3⟩:=h.v0 a;⟨g,x,y,z,h1,h2,d _ _ _ h2 h3⟩,h.v1,fun a=>let ⟨g,x,y,z,h1,h2,h3⟩:=h.v2 a;⟨g,x,y,z,h1,h2,d _ _ _ h2 h3⟩,h.v3,h.v4,h.v5,h.v6,
  fun a=>let ⟨g,x,h1,h2,h3,D⟩:=h.v7 a;⟨g,x,h1,h2,d _ _ _ h2 h3,D⟩,h.v8,h.v9,h.v10,fun a=>let ⟨g,x,h1,h2,h3,D⟩:=h.v11 a;⟨g,x,h1,h2,d _ _ _ h2 h3,D⟩,h.ne,h.v12,
  fun a=>let ⟨g,h1,h2,h3,D⟩:=h.v13 a;⟨g,h1,h2,fun b=>d _ _ _ h2 (h3 b),fun b=>d _ _ _ h2 (D b)⟩,h.d14⟩
theorem J6.hge (h:J6 B w0 ge n t e v W) (d:ge<w0.heap.size):w0.heap.size<=W.heap.size:=h.gb.size
theorem J6.alloc (h:J6 B w0 ge n t e v W) (d:B<=w0.heap.size) (o:Obj):J6 B w0 ge n t e v (W.alloc o):=
 h.move ⟨rfl,rfl,rfl,by simp,fun i E _=>Er _ _ _ E⟩ (h.dr.ext ((za.refl _).alloc _) (Ea d h.gb.size)) (fun g ty cs _ D=>D.alloc o)
theorem J6.call (h:J6 B w0 ge n t e v W) (E:ge<w0.heap.size) (gb:W.grownBy W' (some ge)) (dr:zT B W' ge):J6 B w0 ge n t e v W':=
 h.move gb dr (fun g ty cs D d=>(gb.block g (zc d) (fun e=>by injection e with e;omega)).trans d)
theorem J6.n12 (h:J6 B w0 ge n t e v W) (d:e 12=false):e 14=false:=notT (fun a=>(h.d14 a).1) d
theorem J6.n13 (h:J6 B w0 ge n t e v W) (d:e 13=false):e 14=false:=notT (fun a=>(h.d14 a).2) d
theorem J6.n3 (h:J6 B w0 ge n t e v W) (h3:e 3=false):e 12=false:=notT (fun a=>(h.v12 a).2.1) h3
theorem J6.n7 (h:J6 B w0 ge n t e v W) (h3:e 7=false):e 12=false:=notT (fun a=>(h.v12 a).2.2.1) h3
theorem J6.n11 (h:J6 B w0 ge n t e v W) (h3:e 11=false):e 12=false:=notT (fun a=>(h.v12 a).2.2.2) h3
theorem J6.s0 (h:J6 B w0 ge n t e v W) (d:B<=w0.heap.size) (a b c:NetS):J6 B w0 ge n t (Aw e 0 true) (Aw v 0 (.slice (some ⟨W.heap.size,0,none⟩) 3 3)) (W.alloc (.cells #[.string a,.string b,.string c] 9)):=
 let k:=h.alloc d (.cells #[.string a,.string b,.string c] 9)
 ⟨k.gb,k.dr,fun _=>⟨_,a,b,c,rfl,h.gb.size,zl.new _ _ _ rfl⟩,k.v1,k.v2,k.v3,k.v4,k.v5,k.v6,k.v7,k.v8,k.v9,k.v10,k.v11,k.ne,k.v12,k.v13,k.d14⟩
theorem J6.s1 (h:J6 B w0 ge n t e v W):J6 B w0 ge n t (Aw e 1 true) (Aw v 1 (.int .i64 (t:Int))) W:=
 ⟨h.gb,h.dr,h.v0,fun _=>rfl,h.v2,h.v3,h.v4,h.v5,h.v6,h.v7,h.v8,h.v9,h.v10,h.v11,h.ne,h.v12,h.v13,h.d14⟩
theorem J6.s2 (h:J6 B w0 ge n t e v W) {a b c:NetS} (D:w0.heap.size<=g) (d:zl W g 9 #[.string a,.string b,.string c]):J6 B w0 ge n t (Aw e 2 true) (Aw v 2 (.pointer (some ⟨g,t,none⟩))) W:=
 ⟨h.gb,h.dr,h.v0,h.v1,fun _=>⟨g,a,b,c,rfl,D,d⟩,h.v3,h.v4,h.v5,h.v6,h.v7,h.v8,h.v9,h.v10,h.v11,h.ne,h.v12,h.v13,h.d14⟩
theorem J6.s3 (h:J6 B w0 ge n t e v W) (h3:e 3=false) (s:NetS):J6 B w0 ge n t (Aw e 3 true) (Aw v 3 (.string s)) W:=
 ⟨h.gb,h.dr,h.v0,h.v1,h.v2,fun _=>⟨s,rfl⟩,h.v4,h.v5,h.v6,h.v7,h.v8,h.v9,h.v10,h.v11,h.ne,fun a=>ff (b:=e 12) (h.n3 h3) a,fun a=>let ⟨g,h1,h2,d,D⟩:=h.v13 a;⟨g,h1,h2,d,fun b=>ff (b:=e 14) (h.n12 (h.n3 h3)) b⟩,h.d14⟩
theorem J6.s4 (h:J6 B w0 ge n t e v W):J6 B w0 ge n t (Aw e 4 true) (Aw v 4 (.pointer (some ⟨ge,0,none⟩))) W:=
 ⟨h.gb,h.dr,h.v0,h.v1,h.v2,h.v3,fun _=>rfl,h.v5,h.v6,h.v7,h.v8,h.v9,h.v10,h.v11,h.ne,h.v12,h.v13,h.d14⟩
theorem J6.s5 (h:J6 B w0 ge n t e v W):J6 B w0 ge n t (Aw e 5 true) (Aw v 5 (.int .i64 (n:Int))) W:=
 ⟨h.gb,h.dr,h.v0,h.v1,h.v2,h.v3,h.v4,fun _=>rfl,h.v6,h.v7,h.v8,h.v9,h.v10,h.v11,h.ne,h.v12,h.v13,h.d14⟩
theorem J6.s6 (h:J6 B w0 ge n t e v W) (D:ge<w0.heap.size) (gb:W.grownBy W' (some ge)) (dr:zT B W' ge) (E:0<=x) (d:x<(n:Int)):J6 B w0 ge n t (Aw e 6 true) (Aw v 6 (.int .i64 x)) W':=
 let k:=h.call D gb dr
 ⟨k.gb,k.dr,k.v0,k.v1,k.v2,k.v3,k.v4,k.v5,fun _=>⟨x,rfl,E,d⟩,k.v7,k.v8,k.v9,k.v10,k.v11,k.ne,k.v12,k.v13,k.d14⟩
theorem J6.s7 (h:J6 B w0 ge n t e v W) (G:B<=w0.heap.size) (E:e 7=false) (I:0<=x) (D:x<(n:Int)):J6 B w0 ge n t (Aw e 7 true) (Aw v 7 (.slice (some ⟨W.heap.size,0,none⟩) 1 1)) (W.alloc (.cells #[.int .i64 x] 3)):=
 let k:=h.alloc G (.cells #[.int .i64 x] 3)
 ⟨k.gb,k.dr,k.v0,k.v1,k.v2,k.v3,k.v4,k.v5,k.v6,fun _=>⟨_,x,rfl,h.gb.size,zl.new _ _ _ rfl,I,D⟩,k.v8,k.v9,k.v10,k.v11,fun _ b=>by
  obtain ⟨g,y,h1,_,h3,_⟩:=h.v11 b;show (Value.slice (some ⟨W.heap.size,0,none⟩) 1 1).ownBlock≠(v 11).ownBlock;rw [h1];intro e;have:=zc h3;have e:some W.heap.size=some g:=e;injection e with e;omega,fun a=>ff (b:=e 12) (h.n7 E) a,fun a=>let ⟨g,h1,h2,d,J⟩:=k.v13 a;⟨g,h1,h2,d,fun b=>ff (b:=e 14) (h.n12 (h.n7 E)) b⟩,k.d14⟩
theorem J6.s8 (h:J6 B w0 ge n t e v W):J6 B w0 ge n t (Aw e 8 true) (Aw v 8 (.pointer (some ⟨ge,0,none⟩))) W:=
 ⟨h.gb,h.dr,h.v0,h.v1,h.v2,h.v3,h.v4,h.v5,h.v6,h.v7,fun _=>rfl,h.v9,h.v10,h.v11,h.ne,h.v12,h.v13,h.d14⟩
theorem J6.s9 (h:J6 B w0 ge n t e v W):J6 B w0 ge n t (Aw e 9 true) (Aw v 9 (.int .i64 (n:Int))) W:=
 ⟨h.gb,h.dr,h.v0,h.v1,h.v2,h.v3,h.v4,h.v5,h.v6,h.v7,h.v8,fun _=>rfl,h.v10,h.v11,h.ne,h.v12,h.v13,h.d14⟩
theorem J6.s10 (h:J6 B w0 ge n t e v W) (D:ge<w0.heap.size) (gb:W.grownBy W' (some ge)) (dr:zT B W' ge) (E:0<=x) (d:x<(n:Int)):J6 B w0 ge n t (Aw e 10 true) (Aw v 10 (.int .i64 x)) W':=
 let k:=h.call D gb dr
 ⟨k.gb,k.dr,k.v0,k.v1,k.v2,k.v3,k.v4,k.v5,k.v6,k.v7,k.v8,k.v9,fun _=>⟨x,rfl,E,d⟩,k.v11,k.ne,k.v12,k.v13,k.d14⟩
theorem J6.s11 (h:J6 B w0 ge n t e v W) (G:B<=w0.heap.size) (E:e 11=false) (I:0<=x) (D:x<(n:Int)):J6 B w0 ge n t (Aw e 11 true) (Aw v 11 (.slice (some ⟨W.heap.size,0,none⟩) 1 1)) (W.alloc (.cells #[.int .i64 x] 3)):=
 let k:=h.alloc G (.cells #[.int .i64 x] 3)
 ⟨k.gb,k.dr,k.v0,k.v1,k.v2,k.v3,k.v4,k.v5,k.v6,k.v7,k.v8,k.v9,k.v10,fun _=>⟨_,x,rfl,h.gb.size,zl.new _ _ _ rfl,I,D⟩,fun a _=>by
  obtain ⟨g,y,h1,_,h3,_⟩:=h.v7 a;show (v 7).ownBlock≠(Value.slice (some ⟨W.heap.size,0,none⟩) 1 1).ownBlock;rw [h1];intro e;have:=zc h3;have e:some g=some W.heap.size:=e;injection e with e;omega,fun a=>ff (b:=e 12) (h.n11 E) a,fun a=>let ⟨g,h1,h2,d,J⟩:=k.v13 a;⟨g,h1,h2,d,fun b=>ff (b:=e 14) (h.n12 (h.n11 E)) b⟩,k.d14⟩
theorem J6.s12 (h:J6 B w0 ge n t e v W) (h3:e 3=true) (D:e 7=true) (d:e 11=true):J6 B w0 ge n t (Aw e 12 true) (Aw v 12 (.agg #[v 3,v 7,v 11])) W:=
 ⟨h.gb,h.dr,h.v0,h.v1,h.v2,h.v3,h.v4,h.v5,h.v6,h.v7,h.v8,h.v9,h.v10,h.v11,h.ne,fun _=>⟨rfl,h3,D,d⟩,h.v13,fun a=>⟨rfl,(h.d14 a).2⟩⟩
theorem J6.s13 (h:J6 B w0 ge n t e v W) (D:B<=w0.heap.size) (d:e 13=false):J6 B w0 ge n t (Aw e 13 true) (Aw v 13 (.pointer (some ⟨W.heap.size,0,none⟩))) (W.alloc (.cells #[.string ⟨#[]⟩,.slice none 0 0,.slice none 0 0] 87)):=
 let k:=h.alloc D (.cells #[.string ⟨#[]⟩,.slice none 0 0,.slice none 0 0] 87)
 ⟨k.gb,k.dr,k.v0,k.v1,k.v2,k.v3,k.v4,k.v5,k.v6,k.v7,k.v8,k.v9,k.v10,k.v11,k.ne,k.v12,fun _=>⟨_,rfl,h.gb.size,fun _=>zl.new _ _ _ rfl,fun b=>ff (b:=e 14) (h.n13 d) b⟩,fun a=>ff (b:=e 14) (h.n13 d) a⟩
theorem J6.s14 (h:J6 B w0 ge n t e v W) (hB:B<=w0.heap.size) (K:e 12=true) (M:e 13=true) {x:Value} (hv:v 13=.pointer (some ⟨g,0,none⟩)) (hg:w0.heap.size<=g) (V:zl W g 87 #[.string ⟨#[]⟩,.slice none 0 0,.slice none 0 0]) (hl:ge<w0.heap.size):
  J6 B w0 ge n t (Aw e 14 true) (Aw v 14 x) (((W.setCell ⟨g,0,none⟩ (v 3)).setCell ⟨g,1,none⟩ (v 7)).setCell ⟨g,2,none⟩ (v 11)):=by
 have E:∀g',g'≠g->(((W.setCell ⟨g,0,none⟩ (v 3)).setCell ⟨g,1,none⟩ (v 7)).setCell ⟨g,2,none⟩ (v 11)).heap[g']?=W.heap[g']?:=fun g' D=>
  (Eh _ ⟨g,2,none⟩ _ g' D).trans ((Eh _ ⟨g,1,none⟩ _ g' D).trans (Eh _ ⟨g,0,none⟩ _ g' D))
 have J:∀g' ty cs,ty≠87->zl W g' ty cs->zl (((W.setCell ⟨g,0,none⟩ (v 3)).setCell ⟨g,1,none⟩ (v 7)).setCell ⟨g,2,none⟩ (v 11)) g' ty cs:=fun g' ty cs U G=>(E g' (zl.ne_ G V U)).trans G
 have d:Below B W (((W.setCell ⟨g,0,none⟩ (v 3)).setCell ⟨g,1,none⟩ (v 7)).setCell ⟨g,2,none⟩ (v 11)):=(((Below.refl B W).setCell (p:=⟨g,0,none⟩) (by show B<=g;omega) _).setCell (p:=⟨g,1,none⟩) (by show B<=g;omega) _).setCell (p:=⟨g,2,none⟩) (by show B<=g;omega) _;refine ⟨⟨h.gb.os,h.gb.tape,h.gb.output,Ea h.gb.size d.size,fun i hi I=>(E i (by omega)).trans (h.gb.block i hi I)⟩,h.dr.keep d (E ge (by omega)),fun a=>?_,h.v1,fun a=>?_,h.v3,h.v4,h.v5,h.v6,fun a=>?_,h.v8,h.v9,h.v10,fun a=>?_,h.ne,h.v12,fun _=>⟨g,hv,hg,fun a=>(by cases a),fun _=>?_⟩,fun _=>⟨K,M⟩⟩
 ·obtain ⟨g',a1,b1,c1,h1,h2,h3⟩:=h.v0 a;exact ⟨g',a1,b1,c1,h1,h2,J _ _ _ (by decide) h3⟩
 ·obtain ⟨g',a1,b1,c1,h1,h2,h3⟩:=h.v2 a;exact ⟨g',a1,b1,c1,h1,h2,J _ _ _ (by decide) h3⟩
 ·obtain ⟨g',x',h1,h2,h3,O⟩:=h.v7 a;exact ⟨g',x',h1,h2,J _ _ _ (by decide) h3,O⟩
 ·obtain ⟨g',x',h1,h2,h3,O⟩:=h.v11 a;exact ⟨g',x',h1,h2,J _ _ _ (by decide) h3,O⟩
 ·exact ((V.set (k:=0) (v 3)).set (k:=1) (v 7)).set (k:=2) (v 11)
theorem own1 {W:World} (d:zl W g 3 #[.int .i64 x]) (D:S<=g):zL W S (.slice (some ⟨g,0,none⟩) 1 1) [x]:=
 ⟨rfl,.inr ⟨g,1,#[.int .i64 x],rfl,D,d,DY _,by unfold maxLen;omega,rfl,rfl⟩⟩
theorem J6.fin (h:J6 B w0 ge n t (fun _=>true) v W) (hB:B<=S) (hS:S<=w0.heap.size) (U:S<=ge):∃(s:NetS) (g7 g11 gt:Nat) (x1 x2:Int),v 3=.string s/\v 7=.slice (some ⟨g7,0,none⟩) 1 1/\v 11=.slice (some ⟨g11,0,none⟩) 1 1/\v 13=.pointer (some ⟨gt,0,none⟩)/\
  R1 B W S ge gt n s (.slice (some ⟨g7,0,none⟩) 1 1) (.slice (some ⟨g11,0,none⟩) 1 1) [x1] [x2]:=by
 obtain ⟨s,hs⟩:=h.v3 rfl;obtain ⟨g7,x1,D,a1,J,K⟩:=h.v7 rfl;obtain ⟨g11,x2,E,a2,M,O⟩:=h.v11 rfl;obtain ⟨gt,G,V,_,d⟩:=h.v13 rfl;have d:=d rfl;have I:=h.ne rfl rfl;rw [hs,D,E] at d;rw [D,E] at I;refine ⟨s,g7,g11,gt,x1,x2,hs,D,E,G,hB,Ea hS h.gb.size,h.dr,U,d,by omega,own1 J (by omega),own1 M (by omega),.inr I,by simp,by simp,fun y hy=>?_⟩;rcases hy with hy | hy
 ·rw [EF] at hy;rw [hy];exact K
 ·rw [EF] at hy;rw [hy];exact O
end
end
end Go.Proofs.YtjomnbdjajjgfaaGreatDoor
