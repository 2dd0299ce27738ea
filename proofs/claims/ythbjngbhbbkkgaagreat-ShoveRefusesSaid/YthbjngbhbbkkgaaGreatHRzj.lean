import Derived.Test.YthbjngbhbbkkgaaGreatHRzi
set_option linter.unusedVariables false
set_option linter.unusedSimpArgs false
set_option maxRecDepth 100000
set_option maxHeartbeats 16000000
namespace Go.Proofs.YthbjngbhbbkkgaaGreat
variable {ch s:List Int} {m:MZ} {k:Nat} {ok okc:Nat->Prop} {vc:Value}
section
open Go.RowKit
attribute [local go_sem ↓] Go.wp_at_zero Go.wp_at_succ
theorem box3 (w:World) (a0 a1 a2:Value):zb w (w.alloc (.cells #[a0,a1,a2] 37))/\
  (∀W,zb (w.alloc (.cells #[a0,a1,a2] 37)) W->W.cell? ⟨w.heap.size,0,none⟩=some a0)/\(∀W,zb (w.alloc (.cells #[a0,a1,a2] 37)) W->W.cell? ⟨w.heap.size,1,none⟩=some a1)/\(∀W,zb (w.alloc (.cells #[a0,a1,a2] 37)) W->W.cell? ⟨w.heap.size,2,none⟩=some a2):=by
 have o:=zk.new w #[a0,a1,a2] 37 rfl;exact ⟨(zb.refl w).alloc _,zb.rule (o.cell (k:=0) rfl),zb.rule (o.cell (k:=1) rfl),zb.rule (o.cell (k:=2) rfl)⟩
def Ca (N:Int) (tg s:List Int) (i:Nat):Prop:=0<=s.getD i 0/\s.getD i 0<N/\(0<i->s.getD (i - 1) 0<s.getD i 0)/\s.getD i 0∉tg
theorem incB_iff {N:Int}:∀{l:List Int} {b:Int},incB N b l=true↔∀i,i<l.length->(b :: l).getD i 0<l.getD i 0/\l.getD i 0<N
 | [],b=>by simp [incB]
 | x :: l,b=>by
  unfold incB;rw [ES,ES,EQ,EQ,incB_iff];constructor
  ·rintro ⟨h1,h2,h3⟩ i o
   cases i with
   | zero=>exact ⟨by simpa using h1,by simpa using h2⟩
   | succ i=>simpa using h3 i (by simpa using o)
  ·intro h;refine ⟨by simpa using (h 0 (by simp)).1,by simpa using (h 0 (by simp)).2,fun i o=>?_⟩;simpa using h (i+1) (by simpa using o)
theorem side_iff {N:Int} {tg:List Int}:(incB N (-1) s && !(s.any fun n=>decide (n∈tg)))=true↔∀i,i<s.length->Ca N tg s i:=by
 rw [ES,incB_iff,Bool.not_eq_true',<-Bool.not_eq_true,FM];constructor
 ·rintro ⟨h1,h2⟩ i o;have z:s.getD i 0∈s:=by rw [EF,EE o];exact EH o
  have B:∀j,j<s.length->0<=s.getD j 0:=by
   intro j
   induction j with
   | zero=>intro D;have:=(h1 0 D).1;simp at this⊢;omega
   | succ j ih=>intro D;have:=(h1 (j+1) D).1;have I:=ih (by omega);rw [List.getD_cons_succ] at this;omega
  refine ⟨B i o,(h1 i o).2,fun h0=>?_,fun h=>h2 ⟨_,z,by simpa using h⟩⟩;have:=(h1 i o).1;obtain ⟨j,rfl⟩:∃j,i=j+1:=⟨i - 1,by omega⟩;rw [List.getD_cons_succ] at this;simpa using this
 ·intro h;refine ⟨fun i o=>⟨?_,(h i o).2.1⟩,?_⟩
  ·cases i with
   | zero=>have:=(h 0 o).1;simp at this⊢;omega
   | succ j=>have:=(h (j+1) o).2.2.1 (by omega);rw [List.getD_cons_succ];simpa using this
  ·rintro ⟨x,G,E⟩;obtain ⟨i,o,rfl⟩:=Fm G;refine (h i o).2.2.2 ?_;rw [EF,EE o];simpa using E
theorem curT_le (o:AO m=0) (z:zx m ch):zR m ch<=m.tasks.length:=by
 rcases cur_of o z with ⟨-,h⟩ | ⟨-,qs,a,h⟩
 ·omega
 ·have:=h.lt;have:=h.cur;omega
theorem nextO_len (m:MZ) (x:Int):(AR m x).length<=6:=by
 unfold AR
 split
 ·exact Bc m x
 ·simp
theorem nextO_rng (g:zC m) {x y:Int} (h:y∈AR m x):0<=y/\y<m.n:=by
 unfold AR at h
 split at h
 ·next h1=>exact An g.dim h1.2.1 h1.2.2 h
 ·cases h
theorem headP_le {t:Nat} (z:Lens m) (o:t<m.tasks.length):(AE m ch t).length<=20000000000000:=by
 unfold AE
 split
 ·cases ((zq m ch).getD t []).getLast? <;> simp
 ·refine EI (Fi _ _) ?_;rw [EF,EE o];have:=(z.tl _ (EH o)).1;show (m.tasks[t]).1.length<=_;omega
theorem vcut_calls {okp:Nat->Prop} {v vp:Value} {p:PT} (w:World) (hm:zw w ok v m) (hl:Lens m) (hc:AO m=0) (j8:zj w okc vc ch) (hi:zx m ch) (hp:Dz w okp vp p) (o1:p.side.length<=20000000000000):
  Calls Tryz.prog 96 #[v,vc,vp] w fun e w'=>e=.returned (.bool (cutB m ch p.task p.side p.kids.length))/\zb w w':=by
 have HM:=zh hm;have HL:=zh hl;have HC:=zh hc;have HI:=zh hi;have e5:=zh j8;have G:=zh (zC.of hc);have b7:=zh (AG hc hi);obtain ⟨Af,cf,Au,cu,At,ct,rfl,j9,-,l0⟩:=hm.parts;have m6:=zh l0;have l8:=zh j9;clear j9;obtain ⟨Ac,cc,rfl,-,-⟩:=j8;obtain ⟨As,cs,Ak,ck,rfl,a4⟩:=hp.form;have c0:=zh a4;have q4:=hl.ts;clear hm hl hc hi hp l0;obtain ⟨R,hR⟩:=zad (cutB m ch p.task p.side p.kids.length);rw [<-hR];have b9:=zh hR;obtain ⟨tk,g8⟩:=zad p.task;obtain ⟨s,hs⟩:=zad p.side;obtain ⟨nk,g5⟩:=zad p.kids.length;rw [<-g8,<-hs,<-g5] at b9;rw [<-hs] at c0 a4 o1;rw [<-g8,<-hs,<-g5];clear hR g8 hs g5;obtain ⟨c,j7⟩:=zad (zR m ch);have e6:=zh j7;clear j7
 go_enter Tryz.func96,Tryz.ntmps96
 go_upto_region 1 with fail;obtain ⟨f4,r0,r1,r2,r3,r4,r5⟩:=box6 w (.int .i64 m.w) (.int .i64 m.h) (.int .i64 m.l) (.slice Af m.free.length cf) (.slice Au m.up.length cu) (.slice At m.tasks.length ct);have g7:(w.alloc (.cells #[.int .i64 m.w,.int .i64 m.h,.int .i64 m.l,.slice Af m.free.length cf,.slice Au m.up.length cu,.slice At m.tasks.length ct] 32)).heap.size=w.heap.size+1:=by simp
 generalize w.alloc _=w0 at f4 r0 r1 r2 r3 r4 r5 g7⊢;obtain ⟨c8,p0,p1,p2⟩:=box3 w0 (.int .i64 tk) (.slice As s.length cs) (.slice Ak nk ck);generalize w0.alloc _=w1 at c8 p0 p1 p2⊢;rw [g7] at p0 p1 p2;obtain ⟨gm,f9⟩:=zad w.heap.size;rw [<-f9] at r0 r1 r2 r3 r4 r5 p0 p1 p2⊢;have o9:Hid (gm=w.heap.size):=f9;have a6:=zh c8;have o:=zh (f4.trans c8);have r0:=fun W h=>r0 W (a6.out.trans h)
 have r1:=fun W h=>r1 W (a6.out.trans h)
 have r2:=fun W h=>r2 W (a6.out.trans h)
 have r3:=fun W h=>r3 W (a6.out.trans h)
 have r4:=fun W h=>r4 W (a6.out.trans h)
 have r5:=fun W h=>r5 W (a6.out.trans h)
 clear f9 f4 c8 g7;have E:zb w1 w1:=zb.refl w1
 go_wp2_with fail
 refine (DX w1 (HM.out.below o.out) HL.out (e5.out.below o.out) (by have:=b7.out;omega)).mono ?_;rintro e w2 ⟨vpp,rfl,f1,d9⟩;have b8:=zh d9;have o3:zb w1 w2:=f1;obtain ⟨_,⟨App,cpp,rfl,-,-⟩,-⟩:=d9
 have HV:Hid (∀W,zb w2 W->Calls Tryz.prog 95 #[.agg #[.int .i64 m.w,.int .i64 m.h,.int .i64 m.l,.slice Af m.free.length cf,.slice Au m.up.length cu,.slice At m.tasks.length ct],.slice App (zq m ch).length cpp] W fun e w'=>e=.returned (.int .i64 c)/\zb W w'):=fun W hW=>by
  rw [e6.out];exact Dy W (HM.out.below ((o.out.trans f1).trans hW)) HL.out (b8.out.below hW) b7.out.1 (fun x E=>by have:=(b7.out.2.2.2 x E).2;omega)
 clear f1 E;obtain ⟨PL,d5⟩:=zad ((zq m ch).length);rw [<-d5] at HV b8⊢;clear d5;have hy:zb w2 w2:=zb.refl w2
 go_wp2_with fail
 refine (HV.out _ hy).mono ?_;rintro e w3 ⟨rfl,f2⟩;have E:zb w1 w3:=zb.trans ‹zb w1 w2› f2;have d4:=zh (b8.out.below f2);clear HV f2 hy o3 b8;go_upto_region 3 with fail;obtain ⟨bad,d6⟩:∃bad:Bool,bad=decide (tk<c\/(m.tasks.length:Int)<=tk\/(tk=c/\s=[])\/nk≠0):=⟨_,rfl⟩;have J:=zh d6;clear d6;go_cut [54] (fun v wx=>v=.bool bad/\w3=wx)
 case first=>
  by_cases h1:tk<(c:Int)
  ·have M:Hid (bad=true):=by (show _=_);rw [J.out];exact EJ (.inl h1)
   go_wp2_with fail
   go_meet;exact ⟨by rw [M.out],rfl⟩
  ·by_cases h2:(m.tasks.length:Int)<=tk
   ·have M:Hid (bad=true):=by (show _=_);rw [J.out];exact EJ (.inr (.inl h2))
    go_wp2_with fail
    go_meet;exact ⟨by rw [M.out],rfl⟩
   ·by_cases h3:tk=(c:Int)
    ·have m9:(tk==(c:Int))=true:=by rw [beq_iff_eq];exact h3
     by_cases h4:s=[]
     ·have M:Hid (bad=true):=by (show _=_);rw [J.out];exact EJ (.inr (.inr (.inl ⟨h3,h4⟩)))
      have n2:((s.length:Int)==0)=true:=by rw [h4];rfl
      clear h3 h4
      go_wp2_with fail
      go_meet;exact ⟨by rw [M.out],rfl⟩
     ·have M:Hid (bad=decide (0<nk)):=by
       (show _=_)
       rw [J.out,decide_eq_decide];constructor
       ·rintro (h | h | h | h)
        ·exact absurd h h1
        ·exact absurd h h2
        ·exact absurd h.2 h4
        ·omega
       ·intro h;exact .inr (.inr (.inr (by omega)))
      have n2:((s.length:Int)==0)=false:=by
       rw [ET];intro h;exact h4 (EX (by omega))
      clear h3 h4
      go_wp2_with fail
      go_meet;refine ⟨?_,rfl⟩;rw [M.out]
      all_goals (first | rfl | (congr 1;done) | (congr 1;rw [decide_eq_decide];omega))
    ·have m9:(tk==(c:Int))=false:=by rw [ET];exact h3
     have M:Hid (bad=decide (0<nk)):=by
      (show _=_)
      rw [J.out,decide_eq_decide];constructor
      ·rintro (h | h | h | h)
       ·exact absurd h h1
       ·exact absurd h h2
       ·exact absurd h.1 h3
       ·omega
      ·intro h;exact .inr (.inr (.inr (by omega)))
     clear h3
     go_wp2_with fail
     go_meet;refine ⟨?_,rfl⟩;rw [M.out]
     all_goals (first | rfl | (congr 1;done) | (congr 1;rw [decide_eq_decide];omega))
 case rest=>
  obtain ⟨rfl,rfl⟩:=hcut
  cases bad with
  | true=>
   have HF:Hid (R=false):=by
    (show _=_)
    have:=zaa J.out.symm;rw [e6.out] at this;rw [b9.out];unfold cutB;rw [if_pos this]
   go_wp2_with fail
   go_ret;exact ⟨ze HF.out.symm,o.out.trans E⟩
  | false=>
   have k5:=of_decide_eq_false J.out.symm
   have HF:Hid (R=(incB m.n (-1) s && (!(s.any fun n=>decide (n∈(m.tasks.getD tk.toNat ([],[])).2)) && ((AE m ch tk.toNat).all (fun n=>decide (n∈s)) && wallB m ch tk.toNat s)))):=by
    (show _=_)
    have:=k5;rw [e6.out] at this;rw [b9.out];unfold cutB;rw [if_neg this]
   obtain ⟨t,ht⟩:∃t:Nat,tk=t:=⟨tk.toNat,by omega⟩;subst ht;rw [Fy] at HF;have k9:t<m.tasks.length:=by omega
   have T:=zh k9;have k1:(t:Int)<(m.tasks.length:Int):=by omega
   have k0:(0:Int)<=(t:Int):=by omega
   clear k5 J b9;have p8:=G.out.dim.n1;have o5:=G.out.dim.layer;have o6:IntKind.i64.wrap (m.w*m.h)=m.w*m.h:=by rw [Fb];omega
   have o7:IntKind.i64.wrap (m.w*m.h*m.l)=m.w*m.h*m.l:=by rw [Fb];omega
   have c4:Hid ((incB m.n (-1) s && !(s.any fun n=>decide (n∈(m.tasks.getD t ([],[])).2)))=true↔∀i,i<s.length->Ca m.n (m.tasks.getD t ([],[])).2 s i):=side_iff;obtain ⟨bt,offt,sn,u1,u2,rfl,-,-,-,d7,-,g4⟩:=AJ m6.out T.out;have o2:=(HL.out.tl _ (EH T.out)).2;have i4:Hid ((m.tasks.getD t ([],[])).2=(m.tasks[t]'T.out).2):=by (show _=_);rw [EF,EE T.out];rfl
   obtain ⟨tg,k8⟩:=zad ((m.tasks[t]'T.out).2);rw [<-k8] at g4 o2 i4;rw [i4.out] at c4 HF;have i5:=zh (g4.below o.out);obtain ⟨Atg,ctg,rfl,-,-⟩:=g4;have rtg:=zb.rule (o.out.cell d7);have i6:=zh E;have e8:=zh (show Ae w okp 1 As s.length (s.map (Value.int .i64)) from by obtain ⟨A',c',e,-,h⟩:=c0.out;injection e with e1 e2 e3;rw [e1];exact h);clear k8 d7 a4 E
   go_wp2_with fail
   go_loopw [10] (fun i wr=>∃k:Nat,k<=s.length/\i=.int .i64 k/\Hid (∀j,j<k->Ca m.n tg s j)/\Hid (zb w3 wr)) (fun i _=>s.length - (intOf i).toNat)
   case atStart=>exact ⟨0,EU _,rfl,fun j hj=>by omega,zb.refl _⟩
   case round=>
    obtain ⟨k,hk,rfl,a7,hE⟩:=hrel;obtain ⟨wk,rfl⟩:∃wk:World,wk=wr:=⟨_,rfl⟩;have E:zb w1 wk:=i6.out.trans hE.out;by_cases I:k<s.length
    ·have d8:(k:Int)<(s.length:Int):=by omega
     have kk0:(0:Int)<=(k:Int):=by omega
     obtain ⟨bs,offs,rfl,-,a3⟩:=zy e8.out I I;have g0:s.getD k 0=s[k]:=zgd I
     obtain ⟨x,V⟩:=zad (s[k]);rw [<-V] at a3 g0;have rx:=zb.rule (o.out.cell a3)
     obtain ⟨ob,g6⟩:∃ob:Bool,ob=true↔Ca m.n tg s k:=by
      by_cases h:Ca m.n tg s k
      ·exact ⟨true,by simp [h]⟩
      ·exact ⟨false,by simp [h]⟩
     have b6:Hid (ob=true↔0<=x/\x<m.n/\(0<k->s.getD (k - 1) 0<x)/\x∉tg):=by
      (show _↔_)
      rw [g6];unfold Ca;rw [g0]
     have c9:=zh g6;clear a3 g0 V g6;have z:zb wk wk:=zb.refl wk;go_upto_region 8 with fail;go_cut [116] (fun v wx=>v=.bool (!ob)/\zb wk wx)
     case first=>
      by_cases h1:x<0
      ·have M:Hid (ob=false):=by (show _=_);rw [<-Bool.not_eq_true,b6.out];omega
       go_quiet (fail)
       go_wp2_with fail
       go_meet;exact ⟨by rw [M.out];rfl,z.drewN _⟩
      ·by_cases h2:m.w*m.h*m.l<=x
       ·have M:Hid (ob=false):=by (show _=_);rw [<-Bool.not_eq_true,b6.out];unfold MZ.n;omega
        go_quiet (fail)
        go_wp2_with fail
        go_meet;exact ⟨by rw [M.out];rfl,z.drewN _⟩
       ·have c5:x<m.n:=by unfold MZ.n;omega
        by_cases h3:k=0
        ·have M:Hid (ob=!decide (x∈tg)):=by
          (show _=_)
          rw [Bool.eq_iff_iff,b6.out,Bool.not_eq_true',Fd];exact ⟨fun h=>h.2.2.2,fun h=>⟨by omega,c5,fun h0=>by omega,h⟩⟩
         have j1:¬ (0<k):=by omega
         have n0:¬ ((0:Int)<(k:Int)):=by omega
         clear h3 c5;go_quiet ((go_at_call 12;refine (zU x _ (i5.out.below (E.drewN _)) (by omega)).mono ?_;rintro e w9 ⟨rfl,rfl⟩;exact ⟨rfl,⟨_,rfl⟩⟩))
         go_wp2_with fail
         go_meet;exact ⟨by rw [M.out];simp,z.drewN _⟩
        ·have j1:0<k:=by omega
         have n0:(0:Int)<(k:Int):=by omega
         have a5:k - 1<s.length:=by omega
         obtain ⟨bs',offs',e,-,f5⟩:=zy e8.out a5 a5;injection e with e;injection e with e1 e2;subst e1 e2;have g3:s.getD (k - 1) 0=s[k - 1]:=zgd a5
         obtain ⟨y,b4⟩:=zad (s[k - 1]);rw [<-b4] at f5 g3;have ry:=zb.rule (o.out.cell f5)
         have e0:Hid (ob=(decide (y<x) && !decide (x∈tg))):=by
          (show _=_)
          rw [Bool.eq_iff_iff,b6.out,g3,ES,Bool.not_eq_true',Fd,EQ];exact ⟨fun h=>⟨h.2.2.1 j1,h.2.2.2⟩,fun h=>⟨by omega,c5,fun _=>h.1,h.2⟩⟩
         have n8:IntKind.i64.wrap ((k:Int) - 1)=((k - 1:Nat):Int):=by rw [Fb];omega
         have k3:(0:Int)<=((k - 1:Nat):Int):=by omega
         have k4:((k - 1:Nat):Int)<(s.length:Int):=by omega
         clear h3 c5 f5 g3 b4;obtain ⟨k',k2⟩:∃k',k'=k - 1:=⟨_,rfl⟩;rw [<-k2] at ry n8 k3 k4 a5;clear k2;by_cases h4:x<=y
         ·have M:Hid (ob=false):=by (show _=_);rw [e0.out,EK (by omega)];rfl
          go_quiet (fail)
          go_wp2_with fail
          go_meet;exact ⟨by rw [M.out];rfl,z.drewN _⟩
         ·have M:Hid (ob=!decide (x∈tg)):=by (show _=_);rw [e0.out,EJ (by omega)];rfl
          clear e0;go_quiet ((go_at_call 12;refine (zU x _ (i5.out.below (E.drewN _)) (by omega)).mono ?_;rintro e w9 ⟨rfl,rfl⟩;exact ⟨rfl,⟨_,rfl⟩⟩))
          go_wp2_with fail
          go_meet;exact ⟨by rw [M.out];simp,z.drewN _⟩
     case rest=>
      obtain ⟨rfl,b0⟩:=hcut;have O:zb w3 wc:=hE.out.trans b0
      cases ob with
      | false=>
       have a0:Hid (R=false):=by
        (show _=_)
        have h:¬ ∀i,i<s.length->Ca m.n tg s i:=fun h=>absurd (c9.out.2 (h k I)) (by simp)
        rw [HF.out,<-Bool.and_assoc,Bool.eq_false_iff.2 (fun h2=>h (c4.out.1 h2)),Bool.false_and]
       go_wp2_with fail
       go_ret;exact ⟨ze a0.out.symm,o.out.trans (i6.out.trans O)⟩
      | true=>
       have b3:Hid (∀j,j<k+1->Ca m.n tg s j):=fun j hj=>by
        rcases Fc j k with h | h
        ·exact a7.out j h
        ·obtain rfl:j=k:=by omega
         exact c9.out.1 rfl
       go_wp2_with fail
       go_roundw
       case rel=>exact ⟨k+1,by omega,by go_num,b3,O⟩
       case measure=>simp [intOf];omega
    ·obtain rfl:k=s.length:=by omega
     have b5:Hid (R=((AE m ch t).all (fun n=>decide (n∈s)) && wallB m ch t s)):=by
      (show _=_)
      rw [HF.out,<-Bool.and_assoc,c4.out.2 a7.out,Bool.true_and]
     clear a7 HF c4;have h9:=zh (headP_le HL.out (ch:=ch) T.out)
     go_wp2_with fail
     refine (vhead_calls t wk (HM.out.below (o.out.trans E)) HL.out HC.out (e5.out.below (o.out.trans E)) HI.out (d4.out.below hE.out) T.out).mono ?_;rintro e w5 ⟨vb,rfl,j2,f3⟩;have e9:Hid (zb w1 w5):=E.trans j2;have m0:=zh f3;obtain ⟨B,hB⟩:=zad (AE m ch t);rw [<-hB] at f3 m0 b5 h9;obtain ⟨Ab,cb,rfl,-,k6⟩:=f3;have m1:=zh k6;clear hB k6 j2 E hE d4;have E:=e9.out
     go_wp2_with fail
     have i7:=zh (zb.refl w5);go_loopw [12] (fun i wr=>∃j:Nat,j<=B.length/\i=.int .i64 j/\Hid ((B.take j).all (fun n=>decide (n∈s))=true)/\Hid (zb w5 wr)) (fun i _=>B.length - (intOf i).toNat)
     case atStart=>exact ⟨0,EU _,rfl,rfl,i7.out⟩
     case round=>
      obtain ⟨j,hj,rfl,Q,hE⟩:=hrel;obtain ⟨wj,rfl⟩:∃wj:World,wj=wr:=⟨_,rfl⟩;have E:zb w1 wj:=e9.out.trans hE.out;have p4:B.length<=20000000000000:=h9.out;by_cases I:j<B.length
      ·have d8:(j:Int)<(B.length:Int):=by omega
       have kk0:(0:Int)<=(j:Int):=by omega
       obtain ⟨bb,offb,rfl,-,a2⟩:=zy m1.out I I;have D:=EN I;have a9:Hid (B[j]∈B):=EH I;obtain ⟨x,V⟩:=zad (B[j]);rw [<-V] at a2 D a9;have HT:=zh D;have rb:∀W,zb w1 W/\zb wj W->W.cell? ⟨bb,offb+j,none⟩=some (.int .i64 x):=fun W h=>(hE.out.trans h.2).cell a2
       clear D a2 V;have z:zb wj wj:=zb.refl wj;go_upto_region 14 with fail;have rb:∀n,(wj.drewN n).cell? ⟨bb,offb+j,none⟩=some (.int .i64 x):=fun n=>rb _ ⟨E.drewN n,z.drewN n⟩
       go_cut [136] (fun v wx=>v=.bool (!decide (x∈s))/\zb wj wx)
       case first=>
        go_quiet ((go_at_call 12;refine (zU x _ (c0.out.below (o.out.trans (E.drewN _))) (by omega)).mono ?_;rintro e w9 ⟨rfl,rfl⟩;exact ⟨rfl,⟨_,rfl⟩⟩))
        go_wp2_with fail
        go_meet;exact ⟨rfl,z.drewN _⟩
       case rest=>
        obtain ⟨rfl,b0⟩:=hcut;have O:zb w5 wc:=hE.out.trans b0;by_cases b2:x∈s
        ·have hd:decide (x∈s)=true:=EJ b2;rw [hd];have a1:Hid ((B.take (j+1)).all (fun n=>decide (n∈s))=true):=by (show _=_);rw [HT.out,List.all_append,Q.out];simpa using b2
         clear b2 hd
         go_wp2_with fail
         go_roundw
         case rel=>exact ⟨j+1,by omega,by go_num,a1,O⟩
         case measure=>simp [intOf];omega
        ·have hd:decide (x∈s)=false:=EK b2;rw [hd]
         have a0:Hid (R=false):=by
          (show _=_)
          rw [b5.out,Bool.and_eq_false_iff]
          left
          rw [List.all_eq_false];exact ⟨x,a9.out,by rw [hd];simp⟩
         clear b2 hd
         go_wp2_with fail
         go_ret;exact ⟨ze a0.out.symm,o.out.trans (e9.out.trans O)⟩
      ·obtain rfl:j=B.length:=by omega
       have h6:Hid (R=wallB m ch t s):=by
        (show _=_)
        have h:=Q.out;rw [ER] at h;rw [b5.out,h,Bool.true_and]
       clear Q b5;have m8:=zh E;clear E hE;have i8:=zh (zb.refl wj)
       go_wp2_with fail
       go_loopw [13] (fun i wr=>∃k:Nat,k<=s.length/\i=.int .i64 k/\Hid (∀n∈s.take k,(AR m n).all (fun k=>!(zi m t k && !decide (k∈ch)) || decide (k∈s))=true)/\Hid (zb wj wr)) (fun i _=>s.length - (intOf i).toNat)
       case atStart=>exact ⟨0,EU _,rfl,fun n hn=>by simp at hn,i8.out⟩
       case round=>
        obtain ⟨k,hk,rfl,a7,hE⟩:=hrel;obtain ⟨wk,rfl⟩:∃wk:World,wk=wr:=⟨_,rfl⟩;have E:zb w1 wk:=m8.out.trans hE.out;by_cases I:k<s.length
        ·have d8:(k:Int)<(s.length:Int):=by omega
         have kk0:(0:Int)<=(k:Int):=by omega
         obtain ⟨bs,offs,rfl,-,a3⟩:=zy e8.out I I;have D:=EN I;have i2:Hid (s[k]∈s):=EH I;obtain ⟨x,V⟩:=zad (s[k]);rw [<-V] at a3 D i2;have rx:=zb.rule (o.out.cell a3);have HT:=zh D;clear a3 D V;go_upto_region 19 with fail;have z:zb wk wk:=zb.refl wk
         go_region_held3 (fun w'=>zb w1 w'/\zb wk w')
          (first | (exact ⟨E.drew,z.drew⟩) | (exact ⟨E.drew.trans c7.ext,z.drew.trans c7.ext⟩))
          ((go_at_call 53;refine (Er x _ (HM.out.below (o.out.trans E.drew)) HL.out).mono ?_;rintro e wn ⟨v9,rfl,c7⟩))
         rename_i hS
         have j3:zb w1 wn:=hS.1;have i0:=zh c7.ints;have m3:=zh hS.2;have o0:=nextO_len m x;have i3:Hid (∀y∈AR m x,0<=y/\y<m.n):=fun y hy=>nextO_rng G.out hy
         obtain ⟨L,hL⟩:=zad (AR m x);rw [<-hL] at i0 o0 i3;have i1:=zh hL;obtain ⟨AL,cL,rfl,-,k7⟩:=i0.out;have m2:=zh k7;clear c7 hL k7 hS E z;have i9:=zh j3;have j0:=zh (zb.refl wn);clear j3
         go_wp2_with fail
         go_loopw [15] (fun i wr=>∃j:Nat,j<=L.length/\i=.int .i64 j/\Hid ((L.take j).all (fun k=>!(zi m t k && !decide (k∈ch)) || decide (k∈s))=true)/\Hid (zb wn wr)) (fun i _=>L.length - (intOf i).toNat)
         case atStart=>exact ⟨0,EU _,rfl,rfl,j0.out⟩
         case round=>
          obtain ⟨j,hj,rfl,Q,c6⟩:=hrel;obtain ⟨wj,rfl⟩:∃wj:World,wj=wr:=⟨_,rfl⟩;have E:zb w1 wj:=i9.out.trans c6.out;by_cases U:j<L.length
          ·have n9:(j:Int)<(L.length:Int):=by omega
           have kk02:(0:Int)<=(j:Int):=by omega
           obtain ⟨bl,offl,rfl,-,a2⟩:=zy m2.out U U;have D:=EN U;obtain ⟨l1,l2⟩:=i3.out _ (EH U);have a9:Hid (L[j]∈L):=EH U;obtain ⟨y,b4⟩:=zad (L[j]);rw [<-b4] at a2 D a9 l1 l2;have m5:=zh D;obtain ⟨bf,off,b',off',l,c',rfl,j5,hl,p7,p5,j6⟩:=De l8.out G.out.fn (by rw [G.out.fl];exact T.out) l1 l2;have q1:=zb.rule (o.out.cell j5);have q2:=zb.rule (o.out.cell j6);have q3:∀n,(wj.drewN n).cell? ⟨bl,offl+j,none⟩=some (.int .i64 y):=fun n=>(c6.out.drewN n).cell a2
           have kf1:(t:Int)<(m.free.length:Int):=by have:=G.out.fl;omega
           obtain ⟨fv,f8⟩:=zad (zi m t y);rw [<-f8] at q2;have h7:=zh f8;clear f8 j5 j6 D a2 b4;have z:zb wj wj:=zb.refl wj;obtain ⟨bd,j4⟩:∃bd:Bool,bd=(fv && (!decide (y∈ch) && !decide (y∈s))):=⟨_,rfl⟩;have e4:=zh j4;clear j4;go_upto_region 23 with fail;go_cut [187] (fun v wx=>v=.bool bd/\zb wj wx)
           case first=>
            obtain ⟨dc,f6⟩:=zad (decide (y∈ch));obtain ⟨ds,f7⟩:=zad (decide (y∈s));have h8:Hid (∀W,zb wj W->Calls Tryz.prog 12 #[.slice Ac ch.length cc,.int .i64 y] W fun e w'=>e=.returned (.bool dc)/\W=w'):=fun W hW=>by rw [f6];exact zU y W (e5.out.below (o.out.trans (E.trans hW))) (by have:=b7.out;omega)
            have l9:Hid (∀W,zb wj W->Calls Tryz.prog 12 #[.slice (some ⟨bs,offs,none⟩) s.length cs,.int .i64 y] W fun e w'=>e=.returned (.bool ds)/\W=w'):=fun W hW=>by rw [f7];exact zU y W (c0.out.below (o.out.trans (E.trans hW))) (by omega)
            have M:Hid (bd=(fv && (!dc && !ds))):=by (show _=_);rw [e4.out,f6,f7]
            clear f6 f7
            cases fv with
            | false=>
             go_quiet (fail)
             go_wp2_with fail
             go_meet;exact ⟨by rw [M.out];rfl,z.drewN _⟩
            | true=>
             cases dc with
             | true=>
              go_quiet ((go_at_call 12;with_reducible refine (h8.out _ (z.drewN _)).mono ?_;rintro e w8 ⟨b1,rfl⟩;exact ⟨b1,⟨_,rfl⟩⟩))
              go_wp2_with fail
              go_meet;exact ⟨by rw [M.out];rfl,z.drewN _⟩
             | false=>
              go_quiet (first | (go_at_call 12;with_reducible refine (h8.out _ (z.drewN _)).mono ?_;rintro e w8 ⟨b1,rfl⟩;exact ⟨b1,⟨_,rfl⟩⟩) | (go_at_call 12;with_reducible refine (l9.out _ (z.drewN _)).mono ?_;rintro e w8 ⟨b1,rfl⟩;exact ⟨b1,⟨_,rfl⟩⟩))
              go_wp2_with fail
              go_meet;exact ⟨by rw [M.out];cases ds <;> rfl,z.drewN _⟩
           case rest=>
            obtain ⟨rfl,b0⟩:=hcut;have O:zb wn wc:=c6.out.trans b0
            cases bd with
            | true=>
             have a0:Hid (R=false):=by
              (show _=_)
              have h:=e4.out;rw [eq_comm,ES,ES] at h;obtain ⟨h1,h2,h3⟩:=h;rw [h6.out];unfold wallB;rw [List.all_eq_false];refine ⟨x,i2.out,?_⟩;rw [<-i1.out,Bool.not_eq_true,List.all_eq_false];exact ⟨y,a9.out,by rw [<-h7.out,h1,h2];simpa using h3⟩
             go_wp2_with fail
             go_ret;exact ⟨ze a0.out.symm,o.out.trans (i9.out.trans O)⟩
            | false=>
             have a1:Hid ((L.take (j+1)).all (fun k=>!(zi m t k && !decide (k∈ch)) || decide (k∈s))=true):=by
              (show _=_)
              rw [m5.out,List.all_append,Q.out,Bool.true_and,List.all_cons,List.all_nil,Bool.and_true,<-h7.out];have h:=e4.out
              revert h
              cases fv <;> cases decide (y∈ch) <;> cases decide (y∈s) <;> simp
             go_wp2_with fail
             go_roundw
             case rel=>exact ⟨j+1,by omega,by go_num,a1,O⟩
             case measure=>simp [intOf];omega
          ·obtain rfl:j=L.length:=by omega
           have b3:Hid (∀n∈s.take (k+1),(AR m n).all (fun k=>!(zi m t k && !decide (k∈ch)) || decide (k∈s))=true):=fun n hn=>by
            rw [HT.out] at hn;rcases Fx.1 hn with hn | hn
            ·exact a7.out n hn
            ·obtain rfl:n=x:=by simpa using hn
             rw [<-i1.out];have h:=Q.out
             rwa [ER] at h
           have O:=zh (m3.out.trans c6.out);clear E
           go_wp2_with fail
           go_roundw
           case rel=>exact ⟨k+1,by omega,by go_num,b3,hE.out.trans O.out⟩
           case measure=>simp [intOf];omega
        ·obtain rfl:k=s.length:=by omega
         have a0:Hid (R=true):=by
          (show _=_)
          have h:=a7.out;rw [ER] at h;rw [h6.out];unfold wallB;rw [FN];exact h
         go_wp2_with fail
         go_ret;exact ⟨ze a0.out.symm,o.out.trans E⟩
end
section
open Go.RowKit
attribute [local go_sem ↓] Go.wp_at_zero Go.wp_at_succ
attribute [local go_sem] Oper.semAt_some
mutual
def PT.Lens:PT->Prop
 | .node _ s ks=>s.length<=20000000000000/\ks.length<=20000000000000/\PT.LensL ks
def PT.LensL:List PT->Prop
 | []=>True
 | k :: ks=>k.Lens/\PT.LensL ks
end
theorem lensL_mem:∀{ks:List PT},PT.LensL ks->∀k∈ks,k.Lens
 | [],_,k,hk=>by cases hk
 | a :: ks,h,k,hk=>by
  unfold PT.LensL at h;rcases Fw.1 hk with rfl | hk
  ·exact h.1
  ·exact lensL_mem h.2 k hk
theorem size_mem:∀{ks:List PT},∀k∈ks,k.size<=PT.sizeL ks
 | [],k,hk=>by cases hk
 | a :: ks,k,hk=>by
  unfold PT.sizeL;rcases Fw.1 hk with rfl | hk
  ·omega
  ·have:=size_mem k hk;omega
theorem with_calls29 (n:Int) (w:World) (I:zj w okc vc ch) (hl:ch.length<=1000000000):
  Calls Tryz.prog 98 #[vc,.int .i64 n] w fun e w'=>∃v',e=.returned v'/\Mk w w' v' (ch++[n]):=by
 have O:=zh I;obtain ⟨A,c,rfl,V,-⟩:=I
 go_enter Tryz.func98,Tryz.ntmps98
 go_upto_region 1 with fail
 go_wp2_with (at_builtin;refine BP (ok:=okc) rfl _ _ _ rfl w.heap.size [] ch _ _ rfl rfl (Dg w w.heap.size (EG _)) (O.out.below ((zb.refl w).alloc _)) (by simp) (by simp;omega) ?_)
 intro v1 w1 z J E;have o:zb w w1:=Ad ((zb.refl w).alloc _) J (by simp) (fun k T=>Bg (Dg w w.heap.size (EG _)) T);have B:=zh z;obtain ⟨A1,n1,c1,rfl⟩:=Cq z;have Q:=zh o;have D:Hid (w.heap.size<=w1.heap.size):=o.size;clear z J E o
 go_wp2_with (at_builtin;refine BP (ok:=fun _=>True) rfl _ _ _ rfl w.heap.size ch [n] _ _ rfl rfl (B.out.ext ((zb.refl w1).alloc (.cells #[.int .i64 n] 3))) (Dt (zr w1 (.int .i64 n) 3 rfl)) (by have:=D.out;simp;omega) (by simp;omega) ?_)
 intro v2 w2 M L G;have U:Hid (Mk w w2 v2 (ch++[n])):=⟨M,Ad (Q.out.alloc _) L (by have:=D.out;simp;omega) (fun k T=>Bg B.out T)⟩;clear M L G
 go_wp2_with fail
 go_ret;exact ⟨_,rfl,U.out⟩
theorem sizeL_app:∀(a b:List PT),PT.sizeL (a++b)=PT.sizeL a+PT.sizeL b
 | [],b=>by simp [PT.sizeL]
 | k :: a,b=>by
  rw [List.cons_append];simp only [PT.sizeL,sizeL_app a b];omega
theorem kidsAt {w:World} {A:Option Addr} {n:Nat} {cs:List Value} (h:Ae w ok 3 A n cs) (D:k<n):∃b off,A=some ⟨b,off,none⟩/\w.cell? ⟨b,off+k*3,none⟩=some (cs.getD (k*3) undef)/\w.cell? ⟨b,off+k*3+1,none⟩=some (cs.getD (k*3+1) undef)/\w.cell? ⟨b,off+k*3+2,none⟩=some (cs.getD (k*3+2) undef):=by
 obtain ⟨E,o⟩:=h;obtain ⟨b,off,rfl,-,o⟩:=o (by omega);have z:∀j,j<cs.length->cs[j]?=some (cs.getD j undef):=fun j B=>by rw [EE B,EF,EE B];rfl
 exact ⟨b,off,rfl,o _ _ (z _ (by omega)),by rw [Nat.add_assoc];exact o _ _ (z _ (by omega)),by rw [Nat.add_assoc];exact o _ _ (z _ (by omega))⟩
theorem vsize_calls:∀(N:Nat) {ok:Nat->Prop} {v:Value} {p:PT} (w:World),Dz w ok v p->p.size<=N->p.Lens->N<=4000000000000000000->
  Calls Tryz.prog 70 #[v] w fun e w'=>e=.returned (.int .i64 p.size)/\zb w w'
 | 0,ok,v,.node t s ks,w,h,hN,_,_=>by unfold PT.size at hN;omega
 | N+1,ok,v,.node t s ks,w,h,hN,hl,b1=>by
  have IH:Hid (∀(ok:Nat->Prop) (v:Value) (p:PT) (w:World),Dz w ok v p->p.size<=N->p.Lens->N<=4000000000000000000->Calls Tryz.prog 70 #[v] w fun e w'=>e=.returned (.int .i64 p.size)/\zb w w'):=fun ok v p w=>vsize_calls N w
  cases h with
  | mk hs hk he=>
   rename_i vs vk cs
   obtain ⟨As,cs',rfl,-,-⟩:=hs;obtain ⟨Ak,ck,rfl,b2,O⟩:=hk;have U:=zh O;have Q:=zh he;unfold PT.Lens at hl;obtain ⟨b3,b4,L⟩:=hl;have T:=zh (lensL_mem L);have V:Hid (∀k∈ks,k.size<=PT.sizeL ks):=size_mem;unfold PT.size at hN⊢;clear O he L
   go_enter Tryz.func70,Tryz.ntmps70
   go_upto_region 1 with fail;obtain ⟨E,p0,p1,p2⟩:=box3 w (.int .i64 t) (.slice As s.length cs') (.slice Ak ks.length ck);generalize w.alloc _=w1 at E p0 p1 p2⊢;obtain ⟨gp,J⟩:=zad w.heap.size;rw [<-J] at p0 p1 p2⊢;have o:=zh E;have a1:=zh (zb.refl w1);clear E J
   go_wp2_with fail
   go_loopw [3,4] (fun n i wr=>∃k:Nat,k<=ks.length/\i=.int .i64 k/\n=.int .i64 ((1+PT.sizeL (ks.take k):Nat):Int)/\Hid (zb w1 wr)) (fun _ i _=>ks.length - (intOf i).toNat)
   case atStart=>exact ⟨0,EU _,rfl,rfl,a1.out⟩
   case round=>
    obtain ⟨k,hk,rfl,rfl,hE⟩:=hrel;obtain ⟨wk,rfl⟩:∃wk:World,wk=wr:=⟨_,rfl⟩;have hx:zb w1 wk:=hE.out;by_cases B:k<ks.length
    ·have a7:(k:Int)<(ks.length:Int):=by omega
     have kk0:(0:Int)<=(k:Int):=by omega
     obtain ⟨b,off,rfl,h0,h1,h2⟩:=kidsAt U.out B;have q0:=zb.rule (o.out.cell h0);have q1:=zb.rule (o.out.cell h1);have q2:=zb.rule (o.out.cell h2);have M:=Q.out k B
     have D:Hid (PT.sizeL (ks.take (k+1))=PT.sizeL (ks.take k)+(ks[k]).size):=by
      (show _=_)
      rw [EN B,sizeL_app];simp [PT.sizeL]
     have a0:Hid (PT.sizeL (ks.take (k+1))<=PT.sizeL ks):=by
      (show _<=_)
      conv=>rhs;rw [<-List.take_append_drop (k+1) ks,sizeL_app]
      omega
     have G:=zh (IH.out _ _ _ wk (M.ext (o.out.trans hx)) (by have:=V.out _ (EH B);omega) (T.out _ (EH B)) (by omega));obtain ⟨z,hz⟩:=zad ((ks[k]).size);rw [<-hz] at D G;obtain ⟨y,hy⟩:=zad (PT.sizeL (ks.take k));rw [<-hy] at D⊢;have hb:1+y+z<=4000000000000000000:=by have h1:=D.out;have h2:=a0.out;omega
     clear h0 h1 h2 M hz hy
     go_wp2_with fail
     refine G.out.mono ?_;rintro e w9 ⟨rfl,I⟩;have a2:=zh (hx.trans I);clear I;have b6:IntKind.i64.wrap (((1+y:Nat):Int)+(z:Int))=((1+y:Nat):Int)+(z:Int):=by rw [Fb];omega
     go_wp2_with fail
     go_roundw
     case rel=>exact ⟨k+1,by omega,by go_num,by rw [D.out];congr 1;omega,a2.out⟩
     case measure=>simp [intOf];omega
    ·obtain rfl:k=ks.length:=by omega
     go_wp2_with fail
     go_ret;exact ⟨by rw [ER];rfl,o.out.trans hx⟩
theorem holdsT_node {t:Int} {ks:List PT} (h:¬ m.tasks.length<=zR m ch):Bl m (.node t s ks) ch=if t≠zR m ch\/s≠[] then cutB m ch t s ks.length else Bk m ks ch (zO m ch):=by
 unfold Bl;rw [if_neg h]
theorem holdsL_len {m:MZ} {ch:List Int}:∀{ks:List PT} {l:List Int},ks.length≠l.length->Bk m ks ch l=false
 | [],[],h=>absurd rfl h
 | k :: ks,n :: l,h=>by
  unfold Bk;rw [holdsL_len (by simpa using h),Bool.and_false]
 | [],_ :: _,_=>by unfold Bk;rfl
 | _ :: _,[],_=>by unfold Bk;rfl
theorem holdsL_drop {ks:List PT} {l:List Int} (h1:k<ks.length) (h2:k<l.length):Bk m (ks.drop k) ch (l.drop k)=(Bl m ks[k] (ch++[l[k]]) && Bk m (ks.drop (k+1)) ch (l.drop (k+1))):=by
 rw [List.drop_eq_getElem_cons h1,List.drop_eq_getElem_cons h2]
 conv=>lhs;unfold Bk
theorem holdsT_done {p:PT} (h:m.tasks.length<=zR m ch):Bl m p ch=false:=by
 cases p
 unfold Bl;rw [if_pos h]
theorem vholds_calls {m:MZ} (hl:Lens m) (hc:AO m=0):∀(N:Nat) (ok okc okp:Nat->Prop) (v vc vp:Value) (ch:List Int) (p:PT) (w:World),zw w ok v m->zj w okc vc ch->zx m ch->¬ m.tasks.length<=zR m ch->Dz w okp vp p->p.size<=N->p.Lens->
  Calls Tryz.prog 71 #[v,vc,vp] w fun e w'=>e=.returned (.bool (Bl m p ch))/\zb w w'
 | 0,ok,okc,okp,v,vc,vp,ch,.node t s ks,w,_,_,_,_,_,hN,_=>by unfold PT.size at hN;omega
 | N+1,ok,okc,okp,v,vc,vp,ch,.node tk s ks,w,hm,f2,hi,c7,hp,hN,c8=>by
  have IH:=zh (vholds_calls hl hc N);have HM:=zh hm;have HL:=zh hl;have HC:=zh hc;have HI:=zh hi;have a4:=zh f2;have HP:=zh hp;have T:=zh (AG hc hi);have j7:=zh c7;have j6:=zh (curT_le hc hi);obtain ⟨Af,cf,Au,cu,At,ct,rfl,-,-,-⟩:=hm.parts;obtain ⟨Ac,cc,rfl,-,-⟩:=f2;have k4:=hl.ts;obtain ⟨R,hR⟩:=zad (Bl m (.node tk s ks) ch);rw [<-hR];rw [holdsT_node c7] at hR;have b7:=zh hR;have j3:=zh c8;unfold PT.Lens at c8;obtain ⟨i9,k2,f7⟩:=c8;have h9:=zh (lensL_mem f7);have i2:Hid (∀k∈ks,k.size<=PT.sizeL ks):=size_mem;unfold PT.size at hN
  cases hp with
  | mk hs hk he=>
   rename_i vs vk cs
   obtain ⟨As,cs',rfl,-,-⟩:=hs;obtain ⟨Ak,ck,rfl,j9,f8⟩:=hk;have i0:=zh f8;have h6:=zh he;clear hm hl hc hi c7 hR f7 f8 he;obtain ⟨c,c5⟩:=zad (zR m ch);have h4:=zh c5;rw [<-c5] at b7;clear c5
   go_enter Tryz.func71,Tryz.ntmps71
   go_upto_region 1 with fail;obtain ⟨c4,r0,r1,r2,r3,r4,r5⟩:=box6 w (.int .i64 m.w) (.int .i64 m.h) (.int .i64 m.l) (.slice Af m.free.length cf) (.slice Au m.up.length cu) (.slice At m.tasks.length ct);have c9:(w.alloc (.cells #[.int .i64 m.w,.int .i64 m.h,.int .i64 m.l,.slice Af m.free.length cf,.slice Au m.up.length cu,.slice At m.tasks.length ct] 32)).heap.size=w.heap.size+1:=by simp
   generalize w.alloc _=w0 at c4 r0 r1 r2 r3 r4 r5 c9⊢;obtain ⟨a6,p0,p1,p2⟩:=box3 w0 (.int .i64 tk) (.slice As s.length cs') (.slice Ak ks.length ck);generalize w0.alloc _=w1 at a6 p0 p1 p2⊢;rw [c9] at p0 p1 p2;obtain ⟨gm,f4⟩:=zad w.heap.size;rw [<-f4] at r0 r1 r2 r3 r4 r5 p0 p1 p2⊢;have J:=zh a6;have z:=zh (c4.trans a6);have r0:=fun W h=>r0 W (J.out.trans h)
   have r1:=fun W h=>r1 W (J.out.trans h)
   have r2:=fun W h=>r2 W (J.out.trans h)
   have r3:=fun W h=>r3 W (J.out.trans h)
   have r4:=fun W h=>r4 W (J.out.trans h)
   have r5:=fun W h=>r5 W (J.out.trans h)
   clear f4 c4 a6 c9;have E:zb w1 w1:=zb.refl w1
   go_wp2_with fail
   refine (DX w1 (HM.out.below z.out) HL.out (a4.out.below z.out) (by have:=T.out;omega)).mono ?_;rintro e w2 ⟨vpp,rfl,b9,b2⟩;have e5:=zh b2;have a9:zb w1 w2:=b9;obtain ⟨_,⟨App,cpp,rfl,-,-⟩,-⟩:=b2
   have HV:Hid (∀W,zb w2 W->Calls Tryz.prog 95 #[.agg #[.int .i64 m.w,.int .i64 m.h,.int .i64 m.l,.slice Af m.free.length cf,.slice Au m.up.length cu,.slice At m.tasks.length ct],.slice App (zq m ch).length cpp] W fun e w'=>e=.returned (.int .i64 c)/\zb W w'):=fun W hW=>by
    rw [h4.out];exact Dy W (HM.out.below ((z.out.trans b9).trans hW)) HL.out (e5.out.below hW) T.out.1 (fun x E=>by have:=(T.out.2.2.2 x E).2;omega)
   clear b9 E;obtain ⟨PL,b0⟩:=zad ((zq m ch).length);rw [<-b0] at HV e5⊢;clear b0;have hy:zb w2 w2:=zb.refl w2;go_upto_region 2 with fail;obtain ⟨bq,e9⟩:∃bq:Bool,bq=decide (tk≠(c:Int)\/s≠[]):=⟨_,rfl⟩;have G:=zh e9;clear e9;go_cut [29] (fun v wx=>v=.bool bq/\zb w2 wx)
   case first=>
    by_cases M:tk=(c:Int)
    ·have hd:(tk != (c:Int))=false:=by rw [M];simp
     have b3:Hid (bq=decide (0<s.length)):=by
      (show _=_)
      rw [G.out,decide_eq_decide];constructor
      ·rintro (h | h)
       ·exact absurd M h
       ·exact List.length_pos_iff.2 h
      ·intro h;exact .inr (List.length_pos_iff.1 h)
     clear M;refine EW (S:=(fun W=>zb w1 W/\zb w2 W)) Ag (⟨a9.drew,hy.drew⟩) fun zH=>?_;have B:zb w1 w2.drew/\zb w2 w2.drew:=zH;generalize w2.drew=wd at zH B⊢;refine zf 0 zH ?_;refine zf 1 zH ?_;simp only [za,ED];refine zf 2 zH ?_;refine zf 3 zH ?_;simp only [za,ED];refine zE 4 fun K I=>?_;go_simp;go_at_call 95;refine (HV.out _ zH.2).mono ?_;rintro e w9 ⟨rfl,o⟩;go_simp;refine zae I (⟨zH.1.trans o,zH.2.trans o⟩) fun zH=>?_;clear I K;try simp only [za,ED]
     refine zf 5 zH ?_;refine zf 6 zH ?_;simp only [za,ED];refine zf 7 zH ?_;refine zf 8 zH ?_;simp only [za,ED];refine zf 9 zH ?_;refine zf 10 zH ?_;simp only [za,ED];refine zf 11 zH ?_;simp only [za,ED];refine Fk (by kernel_rfl) ?_ _;go_wp2;go_meet;exact ⟨by rw [b3.out],B.2.trans o⟩
    ·have hd:(tk != (c:Int))=true:=by rw [bne_iff_ne];exact M
     have b3:Hid (bq=true):=by (show _=_);rw [G.out];exact EJ (.inl M)
     clear M;refine EW (S:=(fun W=>zb w1 W/\zb w2 W)) Ag (⟨a9.drew,hy.drew⟩) fun zH=>?_;have B:zb w1 w2.drew/\zb w2 w2.drew:=zH;generalize w2.drew=wd at zH B⊢;refine zf 0 zH ?_;refine zf 1 zH ?_;simp only [za,ED];refine zf 2 zH ?_;refine zf 3 zH ?_;simp only [za,ED];refine zE 4 fun K I=>?_;go_simp;go_at_call 95;refine (HV.out _ zH.2).mono ?_;rintro e w9 ⟨rfl,o⟩;go_simp;refine zae I (⟨zH.1.trans o,zH.2.trans o⟩) fun zH=>?_;clear I K;try simp only [za,ED]
     refine zf 5 zH ?_;refine zf 6 zH ?_;simp only [za,ED];refine zV 7 zH ?_;refine zV 8 zH ?_;simp only [za,ED];refine zV 9 zH ?_;refine zV 10 zH ?_;simp only [za,ED];refine zf 11 zH ?_;simp only [za,ED];refine Fk (by kernel_rfl) ?_ _;go_wp2;go_meet;exact ⟨by rw [b3.out],B.2.trans o⟩
   case rest=>
    obtain ⟨rfl,o⟩:=hcut;obtain ⟨wq,rfl⟩:∃wq:World,wq=wc:=⟨_,rfl⟩;have E:zb w1 wq:=a9.trans o;clear a9 hy o HV
    cases bq with
    | true=>
     have hb:=zaa G.out.symm;have HF:Hid (R=cutB m ch tk s ks.length):=by (show _=_);rw [b7.out,if_pos hb]
     clear hb
     go_wp2_with fail
     refine (vcut_calls wq (HM.out.below (z.out.trans E)) HL.out HC.out (a4.out.below (z.out.trans E)) HI.out (HP.out.ext (z.out.trans E)) i9).mono ?_;rintro e w4 ⟨rfl,i4⟩
     go_wp2_with fail
     go_ret;exact ⟨ze HF.out.symm,(z.out.trans E).trans i4⟩
    | false=>
     have hb:=of_decide_eq_false G.out.symm;have HF:Hid (R=Bk m ks ch (zO m ch)):=by (show _=_);rw [b7.out,if_neg hb]
     clear hb
     go_wp2_with fail
     refine (qCandidates_calls wq (HM.out.below (z.out.trans E)) HL.out (a4.out.below (z.out.trans E)) (by have:=T.out;omega)).mono ?_;rintro e w4 ⟨vl,rfl,c0⟩;have d8:=zh c0.ints;have d4:zb w1 w4:=E.trans c0.ext;have b4:Hid (zO m ch=cand m ch):=by (show _=_);unfold zO;rw [if_pos (okC_of HC.out HI.out)]
     have e0:Hid (∀n∈zO m ch,zx m (ch++[n])):=fun n hn=>by
      rw [b4.out] at hn;exact .snoc HI.out hn
     have i5:(zO m ch).length<=400000000000:=by rw [b4.out];exact CT HL.out ch
     obtain ⟨L,hL⟩:=zad (zO m ch);rw [<-hL] at d8 HF e0 i5;obtain ⟨AL,cL,rfl,-,f9⟩:=d8.out;have i1:=zh f9;have e6:=zh d4;clear c0 E hL f9 b4;by_cases a2:L.length=ks.length
     ·have hd:((L.length:Int) != (ks.length:Int))=false:=by rw [a2];simp
      have e3:=zh a2;clear a2;have e7:=zh (zb.refl w4)
      go_wp2_with fail
      clear d4;go_loopw [10] (fun i wr=>∃j:Nat,j<=L.length/\i=.int .i64 j/\Hid (R=Bk m (ks.drop j) ch (L.drop j))/\Hid (zb w4 wr)) (fun i _=>L.length - (intOf i).toNat)
      case atStart=>exact ⟨0,EU _,rfl,HF.out,e7.out⟩
      case round=>
       obtain ⟨j,hj,rfl,hr,hE⟩:=hrel;obtain ⟨wj,rfl⟩:∃wj:World,wj=wr:=⟨_,rfl⟩;have E:zb w1 wj:=e6.out.trans hE.out;by_cases a1:j<L.length
       ·have j5:(j:Int)<(L.length:Int):=by omega
        have kk0:(0:Int)<=(j:Int):=by omega
        have D:j<ks.length:=by rw [<-e3.out];exact a1
        have i8:(j:Int)<(ks.length:Int):=by omega
        obtain ⟨bl,offl,rfl,-,b1⟩:=zy i1.out a1 a1;have f3:wj.cell? ⟨bl,offl+j,none⟩=some (.int .i64 L[j]):=hE.out.cell b1;have b5:Hid (zx m (ch++[L[j]])):=e0.out _ (EH a1);have O:=zh (holdsL_drop (m:=m) (ch:=ch) D a1);obtain ⟨b,off,rfl,h0,h1,h2⟩:=kidsAt i0.out D;have q0:=zb.rule (z.out.cell h0);have q1:=zb.rule (z.out.cell h1);have q2:=zb.rule (z.out.cell h2);have e4:=zh (h6.out j D);have b6:Hid ((ks[j]).Lens/\(ks[j]).size<=N):=⟨h9.out _ (EH D),by have:=i2.out _ (EH D);omega⟩;obtain ⟨n,hn⟩:=zad (L[j]);obtain ⟨kd,f5⟩:=zad (ks[j]);rw [<-hn] at f3 b5 O;rw [<-f5] at O e4 b6;clear b1 h0 h1 h2 hn f5
        go_wp2_with fail
        refine (with_calls29 n wj (a4.out.below (z.out.trans E)) (by have:=T.out;omega)).mono ?_;rintro e w6 ⟨v6,rfl,V⟩;have d9:=zh V.ints;have a3:zb w1 w6:=E.trans V.ext;have g3:zb w6 w6:=zb.refl w6;have h5:Hid (zb w4 w6):=hE.out.trans V.ext;obtain ⟨A6,c6,rfl,-⟩:=V.slice;obtain ⟨cb,a7⟩:=zad (decide (m.tasks.length<=zR m (ch++[n])))
        have b8:Hid (∀W,zb w6 W->Calls Tryz.prog 99 #[.agg #[.int .i64 m.w,.int .i64 m.h,.int .i64 m.l,.slice Af m.free.length cf,.slice Au m.up.length cu,.slice At m.tasks.length ct],.slice A6 (ch++[n]).length c6] W fun e w'=>e=.returned (.bool cb)/\zb W w'):=fun W hW=>by
         rw [a7];exact vComplete_calls W (HM.out.below (z.out.trans (a3.trans hW))) HL.out HC.out (d9.out.below hW) b5.out
        obtain ⟨hb,a8⟩:=zad (Bl m kd (ch++[n]))
        have a5:Hid (cb=false->∀W,zb w6 W->Calls Tryz.prog 71 #[.agg #[.int .i64 m.w,.int .i64 m.h,.int .i64 m.l,.slice Af m.free.length cf,.slice Au m.up.length cu,.slice At m.tasks.length ct],.slice A6 (ch++[n]).length c6,.agg #[cs.getD (j*3) undef,cs.getD (j*3+1) undef,cs.getD (j*3+2) undef]] W fun e w'=>e=.returned (.bool hb)/\zb W w'):=fun f1 W hW=>by
         rw [a8];rw [a7] at f1;exact IH.out _ _ _ _ _ _ _ _ W (HM.out.below (z.out.trans (a3.trans hW))) (d9.out.below hW) b5.out (of_decide_eq_false f1) (e4.out.ext (z.out.trans (a3.trans hW))) b6.out.2 b6.out.1
        have h7:Hid (cb=true->hb=false):=fun h=>by
         rw [a7] at h;rw [a8];exact holdsT_done (zaa h)
        rw [<-a8] at O;clear V a7 a8 E f3;obtain ⟨N6,e8⟩:=zad ((ch++[n]).length);rw [<-e8] at b8 a5⊢;clear e8;go_upto_region 11 with fail;go_cut [68] (fun v wx=>v=.bool (!hb)/\zb w6 wx)
        case first=>
         cases cb with
         | true=>
          have g8:Hid (hb=false):=h7.out rfl;refine EW (S:=(fun W=>zb w1 W/\zb w6 W)) Ag (⟨a3.drew,g3.drew⟩) fun zH=>?_;have B:zb w1 w6.drew/\zb w6 w6.drew:=zH;generalize w6.drew=wd at zH B⊢;refine zf 0 zH ?_;refine zf 1 zH ?_;simp only [za,ED];refine zE 2 fun K I=>?_;go_simp;go_at_call 99;refine (b8.out _ zH.2).mono ?_;rintro e w9 ⟨rfl,o⟩;go_simp;refine zae I (⟨zH.1.trans o,zH.2.trans o⟩) fun zH=>?_;clear I K;try simp only [za,ED]
          refine zf 3 zH ?_;refine zV 4 zH ?_;simp only [za,ED];refine zV 5 zH ?_;refine zV 6 zH ?_;simp only [za,ED];refine zV 7 zH ?_;refine zV 8 zH ?_;simp only [za,ED];refine zV 9 zH ?_;refine zV 10 zH ?_;simp only [za,ED];refine zV 11 zH ?_;refine zV 12 zH ?_;simp only [za,ED];refine zf 13 zH ?_;simp only [za,ED];refine Fk (by kernel_rfl) ?_ _;go_wp2;go_meet;exact ⟨by rw [g8.out];rfl,B.2.trans o⟩
         | false=>
          have a5:=zh (a5.out rfl);refine EW (S:=(fun W=>zb w1 W/\zb w6 W)) Ag (⟨a3.drew,g3.drew⟩) fun zH=>?_;have B:zb w1 w6.drew/\zb w6 w6.drew:=zH;generalize w6.drew=wd at zH B⊢;refine zf 0 zH ?_;refine zf 1 zH ?_;simp only [za,ED];refine zE 2 fun K I=>?_;go_simp;go_at_call 99;refine (b8.out _ zH.2).mono ?_;rintro e w9 ⟨rfl,o⟩;go_simp;refine zae I (⟨zH.1.trans o,zH.2.trans o⟩) fun zH=>?_;clear I K;try simp only [za,ED]
          refine zf 3 zH ?_;refine zf 4 zH ?_;simp only [za,ED];refine zf 5 zH ?_;refine zf 6 zH ?_;simp only [za,ED];refine zf 7 zH ?_;refine zf 8 zH ?_;simp only [za,ED];refine zf 9 zH ?_;refine zf 10 zH ?_;simp only [za,ED];refine zE 11 fun K I=>?_;go_simp;go_at_call 71;refine (a5.out _ zH.2).mono ?_;rintro e w10 ⟨rfl,U⟩;go_simp;refine zae I (⟨zH.1.trans U,zH.2.trans U⟩) fun zH=>?_;clear I K;try simp only [za,ED]
          refine zf 12 zH ?_;refine zf 13 zH ?_;simp only [za,ED];refine Fk (by kernel_rfl) ?_ _;go_wp2;go_meet;exact ⟨by first | rfl | simp,(B.2.trans o).trans U⟩
        case rest=>
         obtain ⟨rfl,o⟩:=hcut;have g0:zb w4 wc:=h5.out.trans o
         cases hb with
         | false=>
          have Q:Hid (R=false):=by (show _=_);rw [hr.out,O.out,Bool.false_and]
          go_wp2_with fail
          go_ret;exact ⟨ze Q.out.symm,z.out.trans (e6.out.trans g0)⟩
         | true=>
          have j1:Hid (R=Bk m (ks.drop (j+1)) ch (L.drop (j+1))):=by (show _=_);rw [hr.out,O.out,Bool.true_and]
          go_wp2_with fail
          go_roundw
          case rel=>exact ⟨j+1,by omega,by go_num,j1,g0⟩
          case measure=>simp [intOf];omega
       ·obtain rfl:j=L.length:=by omega
        have Q:Hid (R=true):=by
         (show _=_)
         rw [hr.out,FJ,e3.out,FJ];unfold Bk;rfl
        go_wp2_with fail
        go_ret;exact ⟨ze Q.out.symm,z.out.trans E⟩
     ·have hd:((L.length:Int) != (ks.length:Int))=true:=by rw [bne_iff_ne];omega
      have Q:Hid (R=false):=by (show _=_);rw [HF.out];exact holdsL_len (fun h=>a2 h.symm)
      clear a2
      go_wp2_with fail
      go_ret;exact ⟨ze Q.out.symm,z.out.trans d4⟩
end
end Go.Proofs.YthbjngbhbbkkgaaGreat
