import Derived.Test.YthbjngbhbbkkgaaGreatHRm
import Derived.Deep.RegionHeld3
set_option linter.unusedVariables false
set_option linter.unusedSimpArgs false
set_option maxRecDepth 100000
set_option maxHeartbeats 16000000
namespace Go.Proofs.YthbjngbhbbkkgaaGreat
variable {fixed:List (List Int)} {gs:Nat} {w w' wr:World}
section
open Go.RowKit
attribute [local go_sem ↓] Go.wp_at_zero Go.wp_at_succ
def CA (m:MZ) (t:Nat) (p pre:List Int) (k:Nat):Bool:=
 decide (0<=p.getD k 0) && (decide (p.getD k 0<m.n) && (!decide (p.getD k 0∈pre) && (zi m t (p.getD k 0) && (decide (k=0) || decide (p.getD k 0∈zl m (p.getD (k - 1) 0))))))
def pathB (m:MZ) (t:Nat) (p pre:List Int):Bool:=
 !decide (p=[]) && (decide (p.getD 0 0∈(m.tasks.getD t ([],[])).1) && (decide (p.getD (p.length - 1) 0∈(m.tasks.getD t ([],[])).2) && (List.range p.length).all fun k=>CA m t p (pre++p.take k) k))
def AS (m:MZ) (ps:List (List Int)):Bool:=
 decide (AO m=0) && (decide (ps.length=m.tasks.length) && (List.range ps.length).all fun t=>pathB m t (ps.getD t []) (ps.take t).flatten)
section
variable {m:MZ} {t:Nat} {p pre:List Int} {ps:List (List Int)}
theorem pathB_hd (h:p.getD 0 0∉(m.tasks.getD t ([],[])).1):pathB m t p pre=false:=by
 unfold pathB;rw [EK h];simp
theorem pathB_lt (h:p.getD (p.length - 1) 0∉(m.tasks.getD t ([],[])).2):pathB m t p pre=false:=by
 unfold pathB;rw [EK h];simp
theorem pathB_nd {k:Nat} (o:k<p.length) (h:CA m t p (pre++p.take k) k=false):pathB m t p pre=false:=by
 unfold pathB
 have:((List.range p.length).all fun k=>CA m t p (pre++p.take k) k)=false:=by
  rw [Bool.eq_false_iff];intro h2;have:=FN.1 h2 k (FI.2 o);rw [h] at this;cases this
 rw [this];simp
theorem pathB_ok (h0:p≠[]) (h1:p.getD 0 0∈(m.tasks.getD t ([],[])).1) (h2:p.getD (p.length - 1) 0∈(m.tasks.getD t ([],[])).2) (h3:∀k,k<p.length->CA m t p (pre++p.take k) k=true):pathB m t p pre=true:=by
 unfold pathB;rw [EK h0,EJ h1,EJ h2,FN.2 (fun k o=>h3 k (FI.1 o))];rfl
theorem rightB_path (o:t<ps.length) (h:pathB m t (ps.getD t []) (ps.take t).flatten=false):AS m ps=false:=by
 unfold AS
 have:((List.range ps.length).all fun t=>pathB m t (ps.getD t []) (ps.take t).flatten)=false:=by
  rw [Bool.eq_false_iff];intro h2;have:=FN.1 h2 t (FI.2 o);rw [h] at this;cases this
 rw [this];simp
theorem rightB_ok (h0:AO m=0) (h1:ps.length=m.tasks.length) (h2:∀t,t<ps.length->pathB m t (ps.getD t []) (ps.take t).flatten=true):AS m ps=true:=by
 unfold AS;rw [EJ h0,EJ h1,FN.2 (fun t o=>h2 t (FI.1 o))];rfl
end
structure RtI (w wr:World) (gs:Nat) (pre:List Int):Prop where
 ext:zb w wr
 gsB:w.heap.size<=gs
 set:∃s,zF wr gs s/\∀x,x∈s↔x∈pre
theorem RtI.more {pre:List Int} (h:RtI w wr gs pre) (o:zb wr w'):RtI w w' gs pre:=by
 obtain ⟨s,h1,h2⟩:=h.set;exact ⟨h.ext.trans o,h.gsB,s,h1.below o,h2⟩
theorem RtI.add {pre s:List Int} {x:Int} (h:RtI w wr gs pre) (B:∀y,y∈s↔y∈pre) (h1:zF w' gs (ins s x)) (z:wr.grownBy w' (some gs)):RtI w w' gs (pre++[x]):=
 ⟨Below.grown h.ext z h.ext.size (fun k o=>by injection o with o;have:=h.gsB;omega),h.gsB,_,h1,fun y=>by rw [mem_ins,B,Fx,Fo]⟩
theorem right_calls {okm okp:Nat->Prop} {v vp:Value} {m:MZ} {ps:List (List Int)} (w:World) (hm:zw w okm v m) (hl:Lens m) (hp:zv w okp vp ps) (s2:ps.length<=20000000000000) (d9:∀x∈ps,x.length<=20000000000000):
  Calls Tryz.prog 14 #[v,vp] w fun e w'=>e=.returned (.bool (AS m ps))/\zb w w':=by
 have j5:=hm;obtain ⟨vfr,vup,vts,rfl,-,-,k8⟩:=hm;have m9:=zh k8;obtain ⟨_,⟨At,ct,rfl,-⟩,-⟩:=k8;have f0:=zh j5;clear j5;obtain ⟨vsp,⟨Ap,cp,rfl,r2,k6⟩,j1⟩:=hp;have m8:=zh k6;have l4:=zh j1;clear k6 j1;have HL:=zh hl;clear hl;have m7:=zh d9;clear d9;obtain ⟨ck,j0⟩:=zad (AO m);have a8:=zh j0;clear j0;have o0:=@run_makeMap Tryz.prog
 go_enter Tryz.func14,Tryz.ntmps14
 go_wp2_with fail
 generalize g8:w.alloc (.cells #[.int .i64 m.w,.int .i64 m.h,.int .i64 m.l,vfr,vup,.slice At m.tasks.length ct] 32)=w1;have I:zb w w1:=by rw [<-g8];exact (zb.refl w).alloc _
 have j2:zk w1 w.heap.size 32 #[.int .i64 m.w,.int .i64 m.h,.int .i64 m.l,vfr,vup,.slice At m.tasks.length ct]:=by rw [<-g8];exact Fu _ _
 clear g8;obtain ⟨m0,m1,m2,m3,m4,m5⟩:=zA j2;have c0:=zb.rule m0;have c1:=zb.rule m1;have c2:=zb.rule m2;have c3:=zb.rule m3;have c4:=zb.rule m4;have c5:=zb.rule m5;clear m0 m1 m2 m3 m4 m5 j2;refine (Bv w1 (f0.out.below I) HL.out).mono ?_;rintro e w2 ⟨rfl,T⟩;have T:zb w1 w2:=T;have z:Hid (zb w w2):=I.trans T;have q9:=zh I;rw [<-a8.out];by_cases h0:ck=0
 case neg=>
  have j7:(ck==0)=false:=by rw [ET];exact h0
  have s3:(ck != 0)=true:=by rw [bne_iff_ne];exact h0
  have o:Hid (AS m ps=false):=by show _=_;unfold AS;rw [<-a8.out,EK h0];rfl
  clear h0
  go_wp2_with fail
  go_ret;exact ⟨ze o.out.symm,z.out⟩
 case pos=>
  subst h0;have HG:=zh (zC.of a8.out.symm);have l7:Hid (∀h1:ps.length=m.tasks.length,∀h2:(∀t,t<ps.length->pathB m t (ps.getD t []) (ps.take t).flatten=true),AS m ps=true):=fun h1 h2=>rightB_ok a8.out.symm h1 h2
  clear a8;by_cases a2:ps.length=m.tasks.length
  case neg=>
   have j8:((ps.length:Int)==(m.tasks.length:Int))=false:=by rw [ET];omega
   have j9:((ps.length:Int) != (m.tasks.length:Int))=true:=by rw [bne_iff_ne];omega
   have o:Hid (AS m ps=false):=by show _=_;unfold AS;rw [EK a2];simp
   clear a2
   go_wp2_with fail
   go_ret;exact ⟨ze o.out.symm,z.out⟩
  case pos=>
   have j8:((ps.length:Int)==(m.tasks.length:Int))=true:=by rw [beq_iff_eq];omega
   have j9:((ps.length:Int) != (m.tasks.length:Int))=false:=by rw [bne_eq_false_iff_eq];omega
   have e4:=zh a2;have s5:=HG.out.tk;have s1:ps.length<=6:=by omega
   have H0:Hid (RtI w2 (w2.alloc (.map #[] 0)) w2.heap.size []):=⟨(zb.refl _).alloc _,EG _,[],zF.new _,fun x=>Iff.rfl⟩;have p0:∀W,zb w2 W->W.cell? ⟨w.heap.size,0,none⟩=some (.int .i64 m.w):=fun W h=>c0 W (T.trans h)
   have p1:∀W,zb w2 W->W.cell? ⟨w.heap.size,1,none⟩=some (.int .i64 m.h):=fun W h=>c1 W (T.trans h)
   have p2:∀W,zb w2 W->W.cell? ⟨w.heap.size,2,none⟩=some (.int .i64 m.l):=fun W h=>c2 W (T.trans h)
   have p3:∀W,zb w2 W->W.cell? ⟨w.heap.size,3,none⟩=some vfr:=fun W h=>c3 W (T.trans h)
   have p4:∀W,zb w2 W->W.cell? ⟨w.heap.size,4,none⟩=some vup:=fun W h=>c4 W (T.trans h)
   have p5:∀W,zb w2 W->W.cell? ⟨w.heap.size,5,none⟩=some (.slice At m.tasks.length ct):=fun W h=>c5 W (T.trans h)
   clear a2
   go_wp2_with fail
   obtain ⟨gs,j3⟩:=zad w2.heap.size;rw [<-j3] at H0⊢;generalize o5:w2.alloc (.map #[] 0)=w3 at*;clear o5 o0 j8 j9 j3 c0 c1 c2 c3 c4 c5
   go_loopg [24] ps.length (fun gk v wr=>∃t:Nat,v=.int .i64 t/\t<=ps.length/\gk=ps.length - t/\Hid (RtI w2 wr gs (ps.take t).flatten/\∀t',t'<t->pathB m t' (ps.getD t' []) (ps.take t').flatten=true))
   case atStart=>exact ⟨0,rfl,EU _,rfl,H0.out,fun t' h=>by omega⟩
   clear H0
   case round=>
    obtain ⟨t,rfl,ht,rfl,hI⟩:=hrel;have L:zb w2 wr:=hI.out.1.ext;rcases Fc t ps.length with a1 | hge
    ·have b4:t<m.tasks.length:=by have:=e4.out;omega
     have g5:ps.getD t []=ps[t]:=zgd a1
     obtain ⟨bp,offp,up,rfl,-,e6,k9⟩:=Ai m8.out l4.out a1 a1;obtain ⟨bt,offt,sn,u1,u2,rfl,-,-,i8,i9,f9,g0⟩:=AJ m9.out b4;have d9:=m7.out _ (EH a1);have g7:=HL.out.tl _ (EH b4);have g6:m.tasks.getD t ([],[])=m.tasks[t]:=zgd b4
     have G:Hid (pathB m t (ps.getD t []) (ps.take t).flatten=false->AS m ps=false):=rightB_path a1;have d4:Hid ((ps.take (t+1)).flatten=(ps.take t).flatten++ps[t]):=by show _=_;rw [EN a1,List.flatten_append];simp
     rw [g5] at G;have i1:=zh g5;obtain ⟨p,hp⟩:=zad (ps[t]);rw [<-hp] at k9 d9 G d4 i1;obtain ⟨pre,b6⟩:=zad ((ps.take t).flatten);have f3:=hI.out;rw [<-b6] at G d4 f3;have i0:=zh b6;have HI:=zh f3;obtain ⟨T1,f5⟩:=zad (m.tasks[t].1);obtain ⟨T2,f6⟩:=zad (m.tasks[t].2);have i3:Hid ((m.tasks.getD t ([],[])).1=T1):=by show _=_;rw [g6,f5]
     have i4:Hid ((m.tasks.getD t ([],[])).2=T2):=by show _=_;rw [g6,f6]
     rw [<-f5] at f9 g7;rw [<-f6] at g0 g7;obtain ⟨q7,q8⟩:=g7;have c7:=zh f9;have e8:=zh g0;obtain ⟨Aq,cq,rfl,r3,k7⟩:=k9;have c8:=zh k7;have U:=z.out;have qp:∀W,zb w2 W->W.cell? ⟨bp,offp+t,none⟩=some (.slice Aq p.length cq):=fun W h=>zb.rule e6 W (U.trans h)
     have q1:∀W,zb w2 W->W.cell? ⟨bt,offt+t*3+1,none⟩=some u1:=fun W h=>zb.rule i8 W (U.trans h)
     have q2:∀W,zb w2 W->W.cell? ⟨bt,offt+t*3+2,none⟩=some u2:=fun W h=>zb.rule i9 W (U.trans h)
     have q3:(0:Int)<=(t:Int):=by omega
     have q4:(t:Int)<(m.tasks.length:Int):=by omega
     have q5:(t:Int)<(ps.length:Int):=by omega
     clear e6 i8 i9 g5 g6 hp b6 f3 f5 f6 f9 g0 k7 U hI;have Q:∀q,zb w2 (wr.drewN q):=fun q=>L.drewN q
     go_upto_region 7 with fail;rcases Fs p.length with hpz | hpz
     ·have o1:p=[]:=EX hpz;subst o1;have hz:([]:List Int).length=0:=rfl;have o:Hid (AS m ps=false):=G.out rfl;clear hpz;go_quiet (fail)
      go_wp2_with fail
      go_ret;exact ⟨ze o.out.symm,z.out.trans (Q _)⟩
     ·obtain ⟨bq,offq,rfl,-,b1⟩:=zy c8.out (k:=0) hpz hpz;obtain ⟨n1,g3⟩:=zad (p.length - 1);have g4:n1<p.length:=by omega
      obtain ⟨bq',offq',e,-,b2⟩:=zy c8.out (k:=n1) g4 g4;injection e with e;injection e with e1 e2;subst e1 e2;obtain ⟨x0,g9⟩:=zad (p[0]);obtain ⟨xl,h4⟩:=zad (p[n1]);rw [<-g9] at b1;rw [<-h4] at b2;have U:=z.out;have qx0:∀W,zb w2 W->W.cell? ⟨bq,offq,none⟩=some (.int .i64 x0):=fun W h=>zb.rule b1 W (U.trans h)
      have qxl:∀W,zb w2 W->W.cell? ⟨bq,offq+n1,none⟩=some (.int .i64 xl):=fun W h=>zb.rule b2 W (U.trans h)
      have i5:Hid (p.getD 0 0=x0):=by show _=_;rw [g9,EF,EE hpz];rfl
      have i6:Hid (p.getD (p.length - 1) 0=xl):=by show _=_;rw [<-g3,h4,EF,EE g4];rfl
      have o6:((p.length:Int)==0)=false:=by rw [ET];omega
      have o7:(0:Int)<(p.length:Int):=by omega
      have o3:IntKind.i64.wrap ((p.length:Int) - 1)=(n1:Int):=by rw [Fb];omega
      have o2:(0:Int)<=(n1:Int):=by omega
      have j7:(n1:Int)<(p.length:Int):=by omega
      have j6:p.length≠0:=by omega
      have r1:=zh g3;have l8:Hid (p≠[]):=by rintro rfl;simp at hpz
      clear g3 b1 b2 g9 h4 U;by_cases I:x0∈T1
      case neg=>
       have o:Hid (AS m ps=false):=G.out (pathB_hd (by rw [i5.out,i3.out];exact I));have HB:=zh (EK I);clear I;go_quiet ((go_at_call 42;refine (zB x0 _ (c7.out.below (z.out.trans (Q _))) (by omega)).mono ?_;rintro e w8 ⟨E,rfl⟩;rw [HB.out] at E;exact ⟨E,⟨_,rfl⟩⟩))
       go_wp2_with fail
       go_ret;exact ⟨ze o.out.symm,z.out.trans (Q _)⟩
      case pos=>
       have HB:=zh (EJ I);by_cases a4:xl∈T2
       case neg=>
        have o:Hid (AS m ps=false):=G.out (pathB_lt (by rw [i6.out,i4.out];exact a4));have c6:=zh (EK a4);clear I a4;go_quiet (first | (go_at_call 42;refine (zB x0 _ (c7.out.below (z.out.trans (Q _))) (by omega)).mono ?_;rintro e w8 ⟨E,rfl⟩;rw [HB.out] at E;exact ⟨E,⟨_,rfl⟩⟩) | (go_at_call 42;refine (zB xl _ (e8.out.below (z.out.trans (Q _))) (by omega)).mono ?_;rintro e w8 ⟨E,rfl⟩;rw [c6.out] at E;exact ⟨E,⟨_,rfl⟩⟩))
        go_wp2_with fail
        go_ret;exact ⟨ze o.out.symm,z.out.trans (Q _)⟩
       case pos=>
        have c6:=zh (EJ a4);have m6:Hid ((∀k,k<p.length->CA m t p (pre++p.take k) k=true)->pathB m t p pre=true):=fun h=>pathB_ok l8.out (by rw [i5.out,i3.out];exact I) (by rw [i6.out,i4.out];exact a4) h
        clear I a4;go_quiet (first | (go_at_call 42;refine (zB x0 _ (c7.out.below (z.out.trans (Q _))) (by omega)).mono ?_;rintro e w8 ⟨E,rfl⟩;rw [HB.out] at E;exact ⟨E,⟨_,rfl⟩⟩) | (go_at_call 42;refine (zB xl _ (e8.out.below (z.out.trans (Q _))) (by omega)).mono ?_;rintro e w8 ⟨E,rfl⟩;rw [c6.out] at E;exact ⟨E,⟨_,rfl⟩⟩))
        have h7:Hid (RtI w2 (wr.drewN nq) gs pre):=HI.out.1.more ((zb.refl wr).drewN nq);generalize wr.drewN nq=w8 at*;clear qx0 qxl o6 o7 o3 o2 j7 j6 Q HB c6 c7 e8 q1 q2 qp L
        go_wp2_with fail
        go_loopg [63] p.length (fun gk v wr=>∃k:Nat,v=.int .i64 k/\k<=p.length/\gk=p.length - k/\Hid (RtI w2 wr gs (pre++p.take k)/\∀k',k'<k->CA m t p (pre++p.take k') k'=true))
        case atStart=>exact ⟨0,rfl,EU _,rfl,by simpa using h7.out,fun k' h=>by omega⟩
        clear h7
        case round=>
         obtain ⟨k,rfl,hk,rfl,hJ⟩:=hrel;obtain ⟨wk,rfl⟩:∃wk:World,wk=wr:=⟨_,rfl⟩;have L:zb w2 wk:=hJ.out.1.ext;rcases Fc k p.length with B | hkge
         ·obtain ⟨bq',offq',e,-,f8⟩:=zy c8.out (k:=k) B B;injection e with e;injection e with e1 e2;subst e1 e2;obtain ⟨y,hy⟩:=zad (p[k]);rw [<-hy] at f8;have qy:∀W,zb wk W->W.cell? ⟨bq,offq+k,none⟩=some (.int .i64 y):=fun W h=>zb.rule f8 W (z.out.trans (L.trans h))
          have a0:Hid (p.getD k 0=y):=by show _=_;rw [hy,EF,EE B];rfl
          have HY:=zh hy;have M:Hid (∀W,Calls Tryz.prog 43 #[.agg #[.int .i64 m.w,.int .i64 m.h,.int .i64 m.l,vfr,vup,.slice (some ⟨bt,offt,none⟩) m.tasks.length ct]] W fun e w'=>e=.returned (.int .i64 (m.w*m.h*m.l))/\Below W.heap.size W w'):=fun W=>AC m.w m.h m.l _ vup _ W (by have:=HG.out.dim.layer;have:=HG.out.dim.n1;omega) (by have:=HG.out.dim.layer;have:=HG.out.dim.n1;omega)
          have k0:∀W,zb wk W->W.cell? ⟨w.heap.size,0,none⟩=some (.int .i64 m.w):=fun W h=>p0 W (L.trans h)
          have k1:∀W,zb wk W->W.cell? ⟨w.heap.size,1,none⟩=some (.int .i64 m.h):=fun W h=>p1 W (L.trans h)
          have k2:∀W,zb wk W->W.cell? ⟨w.heap.size,2,none⟩=some (.int .i64 m.l):=fun W h=>p2 W (L.trans h)
          have k3:∀W,zb wk W->W.cell? ⟨w.heap.size,3,none⟩=some vfr:=fun W h=>p3 W (L.trans h)
          have k4:∀W,zb wk W->W.cell? ⟨w.heap.size,4,none⟩=some vup:=fun W h=>p4 W (L.trans h)
          have k5:∀W,zb wk W->W.cell? ⟨w.heap.size,5,none⟩=some (.slice (some ⟨bt,offt,none⟩) m.tasks.length ct):=fun W h=>p5 W (L.trans h)
          have r8:=zb.refl wk;have p8:(0:Int)<=(k:Int):=by omega
          have p9:(k:Int)<(p.length:Int):=by omega
          clear f8 hy p0 p1 p2 p3 p4 p5
          go_wp2_with fail
          rcases Int.lt_or_le y 0 with hy0 | hy0
          ·have o:Hid (AS m ps=false):=G.out (pathB_nd B (by unfold CA;rw [a0.out,EK (by omega)];rfl));have n2:decide (y<0)=true:=EJ hy0;refine EW (S:=fun W=>zb wk W) (by kernel_rfl) ((zb.refl wk).drew) fun zH=>?_;refine zf 0 zH ?_;refine zf 1 zH ?_;simp only [za,ED];refine zf 2 zH ?_;refine zV 3 zH ?_;simp only [za,ED];refine zV 4 zH ?_;refine zV 5 zH ?_;simp only [za,ED];refine zV 6 zH ?_;refine zf 7 zH ?_;simp only [za,ED];refine zf 8 zH ?_;refine zV 9 zH ?_;simp only [za,ED];refine zV 10 zH ?_;refine zV 11 zH ?_;simp only [za,ED];refine zf 12 zH ?_;refine zf 13 zH ?_;simp only [za,ED];refine zV 14 zH ?_;refine zV 15 zH ?_;simp only [za,ED];refine zV 16 zH ?_;refine zV 17 zH ?_;simp only [za,ED];refine zV 18 zH ?_;refine zV 19 zH ?_;simp only [za,ED];refine zV 20 zH ?_;refine zV 21 zH ?_;simp only [za,ED];refine zV 22 zH ?_;refine zf 23 zH ?_;simp only [za,ED];refine zf 24 zH ?_;refine zV 25 zH ?_;simp only [za,ED];refine zV 26 zH ?_;refine zV 27 zH ?_;simp only [za,ED];refine zV 28 zH ?_;refine zV 29 zH ?_;simp only [za,ED];refine zV 30 zH ?_;refine zV 31 zH ?_;simp only [za,ED];refine zV 32 zH ?_;refine zV 33 zH ?_;simp only [za,ED];refine zV 35 zH ?_;refine zV 34 zH ?_;simp only [za,ED];refine zV 36 zH ?_;refine zV 37 zH ?_;simp only [za,ED];refine zV 38 zH ?_;refine zf 39 zH ?_;simp only [za,ED];refine Fk (by kernel_rfl) ?_ _;have HS:=zh (z.out.trans (L.trans zH));clear zH
           go_wp2_with fail
           go_ret;exact ⟨ze o.out.symm,HS.out⟩
          ·have n2:decide (y<0)=false:=EK (by omega);rcases Int.lt_or_le y m.n with hyn | hyn
           case inr=>
            have o:Hid (AS m ps=false):=G.out (pathB_nd B (by unfold CA;rw [a0.out,EK (show ¬ y<m.n by omega)];simp));have n0:decide (m.w*m.h*m.l<=y)=true:=EJ hyn;clear hyn;refine EW (S:=fun W=>zb wk W) (by kernel_rfl) ((zb.refl wk).drew) fun zH=>?_;refine zf 0 zH ?_;refine zf 1 zH ?_;simp only [za,ED];refine zf 2 zH ?_;refine zf 3 zH ?_;simp only [za,ED];refine zf 4 zH ?_;simp only [za,ED];refine zE 5 fun K D=>?_;go_simp;go_at_call 43;refine (M.out _).mono ?_;rintro e w9 ⟨rfl,J⟩;go_simp;refine zae D (zb.trans zH J) fun zH=>?_;clear D K;try simp only [za,ED]
            refine zf 6 zH ?_;refine zf 7 zH ?_;simp only [za,ED];refine zf 8 zH ?_;refine zV 9 zH ?_;simp only [za,ED];refine zV 10 zH ?_;refine zV 11 zH ?_;simp only [za,ED];refine zf 12 zH ?_;refine zf 13 zH ?_;simp only [za,ED];refine zV 14 zH ?_;refine zV 15 zH ?_;simp only [za,ED];refine zV 16 zH ?_;refine zV 17 zH ?_;simp only [za,ED];refine zV 18 zH ?_;refine zV 19 zH ?_;simp only [za,ED];refine zV 20 zH ?_;refine zV 21 zH ?_;simp only [za,ED];refine zV 22 zH ?_;refine zf 23 zH ?_;simp only [za,ED];refine zf 24 zH ?_;refine zV 25 zH ?_;simp only [za,ED];refine zV 26 zH ?_;refine zV 27 zH ?_;simp only [za,ED];refine zV 28 zH ?_;refine zV 29 zH ?_;simp only [za,ED];refine zV 30 zH ?_;refine zV 31 zH ?_;simp only [za,ED];refine zV 32 zH ?_;refine zV 33 zH ?_;simp only [za,ED];refine zV 35 zH ?_;refine zV 34 zH ?_;simp only [za,ED];refine zV 36 zH ?_;refine zV 37 zH ?_;simp only [za,ED];refine zV 38 zH ?_;refine zf 39 zH ?_;simp only [za,ED];refine Fk (by kernel_rfl) ?_ _;have HS:=zh (z.out.trans (L.trans zH));clear zH
            go_wp2_with fail
            go_ret;exact ⟨ze o.out.symm,HS.out⟩
           case inl=>
            have n0:decide (m.w*m.h*m.l<=y)=false:=EK (by have:m.n=m.w*m.h*m.l:=rfl;omega);obtain ⟨s,a3,e0⟩:=hJ.out.1.set;by_cases a7:y∈s
            ·have o:Hid (AS m ps=false):=G.out (pathB_nd B (by unfold CA;rw [a0.out,EJ ((e0 y).1 a7)];simp));have n9:∀W,zb wk W->(Instr.lookup 79 (.map (some gs)) (.int .i64 y) false).run Tryz.prog W=.ok (.bool true) W:=fun W hW=>look_t (a3.below hW) a7
             clear a3 e0 a7 hyn;refine EW (S:=fun W=>zb wk W) (by kernel_rfl) ((zb.refl wk).drew) fun zH=>?_;refine zf 0 zH ?_;refine zf 1 zH ?_;simp only [za,ED];refine zf 2 zH ?_;refine zf 3 zH ?_;simp only [za,ED];refine zf 4 zH ?_;simp only [za,ED];refine zE 5 fun K D=>?_;go_simp;go_at_call 43;refine (M.out _).mono ?_;rintro e w9 ⟨rfl,J⟩;go_simp;refine zae D (zb.trans zH J) fun zH=>?_;clear D K;try simp only [za,ED]
             refine zf 6 zH ?_;refine zf 7 zH ?_;simp only [za,ED];refine zf 8 zH ?_;refine zf 9 zH ?_;simp only [za,ED];refine zf 10 zH ?_;refine zf 11 zH ?_;simp only [za,ED];refine zf 12 zH ?_;refine zf 13 zH ?_;simp only [za,ED];refine zV 14 zH ?_;refine zV 15 zH ?_;simp only [za,ED];refine zV 16 zH ?_;refine zV 17 zH ?_;simp only [za,ED];refine zV 18 zH ?_;refine zV 19 zH ?_;simp only [za,ED];refine zV 20 zH ?_;refine zV 21 zH ?_;simp only [za,ED];refine zV 22 zH ?_;refine zf 23 zH ?_;simp only [za,ED];refine zf 24 zH ?_;refine zV 25 zH ?_;simp only [za,ED];refine zV 26 zH ?_;refine zV 27 zH ?_;simp only [za,ED];refine zV 28 zH ?_;refine zV 29 zH ?_;simp only [za,ED];refine zV 30 zH ?_;refine zV 31 zH ?_;simp only [za,ED];refine zV 32 zH ?_;refine zV 33 zH ?_;simp only [za,ED];refine zV 35 zH ?_;refine zV 34 zH ?_;simp only [za,ED];refine zV 36 zH ?_;refine zV 37 zH ?_;simp only [za,ED];refine zV 38 zH ?_;refine zf 39 zH ?_;simp only [za,ED];refine Fk (by kernel_rfl) ?_ _;have HS:=zh (z.out.trans (L.trans zH));clear zH
             go_wp2_with fail
             go_ret;exact ⟨ze o.out.symm,HS.out⟩
            ·have n9:∀W,zb wk W->(Instr.lookup 79 (.map (some gs)) (.int .i64 y) false).run Tryz.prog W=.ok (.bool false) W:=fun W hW=>look_f (a3.below hW) a7
             have h8:Hid (y∉pre++p.take k):=fun h=>a7 ((e0 y).2 h)
             have n3:t<m.free.length:=by have:=HG.out.fl;omega
             obtain ⟨bf,offf,cf,bf',offf',lf,cf',rfl,e5,s0,r9,r4,O⟩:=mazeFree f0.out HG.out.fn n3 hy0 hyn;have i7:=zh hyn;have qf1:∀W,zb wk W->W.cell? ⟨bf,offf+t,none⟩=some (.slice (some ⟨bf',offf',none⟩) lf cf'):=fun W h=>zb.rule e5 W (z.out.trans (L.trans h))
             have p7:(t:Int)<(m.free.length:Int):=by omega
             clear a3 e0 a7 hyn e5
             cases a6:zi m t y with
             | false=>
              rw [a6] at O;have qf2:∀W,zb wk W->W.cell? ⟨bf',offf'+y.toNat,none⟩=some (.bool false):=fun W h=>zb.rule O W (z.out.trans (L.trans h))
              have o:Hid (AS m ps=false):=G.out (pathB_nd B (by unfold CA;rw [a0.out,a6];simp));clear O a6;refine EW (S:=fun W=>zb wk W) (by kernel_rfl) ((zb.refl wk).drew) fun zH=>?_;refine zf 0 zH ?_;refine zf 1 zH ?_;simp only [za,ED];refine zf 2 zH ?_;refine zf 3 zH ?_;simp only [za,ED];refine zf 4 zH ?_;simp only [za,ED];refine zE 5 fun K D=>?_;go_simp;go_at_call 43;refine (M.out _).mono ?_;rintro e w9 ⟨rfl,J⟩;go_simp;refine zae D (zb.trans zH J) fun zH=>?_;clear D K;try simp only [za,ED]
              refine zf 6 zH ?_;refine zf 7 zH ?_;simp only [za,ED];refine zf 8 zH ?_;refine zf 9 zH ?_;simp only [za,ED];refine zf 10 zH ?_;refine zf 11 zH ?_;simp only [za,ED];refine zf 12 zH ?_;refine zf 13 zH ?_;simp only [za,ED];refine zf 14 zH ?_;refine zf 15 zH ?_;simp only [za,ED];refine zf 16 zH ?_;refine zf 17 zH ?_;simp only [za,ED];refine zf 18 zH ?_;refine zf 19 zH ?_;simp only [za,ED];refine zf 20 zH ?_;refine zf 21 zH ?_;simp only [za,ED];refine zf 22 zH ?_;refine zf 23 zH ?_;simp only [za,ED];refine zf 24 zH ?_;refine zV 25 zH ?_;simp only [za,ED];refine zV 26 zH ?_;refine zV 27 zH ?_;simp only [za,ED];refine zV 28 zH ?_;refine zV 29 zH ?_;simp only [za,ED];refine zV 30 zH ?_;refine zV 31 zH ?_;simp only [za,ED];refine zV 32 zH ?_;refine zV 33 zH ?_;simp only [za,ED];refine zV 35 zH ?_;refine zV 34 zH ?_;simp only [za,ED];refine zV 36 zH ?_;refine zV 37 zH ?_;simp only [za,ED];refine zV 38 zH ?_;refine zf 39 zH ?_;simp only [za,ED];refine Fk (by kernel_rfl) ?_ _;have HS:=zh (z.out.trans (L.trans zH));clear zH
              go_wp2_with fail
              go_ret;exact ⟨ze o.out.symm,HS.out⟩
             | true=>
              have h6:=zh a6;rw [a6] at O;have qf2:∀W,zb wk W->W.cell? ⟨bf',offf'+y.toNat,none⟩=some (.bool true):=fun W h=>zb.rule O W (z.out.trans (L.trans h))
              clear O a6;rcases Fs k with hkz | hkz
              ·have n7:decide ((0:Int)<(k:Int))=false:=EK (by omega);have j4:decide (0<k)=false:=EK (by omega);have e9:=zh hkz;clear hkz;refine EW (S:=fun W=>zb wk W) (by kernel_rfl) ((zb.refl wk).drew) fun zH=>?_;refine zf 0 zH ?_;refine zf 1 zH ?_;simp only [za,ED];refine zf 2 zH ?_;refine zf 3 zH ?_;simp only [za,ED];refine zf 4 zH ?_;simp only [za,ED];refine zE 5 fun K D=>?_;go_simp;go_at_call 43;refine (M.out _).mono ?_;rintro e w9 ⟨rfl,J⟩;go_simp;refine zae D (zb.trans zH J) fun zH=>?_;clear D K;try simp only [za,ED]
               refine zf 6 zH ?_;refine zf 7 zH ?_;simp only [za,ED];refine zf 8 zH ?_;refine zf 9 zH ?_;simp only [za,ED];refine zf 10 zH ?_;refine zf 11 zH ?_;simp only [za,ED];refine zf 12 zH ?_;refine zf 13 zH ?_;simp only [za,ED];refine zf 14 zH ?_;refine zf 15 zH ?_;simp only [za,ED];refine zf 16 zH ?_;refine zf 17 zH ?_;simp only [za,ED];refine zf 18 zH ?_;refine zf 19 zH ?_;simp only [za,ED];refine zf 20 zH ?_;refine zf 21 zH ?_;simp only [za,ED];refine zf 22 zH ?_;refine zf 23 zH ?_;simp only [za,ED];refine zf 24 zH ?_;refine zf 25 zH ?_;simp only [za,ED];refine zf 26 zH ?_;refine zf 27 zH ?_;simp only [za,ED];refine zV 28 zH ?_;refine zV 29 zH ?_;simp only [za,ED];refine zV 30 zH ?_;refine zV 31 zH ?_;simp only [za,ED];refine zV 32 zH ?_;refine zV 33 zH ?_;simp only [za,ED];refine zV 35 zH ?_;refine zV 34 zH ?_;simp only [za,ED];refine zV 36 zH ?_;refine zV 37 zH ?_;simp only [za,ED];refine zf 38 zH ?_;refine zf 39 zH ?_;simp only [za,ED];refine Fk (by kernel_rfl) ?_ _;have a9:=zh (hJ.out.1.more zH);obtain ⟨s9,b8,V⟩:=a9.out.set;have f2:=zh V;have f1:Hid (CA m t p (pre++p.take k) k=true):=by show _=_;unfold CA;rw [a0.out,EJ hy0,EJ i7.out,EK h8.out,h6.out,EJ e9.out];rfl
               clear zH V
               go_wp2_with (at_mapUpdate;refine CC rfl _ _ _ _ rfl Tryz.underlying79 gs s9 y rfl rfl rfl b8 ?_)
               intro wa b9 b3;have f4:=zh (a9.out.add f2.out b9 b3);clear b9 b3 b8
               go_wp2_with fail
               go_roundg (p.length - (k+1))
               case measure=>omega
               case rel=>exact ⟨k+1,by go_num,B,rfl,by rw [EN B,<-List.append_assoc,<-HY.out];exact f4.out,fun k' n6=>by
                rcases Fc k' k with h1 | h1
                ·exact hJ.out.2 k' h1
                ·obtain rfl:k'=k:=by omega
                 exact f1.out⟩
              ·have n7:decide ((0:Int)<(k:Int))=true:=EJ (by omega);have j4:decide (0<k)=true:=EJ hkz;have d6:k - 1<p.length:=by omega
               obtain ⟨j,hj⟩:=zad (k - 1);have n5:j<k:=by omega
               rw [<-hj] at d6;obtain ⟨bq',offq',e,-,f7⟩:=zy c8.out (k:=j) d6 d6;injection e with e;injection e with e1 e2;subst e1 e2;have d8:p.getD j 0=p[j]:=zgd d6
               have d7:=hJ.out.2 j n5;obtain ⟨prev,b7⟩:=zad (p[j]);rw [<-b7] at f7 d8;unfold CA at d7;rw [d8] at d7;simp only [ES,EQ] at d7;obtain ⟨l0,l1,-⟩:=d7;have i2:Hid (p.getD (k - 1) 0=prev):=by show _=_;rw [<-hj,d8]
               have qv:∀W,zb wk W->W.cell? ⟨bq,offq+j,none⟩=some (.int .i64 prev):=fun W h=>zb.rule f7 W (z.out.trans (L.trans h))
               have r7:IntKind.i64.wrap ((k:Int) - 1)=(j:Int):=by rw [Fb];omega
               have r5:(0:Int)<=(j:Int):=by omega
               have r6:(j:Int)<(p.length:Int):=by omega
               have h9:Hid (∀W,zb wk W->Calls Tryz.prog 44 #[.agg #[.int .i64 m.w,.int .i64 m.h,.int .i64 m.l,.slice (some ⟨bf,offf,none⟩) m.free.length cf,vup,.slice (some ⟨bt,offt,none⟩) m.tasks.length ct],.int .i64 prev] W fun e w'=>∃v',e=.returned v'/\Below W.heap.size W w'/\w'.ownsRow W.heap.size 3 1 v' (zl m prev).length ((zl m prev).map (Value.int .i64))):=fun W hW=>Du m prev W (f0.out.below (z.out.trans (L.trans hW))) HG.out.dim l0 l1
               have e9:Hid (k≠0):=by show _≠_;omega
               clear f7 b7 d8 l0 l1 hkz hj;by_cases a5:y∈zl m prev
               ·have e7:=zh (EJ a5);have l6:=zh a5;clear a5;refine EW (S:=fun W=>zb wk W) (by kernel_rfl) ((zb.refl wk).drew) fun zH=>?_;refine zf 0 zH ?_;refine zf 1 zH ?_;simp only [za,ED];refine zf 2 zH ?_;refine zf 3 zH ?_;simp only [za,ED];refine zf 4 zH ?_;simp only [za,ED];refine zE 5 fun K D=>?_;go_simp;go_at_call 43;refine (M.out _).mono ?_;rintro e w9 ⟨rfl,J⟩;go_simp;refine zae D (zb.trans zH J) fun zH=>?_;clear D K;try simp only [za,ED]
                refine zf 6 zH ?_;refine zf 7 zH ?_;simp only [za,ED];refine zf 8 zH ?_;refine zf 9 zH ?_;simp only [za,ED];refine zf 10 zH ?_;refine zf 11 zH ?_;simp only [za,ED];refine zf 12 zH ?_;refine zf 13 zH ?_;simp only [za,ED];refine zf 14 zH ?_;refine zf 15 zH ?_;simp only [za,ED];refine zf 16 zH ?_;refine zf 17 zH ?_;simp only [za,ED];refine zf 18 zH ?_;refine zf 19 zH ?_;simp only [za,ED];refine zf 20 zH ?_;refine zf 21 zH ?_;simp only [za,ED];refine zf 22 zH ?_;refine zf 23 zH ?_;simp only [za,ED];refine zf 24 zH ?_;refine zf 25 zH ?_;simp only [za,ED];refine zf 26 zH ?_;refine zf 27 zH ?_;simp only [za,ED];refine zf 28 zH ?_;refine zf 29 zH ?_;simp only [za,ED];refine zf 30 zH ?_;refine zf 31 zH ?_;simp only [za,ED];refine zf 32 zH ?_;refine zf 33 zH ?_;simp only [za,ED];refine zf 35 zH ?_;simp only [za,ED];refine zE 34 fun K D=>?_;go_simp;go_at_call 44;refine (h9.out _ zH).mono ?_;rintro e w10 ⟨v10,rfl,b0,b5⟩;go_simp;refine zae D (zb.trans zH b0) fun zH=>?_;clear D K;try simp only [za,ED]
                refine zE 36 fun K D=>?_;go_simp;go_at_call 42;refine (zB y _ (AI.of_own b5) (by have:=Bc m prev;omega)).mono ?_;rintro e w11 ⟨he,rfl⟩;rw [e7.out] at he;subst he;go_simp;refine zae D (zH) fun zH=>?_;clear D K;try simp only [za,ED]
                refine zf 37 zH ?_;refine zf 38 zH ?_;simp only [za,ED];refine zf 39 zH ?_;simp only [za,ED];refine Fk (by kernel_rfl) ?_ _;have a9:=zh (hJ.out.1.more zH);obtain ⟨s9,b8,V⟩:=a9.out.set;have f2:=zh V;have f1:Hid (CA m t p (pre++p.take k) k=true):=by show _=_;unfold CA;rw [a0.out,EJ hy0,EJ i7.out,EK h8.out,h6.out,i2.out,EJ l6.out];simp
                clear zH V
                go_wp2_with (at_mapUpdate;refine CC rfl _ _ _ _ rfl Tryz.underlying79 gs s9 y rfl rfl rfl b8 ?_)
                intro wa b9 b3;have f4:=zh (a9.out.add f2.out b9 b3);clear b9 b3 b8
                go_wp2_with fail
                go_roundg (p.length - (k+1))
                case measure=>omega
                case rel=>exact ⟨k+1,by go_num,B,rfl,by rw [EN B,<-List.append_assoc,<-HY.out];exact f4.out,fun k' n6=>by
                 rcases Fc k' k with h1 | h1
                 ·exact hJ.out.2 k' h1
                 ·obtain rfl:k'=k:=by omega
                  exact f1.out⟩
               ·have e7:=zh (EK a5);have o:Hid (AS m ps=false):=G.out (pathB_nd B (by unfold CA;rw [a0.out,i2.out,EK e9.out,EK a5];simp));clear a5;refine EW (S:=fun W=>zb wk W) (by kernel_rfl) ((zb.refl wk).drew) fun zH=>?_;refine zf 0 zH ?_;refine zf 1 zH ?_;simp only [za,ED];refine zf 2 zH ?_;refine zf 3 zH ?_;simp only [za,ED];refine zf 4 zH ?_;simp only [za,ED];refine zE 5 fun K D=>?_;go_simp;go_at_call 43;refine (M.out _).mono ?_;rintro e w9 ⟨rfl,J⟩;go_simp;refine zae D (zb.trans zH J) fun zH=>?_;clear D K;try simp only [za,ED]
                refine zf 6 zH ?_;refine zf 7 zH ?_;simp only [za,ED];refine zf 8 zH ?_;refine zf 9 zH ?_;simp only [za,ED];refine zf 10 zH ?_;refine zf 11 zH ?_;simp only [za,ED];refine zf 12 zH ?_;refine zf 13 zH ?_;simp only [za,ED];refine zf 14 zH ?_;refine zf 15 zH ?_;simp only [za,ED];refine zf 16 zH ?_;refine zf 17 zH ?_;simp only [za,ED];refine zf 18 zH ?_;refine zf 19 zH ?_;simp only [za,ED];refine zf 20 zH ?_;refine zf 21 zH ?_;simp only [za,ED];refine zf 22 zH ?_;refine zf 23 zH ?_;simp only [za,ED];refine zf 24 zH ?_;refine zf 25 zH ?_;simp only [za,ED];refine zf 26 zH ?_;refine zf 27 zH ?_;simp only [za,ED];refine zf 28 zH ?_;refine zf 29 zH ?_;simp only [za,ED];refine zf 30 zH ?_;refine zf 31 zH ?_;simp only [za,ED];refine zf 32 zH ?_;refine zf 33 zH ?_;simp only [za,ED];refine zf 35 zH ?_;simp only [za,ED];refine zE 34 fun K D=>?_;go_simp;go_at_call 44;refine (h9.out _ zH).mono ?_;rintro e w10 ⟨v10,rfl,b0,b5⟩;go_simp;refine zae D (zb.trans zH b0) fun zH=>?_;clear D K;try simp only [za,ED]
                refine zE 36 fun K D=>?_;go_simp;go_at_call 42;refine (zB y _ (AI.of_own b5) (by have:=Bc m prev;omega)).mono ?_;rintro e w11 ⟨he,rfl⟩;rw [e7.out] at he;subst he;go_simp;refine zae D (zH) fun zH=>?_;clear D K;try simp only [za,ED]
                refine zf 37 zH ?_;refine zf 38 zH ?_;simp only [za,ED];refine zf 39 zH ?_;simp only [za,ED];refine Fk (by kernel_rfl) ?_ _;have HS:=zh (z.out.trans (L.trans zH));clear zH
                go_wp2_with fail
                go_ret;exact ⟨ze o.out.symm,HS.out⟩
         ·have n8:k=p.length:=by omega
          subst n8
          have l9:Hid (∀t',t'<t+1->pathB m t' (ps.getD t' []) (ps.take t').flatten=true):=fun t' s4=>by
           rcases Fc t' t with h1 | h1
           ·exact HI.out.2 t' h1
           ·obtain rfl:t'=t:=by omega
            rw [i1.out];have h2:=m6.out hJ.out.2;have h3:=d4.out;exact i0.out ▸ h2
          have l5:Hid (RtI w2 wk gs (ps.take (t+1)).flatten):=by
           show RtI _ _ _ _;rw [d4.out];have:=hJ.out.1
           rwa [ER] at this
          go_wp2_with fail
          go_roundg (ps.length - (t+1))
          case measure=>omega
          case rel=>exact ⟨t+1,by go_num,a1,rfl,l5.out,l9.out⟩
    ·have o4:t=ps.length:=by omega
     subst o4;have o:Hid (AS m ps=true):=l7.out e4.out hI.out.2
     go_wp2_with fail
     go_ret;exact ⟨ze o.out.symm,z.out.trans L⟩
end
section
open Go.RowKit
def DA (m:MZ) (t:Nat) (fixed:List (List Int)):Int->Bool:=fun n=>zi m t n && !decide (n∈fixed.flatten)
def farP (m:MZ) (t:Nat) (fixed:List (List Int)):List (Int×Int):=bfs m (DA m t fixed) (m.n.toNat+1) 0 (zt (DA m t fixed) 0 (m.tasks.getD t ([],[])).2 [])
def CE (m:MZ) (F:List (Int×Int)) (fm:List Int):Option (List Int):=(BL F fm none).map fun b=>Cx m F ((F.lookup b).getD 0).toNat b
def AM (m:MZ) (t:Int):Bool:=decide (AO m=0) && (decide (0<=t) && decide (t<m.tasks.length))
def BM (m:MZ) (t:Int) (fixed:List (List Int)):Option (List Int):=if AM m t=true then CE m (farP m t.toNat fixed) (m.tasks.getD t.toNat ([],[])).1 else none
theorem AX {m:MZ} {t:Int}:AM m t=true↔AO m=0/\0<=t/\t<m.tasks.length:=by
 unfold AM;simp
theorem farP_fi {m:MZ} {t:Nat} (g:zC m) (o:t<m.tasks.length):DN m (DA m t fixed) (m.tasks.getD t ([],[])).2 (farP m t fixed).length (farP m t fixed):=by
 have h0:DN m (DA m t fixed) (m.tasks.getD t ([],[])).2 0 (zt (DA m t fixed) 0 (m.tasks.getD t ([],[])).2 []):=DN.start fun x z=>by
  rw [EF,EE o,Fl] at z;exact g.tn _ (EH o) x (.inr z)
 obtain ⟨j,B,e⟩:=bfs_fi g.dim (m.n.toNat+1) 0 _ h0 (EU _) (by omega);have:j=(farP m t fixed).length:=e;rw [<-this];exact B
structure PathI (m:MZ) (t:Nat) (fixed:List (List Int)) (p:List Int):Prop where
 ne:p≠[]
 hd:p.getD 0 0∈(m.tasks.getD t ([],[])).1
 lt:p.getD (p.length - 1) 0∈(m.tasks.getD t ([],[])).2
 rg:∀x∈p,0<=x/\x<m.n
 fr:∀x∈p,zi m t x=true/\x∉fixed.flatten
 nd:p.Nodup
 ch:∀(i:Nat) x y,p[i]?=some x->p[i+1]?=some y->y∈zl m x
 nc:∀(i j:Nat) x y,i+2<=j->p[i]?=some x->p[j]?=some y->y∉zl m x
theorem descP_ok {m:MZ} {t:Nat} {p:List Int} (g:zC m) (ht:t<m.tasks.length) (h:CE m (farP m t fixed) (m.tasks.getD t ([],[])).1=some p):PathI m t fixed p:=by
 have hF:=farP_fi (fixed:=fixed) g ht;generalize farP m t fixed=F at hF h;unfold CE at h;obtain ⟨b,hb,rfl⟩:=Option.map_eq_some_iff.1 h;obtain ⟨d,h1,h2,-,-⟩:=CF (fun c hc=>by cases hc) hb;rw [h1,Fl];have I:=Aj h1;have J:=(hF.rg _ I).2.2;simp only at J;obtain ⟨f,rfl⟩:∃f:Nat,d=(f:Int):=⟨d.toNat,by omega⟩;rw [Fy];obtain ⟨a1,a2,a3,a4⟩:=down_spec g.dim hF f b h1;generalize Cx m F f b=p at*
 have z:∀x∈p,∃e,(x,e)∈F:=fun x B=>by
  obtain ⟨i,L⟩:=List.getElem?_of_mem B;exact ⟨_,Aj (a3 i x L).2⟩
 have T:p≠[]:=fun e=>by rw [e] at a1;simp at a1
 refine ⟨T,?_,?_,fun x B=>?_,fun x B=>?_,?_,a4,fun i j x y M B hy hn=>?_⟩
 ·have e0:p.getD 0 0=b:=by rw [EF,a2,Fl]
  rw [e0];rcases h2 with h2 | h2
  ·cases h2
  ·exact h2
 ·have hl:p.length - 1<p.length:=by omega
  have e0:p.getD (p.length - 1) 0=p[p.length - 1]:=by rw [EF,EE hl,Fl]
  rw [e0];obtain ⟨h3,o⟩:=a3 (p.length - 1) _ (EE hl);have V:=Aj o;rcases hF.bk _ V with ⟨-,E⟩ | ⟨q,U,-,E⟩
  ·exact E
  ·have:=(hF.rg q U).2.2;simp only at E;omega
 ·obtain ⟨e,he⟩:=z x B;exact (hF.rg _ he).1
 ·obtain ⟨e,he⟩:=z x B;have:=(hF.rg _ he).2.1;unfold DA at this;simp only [ES,Bool.not_eq_true',Fd] at this;exact this
 ·rw [List.nodup_iff_pairwise_ne,List.pairwise_iff_getElem];intro i j L hj M e;have h3:=(a3 i _ (EE L));have o:=(a3 j _ (EE hj));rw [e,o.2] at h3;have:=h3.2;injection this with this;omega
 ·obtain ⟨h3,o⟩:=a3 i x B;obtain ⟨V,E⟩:=a3 j y hy;have h7:=Aj o;have h8:=Aj E;have b4:=(hF.rg _ h8);have D:=(hF.rg _ h7);have h9:=nextL_symm g.dim D.1.1 D.1.2 hn;obtain ⟨k,O⟩:=List.getElem?_of_mem h8
  have Q:k<F.length:=by
   rcases Fc k F.length with h | h
   ·exact h
   ·rw [EZ h] at O;cases O
  obtain ⟨q,U,e,G⟩:=hF.cl k Q _ O x h9 D.2.1;obtain ⟨q1,q2⟩:=q;simp only at e G;subst e;rw [CM hF.nd U] at o;injection o with o;omega
theorem pathP_ok {m:MZ} {t:Int} {p:List Int} (h:BM m t fixed=some p):AO m=0/\(0<=t/\t<m.tasks.length)/\PathI m t.toNat fixed p:=by
 unfold BM at h
 split at h
 ·rename_i o
  obtain ⟨h1,h2,h3⟩:=AX.1 o;exact ⟨h1,⟨h2,h3⟩,descP_ok (zC.of h1) (by omega) h⟩
 ·cases h
theorem PathI.pathB {m:MZ} {t:Nat} {fixed:List (List Int)} {p pre:List Int} (h:PathI m t fixed p) (hp:∀x∈p,x∉pre):pathB m t p pre=true:=by
 refine pathB_ok h.ne h.hd h.lt fun k o=>?_
 have z:p.getD k 0=p[k]:=by rw [EF,EE o,Fl]
 have hm:=EH o;have D:=h.rg _ hm;unfold CA;rw [z,EJ D.1,EJ D.2,(h.fr _ hm).1]
 have h1:p[k]∉pre++p.take k:=fun hc=>by
  rcases Fx.1 hc with hc | hc
  ·exact hp _ hm hc
  ·obtain ⟨i,E,e⟩:=Fm hc;rw [List.getElem_take] at e;have B:i<k:=by rw [FA] at E;omega
   exact List.pairwise_iff_getElem.1 (List.nodup_iff_pairwise_ne.1 h.nd) i k (by omega) o B e
 rw [EK h1];rcases Fs k with rfl | h0
 ·rfl
 ·have h2:p.getD (k - 1) 0=p[k - 1]:=by rw [EF,EE (by omega),Fl]
  have h3:=h.ch (k - 1) _ _ (EE (by omega)) (by rw [show k - 1+1=k by omega];exact EE o);rw [h2,EJ h3];simp
end
end Go.Proofs.YthbjngbhbbkkgaaGreat
