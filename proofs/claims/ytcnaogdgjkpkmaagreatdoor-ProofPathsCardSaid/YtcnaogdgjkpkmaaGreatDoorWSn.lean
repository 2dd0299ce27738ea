import Derived.Test.YtcnaogdgjkpkmaaGreatDoorWSm
import Derived.Deep.RegionHeld3
set_option linter.unusedVariables false
set_option linter.unusedSimpArgs false
set_option maxRecDepth 100000
set_option maxHeartbeats 16000000
namespace Go.Proofs.YtcnaogdgjkpkmaaGreatDoor
variable {x:Int} {gs:Nat} {v:Value} {w w' wr:World}
section
open Go.RowKit
attribute [local go_sem ↓] Go.wp_at_zero Go.wp_at_succ
def Cf (m:MZ) (t:Nat) (p pre:List Int) (k:Nat):Bool:=
 decide (0<=p.getD k 0) && (decide (p.getD k 0<m.n) && (!decide (p.getD k 0∈pre) && (zl m t (p.getD k 0) && (decide (k=0) || decide (p.getD k 0∈zu m (p.getD (k - 1) 0))))))
def Cb (m:MZ) (t:Nat) (p pre:List Int):Bool:=
 !decide (p=[]) && (decide (p.getD 0 0∈(m.tasks.getD t ([],[])).1) && (decide (p.getD (p.length - 1) 0∈(m.tasks.getD t ([],[])).2) && (List.range p.length).all fun k=>Cf m t p (pre++p.take k) k))
def AJ (m:MZ) (ps:List (List Int)):Bool:=
 decide (Br m=0) && (decide (ps.length=m.tasks.length) && (List.range ps.length).all fun t=>Cb m t (ps.getD t []) (ps.take t).flatten)
section
variable {m:MZ} {t:Nat} {p pre:List Int} {ps:List (List Int)}
theorem pathB_hd (h:p.getD 0 0∉(m.tasks.getD t ([],[])).1):Cb m t p pre=false:=by
 unfold Cb;rw [DG h];simp
theorem pathB_lt (h:p.getD (p.length - 1) 0∉(m.tasks.getD t ([],[])).2):Cb m t p pre=false:=by
 unfold Cb;rw [DG h];simp
theorem pathB_nd {k:Nat} (d:k<p.length) (h:Cf m t p (pre++p.take k) k=false):Cb m t p pre=false:=by
 unfold Cb
 have:((List.range p.length).all fun k=>Cf m t p (pre++p.take k) k)=false:=by
  rw [Bool.eq_false_iff];intro h2;have:=ED.1 h2 k (Ez.2 d);rw [h] at this;cases this
 rw [this];simp
theorem pathB_ok (h0:p≠[]) (h1:p.getD 0 0∈(m.tasks.getD t ([],[])).1) (h2:p.getD (p.length - 1) 0∈(m.tasks.getD t ([],[])).2) (d:∀k,k<p.length->Cf m t p (pre++p.take k) k=true):Cb m t p pre=true:=by
 unfold Cb;rw [DG h0,DF h1,DF h2,ED.2 (fun k o=>d k (Ez.1 o))];rfl
theorem rightB_path (ht:t<ps.length) (h:Cb m t (ps.getD t []) (ps.take t).flatten=false):AJ m ps=false:=by
 unfold AJ
 have:((List.range ps.length).all fun t=>Cb m t (ps.getD t []) (ps.take t).flatten)=false:=by
  rw [Bool.eq_false_iff];intro h2;have:=ED.1 h2 t (Ez.2 ht);rw [h] at this;cases this
 rw [this];simp
theorem rightB_ok (h0:Br m=0) (h1:ps.length=m.tasks.length) (h2:∀t,t<ps.length->Cb m t (ps.getD t []) (ps.take t).flatten=true):AJ m ps=true:=by
 unfold AJ;rw [DF h0,DF h1,ED.2 (fun t ht=>h2 t (Ez.1 ht))];rfl
end
structure RtI (w wr:World) (gs:Nat) (pre:List Int):Prop where
 ext:zc w wr
 gsB:w.heap.size<=gs
 set:∃s,zB wr gs s/\∀x,x∈s↔x∈pre
theorem RtI.more {pre:List Int} (h:RtI w wr gs pre) (d:zc wr w'):RtI w w' gs pre:=by
 obtain ⟨s,h1,h2⟩:=h.set;exact ⟨h.ext.trans d,h.gsB,s,h1.below d,h2⟩
theorem RtI.add {pre s:List Int} (h:RtI w wr gs pre) (r:∀y,y∈s↔y∈pre) (h1:zB w' gs (ins s x)) (o:wr.grownBy w' (some gs)):RtI w w' gs (pre++[x]):=
 ⟨Below.grown h.ext o h.ext.size (fun k d=>by injection d with d;have:=h.gsB;omega),h.gsB,_,h1,fun y=>by rw [mem_ins,r,Er,Ej]⟩
theorem right_calls {okm okp:Nat->Prop} {vp:Value} {m:MZ} {ps:List (List Int)} (w:World) (hm:zM w okm v m) (hl:Lens m) (hp:Ai w okp vp ps) (s2:ps.length<=20000000000000) (d8:∀x∈ps,x.length<=20000000000000):
  Calls Tryz.prog 24 #[v,vp] w fun e w'=>e=.returned (.bool (AJ m ps))/\zc w w':=by
 have j3:=hm;obtain ⟨vfr,vup,vts,rfl,-,-,k6⟩:=hm;have m7:=zh k6;obtain ⟨_,⟨At,ct,rfl,-⟩,-⟩:=k6;have e9:=zh j3;clear j3;obtain ⟨vsp,⟨Ap,cp,rfl,q9,j8⟩,i9⟩:=hp;have m6:=zh j8;have l2:=zh i9;clear j8 i9;have HL:=zh hl;clear hl;have l9:=zh d8;clear d8;obtain ⟨ck,i8⟩:=EH (Br m);have a7:=zh i8;clear i8;have n8:=@run_makeMap Tryz.prog
 go_enter Tryz.func24,Tryz.ntmps24
 go_wp2_with fail
 generalize g6:w.alloc (.cells #[.int .i64 m.w,.int .i64 m.h,.int .i64 m.l,vfr,vup,.slice At m.tasks.length ct] 35)=w1;have G:zc w w1:=by rw [<-g6];exact (zc.refl w).alloc _
 have j0:zj w1 w.heap.size 35 #[.int .i64 m.w,.int .i64 m.h,.int .i64 m.l,vfr,vup,.slice At m.tasks.length ct]:=by rw [<-g6];exact Eo _ _
 clear g6;obtain ⟨m0,m1,m2,m3,m4,m5⟩:=zA j0;have c0:=zc.rule m0;have c1:=zc.rule m1;have c2:=zc.rule m2;have c3:=zc.rule m3;have c4:=zc.rule m4;have c5:=zc.rule m5;clear m0 m1 m2 m3 m4 m5 j0;refine (Be w1 (e9.out.below G) HL.out).mono ?_;rintro e w2 ⟨rfl,Q⟩;have Q:zc w1 w2:=Q;have o:Hid (zc w w2):=G.trans Q;have q7:=zh G;rw [<-a7.out];by_cases h0:ck=0
 case neg=>
  have j5:(ck==0)=false:=by rw [DP];exact h0
  have s3:(ck != 0)=true:=by rw [bne_iff_ne];exact h0
  have d:Hid (AJ m ps=false):=by show _=_;unfold AJ;rw [<-a7.out,DG h0];rfl
  clear h0
  go_wp2_with fail
  go_ret;exact ⟨zk d.out.symm,o.out⟩
 case pos=>
  subst h0;have HG:=zh (Am.of a7.out.symm);have l5:Hid (∀h1:ps.length=m.tasks.length,∀h2:(∀t,t<ps.length->Cb m t (ps.getD t []) (ps.take t).flatten=true),AJ m ps=true):=fun h1 h2=>rightB_ok a7.out.symm h1 h2
  clear a7;by_cases a2:ps.length=m.tasks.length
  case neg=>
   have j6:((ps.length:Int)==(m.tasks.length:Int))=false:=by rw [DP];omega
   have j7:((ps.length:Int) != (m.tasks.length:Int))=true:=by rw [bne_iff_ne];omega
   have d:Hid (AJ m ps=false):=by show _=_;unfold AJ;rw [DG a2];simp
   clear a2
   go_wp2_with fail
   go_ret;exact ⟨zk d.out.symm,o.out⟩
  case pos=>
   have j6:((ps.length:Int)==(m.tasks.length:Int))=true:=by rw [beq_iff_eq];omega
   have j7:((ps.length:Int) != (m.tasks.length:Int))=false:=by rw [bne_eq_false_iff_eq];omega
   have e3:=zh a2;have s5:=HG.out.tk;have s1:ps.length<=6:=by omega
   have H0:Hid (RtI w2 (w2.alloc (.map #[] 0)) w2.heap.size []):=⟨(zc.refl _).alloc _,DC _,[],zB.new _,fun x=>Iff.rfl⟩;have p0:∀W,zc w2 W->W.cell? ⟨w.heap.size,0,none⟩=some (.int .i64 m.w):=fun W h=>c0 W (Q.trans h)
   have p1:∀W,zc w2 W->W.cell? ⟨w.heap.size,1,none⟩=some (.int .i64 m.h):=fun W h=>c1 W (Q.trans h)
   have p2:∀W,zc w2 W->W.cell? ⟨w.heap.size,2,none⟩=some (.int .i64 m.l):=fun W h=>c2 W (Q.trans h)
   have p3:∀W,zc w2 W->W.cell? ⟨w.heap.size,3,none⟩=some vfr:=fun W h=>c3 W (Q.trans h)
   have p4:∀W,zc w2 W->W.cell? ⟨w.heap.size,4,none⟩=some vup:=fun W h=>c4 W (Q.trans h)
   have p5:∀W,zc w2 W->W.cell? ⟨w.heap.size,5,none⟩=some (.slice At m.tasks.length ct):=fun W h=>c5 W (Q.trans h)
   clear a2
   go_wp2_with fail
   obtain ⟨gs,j1⟩:=EH w2.heap.size;rw [<-j1] at H0⊢;generalize o3:w2.alloc (.map #[] 0)=w3 at*;clear o3 n8 j6 j7 j1 c0 c1 c2 c3 c4 c5
   go_loopg [24] ps.length (fun gk v wr=>∃t:Nat,v=.int .i64 t/\t<=ps.length/\gk=ps.length - t/\Hid (RtI w2 wr gs (ps.take t).flatten/\∀t',t'<t->Cb m t' (ps.getD t' []) (ps.take t').flatten=true))
   case atStart=>exact ⟨0,rfl,DR _,rfl,H0.out,fun t' h=>by omega⟩
   clear H0
   case round=>
    obtain ⟨t,rfl,ht,rfl,hI⟩:=hrel;have J:zc w2 wr:=hI.out.1.ext;rcases DZ t ps.length with a1 | hge
    ·have b3:t<m.tasks.length:=by have:=e3.out;omega
     have g3:ps.getD t []=ps[t]:=zgd a1
     obtain ⟨bp,offp,up,rfl,-,e5,k7⟩:=BG m6.out l2.out a1 a1;obtain ⟨bt,offt,sn,u1,u2,rfl,-,-,i6,i7,f8,f9⟩:=BK m7.out b3;have d8:=l9.out _ (DD a1);have g5:=HL.out.tl _ (DD b3);have g4:m.tasks.getD t ([],[])=m.tasks[t]:=zgd b3
     have E:Hid (Cb m t (ps.getD t []) (ps.take t).flatten=false->AJ m ps=false):=rightB_path a1;have c9:Hid ((ps.take (t+1)).flatten=(ps.take t).flatten++ps[t]):=by show _=_;rw [DJ a1,List.flatten_append];simp
     rw [g3] at E;have h9:=zh g3;obtain ⟨p,hp⟩:=EH (ps[t]);rw [<-hp] at k7 d8 E c9 h9;obtain ⟨pre,b5⟩:=EH ((ps.take t).flatten);have f2:=hI.out;rw [<-b5] at E c9 f2;have h8:=zh b5;have HI:=zh f2;obtain ⟨T1,f4⟩:=EH (m.tasks[t].1);obtain ⟨T2,f5⟩:=EH (m.tasks[t].2);have i1:Hid ((m.tasks.getD t ([],[])).1=T1):=by show _=_;rw [g4,f4]
     have i2:Hid ((m.tasks.getD t ([],[])).2=T2):=by show _=_;rw [g4,f5]
     rw [<-f4] at f8 g5;rw [<-f5] at f9 g5;obtain ⟨q5,q6⟩:=g5;have c6:=zh f8;have e7:=zh f9;obtain ⟨Aq,cq,rfl,r3,j9⟩:=k7;have c7:=zh j9;have U:=o.out;have qp:∀W,zc w2 W->W.cell? ⟨bp,offp+t,none⟩=some (.slice Aq p.length cq):=fun W h=>zc.rule e5 W (U.trans h)
     have q1:∀W,zc w2 W->W.cell? ⟨bt,offt+t*3+1,none⟩=some u1:=fun W h=>zc.rule i6 W (U.trans h)
     have q2:∀W,zc w2 W->W.cell? ⟨bt,offt+t*3+2,none⟩=some u2:=fun W h=>zc.rule i7 W (U.trans h)
     have p8:(0:Int)<=(t:Int):=by omega
     have p9:(t:Int)<(m.tasks.length:Int):=by omega
     have q3:(t:Int)<(ps.length:Int):=by omega
     clear e5 i6 i7 g3 g4 hp b5 f2 f4 f5 f8 f9 j9 U hI;have O:∀q,zc w2 (wr.drewN q):=fun q=>J.drewN q
     go_upto_region 7 with fail;rcases Em p.length with hpz | hpz
     ·have n9:p=[]:=DU hpz;subst n9;have hz:([]:List Int).length=0:=rfl;have d:Hid (AJ m ps=false):=E.out rfl;clear hpz;go_quiet (fail)
      go_wp2_with fail
      go_ret;exact ⟨zk d.out.symm,o.out.trans (O _)⟩
     ·obtain ⟨bq,offq,rfl,-,b0⟩:=Ae c7.out (k:=0) hpz hpz;obtain ⟨n1,g0⟩:=EH (p.length - 1);have g1:n1<p.length:=by omega
      obtain ⟨bq',offq',e,-,b1⟩:=Ae c7.out (k:=n1) g1 g1;injection e with e;injection e with e1 e2;subst e1 e2;obtain ⟨x0,g7⟩:=EH (p[0]);obtain ⟨xl,g8⟩:=EH (p[n1]);rw [<-g7] at b0;rw [<-g8] at b1;have U:=o.out;have qx0:∀W,zc w2 W->W.cell? ⟨bq,offq,none⟩=some (.int .i64 x0):=fun W h=>zc.rule b0 W (U.trans h)
      have qxl:∀W,zc w2 W->W.cell? ⟨bq,offq+n1,none⟩=some (.int .i64 xl):=fun W h=>zc.rule b1 W (U.trans h)
      have i3:Hid (p.getD 0 0=x0):=by show _=_;rw [g7,DB,DA hpz];rfl
      have i4:Hid (p.getD (p.length - 1) 0=xl):=by show _=_;rw [<-g0,g8,DB,DA g1];rfl
      have o4:((p.length:Int)==0)=false:=by rw [DP];omega
      have o5:(0:Int)<(p.length:Int):=by omega
      have o1:IntKind.i64.wrap ((p.length:Int) - 1)=(n1:Int):=by rw [DY];omega
      have o0:(0:Int)<=(n1:Int):=by omega
      have j5:(n1:Int)<(p.length:Int):=by omega
      have j4:p.length≠0:=by omega
      have q8:=zh g0;have l6:Hid (p≠[]):=by rintro rfl;simp at hpz
      clear g0 b0 b1 g7 g8 U;by_cases G:x0∈T1
      case neg=>
       have d:Hid (AJ m ps=false):=E.out (pathB_hd (by rw [i3.out,i1.out];exact G));have HB:=zh (DG G);clear G;go_quiet ((go_at_call 56;refine (zt x0 _ (c6.out.below (o.out.trans (O _))) (by omega)).mono ?_;rintro e w8 ⟨D,rfl⟩;rw [HB.out] at D;exact ⟨D,⟨_,rfl⟩⟩))
       go_wp2_with fail
       go_ret;exact ⟨zk d.out.symm,o.out.trans (O _)⟩
      case pos=>
       have HB:=zh (DF G);by_cases a3:xl∈T2
       case neg=>
        have d:Hid (AJ m ps=false):=E.out (pathB_lt (by rw [i4.out,i2.out];exact a3));have b9:=zh (DG a3);clear G a3;go_quiet (first | (go_at_call 56;refine (zt x0 _ (c6.out.below (o.out.trans (O _))) (by omega)).mono ?_;rintro e w8 ⟨D,rfl⟩;rw [HB.out] at D;exact ⟨D,⟨_,rfl⟩⟩) | (go_at_call 56;refine (zt xl _ (e7.out.below (o.out.trans (O _))) (by omega)).mono ?_;rintro e w8 ⟨D,rfl⟩;rw [b9.out] at D;exact ⟨D,⟨_,rfl⟩⟩))
        go_wp2_with fail
        go_ret;exact ⟨zk d.out.symm,o.out.trans (O _)⟩
       case pos=>
        have b9:=zh (DF a3);have l8:Hid ((∀k,k<p.length->Cf m t p (pre++p.take k) k=true)->Cb m t p pre=true):=fun h=>pathB_ok l6.out (by rw [i3.out,i1.out];exact G) (by rw [i4.out,i2.out];exact a3) h
        clear G a3;go_quiet (first | (go_at_call 56;refine (zt x0 _ (c6.out.below (o.out.trans (O _))) (by omega)).mono ?_;rintro e w8 ⟨D,rfl⟩;rw [HB.out] at D;exact ⟨D,⟨_,rfl⟩⟩) | (go_at_call 56;refine (zt xl _ (e7.out.below (o.out.trans (O _))) (by omega)).mono ?_;rintro e w8 ⟨D,rfl⟩;rw [b9.out] at D;exact ⟨D,⟨_,rfl⟩⟩))
        have h5:Hid (RtI w2 (wr.drewN nq) gs pre):=HI.out.1.more ((zc.refl wr).drewN nq);generalize wr.drewN nq=w8 at*;clear qx0 qxl o4 o5 o1 o0 j5 j4 O HB b9 c6 e7 q1 q2 qp J
        go_wp2_with fail
        go_loopg [63] p.length (fun gk v wr=>∃k:Nat,v=.int .i64 k/\k<=p.length/\gk=p.length - k/\Hid (RtI w2 wr gs (pre++p.take k)/\∀k',k'<k->Cf m t p (pre++p.take k') k'=true))
        case atStart=>exact ⟨0,rfl,DR _,rfl,by simpa using h5.out,fun k' h=>by omega⟩
        clear h5
        case round=>
         obtain ⟨k,rfl,hk,rfl,hJ⟩:=hrel;obtain ⟨wk,rfl⟩:∃wk:World,wk=wr:=⟨_,rfl⟩;have J:zc w2 wk:=hJ.out.1.ext;rcases DZ k p.length with r | hkge
         ·obtain ⟨bq',offq',e,-,f7⟩:=Ae c7.out (k:=k) r r;injection e with e;injection e with e1 e2;subst e1 e2;obtain ⟨y,hy⟩:=EH (p[k]);rw [<-hy] at f7;have qy:∀W,zc wk W->W.cell? ⟨bq,offq+k,none⟩=some (.int .i64 y):=fun W h=>zc.rule f7 W (o.out.trans (J.trans h))
          have a0:Hid (p.getD k 0=y):=by show _=_;rw [hy,DB,DA r];rfl
          have HY:=zh hy;have L:Hid (∀W,Calls Tryz.prog 57 #[.agg #[.int .i64 m.w,.int .i64 m.h,.int .i64 m.l,vfr,vup,.slice (some ⟨bt,offt,none⟩) m.tasks.length ct]] W fun e w'=>e=.returned (.int .i64 (m.w*m.h*m.l))/\Below W.heap.size W w'):=fun W=>zX m.w m.h m.l _ vup _ W (by have:=HG.out.dim.layer;have:=HG.out.dim.n1;omega) (by have:=HG.out.dim.layer;have:=HG.out.dim.n1;omega)
          have k0:∀W,zc wk W->W.cell? ⟨w.heap.size,0,none⟩=some (.int .i64 m.w):=fun W h=>p0 W (J.trans h)
          have k1:∀W,zc wk W->W.cell? ⟨w.heap.size,1,none⟩=some (.int .i64 m.h):=fun W h=>p1 W (J.trans h)
          have k2:∀W,zc wk W->W.cell? ⟨w.heap.size,2,none⟩=some (.int .i64 m.l):=fun W h=>p2 W (J.trans h)
          have k3:∀W,zc wk W->W.cell? ⟨w.heap.size,3,none⟩=some vfr:=fun W h=>p3 W (J.trans h)
          have k4:∀W,zc wk W->W.cell? ⟨w.heap.size,4,none⟩=some vup:=fun W h=>p4 W (J.trans h)
          have k5:∀W,zc wk W->W.cell? ⟨w.heap.size,5,none⟩=some (.slice (some ⟨bt,offt,none⟩) m.tasks.length ct):=fun W h=>p5 W (J.trans h)
          have r8:=zc.refl wk;have p6:(0:Int)<=(k:Int):=by omega
          have p7:(k:Int)<(p.length:Int):=by omega
          clear f7 hy p0 p1 p2 p3 p4 p5
          go_wp2_with fail
          rcases Int.lt_or_le y 0 with hy0 | hy0
          ·have d:Hid (AJ m ps=false):=E.out (pathB_nd r (by unfold Cf;rw [a0.out,DG (by omega)];rfl));have m9:decide (y<0)=true:=DF hy0;refine DT (S:=fun W=>zc wk W) (by kernel_rfl) ((zc.refl wk).drew) fun zH=>?_;refine ze 0 zH ?_;refine ze 1 zH ?_;simp only [za,Dz];refine ze 2 zH ?_;refine zI 3 zH ?_;simp only [za,Dz];refine zI 4 zH ?_;refine zI 5 zH ?_;simp only [za,Dz];refine zI 6 zH ?_;refine ze 7 zH ?_;simp only [za,Dz];refine ze 8 zH ?_;refine zI 9 zH ?_;simp only [za,Dz];refine zI 10 zH ?_;refine zI 11 zH ?_;simp only [za,Dz];refine ze 12 zH ?_;refine ze 13 zH ?_;simp only [za,Dz];refine zI 14 zH ?_;refine zI 15 zH ?_;simp only [za,Dz];refine zI 16 zH ?_;refine zI 17 zH ?_;simp only [za,Dz];refine zI 18 zH ?_;refine zI 19 zH ?_;simp only [za,Dz];refine zI 20 zH ?_;refine zI 21 zH ?_;simp only [za,Dz];refine zI 22 zH ?_;refine ze 23 zH ?_;simp only [za,Dz];refine ze 24 zH ?_;refine zI 25 zH ?_;simp only [za,Dz];refine zI 26 zH ?_;refine zI 27 zH ?_;simp only [za,Dz];refine zI 28 zH ?_;refine zI 29 zH ?_;simp only [za,Dz];refine zI 30 zH ?_;refine zI 31 zH ?_;simp only [za,Dz];refine zI 32 zH ?_;refine zI 33 zH ?_;simp only [za,Dz];refine zI 35 zH ?_;refine zI 34 zH ?_;simp only [za,Dz];refine zI 36 zH ?_;refine zI 37 zH ?_;simp only [za,Dz];refine zI 38 zH ?_;refine ze 39 zH ?_;simp only [za,Dz];refine Eg (by kernel_rfl) ?_ _;have HS:=zh (o.out.trans (J.trans zH));clear zH
           go_wp2_with fail
           go_ret;exact ⟨zk d.out.symm,HS.out⟩
          ·have m9:decide (y<0)=false:=DG (by omega);rcases Int.lt_or_le y m.n with hyn | hyn
           case inr=>
            have d:Hid (AJ m ps=false):=E.out (pathB_nd r (by unfold Cf;rw [a0.out,DG (show ¬ y<m.n by omega)];simp));have m8:decide (m.w*m.h*m.l<=y)=true:=DF hyn;clear hyn;refine DT (S:=fun W=>zc wk W) (by kernel_rfl) ((zc.refl wk).drew) fun zH=>?_;refine ze 0 zH ?_;refine ze 1 zH ?_;simp only [za,Dz];refine ze 2 zH ?_;refine ze 3 zH ?_;simp only [za,Dz];refine ze 4 zH ?_;simp only [za,Dz];refine zC 5 fun K B=>?_;go_simp;go_at_call 57;refine (L.out _).mono ?_;rintro e w9 ⟨rfl,I⟩;go_simp;refine EI B (zc.trans zH I) fun zH=>?_;clear B K;try simp only [za,Dz]
            refine ze 6 zH ?_;refine ze 7 zH ?_;simp only [za,Dz];refine ze 8 zH ?_;refine zI 9 zH ?_;simp only [za,Dz];refine zI 10 zH ?_;refine zI 11 zH ?_;simp only [za,Dz];refine ze 12 zH ?_;refine ze 13 zH ?_;simp only [za,Dz];refine zI 14 zH ?_;refine zI 15 zH ?_;simp only [za,Dz];refine zI 16 zH ?_;refine zI 17 zH ?_;simp only [za,Dz];refine zI 18 zH ?_;refine zI 19 zH ?_;simp only [za,Dz];refine zI 20 zH ?_;refine zI 21 zH ?_;simp only [za,Dz];refine zI 22 zH ?_;refine ze 23 zH ?_;simp only [za,Dz];refine ze 24 zH ?_;refine zI 25 zH ?_;simp only [za,Dz];refine zI 26 zH ?_;refine zI 27 zH ?_;simp only [za,Dz];refine zI 28 zH ?_;refine zI 29 zH ?_;simp only [za,Dz];refine zI 30 zH ?_;refine zI 31 zH ?_;simp only [za,Dz];refine zI 32 zH ?_;refine zI 33 zH ?_;simp only [za,Dz];refine zI 35 zH ?_;refine zI 34 zH ?_;simp only [za,Dz];refine zI 36 zH ?_;refine zI 37 zH ?_;simp only [za,Dz];refine zI 38 zH ?_;refine ze 39 zH ?_;simp only [za,Dz];refine Eg (by kernel_rfl) ?_ _;have HS:=zh (o.out.trans (J.trans zH));clear zH
            go_wp2_with fail
            go_ret;exact ⟨zk d.out.symm,HS.out⟩
           case inl=>
            have m8:decide (m.w*m.h*m.l<=y)=false:=DG (by have:m.n=m.w*m.h*m.l:=rfl;omega);obtain ⟨s,AT,d9⟩:=hJ.out.1.set;by_cases a6:y∈s
            ·have d:Hid (AJ m ps=false):=E.out (pathB_nd r (by unfold Cf;rw [a0.out,DF ((d9 y).1 a6)];simp));have n7:∀W,zc wk W->(Instr.lookup 95 (.map (some gs)) (.int .i64 y) false).run Tryz.prog W=.ok (.bool true) W:=fun W hW=>look_t (AT.below hW) a6
             clear AT d9 a6 hyn;refine DT (S:=fun W=>zc wk W) (by kernel_rfl) ((zc.refl wk).drew) fun zH=>?_;refine ze 0 zH ?_;refine ze 1 zH ?_;simp only [za,Dz];refine ze 2 zH ?_;refine ze 3 zH ?_;simp only [za,Dz];refine ze 4 zH ?_;simp only [za,Dz];refine zC 5 fun K B=>?_;go_simp;go_at_call 57;refine (L.out _).mono ?_;rintro e w9 ⟨rfl,I⟩;go_simp;refine EI B (zc.trans zH I) fun zH=>?_;clear B K;try simp only [za,Dz]
             refine ze 6 zH ?_;refine ze 7 zH ?_;simp only [za,Dz];refine ze 8 zH ?_;refine ze 9 zH ?_;simp only [za,Dz];refine ze 10 zH ?_;refine ze 11 zH ?_;simp only [za,Dz];refine ze 12 zH ?_;refine ze 13 zH ?_;simp only [za,Dz];refine zI 14 zH ?_;refine zI 15 zH ?_;simp only [za,Dz];refine zI 16 zH ?_;refine zI 17 zH ?_;simp only [za,Dz];refine zI 18 zH ?_;refine zI 19 zH ?_;simp only [za,Dz];refine zI 20 zH ?_;refine zI 21 zH ?_;simp only [za,Dz];refine zI 22 zH ?_;refine ze 23 zH ?_;simp only [za,Dz];refine ze 24 zH ?_;refine zI 25 zH ?_;simp only [za,Dz];refine zI 26 zH ?_;refine zI 27 zH ?_;simp only [za,Dz];refine zI 28 zH ?_;refine zI 29 zH ?_;simp only [za,Dz];refine zI 30 zH ?_;refine zI 31 zH ?_;simp only [za,Dz];refine zI 32 zH ?_;refine zI 33 zH ?_;simp only [za,Dz];refine zI 35 zH ?_;refine zI 34 zH ?_;simp only [za,Dz];refine zI 36 zH ?_;refine zI 37 zH ?_;simp only [za,Dz];refine zI 38 zH ?_;refine ze 39 zH ?_;simp only [za,Dz];refine Eg (by kernel_rfl) ?_ _;have HS:=zh (o.out.trans (J.trans zH));clear zH
             go_wp2_with fail
             go_ret;exact ⟨zk d.out.symm,HS.out⟩
            ·have n7:∀W,zc wk W->(Instr.lookup 95 (.map (some gs)) (.int .i64 y) false).run Tryz.prog W=.ok (.bool false) W:=fun W hW=>look_f (AT.below hW) a6
             have h6:Hid (y∉pre++p.take k):=fun h=>a6 ((d9 y).2 h)
             have n0:t<m.free.length:=by have:=HG.out.fl;omega
             obtain ⟨bf,offf,cf,bf',offf',lf,cf',rfl,e4,s0,r9,r4,M⟩:=mazeFree e9.out HG.out.fn n0 hy0 hyn;have i5:=zh hyn;have qf1:∀W,zc wk W->W.cell? ⟨bf,offf+t,none⟩=some (.slice (some ⟨bf',offf',none⟩) lf cf'):=fun W h=>zc.rule e4 W (o.out.trans (J.trans h))
             have o9:(t:Int)<(m.free.length:Int):=by omega
             clear AT d9 a6 hyn e4
             cases a5:zl m t y with
             | false=>
              rw [a5] at M;have qf2:∀W,zc wk W->W.cell? ⟨bf',offf'+y.toNat,none⟩=some (.bool false):=fun W h=>zc.rule M W (o.out.trans (J.trans h))
              have d:Hid (AJ m ps=false):=E.out (pathB_nd r (by unfold Cf;rw [a0.out,a5];simp));clear M a5;refine DT (S:=fun W=>zc wk W) (by kernel_rfl) ((zc.refl wk).drew) fun zH=>?_;refine ze 0 zH ?_;refine ze 1 zH ?_;simp only [za,Dz];refine ze 2 zH ?_;refine ze 3 zH ?_;simp only [za,Dz];refine ze 4 zH ?_;simp only [za,Dz];refine zC 5 fun K B=>?_;go_simp;go_at_call 57;refine (L.out _).mono ?_;rintro e w9 ⟨rfl,I⟩;go_simp;refine EI B (zc.trans zH I) fun zH=>?_;clear B K;try simp only [za,Dz]
              refine ze 6 zH ?_;refine ze 7 zH ?_;simp only [za,Dz];refine ze 8 zH ?_;refine ze 9 zH ?_;simp only [za,Dz];refine ze 10 zH ?_;refine ze 11 zH ?_;simp only [za,Dz];refine ze 12 zH ?_;refine ze 13 zH ?_;simp only [za,Dz];refine ze 14 zH ?_;refine ze 15 zH ?_;simp only [za,Dz];refine ze 16 zH ?_;refine ze 17 zH ?_;simp only [za,Dz];refine ze 18 zH ?_;refine ze 19 zH ?_;simp only [za,Dz];refine ze 20 zH ?_;refine ze 21 zH ?_;simp only [za,Dz];refine ze 22 zH ?_;refine ze 23 zH ?_;simp only [za,Dz];refine ze 24 zH ?_;refine zI 25 zH ?_;simp only [za,Dz];refine zI 26 zH ?_;refine zI 27 zH ?_;simp only [za,Dz];refine zI 28 zH ?_;refine zI 29 zH ?_;simp only [za,Dz];refine zI 30 zH ?_;refine zI 31 zH ?_;simp only [za,Dz];refine zI 32 zH ?_;refine zI 33 zH ?_;simp only [za,Dz];refine zI 35 zH ?_;refine zI 34 zH ?_;simp only [za,Dz];refine zI 36 zH ?_;refine zI 37 zH ?_;simp only [za,Dz];refine zI 38 zH ?_;refine ze 39 zH ?_;simp only [za,Dz];refine Eg (by kernel_rfl) ?_ _;have HS:=zh (o.out.trans (J.trans zH));clear zH
              go_wp2_with fail
              go_ret;exact ⟨zk d.out.symm,HS.out⟩
             | true=>
              have h4:=zh a5;rw [a5] at M;have qf2:∀W,zc wk W->W.cell? ⟨bf',offf'+y.toNat,none⟩=some (.bool true):=fun W h=>zc.rule M W (o.out.trans (J.trans h))
              clear M a5;rcases Em k with hkz | hkz
              ·have n5:decide ((0:Int)<(k:Int))=false:=DG (by omega);have j2:decide (0<k)=false:=DG (by omega);have e8:=zh hkz;clear hkz;refine DT (S:=fun W=>zc wk W) (by kernel_rfl) ((zc.refl wk).drew) fun zH=>?_;refine ze 0 zH ?_;refine ze 1 zH ?_;simp only [za,Dz];refine ze 2 zH ?_;refine ze 3 zH ?_;simp only [za,Dz];refine ze 4 zH ?_;simp only [za,Dz];refine zC 5 fun K B=>?_;go_simp;go_at_call 57;refine (L.out _).mono ?_;rintro e w9 ⟨rfl,I⟩;go_simp;refine EI B (zc.trans zH I) fun zH=>?_;clear B K;try simp only [za,Dz]
               refine ze 6 zH ?_;refine ze 7 zH ?_;simp only [za,Dz];refine ze 8 zH ?_;refine ze 9 zH ?_;simp only [za,Dz];refine ze 10 zH ?_;refine ze 11 zH ?_;simp only [za,Dz];refine ze 12 zH ?_;refine ze 13 zH ?_;simp only [za,Dz];refine ze 14 zH ?_;refine ze 15 zH ?_;simp only [za,Dz];refine ze 16 zH ?_;refine ze 17 zH ?_;simp only [za,Dz];refine ze 18 zH ?_;refine ze 19 zH ?_;simp only [za,Dz];refine ze 20 zH ?_;refine ze 21 zH ?_;simp only [za,Dz];refine ze 22 zH ?_;refine ze 23 zH ?_;simp only [za,Dz];refine ze 24 zH ?_;refine ze 25 zH ?_;simp only [za,Dz];refine ze 26 zH ?_;refine ze 27 zH ?_;simp only [za,Dz];refine zI 28 zH ?_;refine zI 29 zH ?_;simp only [za,Dz];refine zI 30 zH ?_;refine zI 31 zH ?_;simp only [za,Dz];refine zI 32 zH ?_;refine zI 33 zH ?_;simp only [za,Dz];refine zI 35 zH ?_;refine zI 34 zH ?_;simp only [za,Dz];refine zI 36 zH ?_;refine zI 37 zH ?_;simp only [za,Dz];refine ze 38 zH ?_;refine ze 39 zH ?_;simp only [za,Dz];refine Eg (by kernel_rfl) ?_ _;have a8:=zh (hJ.out.1.more zH);obtain ⟨s9,b7,V⟩:=a8.out.set;have f1:=zh V;have f0:Hid (Cf m t p (pre++p.take k) k=true):=by show _=_;unfold Cf;rw [a0.out,DF hy0,DF i5.out,DG h6.out,h4.out,DF e8.out];rfl
               clear zH V
               go_wp2_with (at_mapUpdate;refine CA rfl _ _ _ _ rfl Tryz.underlying95 gs s9 y rfl rfl rfl b7 ?_)
               intro wa b8 b2;have f3:=zh (a8.out.add f1.out b8 b2);clear b8 b2 b7
               go_wp2_with fail
               go_roundg (p.length - (k+1))
               case measure=>omega
               case rel=>exact ⟨k+1,by go_num,r,rfl,by rw [DJ r,<-List.append_assoc,<-HY.out];exact f3.out,fun k' n4=>by
                rcases DZ k' k with h1 | h1
                ·exact hJ.out.2 k' h1
                ·obtain rfl:k'=k:=by omega
                 exact f0.out⟩
              ·have n5:decide ((0:Int)<(k:Int))=true:=DF (by omega);have j2:decide (0<k)=true:=DF hkz;have d5:k - 1<p.length:=by omega
               obtain ⟨j,hj⟩:=EH (k - 1);have n3:j<k:=by omega
               rw [<-hj] at d5;obtain ⟨bq',offq',e,-,f6⟩:=Ae c7.out (k:=j) d5 d5;injection e with e;injection e with e1 e2;subst e1 e2;have d7:p.getD j 0=p[j]:=zgd d5
               have d6:=hJ.out.2 j n3;obtain ⟨prev,b6⟩:=EH (p[j]);rw [<-b6] at f6 d7;unfold Cf at d6;rw [d7] at d6;simp only [DO,DM] at d6;obtain ⟨k8,k9,-⟩:=d6;have i0:Hid (p.getD (k - 1) 0=prev):=by show _=_;rw [<-hj,d7]
               have qv:∀W,zc wk W->W.cell? ⟨bq,offq+j,none⟩=some (.int .i64 prev):=fun W h=>zc.rule f6 W (o.out.trans (J.trans h))
               have r7:IntKind.i64.wrap ((k:Int) - 1)=(j:Int):=by rw [DY];omega
               have r5:(0:Int)<=(j:Int):=by omega
               have r6:(j:Int)<(p.length:Int):=by omega
               have h7:Hid (∀W,zc wk W->Calls Tryz.prog 58 #[.agg #[.int .i64 m.w,.int .i64 m.h,.int .i64 m.l,.slice (some ⟨bf,offf,none⟩) m.free.length cf,vup,.slice (some ⟨bt,offt,none⟩) m.tasks.length ct],.int .i64 prev] W fun e w'=>∃v',e=.returned v'/\Below W.heap.size W w'/\w'.ownsRow W.heap.size 3 1 v' (zu m prev).length ((zu m prev).map (Value.int .i64))):=fun W hW=>Cx m prev W (e9.out.below (o.out.trans (J.trans hW))) HG.out.dim k8 k9
               have e8:Hid (k≠0):=by show _≠_;omega
               clear f6 b6 d7 k8 k9 hkz hj;by_cases a4:y∈zu m prev
               ·have e6:=zh (DF a4);have l4:=zh a4;clear a4;refine DT (S:=fun W=>zc wk W) (by kernel_rfl) ((zc.refl wk).drew) fun zH=>?_;refine ze 0 zH ?_;refine ze 1 zH ?_;simp only [za,Dz];refine ze 2 zH ?_;refine ze 3 zH ?_;simp only [za,Dz];refine ze 4 zH ?_;simp only [za,Dz];refine zC 5 fun K B=>?_;go_simp;go_at_call 57;refine (L.out _).mono ?_;rintro e w9 ⟨rfl,I⟩;go_simp;refine EI B (zc.trans zH I) fun zH=>?_;clear B K;try simp only [za,Dz]
                refine ze 6 zH ?_;refine ze 7 zH ?_;simp only [za,Dz];refine ze 8 zH ?_;refine ze 9 zH ?_;simp only [za,Dz];refine ze 10 zH ?_;refine ze 11 zH ?_;simp only [za,Dz];refine ze 12 zH ?_;refine ze 13 zH ?_;simp only [za,Dz];refine ze 14 zH ?_;refine ze 15 zH ?_;simp only [za,Dz];refine ze 16 zH ?_;refine ze 17 zH ?_;simp only [za,Dz];refine ze 18 zH ?_;refine ze 19 zH ?_;simp only [za,Dz];refine ze 20 zH ?_;refine ze 21 zH ?_;simp only [za,Dz];refine ze 22 zH ?_;refine ze 23 zH ?_;simp only [za,Dz];refine ze 24 zH ?_;refine ze 25 zH ?_;simp only [za,Dz];refine ze 26 zH ?_;refine ze 27 zH ?_;simp only [za,Dz];refine ze 28 zH ?_;refine ze 29 zH ?_;simp only [za,Dz];refine ze 30 zH ?_;refine ze 31 zH ?_;simp only [za,Dz];refine ze 32 zH ?_;refine ze 33 zH ?_;simp only [za,Dz];refine ze 35 zH ?_;simp only [za,Dz];refine zC 34 fun K B=>?_;go_simp;go_at_call 58;refine (h7.out _ zH).mono ?_;rintro e w10 ⟨v10,rfl,a9,b4⟩;go_simp;refine EI B (zc.trans zH a9) fun zH=>?_;clear B K;try simp only [za,Dz]
                refine zC 36 fun K B=>?_;go_simp;go_at_call 56;refine (zt y _ (An.of_own b4) (by have:=BV m prev;omega)).mono ?_;rintro e w11 ⟨he,rfl⟩;rw [e6.out] at he;subst he;go_simp;refine EI B (zH) fun zH=>?_;clear B K;try simp only [za,Dz]
                refine ze 37 zH ?_;refine ze 38 zH ?_;simp only [za,Dz];refine ze 39 zH ?_;simp only [za,Dz];refine Eg (by kernel_rfl) ?_ _;have a8:=zh (hJ.out.1.more zH);obtain ⟨s9,b7,V⟩:=a8.out.set;have f1:=zh V;have f0:Hid (Cf m t p (pre++p.take k) k=true):=by show _=_;unfold Cf;rw [a0.out,DF hy0,DF i5.out,DG h6.out,h4.out,i0.out,DF l4.out];simp
                clear zH V
                go_wp2_with (at_mapUpdate;refine CA rfl _ _ _ _ rfl Tryz.underlying95 gs s9 y rfl rfl rfl b7 ?_)
                intro wa b8 b2;have f3:=zh (a8.out.add f1.out b8 b2);clear b8 b2 b7
                go_wp2_with fail
                go_roundg (p.length - (k+1))
                case measure=>omega
                case rel=>exact ⟨k+1,by go_num,r,rfl,by rw [DJ r,<-List.append_assoc,<-HY.out];exact f3.out,fun k' n4=>by
                 rcases DZ k' k with h1 | h1
                 ·exact hJ.out.2 k' h1
                 ·obtain rfl:k'=k:=by omega
                  exact f0.out⟩
               ·have e6:=zh (DG a4);have d:Hid (AJ m ps=false):=E.out (pathB_nd r (by unfold Cf;rw [a0.out,i0.out,DG e8.out,DG a4];simp));clear a4;refine DT (S:=fun W=>zc wk W) (by kernel_rfl) ((zc.refl wk).drew) fun zH=>?_;refine ze 0 zH ?_;refine ze 1 zH ?_;simp only [za,Dz];refine ze 2 zH ?_;refine ze 3 zH ?_;simp only [za,Dz];refine ze 4 zH ?_;simp only [za,Dz];refine zC 5 fun K B=>?_;go_simp;go_at_call 57;refine (L.out _).mono ?_;rintro e w9 ⟨rfl,I⟩;go_simp;refine EI B (zc.trans zH I) fun zH=>?_;clear B K;try simp only [za,Dz]
                refine ze 6 zH ?_;refine ze 7 zH ?_;simp only [za,Dz];refine ze 8 zH ?_;refine ze 9 zH ?_;simp only [za,Dz];refine ze 10 zH ?_;refine ze 11 zH ?_;simp only [za,Dz];refine ze 12 zH ?_;refine ze 13 zH ?_;simp only [za,Dz];refine ze 14 zH ?_;refine ze 15 zH ?_;simp only [za,Dz];refine ze 16 zH ?_;refine ze 17 zH ?_;simp only [za,Dz];refine ze 18 zH ?_;refine ze 19 zH ?_;simp only [za,Dz];refine ze 20 zH ?_;refine ze 21 zH ?_;simp only [za,Dz];refine ze 22 zH ?_;refine ze 23 zH ?_;simp only [za,Dz];refine ze 24 zH ?_;refine ze 25 zH ?_;simp only [za,Dz];refine ze 26 zH ?_;refine ze 27 zH ?_;simp only [za,Dz];refine ze 28 zH ?_;refine ze 29 zH ?_;simp only [za,Dz];refine ze 30 zH ?_;refine ze 31 zH ?_;simp only [za,Dz];refine ze 32 zH ?_;refine ze 33 zH ?_;simp only [za,Dz];refine ze 35 zH ?_;simp only [za,Dz];refine zC 34 fun K B=>?_;go_simp;go_at_call 58;refine (h7.out _ zH).mono ?_;rintro e w10 ⟨v10,rfl,a9,b4⟩;go_simp;refine EI B (zc.trans zH a9) fun zH=>?_;clear B K;try simp only [za,Dz]
                refine zC 36 fun K B=>?_;go_simp;go_at_call 56;refine (zt y _ (An.of_own b4) (by have:=BV m prev;omega)).mono ?_;rintro e w11 ⟨he,rfl⟩;rw [e6.out] at he;subst he;go_simp;refine EI B (zH) fun zH=>?_;clear B K;try simp only [za,Dz]
                refine ze 37 zH ?_;refine ze 38 zH ?_;simp only [za,Dz];refine ze 39 zH ?_;simp only [za,Dz];refine Eg (by kernel_rfl) ?_ _;have HS:=zh (o.out.trans (J.trans zH));clear zH
                go_wp2_with fail
                go_ret;exact ⟨zk d.out.symm,HS.out⟩
         ·have n6:k=p.length:=by omega
          subst n6
          have l7:Hid (∀t',t'<t+1->Cb m t' (ps.getD t' []) (ps.take t').flatten=true):=fun t' s4=>by
           rcases DZ t' t with h1 | h1
           ·exact HI.out.2 t' h1
           ·obtain rfl:t'=t:=by omega
            rw [h9.out];have h2:=l8.out hJ.out.2;have h3:=c9.out;exact h8.out ▸ h2
          have l3:Hid (RtI w2 wk gs (ps.take (t+1)).flatten):=by
           show RtI _ _ _ _;rw [c9.out];have:=hJ.out.1
           rwa [DN] at this
          go_wp2_with fail
          go_roundg (ps.length - (t+1))
          case measure=>omega
          case rel=>exact ⟨t+1,by go_num,a1,rfl,l3.out,l7.out⟩
    ·have o2:t=ps.length:=by omega
     subst o2;have d:Hid (AJ m ps=true):=l5.out e3.out hI.out.2
     go_wp2_with fail
     go_ret;exact ⟨zk d.out.symm,o.out.trans J⟩
end
section
open Go.RowKit
theorem addN_snoc {qs:List (List Int)} {p:List Int}:Bv (qs++[p]) x=qs++[p++[x]]:=by
 unfold Bv;rw [DK,Ec,Nat.add_sub_cancel,List.set_append_right _ _ (DC _)];simp
section
open Go.Lib
end
theorem Db {B:Nat} {l:List Int} (h:zF w B v l):∃A n c,v=.slice A n c:=by
 obtain ⟨A,c,e,_⟩:=AC h;exact ⟨A,_,c,e⟩
end
section
open Go.RowKit
attribute [local go_sem ↓] Go.wp_at_zero Go.wp_at_succ
theorem reachL_le (m:MZ) (t:Nat) (f us:List Int) (g:Am m):(Bn m t f us).length<=20000000000000:=by
 unfold Bn;refine DE (Ef _ _) ?_;have h1:=g.dim.n1;have h2:m.n=m.w*m.h*m.l:=rfl;simp;omega
def zq (m:MZ) (ch:List Int):List (List Int):=if okC m ch=true then (Ad m ch).filter (fun p=>decide (p.length≠0)) else []
end
section
open Go.RowKit
inductive PT where
 | node (task:Int) (side:List Int) (kids:List PT)
def PT.task:PT->Int | .node t _ _=>t
def PT.side:PT->List Int | .node _ s _=>s
def PT.kids:PT->List PT | .node _ _ k=>k
def PT.zero:PT:=.node 0 [] []
def endB (m:MZ) (pp:List (List Int)) (t:Nat):Bool:=match (pp.getD t []).getLast? with
 | none=>false
 | some x=>decide (x∈(m.tasks.getD t ([],[])).2)
def curF (m:MZ) (pp:List (List Int)):Nat->Nat->Nat
 | 0,t=>t
 | f+1,t=>if t<pp.length/\endB m pp t=true then curF m pp f (t+1) else t
def zS (m:MZ) (ch:List Int):Nat:=curF m (zq m ch) (zq m ch).length 0
def AH (m:MZ) (ch:List Int) (t:Nat):List Int:=if t<(zq m ch).length then ((zq m ch).getD t []).getLast?.toList else (m.tasks.getD t ([],[])).1.filter fun n=>zl m t n && !decide (n∈ch)
noncomputable def BJ (m:MZ) (ch:List Int) (t:Nat):List Int:=reachO m t (AH m ch t) ch
noncomputable def offB (m:MZ) (ch:List Int) (t:Nat):Bool:=!((BJ m ch t).any fun n=>decide (n∈(m.tasks.getD t ([],[])).2)) && (decide (BJ m ch t≠[]) || decide (zS m ch<t))
noncomputable def cutT (m:MZ) (ch:List Int):Option Nat:=((List.range (m.tasks.length - zS m ch)).map (zS m ch+·)).find? (offB m ch)
def zO (f:Int->Nat->Int×PT×Nat):List Int->Nat->List PT->Int×List PT×Nat
 | [],k,acc=>(0,acc,k)
 | n :: l,k,acc=>if (f n k).1=0 then zO f l (f n k).2.2 (acc++[(f n k).2.1]) else ((f n k).1,[],(f n k).2.2)
noncomputable def zr (m:MZ):Nat->List Int->Nat->Int×PT×Nat
 | 0,_,k=>(53,.zero,k)
 | f+1,ch,k=>
  if m.tasks.length<=zS m ch then (51,.zero,k)
  else if 3000<k+1 then (53,.zero,k+1)
  else match cutT m ch with
   | some t=>(0,.node t (BJ m ch t) [],k+1)
   | none=>
    let r:=zO (fun n k=>zr m f (ch++[n]) k) (zT m ch) (k+1) []
    if r.1=0 then (0,.node (zS m ch) [] r.2.1,r.2.2) else (r.1,.zero,r.2.2)
noncomputable def Bf (m:MZ):Int×PT:=if Br m=0 then ((zr m (m.n.toNat+2) [] 0).1,(zr m (m.n.toNat+2) [] 0).2.1) else (Br m,.zero)
mutual
def PT.size:PT->Nat
 | .node _ _ ks=>1+PT.sizeL ks
def PT.sizeL:List PT->Nat
 | []=>0
 | k :: ks=>k.size+PT.sizeL ks
end
def incB (N:Int):Int->List Int->Bool
 | _,[]=>true
 | b,x :: l=>decide (b<x) && (decide (x<N) && incB N x l)
def wallB (m:MZ) (ch:List Int) (t:Nat) (s:List Int):Bool:=s.all fun n=>(BN m n).all fun k=>!(zl m t k && !decide (k∈ch)) || decide (k∈s)
def cutB (m:MZ) (ch:List Int) (t:Int) (s:List Int) (nk:Nat):Bool:=
 if t<zS m ch\/(m.tasks.length:Int)<=t\/(t=zS m ch/\s=[])\/nk≠0 then false
 else incB m.n (-1) s && (!(s.any fun n=>decide (n∈(m.tasks.getD t.toNat ([],[])).2)) && ((AH m ch t.toNat).all (fun n=>decide (n∈s)) && wallB m ch t.toNat s))
mutual
def AP (m:MZ):PT->List Int->Bool
 | .node t s ks,ch=>if m.tasks.length<=zS m ch then false else if t≠zS m ch\/s≠[] then cutB m ch t s ks.length else AI m ks ch (zT m ch)
def AI (m:MZ):List PT->List Int->List Int->Bool
 | [],_,[]=>true
 | k :: ks,ch,n :: l=>AP m k (ch++[n]) && AI m ks ch l
 | [],_,_ :: _=>false
 | _ :: _,_,[]=>false
end
def Ar (m:MZ) (p:PT):Bool:=decide (Br m=0) && (decide (0<m.tasks.length) && (decide (p.size<=3000) && AP m p []))
theorem mem_flat_iff {ps:List (List Int)}:x∈ps.flatten↔∃i,x∈ps.getD i []:=by
 rw [List.mem_flatten];constructor
 ·rintro ⟨p,hp,d⟩;obtain ⟨i,o,rfl⟩:=Ei hp;exact ⟨i,by rw [DB,DA o];exact d⟩
 ·rintro ⟨i,d⟩;by_cases o:i<ps.length
  ·exact ⟨_,getD_mem o,d⟩
  ·rw [DB,DW (by omega)] at d;cases d
end
end Go.Proofs.YtcnaogdgjkpkmaaGreatDoor
