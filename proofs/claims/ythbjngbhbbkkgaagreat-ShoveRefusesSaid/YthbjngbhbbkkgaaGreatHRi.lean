import Derived.Test.YthbjngbhbbkkgaaGreatHRh
import Derived.Shelf.SlicesE.DeleteFunc
import Derived.Ground.SlgfProg
set_option linter.unusedVariables false
set_option linter.unusedSimpArgs false
set_option maxRecDepth 100000
set_option maxHeartbeats 16000000
namespace Go.Proofs.YthbjngbhbbkkgaaGreat
variable {x y:Int} {l q s:List Int} {m:MZ} {B g gn:Nat} {w' wr:World}
section
open Go.RowKit
attribute [local go_sem ↓] Go.wp_at_zero Go.wp_at_succ
def zN (m:MZ) (us:List Int) (t:Nat) (q from_:List Int) (n:Int):Bool:=zi m t n && !decide (n∈us) && !(q.any fun y=>decide (n∈zl m y)) && !decide (n∈from_)
def Ct (m:MZ) (ps:List (List Int)) (us:List Int):List Int:=
 if cmpB m ps=true then []
 else match (ps.getD (ps.length - 1) []).getLast? with
  | none=>(Lib.compact (BH (m.tasks.getD (ps.length - 1) ([],[])).1)).filter fun n=>zi m (ps.length - 1) n && !decide (n∈us)
  | some x=>(zl m x).filter (zN m us (ps.length - 1) (ps.getD (ps.length - 1) []).dropLast (m.tasks.getD (ps.length - 1) ([],[])).1)
theorem mem_sortL:x∈BH l↔x∈l:=by unfold BH;exact (List.mergeSort_perm _ _).mem_iff
theorem compact_len (l:List Int):(Lib.compact l).length<=l.length:=by
 unfold Lib.compact Lib.compactUpTo;rw [Fr];exact EI (Fi _ _) (by simp)
theorem Em (h:x∈Lib.compact l):x∈l:=by
 unfold Lib.compact Lib.compactUpTo at h;obtain ⟨j,z,rfl⟩:=FH.1 h;have o:j<l.length:=by simpa using (FG.1 z).1
 simp [getElem!_pos,o]
theorem path_cell {w:World} {ok:Nat->Prop} {A:Option Addr} {n c:Nat} (h:zj w ok (.slice A n c) l) {k:Nat} (z:l[k]?=some y):∃b o,A=some ⟨b,o,none⟩/\∀W,zb w W->W.cell? ⟨b,o+k,none⟩=some (.int .i64 y):=by
 obtain ⟨A',c',e,_,G⟩:=h;injection e with e1 e2 e3;subst e1
 have D:k<l.length:=by
  rcases Fc k l.length with h | h
  ·exact h
  ·rw [EZ h] at z;cases z
 obtain ⟨b,o,e,_,E⟩:=zy G D D;rw [EE D] at z;injection z with z;rw [z] at E;exact ⟨b,o,e,zb.rule E⟩
structure NR (W wr:World) (gn:Nat) (s:List Int):Prop where
 ext:zb W wr
 set:zF wr gn s
theorem NR.more {W:World} (h:NR W wr gn s) (o:zb wr w'):NR W w' gn s:=⟨h.ext.trans o,h.set.below o⟩
theorem NR.add {W:World} (h:NR W wr gn s) (D:gn=W.heap.size) (z:zF w' gn (ins s x)) (o:wr.grownBy w' (some gn)):NR W w' gn (ins s x):=⟨Ba h.ext o h.ext.size (by omega),z⟩
theorem near_step {a:Int}:((∃y'∈q,a∈zl m y')\/a∈zl m y)↔∃y'∈q++[y],a∈zl m y':=by
 constructor
 ·rintro (⟨y',h1,h2⟩ | h)
  ·exact ⟨y',by simp [h1],h2⟩
  ·exact ⟨y,by simp,h⟩
 ·rintro ⟨y',h1,h2⟩;rw [Fx,Fo] at h1;rcases h1 with h1 | rfl
  ·exact .inl ⟨y',h1,h2⟩
  ·exact .inr h2
theorem near_any {z:Int} (h:z∈s↔∃y∈q,z∈zl m y):decide (z∈s)=q.any fun y=>decide (z∈zl m y):=by
 by_cases o:z∈s
 ·rw [EJ o];symm;obtain ⟨y,h1,h2⟩:=h.1 o;exact FM.2 ⟨y,h1,EJ h2⟩
 ·rw [EK o];symm;rw [Bool.eq_false_iff];intro h3;obtain ⟨y,h1,h2⟩:=FM.1 h3;exact o (h.2 ⟨y,h1,zaa h2⟩)
structure JC (wB:World) (sn:ByteArray) (u1 u2 up:Value) (e:Nat->Bool) (v:Nat->Value) (W:World):Prop where
 ext:zb wB W
 al:e 15=true->∃g3,v 15=.pointer (some ⟨g3,0,none⟩)/\wB.heap.size<=g3/\(e 16=false->zk W g3 56 #[.string ⟨#[]⟩,.slice none 0 0,.slice none 0 0])/\(e 16=true->zk W g3 56 #[.string sn,u1,u2])
 asg:e 17=true->v 17=up
 d16:e 16=true->e 15=true
section
variable {wB W W':World} {sn:ByteArray} {u1 u2 up:Value} {e:Nat->Bool} {v:Nat->Value}
theorem JC.init (he:∀j∈[15,16,17],e j=false):JC wB sn u1 u2 up e v wB.drew:=
 ⟨Ds,fun a=>ff (he 15 (by simp)) a,fun a=>ff (he 17 (by simp)) a,fun a=>ff (he 16 (by simp)) a⟩
theorem JC.s15 (h:JC wB sn u1 u2 up e v W) (o:e 15=false):JC wB sn u1 u2 up (Ao e 15 true) (Ao v 15 (.pointer (some ⟨W.heap.size,0,none⟩))) (W.alloc (.cells #[.string ⟨#[]⟩,.slice none 0 0,.slice none 0 0] 56)):=
 ⟨h.ext.alloc _,fun _=>⟨_,rfl,h.ext.size,fun _=>zk.new _ _ _ rfl,fun a=>ff (b:=e 16) (notT h.d16 o) a⟩,h.asg,fun _=>rfl⟩
theorem JC.s16 {g3:Nat} {x:Value} (h:JC wB sn u1 u2 up e v W) (o:e 15=true) (G:v 15=.pointer (some ⟨g3,0,none⟩)) (E:wB.heap.size<=g3) (z:zb wB W') (D:zk W' g3 56 #[.string sn,u1,u2]):JC wB sn u1 u2 up (Ao e 16 true) (Ao v 16 x) W':=
 ⟨z,fun _=>⟨g3,G,E,fun a=>(by cases a),fun _=>D⟩,h.asg,fun _=>o⟩
theorem JC.s17 (h:JC wB sn u1 u2 up e v W):JC wB sn u1 u2 up (Ao e 17 true) (Ao v 17 up) W:=⟨h.ext,h.al,fun _=>rfl,h.d16⟩
end
theorem candidates_calls {ok:Nat->Prop} {ch us:List Int} {ps:List (List Int)} {gu:Nat} {f u ts vc vp:Value} (w:World) (h:BK w ok g m ch ps us f u ts vc vp gu) (so:SOk m ch ps):
  Calls Tryz.prog 84 #[.pointer (some ⟨g,0,none⟩)] w fun e w'=>∃v',e=.returned v'/\Mk w w' v' (Ct m ps us):=by
 have HS:=zh h;have SO:=zh so;have q8:ps.length<=6:=EI so.pl so.good.tk;obtain ⟨r0,r1,r2,r3,r4,r5,r6,r7,r8⟩:=h.rules;have hx:=zb.refl w
 go_enter Tryz.func84,Tryz.ntmps84
 go_wp2_with fail
 generalize i4:w.alloc (.cells #[.pointer (some ⟨g,0,none⟩)] 97)=w1;have j7:zb w w1:=by rw [<-i4];exact (zb.refl w).alloc _
 have h7:w1.cell? ⟨w.heap.size,0,none⟩=some (.pointer (some ⟨g,0,none⟩)):=by rw [<-i4];exact zr _ _ _ rfl
 have q7:w.heap.size<w1.heap.size:=zo h7;have rb:=zb.rule h7;clear i4;refine (Cy _ (HS.out.ext j7) SO.out).mono ?_;rintro e wA ⟨rfl,k4⟩;have m7:zb w1 wA:=k4.below _;have hA:=j7.trans m7;clear k4 h7
 cases Q:cmpB m ps with
 | true=>
  have HC:=zh Q;clear Q
  go_wp2_with fail
  go_ret;exact ⟨_,rfl,hA.mono_mk (Mk.cast (Mk.nil _) (by unfold Ct;rw [if_pos HC.out]))⟩
 | false=>
  have HC:=zh Q
  have hp:0<ps.length:=by
   by_cases h0:m.tasks.length=0
   ·unfold cmpB at Q;rw [EJ h0] at Q;cases Q
   ·exact so.pn (by omega)
  clear Q
  go_wp2_with fail
  refine (Bh _ (HS.out.ext hA) (by omega)).mono ?_;rintro e wB ⟨he,n5⟩;subst n5;obtain ⟨t,hk⟩:∃t,ps.length=t+1:=⟨ps.length - 1,by omega⟩;have l5:(ps.length:Int) - 1=(t:Int):=by omega
  rw [l5] at he;subst he;clear l5;have j9:zb w (wA.alloc (.cells #[.int .i64 t] 3)):=hA.alloc _;have o3:(wA.alloc (.cells #[.int .i64 t] 3)).cell? ⟨wA.heap.size,0,none⟩=some (.int .i64 t):=zr _ _ _ rfl;have m8:zb w1 (wA.alloc (.cells #[.int .i64 t] 3)):=m7.alloc _;have ho:=h.ps;have p1:=h.maze;obtain ⟨vs,⟨Ap,cp,rfl,t0,m2⟩,k5⟩:=ho;obtain ⟨fr',up',ts',a9,_,_,M⟩:=p1;injection a9 with a9;injection a9 with a9;simp only [List.cons.injEq,and_true,true_and] at a9;obtain ⟨rfl,rfl,rfl⟩:=a9;have p5:=M;obtain ⟨vst,⟨At,ct,rfl,t1,_⟩,_⟩:=p5;have e0:t<ps.length:=by omega
  obtain ⟨b,off,up,rfl,_,f4,i3⟩:=Ai m2 k5 e0 e0;have e9:t<m.tasks.length:=by have:=so.pl;omega
  obtain ⟨bt,offt,sn,u1,u2,rfl,_,l2,l3,l4,e8,h8⟩:=AJ M e9;have h9:=so.pp _ (EH e0);have d8:=so.pr _ (EH e0);have o8:=(so.lens.tl _ (EH e9)).1;have i2:=so.good.tn _ (EH e9)
  have c8:Ct m ps us=match (ps[t]).getLast? with
    | none=>(Lib.compact (BH (m.tasks[t]).1)).filter fun n=>zi m t n && !decide (n∈us)
    | some x=>(zl m x).filter (zN m us t (ps[t]).dropLast (m.tasks[t]).1):=by
   unfold Ct;rw [HC.out,if_neg (by simp),show ps.length - 1=t from by omega];simp [e0,e9]
  have b4:=zh c8;clear c8;obtain ⟨p,m0⟩:=zad (ps[t]);obtain ⟨tk,m5⟩:=zad (m.tasks[t]);rw [<-m0] at i3 h9 b4 d8;rw [<-m5] at e8 h8 o8 b4 i2;have k8:=e8;obtain ⟨A5,c5,rfl,s6,_⟩:=k8;have k9:=h8;obtain ⟨A6,c6,rfl,s7,_⟩:=k9;clear m0 m5 m2 k5 M h8;have HP:=zh i3;clear i3;have HF:=zh e8;clear e8;have g6:=zh d8;clear d8;have n4:=zh i2;clear i2;have v1:(t:Int)<(ps.length:Int):=by omega
  have t9:(0:Int)<=(t:Int):=by omega
  have v2:(t:Int)<(m.tasks.length:Int):=by omega
  have k6:t<m.free.length:=by have:=so.good.fl;omega
  have q0:=zb.rule f4;have q1:=zb.rule l2;have q2:=zb.rule l3;have q3:=zb.rule l4;clear f4 l2 l3 l4 h so hk;generalize p7:wA.alloc (.cells #[.int .i64 t] 3)=wB at*;have rt:=zb.rule o3;have f1:=zb.refl wB
  go_wp2_with fail
  clear p7;refine EW (S:=(fun W=>zb w W/\zb w1 W/\zb wB W)) (by kernel_rfl) (⟨j9.drew,m8.drew,f1.drew⟩) fun zH=>?_;refine zf 0 zH ?_;refine zf 1 zH ?_;refine zf 2 zH ?_;refine zf 3 zH ?_;refine zf 4 zH ?_;refine zf 5 zH ?_;refine zf 6 zH ?_;refine zf 7 zH ?_;refine zf 8 zH ?_;refine zf 9 zH ?_;refine zf 10 zH ?_;refine zf 11 zH ?_;refine zf 12 zH ?_;refine zf 13 zH ?_;refine zf 14 zH ?_;simp only [za,ED];refine BJ [15,16,17] (fun e v W=>JC wB sn (.slice A5 tk.1.length c5) (.slice A6 tk.2.length c6) up e v W) (F:=?F1) (by kernel_rfl) (by kernel_rfl) (by decide) zH (fun v=>?hF1) ?init1 (by kernel_rfl) ?steps1 ?fin1
  case hF1=>(simp only [zM,Cc,List.getElem?_toArray,List.getElem?_cons_succ,List.getElem?_cons_zero,Option.bind,Act.put,List.setIfInBounds_toArray,List.set_cons_succ,List.set_cons_zero];rfl)
  case init1=>
   intro e v he;exact JC.init he
  case steps1=>
   refine zg.cons rfl (fun e v W K hJ hW he hd hK=>?_) ?_
   ·simp only [za] at hd hK⊢;go_simp;exact hK.out _ _ _ (by rfl) ⟨hW.1.alloc _,hW.2.1.alloc _,hW.2.2.alloc _⟩ (hJ.s15 he)
   refine zg.cons rfl (fun e v W K hJ hW he hd hK=>?_) ?_
   ·simp only [za] at hd hK⊢;have j0:e 15=true:=zn hd [15] (by kernel_rfl) 15 (by simp);obtain ⟨g3,V,d5,I,_⟩:=hJ.al j0;have I:=I he;have hf:=fun k=>I.frozen k
    have s4:=I.cell (k:=0) rfl;have s5:=I.cell (k:=1) rfl;have q6:=I.cell (k:=2) rfl;go_simp;have a8:=((hJ.ext.setCell (p:=⟨g3,0,none⟩) d5 (.string sn)).setCell (p:=⟨g3,1,none⟩) d5 (.slice A5 tk.1.length c5)).setCell (p:=⟨g3,2,none⟩) d5 (.slice A6 tk.2.length c6);exact hK.out _ undef _ (by simp [Act.put,V]) ⟨j9.trans a8,m8.trans a8,a8⟩ (hJ.s16 j0 V d5 a8 (((I.set (k:=0) _).set (k:=1) _).set (k:=2) _))
   refine zg.cons rfl (fun e v W K hJ hW he hd hK=>?_) ?_
   ·simp only [za] at hd hK⊢;go_simp;exact hK.out _ up _ (by rfl) hW hJ.s17
   exact zg.nil
  case fin1=>
   intro v W hJ hW;obtain ⟨g3,V,d5,_,I⟩:=hJ.al rfl;have I:=I rfl;have f9:=hJ.asg rfl;rw [V,f9];clear hJ V f9;obtain ⟨o1,j5,o2⟩:=hW;have rg3:=zb.rule (I.cell (k:=1) rfl);clear I;have e4:=zh o1;have k3:=rt W o2;have s9:=Ar (P:=Tryz.prog) Tryz.func104 (by kernel_rfl) (by kernel_rfl);have f3:=rb W j5;generalize o6:wA.heap.size=g2 at*;clear o6;have p2:=HP.out;obtain ⟨Aq,cq,rfl,k1,p4⟩:=p2;clear p4;have f1:=zb.refl W;rcases List.eq_nil_or_concat p with rfl | ⟨q,x,rfl⟩
   ·have g5:Hid (Ct m ps us=(Lib.compact (BH tk.1)).filter fun n=>zi m t n && !decide (n∈us)):=b4.out
    go_wp2_with fail
    refine (values_calls A5 tk.1.length c5 W).mono ?_;rintro e w2 ⟨rfl,rfl⟩;have g7:zb W (W.alloc (.cells #[.slice A5 tk.1.length c5] 23)):=f1.alloc _;have k2:(W.alloc (.cells #[.slice A5 tk.1.length c5] 23)).cell? ⟨W.heap.size,0,none⟩=some (.slice A5 tk.1.length c5):=zr _ _ _ rfl;have hS:=zh (sorted_calls W.heap.size _ k2 (HF.out.below (e4.out.trans g7)) (by omega))
    go_wp2_with fail
    refine hS.out.mono ?_;rintro e w3 ⟨v3,rfl,h5⟩;have m4:(BH tk.1).length<=1000000000000:=by unfold BH;rw [List.length_mergeSort];omega
    have j1:=zh (compact_calls h5 m4);have a8:=zh h5.ext;clear h5 hS
    go_wp2_with fail
    refine j1.out.mono ?_;rintro e w4 ⟨v4,rfl,e5⟩;have o9:Hid (∀y,y∈Lib.compact (BH tk.1)->y∈tk.1):=fun y hy=>mem_sortL.1 (Em hy)
    have t3:(Lib.compact (BH tk.1)).length<=1000000000000:=EI (compact_len _) m4;generalize Lib.compact (BH tk.1)=L at*;have g8:zb W w4:=g7.trans e5.ext;obtain ⟨A7,c7,p6,s8⟩:=e5.slice;subst p6;have n3:=zh e5;clear e5 j1 a8 k2 g7;have m6:zb w w4:=e4.out.trans g8;have b7:=zh (Mk.nil w4)
    go_wp2_with fail
    go_loopw [7,46] (fun v i wr=>∃k:Nat,k<=L.length/\i=.int .i64 (k:Nat)/\Hid (Mk w4 wr v ((L.take k).filter fun n=>zi m t n && !decide (n∈us)))) (fun _ i _=>L.length - (intOf i).toNat)
    case atStart=>exact ⟨0,by omega,rfl,b7⟩
    clear b7
    case round=>
     obtain ⟨k,hk,rfl,hM⟩:=hrel;have o:=hM.out.ext;by_cases J:k<L.length
     ·obtain ⟨b9,rfl,T,E⟩:=own_at (n3.out.own.ext o) J;have M:=zh (EN J);have G:=n4.out _ (.inl (o9.out _ (EH J)));obtain ⟨y,hy⟩:=zad (L[k]);rw [<-hy] at E M G;clear hy;have D:=zh (cand1_calls t y wr (HS.out.ext (m6.trans o)) SO.out.good.fn k6 ((g8.trans o).cell f3) ((g8.trans o).cell k3) G.1 G.2);obtain ⟨bb,h6⟩:=zad ((zi m t y && !decide (y∈us)));rw [<-h6] at D;have n0:=zh h6;clear h6 G;have o5:((L.take k).filter fun n=>zi m t n && !decide (n∈us)).length<=1000000000000:=EI (Fi _ _) (by simp;omega);have a1:Hid ((L.take (k+1)).filter (fun n=>zi m t n && !decide (n∈us))=(L.take k).filter (fun n=>zi m t n && !decide (n∈us))++(if bb then [y] else [])):=by rw [M.out,Fv,n0.out];show _++List.filter _ [y]=_;by_cases h:(zi m t y && !decide (y∈us))=true <;> simp [List.filter_cons,h]
      generalize (L.take k).filter (fun n=>zi m t n && !decide (n∈us))=lk at*
      go_wp2_with fail
      refine D.out.mono ?_;rintro e w5 ⟨rfl,d4⟩;have b5:zb wr w5:=d4.below _;have O:=zh (hM.out.more b5);clear d4 D
      cases bb with
      | true=>
       have p8:w4.heap.size<=w5.heap.size:=O.out.ext.size
       go_wp2_with (at_builtin;refine AQ rfl _ _ rfl _ lk y w4.heap.size w5.heap.size 1 _ rfl rfl (O.out.own.alloc _) ?d1 ?d2 ?d3 ?_)
       (try case d1=>exact zr _ _ _ (by simp))
       case d2=>(first | (simp;done) | (simp;omega) | omega)
       case d3=>omega
       intro v' wb d7 U _;have h4:=zh ((O.out.alloc _).app d7 U);clear d7 U;go_wp2;go_roundw
       case rel=>exact ⟨k+1,by omega,by go_num,by rw [a1.out];exact h4⟩
       case measure=>simp [intOf];omega
      | false=>
       go_wp2;go_roundw
       case rel=>exact ⟨k+1,by omega,by go_num,by rw [a1.out];simpa using O⟩
       case measure=>simp [intOf];omega
     ·obtain rfl:k=L.length:=by omega
      go_wp2_with fail
      go_ret;refine ⟨_,rfl,(m6.mono_mk hM.out).cast ?_⟩;rw [g5.out,ER]
   ·rw [List.concat_eq_append] at HP b4 g6;have l9:(q.concat x).length=q.length+1:=by simp
    have f7:(q++[x]).length=q.length+1:=by simp
    rw [l9] at k1 h9⊢;rw [f7] at HP;obtain ⟨N,hN⟩:=zad (q.length+1);rw [<-hN] at k1 h9 HP⊢;have s2:(q.length:Int)<(N:Int):=by omega
    have p3:IntKind.i64.wrap ((N:Int) - 1)=(q.length:Int):=by rw [Fb];omega
    have m1:(N:Int) - 1=(q.length:Int):=by omega
    have t6:(0:Int)<=(q.length:Int):=by omega
    have s1:0<N:=by omega
    have t7:q.length<=N:=by omega
    have g5:Hid (Ct m ps us=(zl m x).filter (zN m us t q tk.1)):=by have h:=b4.out;simp at h;exact h
    have a5:Hid (∀k y,(q++[x])[k]?=some y->∃bq oq,Aq=some ⟨bq,oq,none⟩/\∀W',zb w W'->W'.cell? ⟨bq,oq+k,none⟩=some (.int .i64 y)):=fun k y hy=>path_cell HP.out hy
    clear l9 f7 hN;have t4:=@run_makeMap Tryz.prog
    go_wp2_with fail
    have j3:Hid (NR W (W.alloc (.map #[] 0)) W.heap.size []):=⟨f1.alloc _,zF.new W⟩;generalize k7:W.heap.size=gn at*;have f6:gn=W.heap.size:=k7.symm;have n2:=zh f6;clear k7 f6;go_loopw [66] (fun i wr=>∃k s,k<=q.length/\i=.int .i64 (k:Nat)/\Hid (NR W wr gn s)/\Hid (∀z,z∈s↔∃y∈q.take k,z∈zl m y)) (fun i _=>q.length - (intOf i).toNat)
    case atStart=>exact ⟨0,[],by omega,rfl,j3,by simp [Hid]⟩
    clear j3
    case round=>
     obtain ⟨k,s,hk,rfl,hR,d6⟩:=hrel;have o:zb W wr:=hR.out.ext;have e3:zb w wr:=e4.out.trans o;have i5:zb w1 wr:=j5.trans o;obtain ⟨wk,rfl⟩:∃wk:World,wk=wr:=⟨_,rfl⟩;by_cases J:k<q.length
     ·obtain ⟨bq,oq,rfl,E⟩:=a5.out k q[k] (by rw [EL J];exact EE J);have G:=g6.out q[k] (by simp);have M:=zh (EN J);obtain ⟨y,hy⟩:=zad (q[k]);rw [<-hy] at E G M;clear hy;have l6:(k:Int)<(q.length:Int):=by omega
      have l8:=zh (Du m y wk (HS.out.maze.below e3) SO.out.good.dim G.1 G.2);clear G
      go_wp2_with fail
      refine l8.out.mono ?_;rintro e w9 ⟨v9,rfl,T,a2⟩;have j4:=zh (hR.out.more T);have e6:Hid (zD w9 wk.heap.size v9 (zl m y)):=a2;obtain ⟨A9,c9,rfl,o4⟩:=Bd a2;have t2:gn<wk.heap.size:=zd hR.out.set;clear T a2 l8 hR;have o7:=Bc m y
      go_wp2_with fail
      go_loopw [77] (fun i wi=>∃j s',j<=(zl m y).length/\i=.int .i64 (j:Nat)/\Hid (NR W wi gn s')/\Hid (zD wi wk.heap.size (.slice A9 (zl m y).length c9) (zl m y))/\Hid (∀z,z∈s'↔z∈s\/z∈(zl m y).take j)) (fun i _=>(zl m y).length - (intOf i).toNat)
      case atStart=>exact ⟨0,s,EU _,rfl,j4,e6,by simp [Hid]⟩
      clear j4 e6
      case round=>
       obtain ⟨j,s',hj,rfl,hR,hO,l7⟩:=hrel;by_cases l0:j<(zl m y).length
       ·obtain ⟨b2,rfl,s3,e7⟩:=own_at hO.out l0;have f8:=zh (fun z=>Aa l0 z);obtain ⟨z,hz⟩:=zad ((zl m y)[j]);rw [<-hz] at e7 f8;clear hz
        go_wp2_with (at_mapUpdate;refine CC rfl _ _ _ _ rfl Tryz.underlying79 gn s' z rfl rfl rfl hR.out.set ?_)
        intro wb m3 U;have n9:=zh (hR.out.add n2.out m3 U);have n8:Hid (zD wb wk.heap.size (.slice (some ⟨b2,0,none⟩) (zl m y).length c9) (zl m y)):=World.ownsRow.kept hO.out U (BO hO.out hR.out.set);clear m3 U;go_wp2;go_roundw
        case rel=>exact ⟨j+1,ins s' z,by omega,by go_num,n9,n8,fun a=>by rw [mem_ins,l7.out,f8.out,or_assoc]⟩
        case measure=>simp [intOf];omega
       ·obtain rfl:j=(zl m y).length:=by omega
        go_wp2;go_roundw
        case rel=>exact ⟨k+1,s',by omega,by go_num,hR,fun a=>by rw [l7.out,ER,d6.out,M.out];exact near_step⟩
        case measure=>simp [intOf];omega
     ·obtain rfl:k=q.length:=by omega
      rw [ER] at d6;obtain ⟨bq,oq,rfl,E⟩:=a5.out q.length x (by simp);have G:=g6.out x (by simp);have i6:=zb.refl wk;have i0:Hid (∀z,decide (z∈s)=q.any fun y=>decide (z∈zl m y)):=fun z=>near_any (d6.out z)
      have q9:IntKind.i64.wrap ((N:Int) - 1)=(q.length:Int):=by rw [Fb];omega
      clear p3 m1
      go_wp2_with fail
      go_region_held3 (fun W'=>zb w W'/\zb w1 W'/\zb wk W')
       (first | (exact ⟨e3.drew,i5.drew,i6.drew⟩) | (exact ⟨e3.drew.trans T,i5.drew.trans T,i6.drew.trans T⟩))
       ((go_at_call 44;refine (Du m x _ (HS.out.maze.below e3.drew) SO.out.good.dim G.1 G.2).mono ?_;rintro e w9 ⟨v9,rfl,T,a2⟩;obtain ⟨A9,c9,rfl,o4⟩:=Bd (l:=zl m x) a2))
      rename_i o0
      obtain ⟨g0,r9,g4⟩:=o0;have j8:zb wk.drew w9:=T;have e6:Hid (zD w9 wk.drew.heap.size (.slice A9 (zl m x).length c9) (zl m x)):=a2;have i1:=zh (hR.out.set.below g4);clear T a2 hR j8 E;have o7:=Bc m x;have c0:zb W w9:=o.trans g4;have b7:=zh (Mk.nil w9);have f0:=zh (fun z hz=>An (m:=m) (x:=z) SO.out.good.dim G.1 G.2 hz)
      go_wp2_with fail
      clear e3 i5 o i6 J hk;generalize j2:zl m x=L at*;have s0:=zh j2;clear j2;go_loopw [7,97] (fun v i wr=>∃k:Nat,k<=L.length/\i=.int .i64 (k:Nat)/\Hid (Mk w9 wr v ((L.take k).filter (zN m us t q tk.1)))) (fun _ i _=>L.length - (intOf i).toNat)
      case atStart=>exact ⟨0,by omega,rfl,b7⟩
      clear b7
      case round=>
       obtain ⟨k,hk,rfl,hM⟩:=hrel;have o:=hM.out.ext;by_cases J:k<L.length
       ·obtain ⟨b9,rfl,T,E⟩:=own_at (e6.out.ext o) J;have M:=zh (EN J);have a7:=f0.out _ (EH J);obtain ⟨y,hy⟩:=zad (L[k]);rw [<-hy] at E M a7;clear hy;have D:=zh (cand1_calls t y wr (HS.out.ext (g0.trans o)) SO.out.good.fn k6 ((c0.trans o).cell f3) ((c0.trans o).cell k3) a7.1 a7.2);obtain ⟨b1,c4⟩:∃b1,b1=(zi m t y && !decide (y∈us)):=⟨_,rfl⟩;rw [<-c4] at D;have f5:zN m us t q tk.1 y=(b1 && !decide (y∈s) && !decide (y∈tk.1)):=by unfold zN;rw [i0.out y,c4]
        clear c4 a7;have a4:=zh f5;clear f5;have o5:((L.take k).filter (zN m us t q tk.1)).length<=1000:=EI (Fi _ _) (by simp;omega);have a1:Hid (∀bb,zN m us t q tk.1 y=bb->(L.take (k+1)).filter (zN m us t q tk.1)=(L.take k).filter (zN m us t q tk.1)++(if bb then [y] else [])):=fun bb h=>by rw [M.out,Fv];show _++List.filter _ [y]=_;cases bb <;> simp [List.filter_cons,h]
        generalize (L.take k).filter (zN m us t q tk.1)=lk at*
        go_wp2_with fail
        refine D.out.mono ?_;rintro e w5 ⟨rfl,d4⟩;have b5:zb wr w5:=d4.below _;have O:=zh (hM.out.more b5);clear d4 D;have d9:=i1.out.below (o.trans b5);have j6:zb W w5:=c0.trans (o.trans b5);have n6:=zh (HF.out.below (e4.out.trans j6))
        cases b1 with
        | false=>
         have a0:Hid (zN m us t q tk.1 y=false):=a4.out.trans (by simp);go_wp2;go_roundw
         case rel=>exact ⟨k+1,by omega,by go_num,by rw [a1.out false a0.out];simpa using O⟩
         case measure=>simp [intOf];omega
        | true=>
         by_cases a3:y∈s
         ·have a0:Hid (zN m us t q tk.1 y=false):=a4.out.trans (by simp [a3]);have l6:=look_t d9 a3;clear a3;go_wp2;go_roundw
          case rel=>exact ⟨k+1,by omega,by go_num,by rw [a1.out false a0.out];simpa using O⟩
          case measure=>simp [intOf];omega
         ·have l6:=look_f d9 a3;have t8:=rg3 w5 j6;have a6:=zh (zB y w5 n6.out (by omega));by_cases b0:y∈tk.1
          ·have a0:Hid (zN m us t q tk.1 y=false):=a4.out.trans (by simp [b0]);rw [EJ b0] at a6;clear a3 b0
           go_wp2_with fail
           refine a6.out.mono ?_;rintro e w6 ⟨rfl,rfl⟩;go_wp2;go_roundw
           case rel=>exact ⟨k+1,by omega,by go_num,by rw [a1.out false a0.out];simpa using O⟩
           case measure=>simp [intOf];omega
          ·have a0:Hid (zN m us t q tk.1 y=true):=a4.out.trans (by simp [a3,b0]);rw [EK b0] at a6;clear a3 b0;have p8:w9.heap.size<=w5.heap.size:=O.out.ext.size
           go_wp2_with (first | (go_at_call 42;refine a6.out.mono ?_;rintro e w6 ⟨rfl,rfl⟩) | (at_builtin;refine AQ rfl _ _ rfl _ lk y w9.heap.size w5.heap.size 1 _ rfl rfl (O.out.own.alloc _) ?d1 ?d2 ?d3 ?_))
           (try case d1=>exact zr _ _ _ (by simp))
           case d2=>(first | (simp;done) | (simp;omega) | omega)
           case d3=>omega
           intro v' wb d7 U _;have h4:=zh ((O.out.alloc _).app d7 U);clear d7 U;go_wp2;go_roundw
           case rel=>exact ⟨k+1,by omega,by go_num,by rw [a1.out true a0.out];exact h4⟩
           case measure=>simp [intOf];omega
       ·obtain rfl:k=L.length:=by omega
        go_wp2_with fail
        go_ret;refine ⟨_,rfl,(g0.mono_mk hM.out).cast ?_⟩;rw [g5.out,ER]
end
section
open Go.RowKit Go.Sort Go.Shelf
section
variable {w:World} {ok:Nat->Prop} {size n:Nat} {A:Option Addr} {v:Value} {xs:List Value}
theorem Ae.bound (h:Ae w ok size A n xs) (E:0<size):Ae w (fun b=>ok b/\b<w.heap.size) size A n xs:=by
 refine ⟨h.1,fun z=>?_⟩;obtain ⟨b,off,e,D,o⟩:=h.2 z;have h0:0<xs.length:=by rw [h.1];exact Nat.mul_pos z E
 exact ⟨b,off,e,⟨D,zo (o 0 _ (EE h0))⟩,o⟩
theorem AI.bound (h:AI w ok size v n xs) (D:0<size):AI w (fun b=>ok b/\b<w.heap.size) size v n xs:=by
 obtain ⟨A,c,e,o,z⟩:=h;exact ⟨A,c,e,o,z.bound D⟩
theorem BB.bound {l:List Bool} (h:BB w ok v l):BB w (fun b=>ok b/\b<w.heap.size) v l:=AI.bound h (by decide)
theorem Each.bound {α:Type} {R R':Value->α->Prop} {l:List α} (h:Each R w ok v l) (z:∀u x,R u x->R' u x):Each R' w (fun b=>ok b/\b<w.heap.size) v l:=by
 obtain ⟨vs,o,he⟩:=h;refine ⟨vs,o.bound (by decide),fun i x E=>?_⟩;obtain ⟨u,D,o⟩:=he i x E;exact ⟨u,D,z _ _ o⟩
theorem Bj.bound {l:List (List Bool)} (h:Bj w ok v l):Bj w (fun b=>ok b/\b<w.heap.size) v l:=Each.bound h (fun _ _ h=>BB.bound h)
theorem zv.bound {l:List (List Int)} (h:zv w ok v l):zv w (fun b=>ok b/\b<w.heap.size) v l:=Each.bound h (fun _ _ h=>zj.bound h)
theorem BU.bound {l:List (List Int×List Int)} (h:BU w ok v l):BU w (fun b=>ok b/\b<w.heap.size) v l:=by
 obtain ⟨vs,o,he⟩:=h;refine ⟨vs,o.bound (by decide),fun i x z=>?_⟩;obtain ⟨s,u1,u2,h0,h1,h2,i1,i2⟩:=he i x z;exact ⟨s,u1,u2,h0,h1,h2,i1.bound,i2.bound⟩
theorem zw.bound {m:MZ} (h:zw w ok v m):zw w (fun b=>ok b/\b<w.heap.size) v m:=by
 obtain ⟨f,u,t,rfl,h1,h2,h3⟩:=h;exact ⟨f,u,t,rfl,h1.bound,h2.bound,h3.bound⟩
theorem BK.bound {g gu:Nat} {m:MZ} {ch us:List Int} {ps:List (List Int)} {f u t vc vp:Value} (h:BK w ok g m ch ps us f u t vc vp gu):BK w (fun b=>ok b/\b<w.heap.size) g m ch ps us f u t vc vp gu:=
 ⟨h.blk,⟨h.okg,zd h.blk⟩,h.maze.bound,h.ch.bound,h.ps.bound,⟨h.oku,zd h.us⟩,h.us⟩
end
abbrev InR (R:Int->Prop):={ x:Int // R x }
theorem holds_sub {R:Int->Prop} {w:World} {cap:Nat} {l:List (InR R)} [Inhabited (InR R)] (h:zD w B (.slice (some ⟨g,0,none⟩) (l.map (·.1)).length cap) (l.map (·.1))):Holds (fun x:InR R=>Value.int .i64 x.1) w g 0 l.toArray:=by
 intro j z;have o:j<l.length:=by simpa using z
 refine ⟨?_,by have:=World.ownsRow.frozenAt h j;simpa using this⟩;have:=World.ownsRow.cellAt h j (by simpa using o);rw [Nat.zero_add,this];simp [getElem!_pos,o]
theorem sortWorld_same {α:Type} [Inhabited α] {enc:α->Value} {w:World} {blk off n:Nat} {dk:Array α} {os:Array Obj} (D:B<=blk) (G:B<=w.heap.size):zW (fun b=>b<B) w (sortWorld enc w blk off n dk os):=by
 intro b E o;have z:blk≠b:=by omega
 simp [sortWorld,grow,putRow,mapBlock,Sort.ahead,Array.getElem?_append,Array.getElem?_modify,Array.getElem_modify,o,z]
theorem deleteFuncI_calls {w1 w:World} {v:Value} (o:Mk w1 w v l) (R:Int->Prop) (hR:∀x∈l,R x) (h0:R 0) (hl:l.length<=1000000000000) (fn:FuncId) (lb:Array Value) (p:Int->Bool)
  (eg:∀args w,(callFunc fn args).run Tryz.prog w=.ok (.enter fn args) w)
  (hp:∀x,R x->∀W,zW (fun b=>b<w1.heap.size) w W->Calls Tryz.prog fn (#[.int .i64 x]++lb) W fun e w'=>e=.returned (.bool (p x))/\zK W w'):
  Calls Tryz.prog 130 #[v,.func (.func fn) #[] lb] w fun e w'=>∃v',e=.returned v'/\Mk w1 w' v' (l.filter fun x=>!p x):=by
 rcases Fs l.length with hl0 | hl0
 ·have G:=EX hl0;subst G;obtain ⟨A,c,rfl,_⟩:=o.slice;have hI:=zh (DK fn lb p w o.ints (by simp) eg (fun x hx=>by cases hx));have U:=zh o;clear o hp
  go_enter Tryz.func130,Tryz.ntmps130
  go_wp2_with fail
  refine hI.out.mono ?_;rintro e w2 ⟨r,rfl,T,a5,O⟩
  have M:r=-1:=by
   have:¬ 0<=r:=fun h=>by have:=T.1 h;simp at this
   omega
  subst M;have V:zb w w2:=O.below _;clear O T
  go_wp2_with fail
  go_ret;exact ⟨_,rfl,U.out.more V⟩
 ·letI:Inhabited (InR R):=⟨⟨0,h0⟩⟩
  obtain ⟨l',rfl⟩:∃l':List (InR R),l'.map (·.1)=l:=⟨l.attachWith R hR,by simp⟩;obtain ⟨g,cap,rfl,Q,a3⟩:=World.ownsRow.form o.own hl0;have D:=Ck o.own;have z:(l'.map (·.1)).length=l'.toArray.size:=by simp
  have I:=AnyE.slices_DeleteFunc dfIA (fun x:InR R=>Value.int .i64 x.1) (fun _=>rfl) (fun x=>p x.1) fn lb eg ⟨0,h0⟩ Tryz.zeroValue3 g 0 cap l'.toArray w
   (fun W x hb=>by
    refine Calls.mono (hp x.1 x.2 W (fun b a2 E=>hb.block b E)) ?_;rintro e w' ⟨rfl,q,rfl⟩;exact ⟨rfl,q,rfl⟩)
   (fun n os dk x _=>by
    refine Calls.mono (hp x.1 x.2 _ (sortWorld_same Q o.ext.size)) ?_;rintro e w' ⟨rfl,q,rfl⟩;exact ⟨rfl,q,rfl⟩)
   (holds_sub o.own) (by rw [<-z];omega) (by rw [<-z];exact D)
  change Calls Tryz.prog 130 _ _ _ at I;rw [<-z] at I;refine Calls.mono I ?_;rintro e w' ⟨rfl,q,rfl⟩;have L:(l'.map (·.1)).filter (fun x=>!p x)=(l'.filter fun x=>!p x.1).map (·.1):=by rw [List.filter_map];rfl
  have J:(l'.filter fun x=>!p x.1).length<=l'.length:=Fi _ _;refine ⟨_,rfl,?_,Lib.below_putRow o.ext Q⟩
  have ho:w.ownsRow w1.heap.size 3 1 (.slice (some ⟨g,0,none⟩) (l'.map (·.1)).length cap) (l'.map (·.1)).length (l'.map fun x:InR R=>Value.int .i64 x.1):=by
   have:=o.own;unfold zD at this;rw [List.map_map] at this;exact this
  have:=Lib.ownsRow_putRow (enc:=fun x:InR R=>Value.int .i64 x.1) (q:=q) (k:=(l'.filter fun x=>!p x.1).length) (ys:=(l'.filter fun x=>!p x.1)++List.replicate (l'.length - (l'.filter fun x=>!p x.1).length) ⟨0,h0⟩) ho (by simp;omega) (by simpa using J);rw [List.take_left' rfl] at this;rw [L];unfold zD;rw [List.map_map,Fr];simpa using this
end
end Go.Proofs.YthbjngbhbbkkgaaGreat
