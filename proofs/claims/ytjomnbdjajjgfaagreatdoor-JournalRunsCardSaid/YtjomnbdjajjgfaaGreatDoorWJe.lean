import Derived.Test.YtjomnbdjajjgfaaGreatDoorWJd
import Derived.Shelf.SlicesE.DeleteFunc
import Derived.Ground.SlgfProg
set_option linter.unusedVariables false
set_option linter.unusedSimpArgs false
set_option maxRecDepth 100000
set_option maxHeartbeats 16000000
namespace Go.Proofs.YtjomnbdjajjgfaaGreatDoor
variable {x y:Int} {ps:List (List Int)} {ch l q s:List Int} {B b3 gb gn gs k:Nat} {f ts u vc vp:Value} {w' wr:World}
section
open Go.RowKit
attribute [local go_sem ↓] Go.wp_at_zero Go.wp_at_succ
def zX (m:MZ) (us:List Int) (t:Nat) (q from_:List Int) (n:Int):Bool:=zj m t n && !decide (n∈us) && !(q.any fun y=>decide (n∈zp m y)) && !decide (n∈from_)
def CR (m:MZ) (ps:List (List Int)) (us:List Int):List Int:=
 if cmpB m ps=true then []
 else match (ps.getD (ps.length - 1) []).getLast? with
  | none=>(Lib.compact (BL (m.tasks.getD (ps.length - 1) ([],[])).1)).filter fun n=>zj m (ps.length - 1) n && !decide (n∈us)
  | some x=>(zp m x).filter (zX m us (ps.length - 1) (ps.getD (ps.length - 1) []).dropLast (m.tasks.getD (ps.length - 1) ([],[])).1)
theorem mem_sortL:x∈BL l↔x∈l:=by unfold BL;exact (List.mergeSort_perm _ _).mem_iff
theorem compact_len (l:List Int):(Lib.compact l).length<=l.length:=by
 unfold Lib.compact Lib.compactUpTo;rw [zau];exact FA (zan _ _) (by simp)
theorem Fc (h:x∈Lib.compact l):x∈l:=by
 unfold Lib.compact Lib.compactUpTo at h;obtain ⟨j,D,rfl⟩:=zaA.1 h;have o:j<l.length:=by simpa using (za9.1 D).1
 simp [getElem!_pos,o]
theorem path_cell {w:World} {ok:Nat->Prop} {A:Option Addr} {n c:Nat} (h:zg w ok (.slice A n c) l) (D:l[k]?=some y):∃b o,A=some ⟨b,o,none⟩/\∀W,za w W->W.cell? ⟨b,o+k,none⟩=some (.int .i64 y):=by
 obtain ⟨A',c',e,_,I⟩:=h;injection e with e1 e2 e3;subst e1
 have E:k<l.length:=by
  rcases zah k l.length with h | h
  ·exact h
  ·rw [zae h] at D;cases D
 obtain ⟨b,o,e,_,G⟩:=Ai I E E;rw [Fw E] at D;injection D with D;rw [D] at G;exact ⟨b,o,e,za.rule G⟩
structure NR (W wr:World) (gn:Nat) (s:List Int):Prop where
 ext:za W wr
 set:zW wr gn s
theorem NR.more {W:World} (h:NR W wr gn s) (o:za wr w'):NR W w' gn s:=⟨h.ext.trans o,h.set.below o⟩
theorem NR.add {W:World} (h:NR W wr gn s) (E:gn=W.heap.size) (D:zW w' gn (ins s x)) (o:wr.grownBy w' (some gn)):NR W w' gn (ins s x):=⟨Bj h.ext o h.ext.size (by omega),D⟩
theorem near_step {m:MZ} {a:Int}:((∃y'∈q,a∈zp m y')\/a∈zp m y)↔∃y'∈q++[y],a∈zp m y':=by
 constructor
 ·rintro (⟨y',h1,h2⟩ | h)
  ·exact ⟨y',by simp [h1],h2⟩
  ·exact ⟨y,by simp,h⟩
 ·rintro ⟨y',h1,h2⟩;rw [za0,zar] at h1;rcases h1 with h1 | rfl
  ·exact .inl ⟨y',h1,h2⟩
  ·exact .inr h2
theorem near_any {m:MZ} {z:Int} (h:z∈s↔∃y∈q,z∈zp m y):decide (z∈s)=q.any fun y=>decide (z∈zp m y):=by
 by_cases o:z∈s
 ·rw [FB o];symm;obtain ⟨y,h1,h2⟩:=h.1 o;exact zaE.2 ⟨y,h1,FB h2⟩
 ·rw [FC o];symm;rw [Bool.eq_false_iff];intro h3;obtain ⟨y,h1,h2⟩:=zaE.1 h3;exact o (h.2 ⟨y,h1,of_decide_eq_true h2⟩)
structure JC (wB:World) (sn:ByteArray) (u1 u2 up:Value) (e:Nat->Bool) (v:Nat->Value) (W:World):Prop where
 ext:za wB W
 al:e 15=true->∃g3,v 15=.pointer (some ⟨g3,0,none⟩)/\wB.heap.size<=g3/\(e 16=false->ze W g3 87 #[.string ⟨#[]⟩,.slice none 0 0,.slice none 0 0])/\(e 16=true->ze W g3 87 #[.string sn,u1,u2])
 asg:e 17=true->v 17=up
 d16:e 16=true->e 15=true
section
variable {wB W W':World} {sn:ByteArray} {u1 u2 up:Value} {e:Nat->Bool} {v:Nat->Value}
theorem JC.init (he:∀j∈[15,16,17],e j=false):JC wB sn u1 u2 up e v wB.drew:=
 ⟨DV,fun a=>ff (he 15 (by simp)) a,fun a=>ff (he 17 (by simp)) a,fun a=>ff (he 16 (by simp)) a⟩
theorem JC.s15 (h:JC wB sn u1 u2 up e v W) (o:e 15=false):JC wB sn u1 u2 up (AY e 15 true) (AY v 15 (.pointer (some ⟨W.heap.size,0,none⟩))) (W.alloc (.cells #[.string ⟨#[]⟩,.slice none 0 0,.slice none 0 0] 87)):=
 ⟨h.ext.alloc _,fun _=>⟨_,rfl,h.ext.size,fun _=>ze.new _ _ _ rfl,fun a=>ff (b:=e 16) (notT h.d16 o) a⟩,h.asg,fun _=>rfl⟩
theorem JC.s16 {g3:Nat} {x:Value} (h:JC wB sn u1 u2 up e v W) (o:e 15=true) (I:v 15=.pointer (some ⟨g3,0,none⟩)) (G:wB.heap.size<=g3) (D:za wB W') (E:ze W' g3 87 #[.string sn,u1,u2]):JC wB sn u1 u2 up (AY e 16 true) (AY v 16 x) W':=
 ⟨D,fun _=>⟨g3,I,G,fun a=>(by cases a),fun _=>E⟩,h.asg,fun _=>o⟩
theorem JC.s17 (h:JC wB sn u1 u2 up e v W):JC wB sn u1 u2 up (AY e 17 true) (AY v 17 up) W:=⟨h.ext,h.al,fun _=>rfl,h.d16⟩
end
theorem candidates_calls {ok:Nat->Prop} {m:MZ} {us:List Int} {g gu:Nat} (w:World) (h:BN w ok g m ch ps us f u ts vc vp gu) (so:SOk m ch ps):
  Calls Tryz.prog 148 #[.pointer (some ⟨g,0,none⟩)] w fun e w'=>∃v',e=.returned v'/\Mk w w' v' (CR m ps us):=by
 have HS:=zh h;have SO:=zh so;have t0:ps.length<=6:=FA so.pl so.good.tk;obtain ⟨r0,r1,r2,r3,r4,r5,r6,r7,r8⟩:=h.rules;have hx:=za.refl w
 go_enter Tryz.func148,Tryz.ntmps148
 go_wp2_with fail
 generalize i6:w.alloc (.cells #[.pointer (some ⟨g,0,none⟩)] 198)=w1;have k5:za w w1:=by rw [<-i6];exact (za.refl w).alloc _
 have h9:w1.cell? ⟨w.heap.size,0,none⟩=some (.pointer (some ⟨g,0,none⟩)):=by rw [<-i6];exact zy _ _ _ rfl
 have s9:w.heap.size<w1.heap.size:=zo h9;have rb:=za.rule h9;clear i6;refine (Db _ (HS.out.ext k5) SO.out).mono ?_;rintro e wA ⟨rfl,l1⟩;have n4:za w1 wA:=l1.below _;have hA:=k5.trans n4;clear l1 h9
 cases Q:cmpB m ps with
 | true=>
  have HC:=zh Q;clear Q
  go_wp2_with fail
  go_ret;exact ⟨_,rfl,hA.mono_mk (Mk.cast (Mk.nil _) (by unfold CR;rw [if_pos HC.out]))⟩
 | false=>
  have HC:=zh Q
  have hp:0<ps.length:=by
   by_cases h0:m.tasks.length=0
   ·unfold cmpB at Q;rw [FB h0] at Q;cases Q
   ·exact so.pn (by omega)
  clear Q
  go_wp2_with fail
  refine (Bp _ (HS.out.ext hA) (by omega)).mono ?_;rintro e wB ⟨he,o3⟩;subst o3;obtain ⟨t,hk⟩:∃t,ps.length=t+1:=⟨ps.length - 1,by omega⟩;have m2:(ps.length:Int) - 1=(t:Int):=by omega
  rw [m2] at he;subst he;clear m2;have k7:za w (wA.alloc (.cells #[.int .i64 t] 3)):=hA.alloc _;have p6:(wA.alloc (.cells #[.int .i64 t] 3)).cell? ⟨wA.heap.size,0,none⟩=some (.int .i64 t):=zy _ _ _ rfl;have n5:za w1 (wA.alloc (.cells #[.int .i64 t] 3)):=n4.alloc _;have ho:=h.ps;have q8:=h.maze;obtain ⟨vs,⟨Ap,cp,rfl,v8,m9⟩,l2⟩:=ho;obtain ⟨fr',up',ts',b0,_,_,M⟩:=q8;injection b0 with b0;injection b0 with b0;simp only [List.cons.injEq,and_true,true_and] at b0;obtain ⟨rfl,rfl,rfl⟩:=b0;have s1:=M;obtain ⟨vst,⟨At,ct,rfl,w0,_⟩,_⟩:=s1;have e4:t<ps.length:=by omega
  obtain ⟨b,off,up,rfl,_,f6,i5⟩:=AW m9 l2 e4 e4;have f1:t<m.tasks.length:=by have:=so.pl;omega
  obtain ⟨bt,offt,sn,u1,u2,rfl,_,l9,m0,m1,f0,i0⟩:=Bz M f1;have i1:=so.pp _ (Fz e4);have e2:=so.pr _ (Fz e4);have q6:=(so.lens.tl _ (Fz f1)).1;have i4:=so.good.tn _ (Fz f1)
  have d7:CR m ps us=match (ps[t]).getLast? with
    | none=>(Lib.compact (BL (m.tasks[t]).1)).filter fun n=>zj m t n && !decide (n∈us)
    | some x=>(zp m x).filter (zX m us t (ps[t]).dropLast (m.tasks[t]).1):=by
   unfold CR;rw [HC.out,if_neg (by simp),show ps.length - 1=t from by omega];simp [e4,f1]
  have b6:=zh d7;clear d7;obtain ⟨p,m7⟩:=zaI (ps[t]);obtain ⟨tk,n2⟩:=zaI (m.tasks[t]);rw [<-m7] at i5 i1 b6 e2;rw [<-n2] at f0 i0 q6 b6 i4;have l5:=f0;obtain ⟨A5,c5,rfl,t9,_⟩:=l5;have l6:=i0;obtain ⟨A6,c6,rfl,v5,_⟩:=l6;clear m7 n2 m9 l2 M i0;have HP:=zh i5;clear i5;have HF:=zh f0;clear f0;have g7:=zh e2;clear e2;have o1:=zh i4;clear i4;have x7:(t:Int)<(ps.length:Int):=by omega
  have x6:(0:Int)<=(t:Int):=by omega
  have x8:(t:Int)<(m.tasks.length:Int):=by omega
  have l3:t<m.free.length:=by have:=so.good.fl;omega
  have q0:=za.rule f6;have q1:=za.rule l9;have q2:=za.rule m0;have q3:=za.rule m1;clear f6 l9 m0 m1 h so hk;generalize s3:wA.alloc (.cells #[.int .i64 t] 3)=wB at*;have rt:=za.rule p6;have f3:=za.refl wB
  go_wp2_with fail
  clear s3;refine zab (S:=(fun W=>za w W/\za w1 W/\za wB W)) (by kernel_rfl) (⟨k7.drew,n5.drew,f3.drew⟩) fun zH=>?_;refine zi 0 zH ?_;refine zi 1 zH ?_;simp only [zc,Fv];refine zi 2 zH ?_;refine zi 3 zH ?_;simp only [zc,Fv];refine zi 4 zH ?_;refine zi 5 zH ?_;simp only [zc,Fv];refine zi 6 zH ?_;refine zi 7 zH ?_;simp only [zc,Fv];refine zi 8 zH ?_;refine zi 9 zH ?_;simp only [zc,Fv];refine zi 10 zH ?_;refine zi 11 zH ?_;simp only [zc,Fv];refine zi 12 zH ?_;refine zi 13 zH ?_;simp only [zc,Fv];refine zi 14 zH ?_;simp only [zc,Fv];refine Df [15,16,17] (fun e v W=>JC wB sn (.slice A5 tk.1.length c5) (.slice A6 tk.2.length c6) up e v W) (F:=?F1) (by kernel_rfl) (by kernel_rfl) (by decide) zH (fun v=>?hF1) ?init1 (by kernel_rfl) ?steps1 ?fin1
  case hF1=>(simp only [Ae,CT,List.getElem?_toArray,List.getElem?_cons_succ,List.getElem?_cons_zero,Option.bind,Act.put,List.setIfInBounds_toArray,List.set_cons_succ,List.set_cons_zero];rfl)
  case init1=>
   intro e v he;exact JC.init he
  case steps1=>
   refine zl.cons rfl (fun e v W K hJ hW he hd hK=>?_) ?_
   ·simp only [zc] at hd hK⊢;go_simp;exact hK.out _ _ _ (by rfl) ⟨hW.1.alloc _,hW.2.1.alloc _,hW.2.2.alloc _⟩ (hJ.s15 he)
   refine zl.cons rfl (fun e v W K hJ hW he hd hK=>?_) ?_
   ·simp only [zc] at hd hK⊢;have j3:e 15=true:=zC hd [15] (by kernel_rfl) 15 (by simp);obtain ⟨g3,a0,d9,I,_⟩:=hJ.al j3;have I:=I he;have hf:=fun k=>I.frozen k
    have t7:=I.cell (k:=0) rfl;have t8:=I.cell (k:=1) rfl;have s8:=I.cell (k:=2) rfl;go_simp;have a9:=((hJ.ext.setCell (p:=⟨g3,0,none⟩) d9 (.string sn)).setCell (p:=⟨g3,1,none⟩) d9 (.slice A5 tk.1.length c5)).setCell (p:=⟨g3,2,none⟩) d9 (.slice A6 tk.2.length c6);exact hK.out _ undef _ (by simp [Act.put,a0]) ⟨k7.trans a9,n5.trans a9,a9⟩ (hJ.s16 j3 a0 d9 a9 (((I.set (k:=0) _).set (k:=1) _).set (k:=2) _))
   refine zl.cons rfl (fun e v W K hJ hW he hd hK=>?_) ?_
   ·simp only [zc] at hd hK⊢;go_simp;exact hK.out _ up _ (by rfl) hW hJ.s17
   exact zl.nil
  case fin1=>
   intro v W hJ hW;obtain ⟨g3,a0,d9,_,I⟩:=hJ.al rfl;have I:=I rfl;have g1:=hJ.asg rfl;rw [a0,g1];clear hJ a0 g1;obtain ⟨o9,j8,p5⟩:=hW;have rg3:=za.rule (I.cell (k:=1) rfl);clear I;have e6:=zh o9;have l0:=rt W p5;have v7:=BT (P:=Tryz.prog) Tryz.func200 (by kernel_rfl) (by kernel_rfl);have f5:=rb W j8;generalize p9:wA.heap.size=g2 at*;clear p9;have q9:=HP.out;obtain ⟨Aq,cq,rfl,k8,s0⟩:=q9;clear s0;have f3:=za.refl W;rcases List.eq_nil_or_concat p with rfl | ⟨q,x,rfl⟩
   ·have g6:Hid (CR m ps us=(Lib.compact (BL tk.1)).filter fun n=>zj m t n && !decide (n∈us)):=b6.out
    go_wp2_with fail
    refine (values_calls A5 tk.1.length c5 W).mono ?_;rintro e w2 ⟨rfl,rfl⟩;have g8:za W (W.alloc (.cells #[.slice A5 tk.1.length c5] 23)):=f3.alloc _;have k9:(W.alloc (.cells #[.slice A5 tk.1.length c5] 23)).cell? ⟨W.heap.size,0,none⟩=some (.slice A5 tk.1.length c5):=zy _ _ _ rfl;have hS:=zh (sorted_calls W.heap.size _ k9 (HF.out.below (e6.out.trans g8)) (by omega))
    go_wp2_with fail
    refine hS.out.mono ?_;rintro e w3 ⟨v3,rfl,h7⟩;have n1:(BL tk.1).length<=1000000000000:=by unfold BL;rw [List.length_mergeSort];omega
    have j4:=zh (compact_calls h7 n1);have a9:=zh h7.ext;clear h7 hS
    go_wp2_with fail
    refine j4.out.mono ?_;rintro e w4 ⟨v4,rfl,e7⟩;have q7:Hid (∀y,y∈Lib.compact (BL tk.1)->y∈tk.1):=fun y hy=>mem_sortL.1 (Fc hy)
    have w8:(Lib.compact (BL tk.1)).length<=1000000000000:=FA (compact_len _) n1;generalize Lib.compact (BL tk.1)=L at*;have g9:za W w4:=g8.trans e7.ext;obtain ⟨A7,c7,s2,v6⟩:=e7.slice;subst s2;have o0:=zh e7;clear e7 j4 a9 k9 g8;have n3:za w w4:=e6.out.trans g9;have c0:=zh (Mk.nil w4)
    go_wp2_with fail
    go_loopw [7,46] (fun v i wr=>∃k:Nat,k<=L.length/\i=.int .i64 (k:Nat)/\Hid (Mk w4 wr v ((L.take k).filter fun n=>zj m t n && !decide (n∈us)))) (fun _ i _=>L.length - (intOf i).toNat)
    case atStart=>exact ⟨0,by omega,rfl,c0⟩
    clear c0
    case round=>
     obtain ⟨k,hk,rfl,hM⟩:=hrel;have o:=hM.out.ext;by_cases J:k<L.length
     ·obtain ⟨b9,rfl,U,E⟩:=own_at (o0.out.own.ext o) J;have M:=zh (FF J);have G:=o1.out _ (.inl (q7.out _ (Fz J)));obtain ⟨y,hy⟩:=zaI (L[k]);rw [<-hy] at E M G;clear hy;have D:=zh (cand1_calls t y wr (HS.out.ext (n3.trans o)) SO.out.good.fn l3 ((g9.trans o).cell f5) ((g9.trans o).cell l0) G.1 G.2);obtain ⟨bb,h8⟩:=zaI ((zj m t y && !decide (y∈us)));rw [<-h8] at D;have n7:=zh h8;clear h8 G;have p8:((L.take k).filter fun n=>zj m t n && !decide (n∈us)).length<=1000000000000:=FA (zan _ _) (by simp;omega);have a2:Hid ((L.take (k+1)).filter (fun n=>zj m t n && !decide (n∈us))=(L.take k).filter (fun n=>zj m t n && !decide (n∈us))++(if bb then [y] else [])):=by rw [M.out,zay,n7.out];show _++List.filter _ [y]=_;by_cases h:(zj m t y && !decide (y∈us))=true <;> simp [List.filter_cons,h]
      generalize (L.take k).filter (fun n=>zj m t n && !decide (n∈us))=lk at*
      go_wp2_with fail
      refine D.out.mono ?_;rintro e w5 ⟨rfl,d8⟩;have b7:za wr w5:=d8.below _;have O:=zh (hM.out.more b7);clear d8 D
      cases bb with
      | true=>
       have s4:w4.heap.size<=w5.heap.size:=O.out.ext.size
       go_wp2_with (at_builtin;refine AZ rfl _ _ rfl _ lk y w4.heap.size w5.heap.size 1 _ rfl rfl (O.out.own.alloc _) ?d1 ?d2 ?d3 ?_)
       (try case d1=>exact zy _ _ _ (by simp))
       case d2=>(first | (simp;done) | (simp;omega) | omega)
       case d3=>omega
       intro v' wb e1 V _;have h6:=zh ((O.out.alloc _).app e1 V);clear e1 V;go_wp2;go_roundw
       case rel=>exact ⟨k+1,by omega,by go_num,by rw [a2.out];exact h6⟩
       case measure=>simp [intOf];omega
      | false=>
       go_wp2;go_roundw
       case rel=>exact ⟨k+1,by omega,by go_num,by rw [a2.out];simpa using O⟩
       case measure=>simp [intOf];omega
     ·obtain rfl:k=L.length:=by omega
      go_wp2_with fail
      go_ret;refine ⟨_,rfl,(n3.mono_mk hM.out).cast ?_⟩;rw [g6.out,FJ]
   ·rw [List.concat_eq_append] at HP b6 g7;have m6:(q.concat x).length=q.length+1:=by simp
    have f9:(q++[x]).length=q.length+1:=by simp
    rw [m6] at k8 i1⊢;rw [f9] at HP;obtain ⟨N,hN⟩:=zaI (q.length+1);rw [<-hN] at k8 i1 HP⊢;have t5:(q.length:Int)<(N:Int):=by omega
    have r9:IntKind.i64.wrap ((N:Int) - 1)=(q.length:Int):=by rw [zag];omega
    have m8:(N:Int) - 1=(q.length:Int):=by omega
    have x3:(0:Int)<=(q.length:Int):=by omega
    have t4:0<N:=by omega
    have x4:q.length<=N:=by omega
    have g6:Hid (CR m ps us=(zp m x).filter (zX m us t q tk.1)):=by have h:=b6.out;simp at h;exact h
    have a6:Hid (∀k y,(q++[x])[k]?=some y->∃bq oq,Aq=some ⟨bq,oq,none⟩/\∀W',za w W'->W'.cell? ⟨bq,oq+k,none⟩=some (.int .i64 y)):=fun k y hy=>path_cell HP.out hy
    clear m6 f9 hN;have x0:=@run_makeMap Tryz.prog
    go_wp2_with fail
    have j6:Hid (NR W (W.alloc (.map #[] 0)) W.heap.size []):=⟨f3.alloc _,zW.new W⟩;generalize l4:W.heap.size=gn at*;have f8:gn=W.heap.size:=l4.symm;have n9:=zh f8;clear l4 f8;go_loopw [66] (fun i wr=>∃k s,k<=q.length/\i=.int .i64 (k:Nat)/\Hid (NR W wr gn s)/\Hid (∀z,z∈s↔∃y∈q.take k,z∈zp m y)) (fun i _=>q.length - (intOf i).toNat)
    case atStart=>exact ⟨0,[],by omega,rfl,j6,by simp [Hid]⟩
    clear j6
    case round=>
     obtain ⟨k,s,hk,rfl,hR,e0⟩:=hrel;have o:za W wr:=hR.out.ext;have e5:za w wr:=e6.out.trans o;have i7:za w1 wr:=j8.trans o;obtain ⟨wk,rfl⟩:∃wk:World,wk=wr:=⟨_,rfl⟩;by_cases J:k<q.length
     ·obtain ⟨bq,oq,rfl,E⟩:=a6.out k q[k] (by rw [FD J];exact Fw J);have G:=g7.out q[k] (by simp);have M:=zh (FF J);obtain ⟨y,hy⟩:=zaI (q[k]);rw [<-hy] at E G M;clear hy;have m3:(k:Int)<(q.length:Int):=by omega
      have m5:=zh (next_calls m y wk (HS.out.maze.below e5) SO.out.good.dim G.1 G.2);clear G
      go_wp2_with fail
      refine m5.out.mono ?_;rintro e w9 ⟨v9,rfl,U,a3⟩;have j7:=zh (hR.out.more U);have e8:Hid (zQ w9 wk.heap.size v9 (zp m y)):=a3;obtain ⟨A9,c9,rfl,p7⟩:=Bl a3;have w7:gn<wk.heap.size:=zd hR.out.set;clear U a3 m5 hR;have q5:=Dp m y
      go_wp2_with fail
      go_loopw [77] (fun i wi=>∃j s',j<=(zp m y).length/\i=.int .i64 (j:Nat)/\Hid (NR W wi gn s')/\Hid (zQ wi wk.heap.size (.slice A9 (zp m y).length c9) (zp m y))/\Hid (∀z,z∈s'↔z∈s\/z∈(zp m y).take j)) (fun i _=>(zp m y).length - (intOf i).toNat)
      case atStart=>exact ⟨0,s,FN _,rfl,j7,e8,by simp [Hid]⟩
      clear j7 e8
      case round=>
       obtain ⟨j,s',hj,rfl,hR,hO,m4⟩:=hrel;by_cases l7:j<(zp m y).length
       ·obtain ⟨b2,rfl,t6,e9⟩:=own_at hO.out l7;have g0:=zh (fun z=>zF l7 z);obtain ⟨z,hz⟩:=zaI ((zp m y)[j]);rw [<-hz] at e9 g0;clear hz
        go_wp2_with (at_mapUpdate;refine wpSetAdd rfl _ _ _ _ rfl Tryz.underlying205 gn s' z rfl rfl rfl hR.out.set ?_)
        intro wb n0 V;have o7:=zh (hR.out.add n9.out n0 V);have o6:Hid (zQ wb wk.heap.size (.slice (some ⟨b2,0,none⟩) (zp m y).length c9) (zp m y)):=World.ownsRow.kept hO.out V (BW hO.out hR.out.set);clear n0 V;go_wp2;go_roundw
        case rel=>exact ⟨j+1,ins s' z,by omega,by go_num,o7,o6,fun a=>by rw [mem_ins,m4.out,g0.out,or_assoc]⟩
        case measure=>simp [intOf];omega
       ·obtain rfl:j=(zp m y).length:=by omega
        go_wp2;go_roundw
        case rel=>exact ⟨k+1,s',by omega,by go_num,hR,fun a=>by rw [m4.out,FJ,e0.out,M.out];exact near_step⟩
        case measure=>simp [intOf];omega
     ·obtain rfl:k=q.length:=by omega
      rw [FJ] at e0;obtain ⟨bq,oq,rfl,E⟩:=a6.out q.length x (by simp);have G:=g7.out x (by simp);have i9:=za.refl wk;have i2:Hid (∀z,decide (z∈s)=q.any fun y=>decide (z∈zp m y)):=fun z=>near_any (e0.out z)
      have t1:IntKind.i64.wrap ((N:Int) - 1)=(q.length:Int):=by rw [zag];omega
      clear r9 m8
      go_wp2_with fail
      go_region_held3 (fun W'=>za w W'/\za w1 W'/\za wk W')
       (first | (exact ⟨e5.drew,i7.drew,i9.drew⟩) | (exact ⟨e5.drew.trans U,i7.drew.trans U,i9.drew.trans U⟩))
       ((go_at_call 161;refine (next_calls m x _ (HS.out.maze.below e5.drew) SO.out.good.dim G.1 G.2).mono ?_;rintro e w9 ⟨v9,rfl,U,a3⟩;obtain ⟨A9,c9,rfl,p7⟩:=Bl (l:=zp m x) a3))
      rename_i o8
      obtain ⟨g4,t2,g5⟩:=o8;have k6:za wk.drew w9:=U;have e8:Hid (zQ w9 wk.drew.heap.size (.slice A9 (zp m x).length c9) (zp m x)):=a3;have i3:=zh (hR.out.set.below g5);clear U a3 hR k6 E;have q5:=Dp m x;have d5:za W w9:=o.trans g5;have c0:=zh (Mk.nil w9);have f2:=zh (fun z hz=>Co (m:=m) (x:=z) SO.out.good.dim G.1 G.2 hz)
      go_wp2_with fail
      clear e5 i7 o i9 J hk;generalize j5:zp m x=L at*;have t3:=zh j5;clear j5;go_loopw [7,97] (fun v i wr=>∃k:Nat,k<=L.length/\i=.int .i64 (k:Nat)/\Hid (Mk w9 wr v ((L.take k).filter (zX m us t q tk.1)))) (fun _ i _=>L.length - (intOf i).toNat)
      case atStart=>exact ⟨0,by omega,rfl,c0⟩
      clear c0
      case round=>
       obtain ⟨k,hk,rfl,hM⟩:=hrel;have o:=hM.out.ext;by_cases J:k<L.length
       ·obtain ⟨b9,rfl,U,E⟩:=own_at (e8.out.ext o) J;have M:=zh (FF J);have a8:=f2.out _ (Fz J);obtain ⟨y,hy⟩:=zaI (L[k]);rw [<-hy] at E M a8;clear hy;have D:=zh (cand1_calls t y wr (HS.out.ext (g4.trans o)) SO.out.good.fn l3 ((d5.trans o).cell f5) ((d5.trans o).cell l0) a8.1 a8.2);obtain ⟨b1,d6⟩:∃b1,b1=(zj m t y && !decide (y∈us)):=⟨_,rfl⟩;rw [<-d6] at D;have f7:zX m us t q tk.1 y=(b1 && !decide (y∈s) && !decide (y∈tk.1)):=by unfold zX;rw [i2.out y,d6]
        clear d6 a8;have a5:=zh f7;clear f7;have p8:((L.take k).filter (zX m us t q tk.1)).length<=1000:=FA (zan _ _) (by simp;omega);have a2:Hid (∀bb,zX m us t q tk.1 y=bb->(L.take (k+1)).filter (zX m us t q tk.1)=(L.take k).filter (zX m us t q tk.1)++(if bb then [y] else [])):=fun bb h=>by rw [M.out,zay];show _++List.filter _ [y]=_;cases bb <;> simp [List.filter_cons,h]
        generalize (L.take k).filter (zX m us t q tk.1)=lk at*
        go_wp2_with fail
        refine D.out.mono ?_;rintro e w5 ⟨rfl,d8⟩;have b7:za wr w5:=d8.below _;have O:=zh (hM.out.more b7);clear d8 D;have e3:=i3.out.below (o.trans b7);have j9:za W w5:=d5.trans (o.trans b7);have o4:=zh (HF.out.below (e6.out.trans j9))
        cases b1 with
        | false=>
         have a1:Hid (zX m us t q tk.1 y=false):=a5.out.trans (by simp);go_wp2;go_roundw
         case rel=>exact ⟨k+1,by omega,by go_num,by rw [a2.out false a1.out];simpa using O⟩
         case measure=>simp [intOf];omega
        | true=>
         by_cases a4:y∈s
         ·have a1:Hid (zX m us t q tk.1 y=false):=a5.out.trans (by simp [a4]);have m3:=look_t e3 a4;clear a4;go_wp2;go_roundw
          case rel=>exact ⟨k+1,by omega,by go_num,by rw [a2.out false a1.out];simpa using O⟩
          case measure=>simp [intOf];omega
         ·have m3:=look_f e3 a4;have x5:=rg3 w5 j9;have a7:=zh (Bo y w5 o4.out (by omega));by_cases b4:y∈tk.1
          ·have a1:Hid (zX m us t q tk.1 y=false):=a5.out.trans (by simp [b4]);rw [FB b4] at a7;clear a4 b4
           go_wp2_with fail
           refine a7.out.mono ?_;rintro e w6 ⟨rfl,rfl⟩;go_wp2;go_roundw
           case rel=>exact ⟨k+1,by omega,by go_num,by rw [a2.out false a1.out];simpa using O⟩
           case measure=>simp [intOf];omega
          ·have a1:Hid (zX m us t q tk.1 y=true):=a5.out.trans (by simp [a4,b4]);rw [FC b4] at a7;clear a4 b4;have s4:w9.heap.size<=w5.heap.size:=O.out.ext.size
           go_wp2_with (first | (go_at_call 130;refine a7.out.mono ?_;rintro e w6 ⟨rfl,rfl⟩) | (at_builtin;refine AZ rfl _ _ rfl _ lk y w9.heap.size w5.heap.size 1 _ rfl rfl (O.out.own.alloc _) ?d1 ?d2 ?d3 ?_))
           (try case d1=>exact zy _ _ _ (by simp))
           case d2=>(first | (simp;done) | (simp;omega) | omega)
           case d3=>omega
           intro v' wb e1 V _;have h6:=zh ((O.out.alloc _).app e1 V);clear e1 V;go_wp2;go_roundw
           case rel=>exact ⟨k+1,by omega,by go_num,by rw [a2.out true a1.out];exact h6⟩
           case measure=>simp [intOf];omega
       ·obtain rfl:k=L.length:=by omega
        go_wp2_with fail
        go_ret;refine ⟨_,rfl,(g4.mono_mk hM.out).cast ?_⟩;rw [g6.out,FJ]
end
section
open Go.RowKit Go.Sort Go.Shelf
section
variable {w:World} {ok:Nat->Prop} {size n:Nat} {A:Option Addr} {v:Value} {xs:List Value}
theorem Ba.bound (h:Ba w ok size A n xs) (G:0<size):Ba w (fun b=>ok b/\b<w.heap.size) size A n xs:=by
 refine ⟨h.1,fun D=>?_⟩;obtain ⟨b,off,e,E,o⟩:=h.2 D;have h0:0<xs.length:=by rw [h.1];exact Nat.mul_pos D G
 exact ⟨b,off,e,⟨E,zo (o 0 _ (Fw h0))⟩,o⟩
theorem AS.bound (h:AS w ok size v n xs) (E:0<size):AS w (fun b=>ok b/\b<w.heap.size) size v n xs:=by
 obtain ⟨A,c,e,o,D⟩:=h;exact ⟨A,c,e,o,D.bound E⟩
theorem AR.bound {l:List Bool} (h:AR w ok v l):AR w (fun b=>ok b/\b<w.heap.size) v l:=AS.bound h (by decide)
theorem Each.bound {α:Type} {R R':Value->α->Prop} {l:List α} (h:Each R w ok v l) (D:∀u x,R u x->R' u x):Each R' w (fun b=>ok b/\b<w.heap.size) v l:=by
 obtain ⟨vs,o,he⟩:=h;refine ⟨vs,o.bound (by decide),fun i x G=>?_⟩;obtain ⟨u,E,o⟩:=he i x G;exact ⟨u,E,D _ _ o⟩
theorem BG.bound {l:List (List Bool)} (h:BG w ok v l):BG w (fun b=>ok b/\b<w.heap.size) v l:=Each.bound h (fun _ _ h=>AR.bound h)
theorem zU.bound {l:List (List Int)} (h:zU w ok v l):zU w (fun b=>ok b/\b<w.heap.size) v l:=Each.bound h (fun _ _ h=>zg.bound h)
theorem Cv.bound {l:List (List Int×List Int)} (h:Cv w ok v l):Cv w (fun b=>ok b/\b<w.heap.size) v l:=by
 obtain ⟨vs,o,he⟩:=h;refine ⟨vs,o.bound (by decide),fun i x D=>?_⟩;obtain ⟨s,u1,u2,h0,h1,h2,i1,i2⟩:=he i x D;exact ⟨s,u1,u2,h0,h1,h2,i1.bound,i2.bound⟩
theorem zL.bound {m:MZ} (h:zL w ok v m):zL w (fun b=>ok b/\b<w.heap.size) v m:=by
 obtain ⟨f,u,t,rfl,h1,h2,h3⟩:=h;exact ⟨f,u,t,rfl,h1.bound,h2.bound,h3.bound⟩
theorem BN.bound {g gu:Nat} {m:MZ} {ch us:List Int} {ps:List (List Int)} {f u t vc vp:Value} (h:BN w ok g m ch ps us f u t vc vp gu):BN w (fun b=>ok b/\b<w.heap.size) g m ch ps us f u t vc vp gu:=
 ⟨h.blk,⟨h.okg,zd h.blk⟩,h.maze.bound,h.ch.bound,h.ps.bound,⟨h.oku,zd h.us⟩,h.us⟩
end
abbrev InR (R:Int->Prop):={ x:Int // R x }
theorem holds_sub {R:Int->Prop} {w:World} {g cap:Nat} {l:List (InR R)} [Inhabited (InR R)] (h:zQ w B (.slice (some ⟨g,0,none⟩) (l.map (·.1)).length cap) (l.map (·.1))):Holds (fun x:InR R=>Value.int .i64 x.1) w g 0 l.toArray:=by
 intro j D;have o:j<l.length:=by simpa using D
 refine ⟨?_,by have:=World.ownsRow.frozenAt h j;simpa using this⟩;have:=World.ownsRow.cellAt h j (by simpa using o);rw [Nat.zero_add,this];simp [getElem!_pos,o]
theorem sortWorld_same {α:Type} [Inhabited α] {enc:α->Value} {w:World} {blk off n:Nat} {dk:Array α} {os:Array Obj} (E:B<=blk) (I:B<=w.heap.size):Ao (fun b=>b<B) w (sortWorld enc w blk off n dk os):=by
 intro b G o;have D:blk≠b:=by omega
 simp [sortWorld,grow,putRow,mapBlock,Sort.ahead,Array.getElem?_append,Array.getElem?_modify,Array.getElem_modify,o,D]
theorem deleteFuncI_calls {w1 w:World} {v:Value} (o:Mk w1 w v l) (R:Int->Prop) (hR:∀x∈l,R x) (h0:R 0) (hl:l.length<=1000000000000) (fn:FuncId) (lb:Array Value) (p:Int->Bool)
  (eg:∀args w,(callFunc fn args).run Tryz.prog w=.ok (.enter fn args) w)
  (hp:∀x,R x->∀W,Ao (fun b=>b<w1.heap.size) w W->Calls Tryz.prog fn (#[.int .i64 x]++lb) W fun e w'=>e=.returned (.bool (p x))/\zT W w'):
  Calls Tryz.prog 228 #[v,.func (.func fn) #[] lb] w fun e w'=>∃v',e=.returned v'/\Mk w1 w' v' (l.filter fun x=>!p x):=by
 rcases zav l.length with hl0 | hl0
 ·have I:=zac hl0;subst I;obtain ⟨A,c,rfl,_⟩:=o.slice;have hI:=zh (Er fn lb p w o.ints (by simp) eg (fun x hx=>by cases hx));have HM:=zh o;clear o hp
  go_enter Tryz.func228,Tryz.ntmps228
  go_wp2_with fail
  refine hI.out.mono ?_;rintro e w2 ⟨r,rfl,hr,a8,U⟩
  have Q:r=-1:=by
   have:¬ 0<=r:=fun h=>by have:=hr.1 h;simp at this
   omega
  subst Q;have hE:za w w2:=U.below _;clear U hr
  go_wp2_with fail
  go_ret;exact ⟨_,rfl,HM.out.more hE⟩
 ·letI:Inhabited (InR R):=⟨⟨0,h0⟩⟩
  obtain ⟨l',rfl⟩:∃l':List (InR R),l'.map (·.1)=l:=⟨l.attachWith R hR,by simp⟩;obtain ⟨g,cap,rfl,V,a6⟩:=World.ownsRow.form o.own hl0;have E:=Bq o.own;have D:(l'.map (·.1)).length=l'.toArray.size:=by simp
  have J:=AnyE.slices_DeleteFunc dfIA (fun x:InR R=>Value.int .i64 x.1) (fun _=>rfl) (fun x=>p x.1) fn lb eg ⟨0,h0⟩ Tryz.zeroValue3 g 0 cap l'.toArray w
   (fun W x hb=>by
    refine Calls.mono (hp x.1 x.2 W (fun b a5 G=>hb.block b G)) ?_;rintro e w' ⟨rfl,q,rfl⟩;exact ⟨rfl,q,rfl⟩)
   (fun n os dk x _=>by
    refine Calls.mono (hp x.1 x.2 _ (sortWorld_same V o.ext.size)) ?_;rintro e w' ⟨rfl,q,rfl⟩;exact ⟨rfl,q,rfl⟩)
   (holds_sub o.own) (by rw [<-D];omega) (by rw [<-D];exact E)
  change Calls Tryz.prog 228 _ _ _ at J;rw [<-D] at J;refine Calls.mono J ?_;rintro e w' ⟨rfl,q,rfl⟩;have O:(l'.map (·.1)).filter (fun x=>!p x)=(l'.filter fun x=>!p x.1).map (·.1):=by rw [List.filter_map];rfl
  have M:(l'.filter fun x=>!p x.1).length<=l'.length:=zan _ _;refine ⟨_,rfl,?_,Lib.below_putRow o.ext V⟩
  have ho:w.ownsRow w1.heap.size 3 1 (.slice (some ⟨g,0,none⟩) (l'.map (·.1)).length cap) (l'.map (·.1)).length (l'.map fun x:InR R=>Value.int .i64 x.1):=by
   have:=o.own;unfold zQ at this;rw [List.map_map] at this;exact this
  have:=Lib.ownsRow_putRow (enc:=fun x:InR R=>Value.int .i64 x.1) (q:=q) (k:=(l'.filter fun x=>!p x.1).length) (ys:=(l'.filter fun x=>!p x.1)++List.replicate (l'.length - (l'.filter fun x=>!p x.1).length) ⟨0,h0⟩) ho (by simp;omega) (by simpa using M);rw [List.take_left' rfl] at this;rw [O];unfold zQ;rw [List.map_map,zau];simpa using this
end
section
open Go.RowKit Go.Shelf
attribute [local go_sem] Oper.semAt_some
attribute [local go_sem ↓] Go.wp_at_zero Go.wp_at_succ
def Bb (m:MZ) (ps:List (List Int)) (us:List Int) (t:Nat):List Int:=
 match (if t+1=ps.length then (ps.getD t []).getLast? else none) with
 | some x=>[x]
 | none=>((m.tasks.getD t ([],[])).1).filter fun n=>!(!zj m t n || decide (n∈us))
theorem sameCell {w W:World} (D:Ao (fun b=>b<B) w W) {p:Addr} {v:Value} (o:w.cell? p=some v) (hp:p.block<B):W.cell? p=some v:=
 (zaa (w:=w) (D p.block hp (zo o))).trans o
theorem Ct {ok:Nat->Prop} {v:Value} (w:World) (h:zg w ok v l) (Q:l.length<=1000000000000):
  Calls Tryz.prog 92 #[v] w fun e w'=>∃v',e=.returned v'/\Mk w w' v' l:=by
 have H:=zh h;have G:=nilEq 23 3 Tryz.underlying23;obtain ⟨A,c,rfl,O,D⟩:=h;rcases A with _ | a
 ·have o:l=[]:=by
   rcases zav l.length with h | h
   ·exact zac h
   ·obtain ⟨b,off,e,_⟩:=D.2 h;cases e
  subst o;clear D
  go_enter Tryz.func92,Tryz.ntmps92
  go_wp2_with fail
  go_ret;exact ⟨_,rfl,Mk.nil _⟩
 ·clear D;have U:=za.refl w
  go_enter Tryz.func92,Tryz.ntmps92
  go_wp2_with (at_builtin;refine Cb (ok:=ok) rfl _ _ _ rfl w.heap.size [] l _ _ rfl rfl (Bw w w.heap.size (Fy _)) (H.out.below ((za.refl w).alloc _)) ?d1 ?d2 ?_)
  case d1=>simp
  case d2=>simp;omega
  intro v' w1 I E _;have J:Hid (Mk w w1 v' l):=⟨I,zK ((za.refl w).alloc _) E (by simp) (fun k M=>slice_own M)⟩;clear I E
  go_wp2_with fail
  go_ret;exact ⟨_,rfl,J.out⟩
theorem left11_del {ok:Nat->Prop} {m:MZ} {us:List Int} {g gu:Nat} {w wk w8:World} {v8:Value} (tn:Nat) (h:BN w ok g m ch ps us f u ts vc vp gu) (so:SOk m ch ps) (G:za w wk)
  (o:Mk wk w8 v8 l) (E:wk.cell? ⟨gb,0,none⟩=some (.pointer (some ⟨g,0,none⟩))) (D:wk.cell? ⟨b3,0,none⟩=some (.int .i64 (tn:Int))) (a0:tn<m.tasks.length) (Q:l.length<=1000000000000) (V:∀x∈l,0<=x/\x<m.n):
  Calls Tryz.prog 228 #[v8,.func (.func 229) #[] #[.pointer (some ⟨gb,0,none⟩),.pointer (some ⟨b3,0,none⟩)]] w8 fun e w'=>∃v',e=.returned v'/\Mk wk w' v' (l.filter fun n=>!(!zj m tn n || decide (n∈us))):=by
 have M:tn<m.free.length:=by have:=so.good.fl;omega
 refine deleteFuncI_calls o (fun x=>0<=x/\x<m.n) V ⟨by omega,by have:=so.good.n1;unfold MZ.n;omega⟩ Q _ _ (fun x=>!zj m tn x || decide (x∈us)) (BT (P:=Tryz.prog) Tryz.func229 (by kernel_rfl) (by kernel_rfl)) ?_;intro x O W I;have h1:BN W (fun b=>ok b/\b<w.heap.size) g m ch ps us f u ts vc vp gu:=h.bound.keep (fun b J U=>(I b (zam J.2 G.size) (zam J.2 (G.trans o.ext).size)).trans ((G.trans o.ext).block b J.2));exact left11_calls tn x W h1 so.good.fn M (sameCell I (o.ext.cell E) (zo E)) (sameCell I (o.ext.cell D) (zo D)) O.1 O.2
theorem left1_next {m:MZ} {w W w5:World} {J:Nat->World->Prop} {tn t0:Nat} (G:Hid (tn=t0+k)) (hk:k<=m.tasks.length+1 - ps.length) (O:tn<m.tasks.length) (V:m.tasks.length<=1000000) (Q:ps.length=t0+1)
  (M:Hid (∀(k:Nat) (A B:World),J k A->Below W.heap.size A B->J k B)) (I:Hid (wr.cell? ⟨b3,0,none⟩=some (.int .i64 (tn:Int)))) (D:za w w5) (E:Hid (J (k+1) w5)) (o:W.heap.size<=w5.heap.size):
  (∃k tn_1 b3,Value.pointer (some ⟨w5.heap.size,0,none⟩)=Value.pointer (some ⟨b3,0,none⟩)/\Hid (tn_1=t0+k)/\k<=m.tasks.length+1 - ps.length/\Hid (W.heap.size<=b3)/\
   Hid ((w5.alloc (Obj.cells #[Value.int IntKind.i64 (wrap64 ((tn:Int)+1))] 3)).cell? ⟨b3,0,none⟩=some (Value.int IntKind.i64 (tn_1:Int))/\(w5.alloc (Obj.cells #[Value.int IntKind.i64 (wrap64 ((tn:Int)+1))] 3)).frozen? ⟨b3,0,none⟩=false)/\
   Hid (za w (w5.alloc (Obj.cells #[Value.int IntKind.i64 (wrap64 ((tn:Int)+1))] 3)))/\Hid (J k (w5.alloc (Obj.cells #[Value.int IntKind.i64 (wrap64 ((tn:Int)+1))] 3)))/\
   Hid (W.heap.size<=(w5.alloc (Obj.cells #[Value.int IntKind.i64 (wrap64 ((tn:Int)+1))] 3)).heap.size))/\
  (match Value.pointer (some ⟨w5.heap.size,0,none⟩) with
   | Value.pointer (some a)=>(match (w5.alloc (Obj.cells #[Value.int IntKind.i64 (wrap64 ((tn:Int)+1))] 3)).cell? a with | some (Value.int k i)=>m.tasks.length - i.toNat | x=>0)
   | x=>0)<
  (match Value.pointer (some ⟨b3,0,none⟩) with
   | Value.pointer (some a)=>(match wr.cell? a with | some (Value.int k i)=>m.tasks.length - i.toNat | x=>0)
   | x=>0):=by
 have h1:=G.out;have U:wrap64 ((tn:Int)+1)=((tn+1:Nat):Int):=by rw [IntWalk.wrap64_in _ (by omega)];omega
 rw [U];refine ⟨⟨k+1,tn+1,w5.heap.size,rfl,(by omega:tn+1=t0+(k+1)),by omega,o,⟨zy _ _ _ rfl,World.frozen?_alloc_at _ _ _ _ rfl⟩,D.alloc _,M.out _ _ _ E.out ((Below.refl _ w5).alloc o _),FA o (by simp)⟩,?_⟩;simp only [zy _ _ _ rfl,I.out];omega
theorem left1_gives {ok:Nat->Prop} {m:MZ} {us:List Int} {g gu:Nat} (w:World) (h:BN w ok g m ch ps us f u ts vc vp gu) (so:SOk m ch ps) (hc:w.cell? ⟨gb,0,none⟩=some (.pointer (some ⟨g,0,none⟩))) (hp:cmpB m ps=false) (n:Nat) (hn:1<=n):
  GivesB n Tryz.prog 227 #[.pointer (some ⟨gb,0,none⟩)] (fun x:Int×Value=>#[.int .i64 x.1,x.2]) (fun k x W=>x.1=((ps.length - 1+k:Nat):Int)/\zg W (fun _=>True) x.2 (Bb m ps us (ps.length - 1+k))) (m.tasks.length+1 - ps.length) w:=by
 intro l J Jx W hW i2 hl hJ j3 hY h0;have HS:=zh h.bound;clear h;have HY:=zh hY;clear hY;have HJ:=zh hJ;clear hJ;have p5:=zh j3;clear j3;have H0:=zh h0;clear h0;have o4:ps.length<=6:=FA so.pl so.good.tk;obtain ⟨r0,r1,r2,r3,r4,r5,r6,r7,r8⟩:=HS.out.rules;have rb:=za.rule hc;have SO:=zh so
 have o3:0<ps.length:=by
  by_cases h0:m.tasks.length=0
  ·unfold cmpB at hp;rw [FB h0] at hp;cases hp
  ·exact so.pn (by omega)
 have q6:=so.pl;have n2:=HS.out.maze;obtain ⟨fr',up',ts',d7,_,_,l5⟩:=n2;injection d7 with d7;injection d7 with d7;simp only [List.cons.injEq,and_true,true_and] at d7;obtain ⟨rfl,rfl,rfl⟩:=d7;have i5:=zh l5;obtain ⟨vst,⟨At,ct,rfl,p9,_⟩,_⟩:=l5;clear hc so;refine callsIn_of_wp Tryz.func227 rfl trivial ?_ rfl;simp only [Tryz.ntmps227,List.size_toArray,zaG,zaH,Nat.reduceAdd,Nat.reduceSub,Array.replicate_succ,Array.replicate_zero,List.push_toArray,List.append_toArray,List.nil_append,List.cons_append]
 gi_wp2_with (refine ⟨trivial,?_⟩;gi_at_call 151;refine (callsIn_wide.2 (Db _ (HS.out.ext hW) SO.out)).mono ?_;rintro e wA ⟨rfl,j7⟩;rw [hp];have i3:za W wA:=j7.below _;have hA:za w wA:=hW.trans i3)
 refine ⟨trivial,?_⟩;refine (callsIn_wide.2 (Bp _ (HS.out.ext hA) (by omega))).mono ?_;rintro e wB ⟨he,m3⟩;subst m3;obtain ⟨t0,i0⟩:∃t0,ps.length=t0+1:=⟨ps.length - 1,by omega⟩;have k8:(ps.length:Int) - 1=(t0:Int):=by omega
 rw [k8] at he;subst he;clear k8 j7
 gi_wp2
 gi_loopw [3] (fun v wr=>∃k tn b3,v=.pointer (some ⟨b3,0,none⟩)/\Hid (tn=t0+k)/\k<=m.tasks.length+1 - ps.length/\Hid (W.heap.size<=b3)/\Hid (wr.cell? ⟨b3,0,none⟩=some (.int .i64 (tn:Int))/\wr.frozen? ⟨b3,0,none⟩=false)/\Hid (za w wr)/\Hid (J k wr)/\Hid (W.heap.size<=wr.heap.size)) (fun v wr=>match v with | .pointer (some a)=>(match wr.cell? a with | some (.int _ i)=>m.tasks.length - i.toNat | _=>0) | _=>0)
 case atStart=>
  have hz:=i3.size;exact ⟨0,t0,wA.heap.size,rfl,rfl,by omega,hz,⟨zy _ _ _ rfl,World.frozen?_alloc_at _ _ _ _ rfl⟩,hA.alloc _,HJ.out _ _ _ H0.out ((i3).alloc _),FA hz (by simp)⟩
 case round=>
  obtain ⟨k,tn,b3,rfl,a8,hk,g9,j5,hE,j2,l3⟩:=hrel;have j1:=hE.out;obtain ⟨o,g3⟩:=j5.out;have e3:=zh o
  gi_wp2
  refine wpIn_wide.2 ?_;go_quiet (fail)
  generalize l7:wr.drewN nq=w2;have j6:zT wr w2:=⟨nq,l7.symm⟩;have d9:za wr w2:=j6.below _;clear l7 j6;have d5:za w w2:=j1.trans d9;have a6:=d9.cell o;have f7:w2.frozen? ⟨b3,0,none⟩=false:=(Below.frozen d9 (p:=⟨b3,0,none⟩) (zo o)).trans g3;have e8:=zh (HJ.out _ _ _ j2.out (d9.mono l3.out));have e0:W.heap.size<=w2.heap.size:=FA l3.out d9.size;clear o g3 j5 j2 hE j1 d9;by_cases h8:tn<m.tasks.length
  ·have b7:t0<ps.length:=by omega
   obtain ⟨vs,⟨Ap,cp,rfl,p8,l1⟩,j8⟩:=HS.out.ps;obtain ⟨b,off,up,rfl,_,g1,i1⟩:=AW l1 j8 b7 b7;have k9:=SO.out.pp _ (Fz b7);have q0:=za.rule g1;have q9:(t0:Int)<(ps.length:Int):=by omega
   have o7:(0:Int)<=(t0:Int):=by omega
   obtain ⟨p,h9⟩:=zaI (ps[t0]);rw [<-h9] at i1 k9;have g6:=zh h9;clear h9;have i6:=zh i1;obtain ⟨Aq,cq,rfl,m8,n3⟩:=i1;clear l1 j8 g1 n3;have k7:(k=0)\/(k≠0):=by omega
   rcases k7 with hk0 | hk0
   ·have d8:Hid (tn=t0):=(by have:=a8.out;omega:tn=t0);have hd:((tn:Int)==(t0:Int))=true:=by rw [beq_iff_eq,d8.out]
    have l0:min (tn:Int) (t0:Int)=(t0:Int):=by rw [d8.out];omega
    clear hk0
    gi_wp2
    refine wpIn_wide.2 ?_;go_quiet ((go_at_call 199;refine (Bp _ (HS.out.ext (d5.drewN _)) (by omega)).mono ?_;rintro e w9 ⟨O,rfl⟩;rw [show (ps.length:Int) - 1=(t0:Int) from by omega] at O;exact ⟨O,⟨_,rfl⟩⟩))
    generalize f5:w2.drewN nq=w3;have f1:zT w2 w3:=⟨nq,f5.symm⟩;have V:za w2 w3:=f1.below _;clear f5 f1;have a4:za w w3:=d5.trans V;have o:=V.cell a6;have c7:w3.frozen? ⟨b3,0,none⟩=false:=(Below.frozen V (p:=⟨b3,0,none⟩) (zo a6)).trans f7;have c6:=zh (HJ.out _ _ _ e8.out (V.mono e0));have a5:W.heap.size<=w3.heap.size:=FA e0 V.size;clear a6 f7 e8 d5 V e0;rcases List.eq_nil_or_concat p with rfl | ⟨q,x,rfl⟩
    ·have g5:Hid (Bb m ps us tn=((m.tasks.getD tn ([],[])).1).filter fun n=>!(!zj m tn n || decide (n∈us))):=by
      show Bb m ps us tn=_;unfold Bb;rw [if_pos (by have:=d8.out;omega),d8.out,Fx,Fw b7,zap,<-g6.out];rfl
     gi_wp2
     refine wpIn_wide.2 ?_;go_quiet ((go_at_call 199;refine (Bp _ (HS.out.ext (a4.drewN _)) (by omega)).mono ?_;rintro e w9 ⟨O,rfl⟩;rw [show (ps.length:Int) - 1=(t0:Int) from by omega] at O;exact ⟨O,⟨_,rfl⟩⟩))
     gi_wp2
     refine wpIn_wide.2 ?_;generalize b8:w3.drewN nq=w6;have b6:zT w3 w6:=⟨nq,b8.symm⟩;have E:za w3 w6:=b6.below _;have b9:=E;clear b8 b6;have I:za w w6:=a4.trans E;have a2:=E.cell o;have f0:=zh (HJ.out _ _ _ c6.out (E.mono a5));have c9:W.heap.size<=w6.heap.size:=FA a5 E.size;clear c6 a4 E a5;have a0:=zh a2;have e4:=zh ((Below.frozen b9 (p:=⟨b3,0,none⟩) (zo o)).trans c7);clear c7 o b9;have D:tn<m.tasks.length:=h8;obtain ⟨bt,offt,sn,u1,u2,rfl,_,f2,f3,h6,c8,h5⟩:=Bz i5.out D;have h7:=(SO.out.lens.tl _ (Fz D)).1;have a3:=SO.out.good.tn _ (Fz D);have a1:Hid (Bb m ps us tn=((m.tasks[tn]).1).filter fun n=>!(!zj m tn n || decide (n∈us))):=g5.out.trans (by rw [Fx,Fw D,zap]);obtain ⟨tk,f4⟩:=zaI (m.tasks[tn]);rw [<-f4] at c8 h7 a3 a1;clear f4 h5 f2 h6;have HF:=zh c8;obtain ⟨A5,c5,rfl,m6,_⟩:=c8;have g7:=zh a3;clear a3;have q1:=za.rule f3;have rb3:=za.rule a2;have G:=za.refl w6;have n4:(tn:Int)<(m.tasks.length:Int):=by omega
     have l4:(0:Int)<=(tn:Int):=by omega
     have k5:tn<m.free.length:=by have:=SO.out.good.fl;omega
     clear f3 a2;have m5:(0:Int)<=0/\(0:Int)<m.n:=by have:=SO.out.good.n1;unfold MZ.n;omega
     have q3:=rb3
     go_region_held3 (fun W'=>za w W'/\za w6 W')
      (first | (exact ⟨I.drew,G.drew⟩) | (exact ⟨I.drew.trans U.ext,G.drew.trans U.ext⟩) | (exact ⟨I.drew.trans a7.ext,G.drew.trans a7.ext⟩) | assumption)
      (first | ((go_at_call 92;refine (Ct _ (HF.out.below I.drew) (by omega)).mono ?_;rintro e w8 ⟨v8,rfl,a7⟩)) | ((go_at_call 228;refine (left11_del tn HS.out SO.out I.drew a7 (rb _ I.drew) (q3 _ G.drew) D (by omega) (fun x hx=>g7.out x (.inl hx))).mono ?_;rintro e w9 ⟨v9,rfl,U⟩)))
     all_goals
      have d6:za w w9:=I.drew.trans U.ext;have M:za w6 w9:=G.drew.trans U.ext
      have e6:Hid (zg w9 (fun _=>True) v9 (Bb m ps us tn)):=by
       have h1:=U.ints;rw [<-a1.out] at h1;exact h1.weaken fun _ _=>trivial
      have b4:=M.cell a0.out;have j9:w9.frozen? ⟨b3,0,none⟩=false:=(Below.frozen M (p:=⟨b3,0,none⟩) (zo a0.out)).trans e4.out;have e9:=zh (HJ.out _ _ _ f0.out (M.mono c9));have c0:W.heap.size<=w9.heap.size:=FA c9 M.size;have a9:=a8.out;clear U a7 M q3 rb3 G q1 I f0 c9 a0 e4;obtain ⟨fn,tmps,assign,body,hy,hR⟩:=HY.out k ((tn:Int),v9) w9 (by omega) e9.out ⟨by simp;omega,by have:=e6.out;rwa [show ps.length - 1+k=tn from by omega]⟩;have HR:=zh hR;clear hR a9;dsimp only at hy
      gi_wp2
      refine HR.out.mono ?_;rintro e w5 (⟨rfl,b0,Q⟩ | ⟨rfl,b1⟩)
      ·have b2:b3≠l:=by have:=g9.out;omega
       have e7:za w w5:=Bj d6 Q (FA hW.size c0) i2;have f9:w5.cell? ⟨b3,0,none⟩=some (.int .i64 (tn:Int)):=World.grownBy.cell Q b4 (fun e=>b2 (by injection e));have f6:W.heap.size<=w5.heap.size:=FA c0 Q.size;have e5:=zh b0;clear b0 Q hy
       gi_wp2
       exact left1_next a8 hk D (by have:=SO.out.good.tk;omega) i0 HJ e3 e7 e5 f6
      ·gi_wp2
       refine za5 (results_none rfl _ _ _) rfl ?_;exact ⟨⟨_,rfl⟩,.inr b1⟩
    ·rw [List.concat_eq_append] at*
     have a1:Hid (Bb m ps us tn=[x]):=by
      show Bb m ps us tn=_;unfold Bb;rw [if_pos (by have:=d8.out;omega),d8.out,Fx,Fw b7,zap,<-g6.out];simp
     obtain ⟨N,hN⟩:=zaI ((q++[x]).length);have p7:N=q.length+1:=by rw [hN];simp
     have l6:=i6.out;obtain ⟨A',c',g8,m7,l2⟩:=l6;obtain ⟨b5,o5,hA5,j4,g0⟩:=l2.2 (by simp);injection g8 with g8 i7 i9;subst g8 i9 hA5;have l8:w.cell? ⟨b5,o5+q.length,none⟩=some (.int .i64 x):=g0 q.length _ (by simp);have m1:=zh l8;have o1:b5<w.heap.size:=j4.2;clear g0 l8 l2 i7 m7 g6 i6 j4;rw [<-hN] at q0 m8 k9;have m4:(0:Int)<(N:Int):=by omega
     have p6:decide ((0:Int)<(N:Int))=true:=FB m4;have q8:IntKind.i64.wrap ((N:Int) - 1)=(q.length:Int):=by rw [zag];omega
     have o6:wrap64 ((N:Int) - 1)=(q.length:Int):=by rw [IntWalk.wrap64_in _ (by omega)];omega
     have q7:(0:Int)<=(q.length:Int)/\(q.length:Int)<=(N:Int):=by omega
     rw [<-hN];clear hN
     gi_wp2
     refine wpIn_wide.2 ?_;go_quiet ((go_at_call 199;refine (Bp _ (HS.out.ext (a4.drewN _)) (by omega)).mono ?_;rintro e w9 ⟨O,rfl⟩;rw [show (ps.length:Int) - 1=(t0:Int) from by omega] at O;exact ⟨O,⟨_,rfl⟩⟩))
     generalize b8:w3.drewN nq=w9;have b6:zT w3 w9:=⟨nq,b8.symm⟩;have E:za w3 w9:=b6.below _;clear b8 b6;have d6:za w w9:=a4.trans E;have b4:=E.cell o;have j9:w9.frozen? ⟨b3,0,none⟩=false:=(Below.frozen E (p:=⟨b3,0,none⟩) (zo o)).trans c7;have e9:=zh (HJ.out _ _ _ c6.out (E.mono a5));have c0:W.heap.size<=w9.heap.size:=FA a5 E.size;clear c6 a4 E a5 o c7;have D:tn<m.tasks.length:=h8;have a9:=a8.out
     have e6:Hid (zg w9 (fun _=>True) (.slice (some ⟨b5,o5+q.length,none⟩) 1 (cq - q.length)) (Bb m ps us tn)):=by
      show zg w9 _ _ (Bb m ps us tn);rw [a1.out];refine ⟨_,_,rfl,by simp;omega,by simp,fun _=>⟨b5,o5+q.length,rfl,trivial,?_⟩⟩;intro i u hi
      match i,hi with
      | 0,hi=>
       injection hi with hi;rw [<-hi];exact d6.cell m1.out
     obtain ⟨fn,tmps,assign,body,hy,hR⟩:=HY.out k ((tn:Int),(.slice (some ⟨b5,o5+q.length,none⟩) 1 (cq - q.length))) w9 (by omega) e9.out ⟨by simp;omega,by have:=e6.out;rwa [show ps.length - 1+k=tn from by omega]⟩;have HR:=zh hR;clear hR a9;dsimp only at hy
     gi_wp2
     refine HR.out.mono ?_;rintro e w5 (⟨rfl,b0,Q⟩ | ⟨rfl,b1⟩)
     ·have b2:b3≠l:=by have:=g9.out;omega
      have e7:za w w5:=Bj d6 Q (FA hW.size c0) i2;have f9:w5.cell? ⟨b3,0,none⟩=some (.int .i64 (tn:Int)):=World.grownBy.cell Q b4 (fun e=>b2 (by injection e));have f6:W.heap.size<=w5.heap.size:=FA c0 Q.size;have e5:=zh b0;clear b0 Q hy
      gi_wp2
      exact left1_next a8 hk D (by have:=SO.out.good.tk;omega) i0 HJ e3 e7 e5 f6
     ·gi_wp2
      refine za5 (results_none rfl _ _ _) rfl ?_;exact ⟨⟨_,rfl⟩,.inr b1⟩
   ·have o0:(t0:Int)<(tn:Int):=by have:=a8.out;omega
    have hd:((tn:Int)==(t0:Int))=false:=by rw [FM];omega
    have l0:min (tn:Int) (t0:Int)=(t0:Int):=by omega
    clear hk0
    gi_wp2
    refine wpIn_wide.2 ?_;go_quiet ((go_at_call 199;refine (Bp _ (HS.out.ext (d5.drewN _)) (by omega)).mono ?_;rintro e w9 ⟨O,rfl⟩;rw [show (ps.length:Int) - 1=(t0:Int) from by omega] at O;exact ⟨O,⟨_,rfl⟩⟩))
    generalize f5:w2.drewN nq=w3;have f1:zT w2 w3:=⟨nq,f5.symm⟩;have V:za w2 w3:=f1.below _;clear f5 f1;have a4:za w w3:=d5.trans V;have o:=V.cell a6;have c7:w3.frozen? ⟨b3,0,none⟩=false:=(Below.frozen V (p:=⟨b3,0,none⟩) (zo a6)).trans f7;have c6:=zh (HJ.out _ _ _ e8.out (V.mono e0));have a5:W.heap.size<=w3.heap.size:=FA e0 V.size;clear a6 f7 e8 d5 V e0
    have g5:Hid (Bb m ps us tn=((m.tasks.getD tn ([],[])).1).filter fun n=>!(!zj m tn n || decide (n∈us))):=by
     show Bb m ps us tn=_;unfold Bb;rw [if_neg (by omega)]
    gi_wp2
    refine wpIn_wide.2 ?_;go_quiet ((go_at_call 199;refine (Bp _ (HS.out.ext (a4.drewN _)) (by omega)).mono ?_;rintro e w9 ⟨O,rfl⟩;rw [show (ps.length:Int) - 1=(t0:Int) from by omega] at O;exact ⟨O,⟨_,rfl⟩⟩))
    gi_wp2
    refine wpIn_wide.2 ?_;generalize b8:w3.drewN nq=w6;have b6:zT w3 w6:=⟨nq,b8.symm⟩;have E:za w3 w6:=b6.below _;have b9:=E;clear b8 b6;have I:za w w6:=a4.trans E;have a2:=E.cell o;have f0:=zh (HJ.out _ _ _ c6.out (E.mono a5));have c9:W.heap.size<=w6.heap.size:=FA a5 E.size;clear c6 a4 E a5;have a0:=zh a2;have e4:=zh ((Below.frozen b9 (p:=⟨b3,0,none⟩) (zo o)).trans c7);clear c7 o b9;have D:tn<m.tasks.length:=h8;obtain ⟨bt,offt,sn,u1,u2,rfl,_,f2,f3,h6,c8,h5⟩:=Bz i5.out D;have h7:=(SO.out.lens.tl _ (Fz D)).1;have a3:=SO.out.good.tn _ (Fz D);have a1:Hid (Bb m ps us tn=((m.tasks[tn]).1).filter fun n=>!(!zj m tn n || decide (n∈us))):=g5.out.trans (by rw [Fx,Fw D,zap]);obtain ⟨tk,f4⟩:=zaI (m.tasks[tn]);rw [<-f4] at c8 h7 a3 a1;clear f4 h5 f2 h6;have HF:=zh c8;obtain ⟨A5,c5,rfl,m6,_⟩:=c8;have g7:=zh a3;clear a3;have q1:=za.rule f3;have rb3:=za.rule a2;have G:=za.refl w6;have n4:(tn:Int)<(m.tasks.length:Int):=by omega
    have l4:(0:Int)<=(tn:Int):=by omega
    have k5:tn<m.free.length:=by have:=SO.out.good.fl;omega
    clear f3 a2;have m5:(0:Int)<=0/\(0:Int)<m.n:=by have:=SO.out.good.n1;unfold MZ.n;omega
    have q3:=rb3
    go_region_held3 (fun W'=>za w W'/\za w6 W')
     (first | (exact ⟨I.drew,G.drew⟩) | (exact ⟨I.drew.trans U.ext,G.drew.trans U.ext⟩) | (exact ⟨I.drew.trans a7.ext,G.drew.trans a7.ext⟩) | assumption)
     (first | ((go_at_call 92;refine (Ct _ (HF.out.below I.drew) (by omega)).mono ?_;rintro e w8 ⟨v8,rfl,a7⟩)) | ((go_at_call 228;refine (left11_del tn HS.out SO.out I.drew a7 (rb _ I.drew) (q3 _ G.drew) D (by omega) (fun x hx=>g7.out x (.inl hx))).mono ?_;rintro e w9 ⟨v9,rfl,U⟩)))
    all_goals
     have d6:za w w9:=I.drew.trans U.ext;have M:za w6 w9:=G.drew.trans U.ext
     have e6:Hid (zg w9 (fun _=>True) v9 (Bb m ps us tn)):=by
      have h1:=U.ints;rw [<-a1.out] at h1;exact h1.weaken fun _ _=>trivial
     have b4:=M.cell a0.out;have j9:w9.frozen? ⟨b3,0,none⟩=false:=(Below.frozen M (p:=⟨b3,0,none⟩) (zo a0.out)).trans e4.out;have e9:=zh (HJ.out _ _ _ f0.out (M.mono c9));have c0:W.heap.size<=w9.heap.size:=FA c9 M.size;have a9:=a8.out;clear U a7 M q3 rb3 G q1 I f0 c9 a0 e4;obtain ⟨fn,tmps,assign,body,hy,hR⟩:=HY.out k ((tn:Int),v9) w9 (by omega) e9.out ⟨by simp;omega,by have:=e6.out;rwa [show ps.length - 1+k=tn from by omega]⟩;have HR:=zh hR;clear hR a9;dsimp only at hy
     gi_wp2
     refine HR.out.mono ?_;rintro e w5 (⟨rfl,b0,Q⟩ | ⟨rfl,b1⟩)
     ·have b2:b3≠l:=by have:=g9.out;omega
      have e7:za w w5:=Bj d6 Q (FA hW.size c0) i2;have f9:w5.cell? ⟨b3,0,none⟩=some (.int .i64 (tn:Int)):=World.grownBy.cell Q b4 (fun e=>b2 (by injection e));have f6:W.heap.size<=w5.heap.size:=FA c0 Q.size;have e5:=zh b0;clear b0 Q hy
      gi_wp2
      exact left1_next a8 hk D (by have:=SO.out.good.tk;omega) i0 HJ e3 e7 e5 f6
     ·gi_wp2
      refine za5 (results_none rfl _ _ _) rfl ?_;exact ⟨⟨_,rfl⟩,.inr b1⟩
  ·gi_wp2
   go_end0
   have n0:k=m.tasks.length+1 - ps.length:=by have:=a8.out;omega
   exact ⟨⟨_,rfl⟩,.inl (by rw [<-n0];exact e8.out)⟩
noncomputable def DA (m:MZ) (ps:List (List Int)) (us:List Int) (t:Nat):Bool:=((m.tasks.getD t ([],[])).2).any fun x=>decide (x∈Cq m t (Bb m ps us t) us)
def tasksN (m:MZ) (ps:List (List Int)):Nat:=if cmpB m ps=true then 0 else m.tasks.length+1 - ps.length
noncomputable def openB (m:MZ) (ps:List (List Int)) (us:List Int):Bool:=(List.range (tasksN m ps)).all fun k=>DA m ps us (ps.length - 1+k)
theorem left_calls (g:Nat) (w:World):Calls Tryz.prog 205 #[.pointer (some ⟨g,0,none⟩)] w fun e w'=>e=.returned (.func (.func 227) #[] #[.pointer (some ⟨w.heap.size,0,none⟩)])/\w'=w.alloc (.cells #[.pointer (some ⟨g,0,none⟩)] 198):=by
 go_enter Tryz.func205,Tryz.ntmps205
 go_wp2;go_ret;exact ⟨rfl,rfl⟩
theorem left1_none {ok:Nat->Prop} {m:MZ} {us:List Int} {g gu:Nat} {G:Nat->Int×Value->World->Prop} (w:World) (h:BN w ok g m ch ps us f u ts vc vp gu) (so:SOk m ch ps) (O:w.cell? ⟨gb,0,none⟩=some (.pointer (some ⟨g,0,none⟩))) (hp:cmpB m ps=true) (n:Nat) (hn:1<=n):
  GivesB n Tryz.prog 227 #[.pointer (some ⟨gb,0,none⟩)] (fun x:Int×Value=>#[.int .i64 x.1,x.2]) G 0 w:=by
 intro l J Jx W hW a0 hl M E V h0;have U:=zh h;clear h;have Q:=zh M;clear M E;have D:=zh h0;clear h0;have rb:=za.rule O;have SO:=zh so;clear so O V;refine callsIn_of_wp Tryz.func227 rfl trivial ?_ rfl;simp only [Tryz.ntmps227,List.size_toArray,zaG,zaH,Nat.reduceAdd,Nat.reduceSub,Array.replicate_succ,Array.replicate_zero,List.push_toArray,List.append_toArray,List.nil_append,List.cons_append]
 gi_wp2_with (refine ⟨trivial,?_⟩;gi_at_call 151;refine (callsIn_wide.2 (Db _ (U.out.ext hW) SO.out)).mono ?_;rintro e wA ⟨rfl,I⟩;rw [hp];have o:za W wA:=I.below _;have hA:za w wA:=hW.trans o)
 refine za5 (results_none rfl _ _ _) rfl ?_;exact ⟨⟨_,rfl⟩,.inl (Q.out _ _ _ D.out o)⟩
theorem left1_gives' {ok:Nat->Prop} {m:MZ} {us:List Int} {g gu:Nat} (w:World) (h:BN w ok g m ch ps us f u ts vc vp gu) (so:SOk m ch ps) (o:w.cell? ⟨gb,0,none⟩=some (.pointer (some ⟨g,0,none⟩))) (n:Nat) (D:1<=n):
  GivesB n Tryz.prog 227 #[.pointer (some ⟨gb,0,none⟩)] (fun x:Int×Value=>#[.int .i64 x.1,x.2]) (fun k x W=>x.1=((ps.length - 1+k:Nat):Int)/\zg W (fun _=>True) x.2 (Bb m ps us (ps.length - 1+k))) (tasksN m ps) w:=by
 unfold tasksN;by_cases hp:cmpB m ps=true
 ·rw [if_pos hp];exact left1_none w h so o hp n D
 ·rw [if_neg hp];exact left1_gives w h so o (by simpa using hp) n D
theorem Ba.apart {w:World} {ok:Nat->Prop} {size n b:Nat} {A:Option Addr} {xs:List Value} {r:Loop} (h:Ba w ok size A n xs) (I:0<size) (E:w.heap[b]?=some (.loop r)):Ba w (fun k=>ok k/\k≠b) size A n xs:=by
 refine ⟨h.1,fun D=>?_⟩;obtain ⟨k,off,e,G,o⟩:=h.2 D;have h0:0<xs.length:=by rw [h.1];exact Nat.mul_pos D I
 refine ⟨k,off,e,⟨G,?_⟩,o⟩;rintro rfl;have h1:=o 0 _ (Fw h0);unfold World.cell? at h1;simp only [E] at h1;cases h1
theorem zg.apart {w:World} {ok:Nat->Prop} {v:Value} {l:List Int} {b:Nat} {r:Loop} (h:zg w ok v l) (o:w.heap[b]?=some (.loop r)):zg w (fun k=>ok k/\k≠b) v l:=by
 obtain ⟨A,c,e,D,E⟩:=h;exact ⟨A,c,e,D,E.apart (by decide) o⟩
theorem zG:Tryz.prog.follows .mixedOrders=true:=by kernel_rfl
theorem results_bool {fn:Func} {p w2:Nat} {b:Bool} (h:fn.results=#[.cell p 4]) (tmps:Array Value) (w:World) (hp:tmps.getD p undef=.pointer (some ⟨w2,0,none⟩)) (D:w.cell? ⟨w2,0,none⟩=some (.bool b)):(results fn tmps).run Tryz.prog w=.ok (.bool b) w:=by
 have o:tmps[p]?.getD undef=.pointer (some ⟨w2,0,none⟩):=by simpa using hp
 simp [results,h,o,asAddr,go_sem,D]
theorem tasksN_lt {m:MZ} {t:Nat} (so:SOk m ch ps) (o:k<tasksN m ps) (ht:t=ps.length - 1+k):t<m.tasks.length:=by
 unfold tasksN at o
 split at o
 ·omega
 ·rename_i h
  have h0:0<m.tasks.length:=by
   rcases zav m.tasks.length with h0 | h0
   ·exfalso;apply h;unfold cmpB;rw [FB h0];rfl
   ·exact h0
  have:=so.pn h0;have:=so.pl;omega
theorem fromL_len {m:MZ} {us:List Int} {t:Nat} (so:SOk m ch ps) (ht:t<m.tasks.length):(Bb m ps us t).length<=20000000000000:=by
 unfold Bb
 split
 ·simp
 ·refine FA (zan _ _) ?_;rw [Fx,Fw ht,zap];have:=(so.lens.tl _ (Fz ht)).1;omega
structure JO (W0:World) (g gu:Nat) (m:MZ) (frm us:List Int) (t:Nat) (x2 MV:Value) (e:Nat->Bool) (v:Nat->Value) (W:World):Prop where
 ext:za W0 W
 v0:e 0=true->v 0=.pointer (some ⟨g,0,none⟩)
 v1:e 1=true->v 1=.pointer (some ⟨g,0,none⟩)
 v2:e 2=true->v 2=.pointer (some ⟨g,0,none⟩)
 v3:e 3=true->v 3=MV
 v4:e 4=true->v 4=.int .i64 (t:Int)
 v5:e 5=true->v 5=x2
 v6:e 6=true->v 6=.pointer (some ⟨g,0,none⟩)
 v7:e 7=true->v 7=.pointer (some ⟨g,0,none⟩)
 v8:e 8=true->v 8=.pointer (some ⟨g,8,none⟩)
 v9:e 9=true->v 9=.map (some gu)
 call:e 10=true->∃gs s,v 10=.map (some gs)/\W0.heap.size<=gs/\zW W gs s/\∀x,x∈s↔RP m t frm us x
 al:e 11=true->∃g5,v 11=.pointer (some ⟨g5,0,none⟩)/\W0.heap.size<=g5/\(e 12=false->ze W g5 205 #[.map none])/\(e 12=true->W.cell? ⟨g5,0,none⟩=some (v 10))
 d12:e 12=true->e 10=true/\e 11=true
section
variable {W0 W W':World} {g gu:Nat} {m:MZ} {frm us:List Int} {t:Nat} {x2 MV:Value} {e:Nat->Bool} {v:Nat->Value}
theorem JO.n12 (h:JO W0 g gu m frm us t x2 MV e v W) (o:e 10=false):e 12=false:=notT (fun a=>(h.d12 a).1) o
theorem JO.n12' (h:JO W0 g gu m frm us t x2 MV e v W) (o:e 11=false):e 12=false:=notT (fun a=>(h.d12 a).2) o
theorem JO.init (he:∀j∈[0,1,2,3,4,5,6,7,8,9,10,11,12],e j=false):JO W0 g gu m frm us t x2 MV e v { W0 with drawn:=W0.drawn+1 }:=
 ⟨DV,fun a=>ff (he 0 (by simp)) a,fun a=>ff (he 1 (by simp)) a,fun a=>ff (he 2 (by simp)) a,fun a=>ff (he 3 (by simp)) a,fun a=>ff (he 4 (by simp)) a,fun a=>ff (he 5 (by simp)) a,fun a=>ff (he 6 (by simp)) a,fun a=>ff (he 7 (by simp)) a,fun a=>ff (he 8 (by simp)) a,fun a=>ff (he 9 (by simp)) a,fun a=>ff (he 10 (by simp)) a,fun a=>ff (he 11 (by simp)) a,fun a=>ff (he 12 (by simp)) a⟩
theorem JO.s0 (h:JO W0 g gu m frm us t x2 MV e v W):JO W0 g gu m frm us t x2 MV (AY e 0 true) (AY v 0 (.pointer (some ⟨g,0,none⟩))) W:=
 ⟨h.ext,fun _=>rfl,h.v1,h.v2,h.v3,h.v4,h.v5,h.v6,h.v7,h.v8,h.v9,h.call,h.al,h.d12⟩
theorem JO.s1 (h:JO W0 g gu m frm us t x2 MV e v W):JO W0 g gu m frm us t x2 MV (AY e 1 true) (AY v 1 (.pointer (some ⟨g,0,none⟩))) W:=
 ⟨h.ext,h.v0,fun _=>rfl,h.v2,h.v3,h.v4,h.v5,h.v6,h.v7,h.v8,h.v9,h.call,h.al,h.d12⟩
theorem JO.s2 (h:JO W0 g gu m frm us t x2 MV e v W):JO W0 g gu m frm us t x2 MV (AY e 2 true) (AY v 2 (.pointer (some ⟨g,0,none⟩))) W:=
 ⟨h.ext,h.v0,h.v1,fun _=>rfl,h.v3,h.v4,h.v5,h.v6,h.v7,h.v8,h.v9,h.call,h.al,h.d12⟩
theorem JO.s3 (h:JO W0 g gu m frm us t x2 MV e v W):JO W0 g gu m frm us t x2 MV (AY e 3 true) (AY v 3 (MV)) W:=
 ⟨h.ext,h.v0,h.v1,h.v2,fun _=>rfl,h.v4,h.v5,h.v6,h.v7,h.v8,h.v9,h.call,h.al,h.d12⟩
theorem JO.s4 (h:JO W0 g gu m frm us t x2 MV e v W):JO W0 g gu m frm us t x2 MV (AY e 4 true) (AY v 4 (.int .i64 (t:Int))) W:=
 ⟨h.ext,h.v0,h.v1,h.v2,h.v3,fun _=>rfl,h.v5,h.v6,h.v7,h.v8,h.v9,h.call,h.al,h.d12⟩
theorem JO.s5 (h:JO W0 g gu m frm us t x2 MV e v W):JO W0 g gu m frm us t x2 MV (AY e 5 true) (AY v 5 (x2)) W:=
 ⟨h.ext,h.v0,h.v1,h.v2,h.v3,h.v4,fun _=>rfl,h.v6,h.v7,h.v8,h.v9,h.call,h.al,h.d12⟩
theorem JO.s6 (h:JO W0 g gu m frm us t x2 MV e v W):JO W0 g gu m frm us t x2 MV (AY e 6 true) (AY v 6 (.pointer (some ⟨g,0,none⟩))) W:=
 ⟨h.ext,h.v0,h.v1,h.v2,h.v3,h.v4,h.v5,fun _=>rfl,h.v7,h.v8,h.v9,h.call,h.al,h.d12⟩
theorem JO.s7 (h:JO W0 g gu m frm us t x2 MV e v W):JO W0 g gu m frm us t x2 MV (AY e 7 true) (AY v 7 (.pointer (some ⟨g,0,none⟩))) W:=
 ⟨h.ext,h.v0,h.v1,h.v2,h.v3,h.v4,h.v5,h.v6,fun _=>rfl,h.v8,h.v9,h.call,h.al,h.d12⟩
theorem JO.s8 (h:JO W0 g gu m frm us t x2 MV e v W):JO W0 g gu m frm us t x2 MV (AY e 8 true) (AY v 8 (.pointer (some ⟨g,8,none⟩))) W:=
 ⟨h.ext,h.v0,h.v1,h.v2,h.v3,h.v4,h.v5,h.v6,h.v7,fun _=>rfl,h.v9,h.call,h.al,h.d12⟩
theorem JO.s9 (h:JO W0 g gu m frm us t x2 MV e v W):JO W0 g gu m frm us t x2 MV (AY e 9 true) (AY v 9 (.map (some gu))) W:=
 ⟨h.ext,h.v0,h.v1,h.v2,h.v3,h.v4,h.v5,h.v6,h.v7,h.v8,fun _=>rfl,h.call,h.al,h.d12⟩
theorem JO.s10 (h:JO W0 g gu m frm us t x2 MV e v W) (o:e 12=false) (E:za W W') (G:W0.heap.size<=gs) (I:zW W' gs s) (D:∀x,x∈s↔RP m t frm us x):
  JO W0 g gu m frm us t x2 MV (AY e 10 true) (AY v 10 (.map (some gs))) W':=
 ⟨h.ext.trans E,h.v0,h.v1,h.v2,h.v3,h.v4,h.v5,h.v6,h.v7,h.v8,h.v9,fun _=>⟨gs,s,rfl,G,I,D⟩,fun a=>(by
  obtain ⟨g5,h1,h2,h3,_⟩:=h.al a;exact ⟨g5,h1,h2,fun _=>(h3 o).ext E,fun b=>ff (b:=e 12) o b⟩),fun a=>ff (b:=e 12) o a⟩
theorem JO.s11 (h:JO W0 g gu m frm us t x2 MV e v W) (o:e 12=false):
  JO W0 g gu m frm us t x2 MV (AY e 11 true) (AY v 11 (.pointer (some ⟨W.heap.size,0,none⟩))) (W.alloc (.cells #[.map none] 205)):=
 ⟨h.ext.alloc _,h.v0,h.v1,h.v2,h.v3,h.v4,h.v5,h.v6,h.v7,h.v8,h.v9,fun a=>(by
  obtain ⟨gs,s,h1,h2,h3,h4⟩:=h.call a;exact ⟨gs,s,h1,h2,h3.below ((za.refl _).alloc _),h4⟩),fun _=>⟨_,rfl,h.ext.size,fun _=>ze.new _ _ _ rfl,fun b=>ff (b:=e 12) o b⟩,fun a=>ff (b:=e 12) o a⟩
theorem JO.s12 {g5:Nat} {x:Value} (h:JO W0 g gu m frm us t x2 MV e v W) (D:v 11=.pointer (some ⟨g5,0,none⟩)) (o:v 10=.map (some gs)) (M:W0.heap.size<=g5) (J:ze W g5 205 #[.map none]) (E:e 10=true) (G:e 11=true):
  JO W0 g gu m frm us t x2 MV (AY e 12 true) (AY v 12 x) (W.setCell ⟨g5,0,none⟩ (.map (some gs))):=
 ⟨h.ext.setCell (p:=⟨g5,0,none⟩) M _,h.v0,h.v1,h.v2,h.v3,h.v4,h.v5,h.v6,h.v7,h.v8,h.v9,fun a=>(by
  obtain ⟨gs',s,h1,h2,h3,h4⟩:=h.call a;refine ⟨gs',s,h1,h2,?_,h4⟩;have I:g5≠gs':=blk_set_ne J h3
  exact (FH W ⟨g5,0,none⟩ _ gs' (fun e=>I e.symm)).trans h3),fun _=>⟨g5,D,M,fun a=>(by cases a),fun _=>by
   show _=some (v 10);rw [o];exact (J.set (k:=0) _).cell (k:=0) rfl⟩,fun _=>⟨E,G⟩⟩
end
theorem open_calls {ok:Nat->Prop} {m:MZ} {us:List Int} {g gu:Nat} (w:World) (h:BN w ok g m ch ps us f u ts vc vp gu) (so:SOk m ch ps):
  Calls Tryz.prog 150 #[.pointer (some ⟨g,0,none⟩)] w fun e w'=>e=.returned (.bool (openB m ps us))/\za w w':=by
 refine (callsIn_wide (n:=6)).1 ?_;have HS:=zh h;have SO:=zh so;obtain ⟨r0,r1,r2,r3,r4,r5,r6,r7,r8⟩:=h.rules;clear h;refine callsIn_of_wp_marks Tryz.func150 rfl trivial ?_ rfl;simp only [Tryz.ntmps150,List.size_toArray,zaG,zaH,Nat.reduceAdd,Nat.reduceSub,Array.replicate_succ,Array.replicate_zero,List.push_toArray,List.append_toArray,List.nil_append,List.cons_append]
 gi_wp2_with (refine ⟨trivial,?_⟩;gi_at_call 205;refine (callsIn_wide.2 (left_calls _ _)).mono ?_;rintro e w1 ⟨rfl,rfl⟩)
 obtain ⟨w1,a3⟩:=zaI (((w.alloc (.cells #[.pointer (some ⟨g,0,none⟩)] 198)).alloc (.cells #[.bool false] 4)).alloc (.cells #[.pointer (some ⟨g,0,none⟩)] 198));rw [<-a3];have a6:za w w1:=by rw [a3];exact (((za.refl w).alloc _).alloc _).alloc _
 have j8:w1.heap.size=w.heap.size+3:=by rw [a3];simp
 have g4:w1.cell? ⟨w.heap.size,0,none⟩=some (.pointer (some ⟨g,0,none⟩)):=by
  rw [a3];exact za.cell (zy w _ _ rfl) (((za.refl _).alloc _).alloc _)
 have c9:w1.cell? ⟨w.heap.size+1,0,none⟩=some (.bool false)/\w1.frozen? ⟨w.heap.size+1,0,none⟩=false:=by
  rw [a3];constructor
  ·exact za.cell (zy _ _ _ (by simp)) ((za.refl _).alloc _)
  ·rw [World.frozen?_alloc_past _ _ _ (by simp)];exact World.frozen?_alloc_at _ _ _ _ (by simp)
 have c0:w1.cell? ⟨w.heap.size+1+1,0,none⟩=some (.pointer (some ⟨g,0,none⟩)):=by
  rw [a3];exact zy _ _ _ (by simp)
 clear a3;have rb:=za.rule g4;obtain ⟨tn0,i4⟩:=zaI (ps.length - 1);obtain ⟨w2,b7⟩:=zaI (w.heap.size+1);rw [<-b7] at c9⊢;have a0:w2<w1.heap.size:=by omega
 have e5:=zh b7;rw [<-b7] at c0;clear b7
 refine wpIn_loopB (gf:=227) (lb:=#[.pointer (some ⟨w2+1,0,none⟩)]) rfl (enters_of Tryz.func227 (by kernel_rfl) rfl) (left1_gives' w1 (HS.out.ext a6) SO.out c0 _ (by omega)) (za.refl w1) (fun _=>rfl)
  (fun k W=>za w1 W/\(∀j,j<k->DA m ps us (ps.length - 1+j)=true)/\W.frozen? ⟨w2,0,none⟩=false/\∃b,W.cell? ⟨w2,0,none⟩=some (.bool b))
  (fun c W=>c=.ret/\za w W/\W.cell? ⟨w2,0,none⟩=some (.bool false)/\openB m ps us=false)
  ?hI ?hIx ?hG ⟨za.refl w1,fun _ h=>absurd h (by omega),c9.2,_,c9.1⟩ (fun x=>{ tmps:=#[Value.pointer (some ⟨g,0,none⟩),Value.pointer (some ⟨w.heap.size,0,none⟩),Value.pointer (some ⟨w2,0,none⟩),.int .i64 x.1,x.2,undef,Value.pointer (some ⟨g,0,none⟩),
    Value.func (Fn.func 227) #[] #[Value.pointer (some ⟨w2+1,0,none⟩)],.int .i64 x.1,x.2,undef,undef,undef,undef,undef,undef,undef,undef,undef,undef,undef,undef,undef,undef,undef,undef,undef,undef,undef,undef,undef,undef,undef],defers:=[] }) ?assign ?body ?done ?stop
 case hI=>
  rintro k A B ⟨h1,h2,h3,b,h4⟩ a5;have V:=a0;exact ⟨Below.trans h1 a5,h2,(a5.frozen (p:=⟨w2,0,none⟩) V).trans h3,b,(a5.cell (p:=⟨w2,0,none⟩) V).trans h4⟩
 case hIx=>
  rintro c A B ⟨h1,h2,h3,h4⟩ a5;have V:=a0;exact ⟨h1,Below.trans h2 (a5.mono a6.size),(a5.cell (p:=⟨w2,0,none⟩) V).trans h3,h4⟩
 case hG=>
  rintro k x A l ⟨h1,h2⟩ j2 j3 ⟨r,hr⟩ o;exact ⟨h1,((h2.apart hr).keep fun b hb V=>World.putObj_heap_other hb.2).weaken fun _ h=>h.1⟩
 case assign=>
  intro l x W K G
  gi_wp2
  exact G
 case body=>
  rintro l k ⟨x1,x2⟩ W0 hk ⟨U,a4,hfz,b,a8⟩ ⟨e0,b8⟩ j5;dsimp only at e0 b8⊢;obtain ⟨t,ht⟩:=zaI (ps.length - 1+k);rw [<-ht] at e0 b8;subst e0;have O:za w W0:=a6.trans U;have HX:=zh b8;clear b8;obtain ⟨frm,b2⟩:=zaI (Bb m ps us t);rw [<-b2] at HX;have b9:=zh b2;clear b2;have b5:t<m.tasks.length:=tasksN_lt SO.out hk ht;have h7:t<m.free.length:=by rw [SO.out.good.fl];exact b5
  have j1:frm.length<=20000000000000:=by rw [b9.out];exact fromL_len SO.out b5
  have g9:=HS.out.maze;obtain ⟨fr',up',ts',a9,_,_,f5⟩:=g9;injection a9 with a9;injection a9 with a9;simp only [List.cons.injEq,and_true,true_and] at a9;obtain ⟨rfl,rfl,rfl⟩:=a9;have g1:=zh f5;obtain ⟨vst,⟨At,ct,rfl,i9,_⟩,_⟩:=f5;obtain ⟨bt,offt,sn,u1,u2,rfl,_,f3,g8,f4,g7,d6⟩:=Bz g1.out b5;have c6:=(SO.out.lens.tl _ (Fz b5)).2;obtain ⟨tl2,d9⟩:=zaI ((m.tasks[t]).2);rw [<-d9] at d6 c6;have g0:=zh d9;clear d9 g7 f3 g8;have f8:=zh d6;obtain ⟨A5,c5,rfl,a7,_⟩:=d6;have q2:=za.rule f4;clear f4;have j7:(t:Int)<(m.tasks.length:Int):=by omega
  have i3:(0:Int)<=(t:Int):=by omega
  have j6:=SO.out.good.tk;obtain ⟨MV,f0⟩:=zaI (Value.agg #[.int .i64 m.w,.int .i64 m.h,.int .i64 m.l,f,u,.slice (some ⟨bt,offt,none⟩) m.tasks.length ct]);have HT:=zh ht;clear ht;have e2:=zh a4;clear a4;have e4:=zh hfz;clear hfz;have e3:=zh a8;clear a8
  gi_wp2
  refine wpIn_region_any zG ?_;simp only [List.size_toArray,zaG,zaH,Nat.reduceAdd,Array.replicate_succ,Array.replicate_zero,List.push_toArray,List.nil_append,List.cons_append];refine wpAnyIn_by_invF _ _ (by kernel_rfl) [0,1,2,3,4,5,6,7,8,9,10,11,12] (fun e v W=>JO W0 g gu m frm us t x2 MV e v W) (F:=?F1) (by kernel_rfl) (by kernel_rfl) (by decide) (fun v=>?hF1) ?init1 (by kernel_rfl) ?steps1 ?fin1
  case hF1=>(simp only [Ae,CT,List.getElem?_toArray,List.getElem?_cons_succ,List.getElem?_cons_zero,Option.bind,Act.put,List.setIfInBounds_toArray,List.set_cons_succ,List.set_cons_zero];rfl)
  case init1=>
   intro e v he;exact JO.init he
  case steps1=>
   refine zl.cons rfl (fun e v W K E hW he J G=>?_) ?_
   ·simp only [zc] at J G⊢;have M:za w W:=O.trans E.ext;have I:za w1 W:=U.trans E.ext;go_simp;exact G.out _ _ _ (by rfl) trivial E.s0
   refine zl.cons rfl (fun e v W K E hW he J G=>?_) ?_
   ·simp only [zc] at J G⊢;have M:za w W:=O.trans E.ext;have I:za w1 W:=U.trans E.ext;have v0:=E.v0 (zC J [0] (by kernel_rfl) 0 (by simp));go_simp;exact G.out _ _ _ (by simp [Act.put,v0]) trivial E.s1
   refine zl.cons rfl (fun e v W K E hW he J G=>?_) ?_
   ·simp only [zc] at J G⊢;have M:za w W:=O.trans E.ext;have I:za w1 W:=U.trans E.ext;have v1:=E.v1 (zC J [1] (by kernel_rfl) 1 (by simp));go_simp;exact G.out _ _ _ (by simp [Act.put,v1]) trivial E.s2
   refine zl.cons rfl (fun e v W K E hW he J G=>?_) ?_
   ·simp only [zc] at J G⊢;have M:za w W:=O.trans E.ext;have I:za w1 W:=U.trans E.ext;have v2:=E.v2 (zC J [2] (by kernel_rfl) 2 (by simp));go_simp;exact G.out _ _ _ (by simp [Act.put,v2,f0]) trivial E.s3
   refine zl.cons rfl (fun e v W K E hW he J G=>?_) ?_
   ·simp only [zc] at J G⊢;have M:za w W:=O.trans E.ext;have I:za w1 W:=U.trans E.ext;go_simp;exact G.out _ _ _ (by rfl) trivial E.s4
   refine zl.cons rfl (fun e v W K E hW he J G=>?_) ?_
   ·simp only [zc] at J G⊢;have M:za w W:=O.trans E.ext;have I:za w1 W:=U.trans E.ext;go_simp;exact G.out _ _ _ (by rfl) trivial E.s5
   refine zl.cons rfl (fun e v W K E hW he J G=>?_) ?_
   ·simp only [zc] at J G⊢;have M:za w W:=O.trans E.ext;have I:za w1 W:=U.trans E.ext;go_simp;exact G.out _ _ _ (by rfl) trivial E.s6
   refine zl.cons rfl (fun e v W K E hW he J G=>?_) ?_
   ·simp only [zc] at J G⊢;have M:za w W:=O.trans E.ext;have I:za w1 W:=U.trans E.ext;have v6:=E.v6 (zC J [6] (by kernel_rfl) 6 (by simp));go_simp;exact G.out _ _ _ (by simp [Act.put,v6]) trivial E.s7
   refine zl.cons rfl (fun e v W K E hW he J G=>?_) ?_
   ·simp only [zc] at J G⊢;have M:za w W:=O.trans E.ext;have I:za w1 W:=U.trans E.ext;have v7:=E.v7 (zC J [7] (by kernel_rfl) 7 (by simp));go_simp;exact G.out _ _ _ (by simp [Act.put,v7]) trivial E.s8
   refine zl.cons rfl (fun e v W K E hW he J G=>?_) ?_
   ·simp only [zc] at J G⊢;have M:za w W:=O.trans E.ext;have I:za w1 W:=U.trans E.ext;have v8:=E.v8 (zC J [8] (by kernel_rfl) 8 (by simp));go_simp;exact G.out _ _ _ (by simp [Act.put,v8]) trivial E.s9
   refine zl.cons rfl (fun e v W K E hW he J G=>?_) ?_
   ·simp only [zc] at J G⊢;have M:za w W:=O.trans E.ext;have I:za w1 W:=U.trans E.ext;have v3:=E.v3 (zC J [3,4,5,9] (by kernel_rfl) 3 (by simp));have v4:=E.v4 (zC J [3,4,5,9] (by kernel_rfl) 4 (by simp));have v5:=E.v5 (zC J [3,4,5,9] (by kernel_rfl) 5 (by simp));have v9:=E.v9 (zC J [3,4,5,9] (by kernel_rfl) 9 (by simp));have c8:e 12=false:=E.n12 he;go_simp;go_at_call 206;refine (reach_calls t W (HS.out.maze.below M) SO.out.good.dim h7 SO.out.good.fn (HX.out.below E.ext) (by omega) (HS.out.us.below M)).mono ?_;rintro e9 w9 ⟨s,rfl,g3,h6,b4⟩;go_simp;exact G.out _ _ _ (by simp [Act.put,v3,v4,v5,v9,f0]) trivial (E.s10 c8 g3 (by have:=E.ext.size;omega) h6 b4)
   refine zl.cons rfl (fun e v W K E hW he J G=>?_) ?_
   ·simp only [zc] at J G⊢;have M:za w W:=O.trans E.ext;have I:za w1 W:=U.trans E.ext;have c8:e 12=false:=E.n12' he;go_simp;exact G.out _ _ _ (by rfl) trivial (E.s11 c8)
   refine zl.cons rfl (fun e v W K E hW he J G=>?_) ?_
   ·simp only [zc] at J G⊢;have M:za w W:=O.trans E.ext;have I:za w1 W:=U.trans E.ext;have e6:e 10=true:=zC J [10,11] (by kernel_rfl) 10 (by simp);have e7:e 11=true:=zC J [10,11] (by kernel_rfl) 11 (by simp);obtain ⟨g5,a2,f2,b0,_⟩:=E.al e7;have b0:=b0 he;have hf:=fun k=>b0.frozen k
    have i7:=b0.cell (k:=0) rfl;obtain ⟨gs,s,a1,g6,d8,b4⟩:=E.call e6;go_simp;exact G.out _ undef _ (by simp [Act.put,a1,a2]) trivial (E.s12 a2 a1 f2 b0 e6 e7)
   exact zl.nil
  case fin1=>
   intro v W5 E;have v10e:=E.call rfl;obtain ⟨gs,s,a1,g6,d8,b4⟩:=v10e;obtain ⟨g5,a2,f2,_,a7⟩:=E.al rfl;have a7:=a7 rfl;rw [a1] at a7;have b6:za W0 W5:=E.ext;have M:za w W5:=O.trans b6;have I:za w1 W5:=U.trans b6;have HJ:=zh E;clear E;have f9:=zh b4;clear b4;rw [a2];clear a1 a2
   have HC:=zh (BC (l:=tl2) 207 #[.pointer (some ⟨g5,0,none⟩)] (fun x=>decide (x∈s)) W5 (f8.out.below M) (by omega) (BT (P:=Tryz.prog) Tryz.func207 (by kernel_rfl) (by kernel_rfl))
    (fun x _ wa J=>by
     have e8:za W5 wa:=J.below _;refine (open1_calls x wa (d8.below e8) (za.cell a7 e8)).mono ?_;rintro e wb ⟨rfl,rfl⟩;exact ⟨rfl,zT.refl _⟩))
   have c7:Hid (DA m ps us t=tl2.any fun x=>decide (x∈s)):=by
    show DA m ps us t=_;unfold DA;rw [g0.out,Fx,Fw b5,zap,<-b9.out];congr 1;funext x;rw [decide_eq_decide,CN SO.out.good.dim];exact (f9.out x).symm
   generalize (tl2.any fun x=>decide (x∈s))=bb at HC c7;clear d8 a7
   cases bb with
   | true=>
    gi_wp2_with fail
    refine ⟨trivial,?_⟩;refine (CallsIn.inRound l (callsIn_wide.2 HC.out)).mono ?_;rintro e w6 ⟨rfl,b1⟩;have e1:za W5 w6:=b1.below _;clear b1;have Q:za W0 w6:=b6.trans e1
    gi_wp2_with fail
    have V:=zam a0 U.size;refine ⟨Q,U.trans Q,fun j hj=>?_,(Below.frozen Q (p:=⟨w2,0,none⟩) V).trans e4.out,b,(Below.cell Q (p:=⟨w2,0,none⟩) V).trans e3.out⟩;rcases zah j k with h | h
    ·exact e2.out j h
    ·rw [show j=k from by omega,<-HT.out];exact c7.out
   | false=>
    gi_wp2_with fail
    refine ⟨trivial,?_⟩;refine (CallsIn.inRound l (callsIn_wide.2 HC.out)).mono ?_;rintro e w6 ⟨rfl,b1⟩;have e1:za W5 w6:=b1.below _;clear b1;have Q:za W0 w6:=b6.trans e1;have V:=zam a0 U.size;have f1:w6.cell? ⟨w2,0,none⟩=some (.bool b):=(Below.cell Q (p:=⟨w2,0,none⟩) V).trans e3.out;have i0:w6.frozen? ⟨w2,0,none⟩=false:=(Below.frozen Q (p:=⟨w2,0,none⟩) V).trans e4.out;have d5:w.heap.size<=w2:=by have:=e5.out;omega
    gi_wp2_with fail
    refine ⟨fun k' h1 h2=>(FH w6 ⟨w2,0,none⟩ _ k' (by show k'≠w2;omega)).trans (Q.block k' h2),rfl,(O.trans Q).setCell (p:=⟨w2,0,none⟩) d5 _,World.cell?_setCell_same' _ _ _ (by rw [f1];rfl),?_⟩;unfold openB;rw [List.all_eq_false];exact ⟨k,zaB.2 hk,by rw [<-HT.out,c7.out];simp⟩
 case done=>
  rintro D W hD ⟨U,a4,hfz,b,a8⟩ G;have c6:w2<W.heap.size:=zam a0 U.size
  gi_wp2
  refine ⟨by simp,.inl ⟨_,_,rfl,run_takeDeferred ((FH W ⟨w2,0,none⟩ _ D (by show D≠w2;omega)).trans G),?_⟩⟩;have d7:w2≠D:=by omega
  refine ⟨_,results_bool (w2:=w2) (b:=true) rfl _ _ rfl ?_,zm ?_,?_⟩
  ·exact (zaa (World.putObj_heap_other d7)).trans (World.cell?_setCell_same' _ _ _ (by rw [a8];rfl))
  ·unfold openB;symm;rw [zaF];exact fun j hj=>a4 j (zaB.1 hj)
  ·have d5:w.heap.size<=w2:=by have:=e5.out;omega
   exact ((a6.trans U).setCell (p:=⟨w2,0,none⟩) d5 _).trans (belowK_b (w:=w) (Fy _) _ D _ _ (by have:=a6.size;omega) ((FH W ⟨w2,0,none⟩ _ D (by show D≠w2;omega)).trans G) rfl rfl)
 case stop=>
  rintro D c W hD ⟨rfl,U,a8,h5⟩ G
  gi_wp2
  refine ⟨by simp,.inl ⟨_,_,rfl,run_takeDeferred G,?_⟩⟩;have d7:w2≠D:=by omega
  refine ⟨_,results_bool (w2:=w2) (b:=false) rfl _ _ rfl ?_,zm h5.symm,?_⟩
  ·exact (zaa (World.putObj_heap_other d7)).trans a8
  ·exact Below.trans U (belowK_b (w:=w) (Fy _) _ D _ _ (by have:=a6.size;omega) G rfl rfl)
end
end Go.Proofs.YtjomnbdjajjgfaaGreatDoor
