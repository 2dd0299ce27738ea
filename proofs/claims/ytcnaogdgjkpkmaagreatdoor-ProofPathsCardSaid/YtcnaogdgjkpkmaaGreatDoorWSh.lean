import Derived.Test.YtcnaogdgjkpkmaaGreatDoorWSg
import Derived.Shelf.SlicesE.DeleteFunc
import Derived.Ground.SlgfProg
set_option linter.unusedVariables false
set_option linter.unusedSimpArgs false
set_option maxRecDepth 100000
set_option maxHeartbeats 16000000
namespace Go.Proofs.YtcnaogdgjkpkmaaGreatDoor
variable {x y:Int} {l q s:List Int} {m:MZ} {B g gn:Nat} {w' wr:World}
section
open Go.RowKit
attribute [local go_sem ↓] Go.wp_at_zero Go.wp_at_succ
def zL (m:MZ) (us:List Int) (t:Nat) (q from_:List Int) (n:Int):Bool:=zl m t n && !decide (n∈us) && !(q.any fun y=>decide (n∈zu m y)) && !decide (n∈from_)
def BZ (m:MZ) (ps:List (List Int)) (us:List Int):List Int:=
 if cmpB m ps=true then []
 else match (ps.getD (ps.length - 1) []).getLast? with
  | none=>(Lib.compact (Cd (m.tasks.getD (ps.length - 1) ([],[])).1)).filter fun n=>zl m (ps.length - 1) n && !decide (n∈us)
  | some x=>(zu m x).filter (zL m us (ps.length - 1) (ps.getD (ps.length - 1) []).dropLast (m.tasks.getD (ps.length - 1) ([],[])).1)
theorem mem_sortL:x∈Cd l↔x∈l:=by unfold Cd;exact (List.mergeSort_perm _ _).mem_iff
theorem compact_len (l:List Int):(Lib.compact l).length<=l.length:=by
 unfold Lib.compact Lib.compactUpTo;rw [El];exact DE (Ef _ _) (by simp)
theorem Dp (h:x∈Lib.compact l):x∈l:=by
 unfold Lib.compact Lib.compactUpTo at h;obtain ⟨j,o,rfl⟩:=Ey.1 h;have d:j<l.length:=by simpa using (Ex.1 o).1
 simp [getElem!_pos,d]
theorem path_cell {w:World} {ok:Nat->Prop} {A:Option Addr} {n c:Nat} (h:zn w ok (.slice A n c) l) {k:Nat} (d:l[k]?=some y):∃b o,A=some ⟨b,o,none⟩/\∀W,zc w W->W.cell? ⟨b,o+k,none⟩=some (.int .i64 y):=by
 obtain ⟨A',c',e,_,E⟩:=h;injection e with e1 e2 e3;subst e1
 have r:k<l.length:=by
  rcases DZ k l.length with h | h
  ·exact h
  ·rw [DW h] at d;cases d
 obtain ⟨b,o,e,_,D⟩:=Ae E r r;rw [DA r] at d;injection d with d;rw [d] at D;exact ⟨b,o,e,zc.rule D⟩
structure NR (W wr:World) (gn:Nat) (s:List Int):Prop where
 ext:zc W wr
 set:zB wr gn s
theorem NR.more {W:World} (h:NR W wr gn s) (d:zc wr w'):NR W w' gn s:=⟨h.ext.trans d,h.set.below d⟩
theorem NR.add {W:World} (h:NR W wr gn s) (r:gn=W.heap.size) (o:zB w' gn (ins s x)) (d:wr.grownBy w' (some gn)):NR W w' gn (ins s x):=⟨AB h.ext d h.ext.size (by omega),o⟩
theorem near_step {a:Int}:((∃y'∈q,a∈zu m y')\/a∈zu m y)↔∃y'∈q++[y],a∈zu m y':=by
 constructor
 ·rintro (⟨y',h1,h2⟩ | h)
  ·exact ⟨y',by simp [h1],h2⟩
  ·exact ⟨y,by simp,h⟩
 ·rintro ⟨y',h1,h2⟩;rw [Er,Ej] at h1;rcases h1 with h1 | rfl
  ·exact .inl ⟨y',h1,h2⟩
  ·exact .inr h2
theorem near_any {z:Int} (h:z∈s↔∃y∈q,z∈zu m y):decide (z∈s)=q.any fun y=>decide (z∈zu m y):=by
 by_cases d:z∈s
 ·rw [DF d];symm;obtain ⟨y,h1,h2⟩:=h.1 d;exact EC.2 ⟨y,h1,DF h2⟩
 ·rw [DG d];symm;rw [Bool.eq_false_iff];intro o;obtain ⟨y,h1,h2⟩:=EC.1 o;exact d (h.2 ⟨y,h1,EE h2⟩)
structure JC (wB:World) (sn:ByteArray) (u1 u2 up:Value) (e:Nat->Bool) (v:Nat->Value) (W:World):Prop where
 ext:zc wB W
 al:e 15=true->∃g3,v 15=.pointer (some ⟨g3,0,none⟩)/\wB.heap.size<=g3/\(e 16=false->zj W g3 101 #[.string ⟨#[]⟩,.slice none 0 0,.slice none 0 0])/\(e 16=true->zj W g3 101 #[.string sn,u1,u2])
 asg:e 17=true->v 17=up
 d16:e 16=true->e 15=true
section
variable {wB W W':World} {sn:ByteArray} {u1 u2 up:Value} {e:Nat->Bool} {v:Nat->Value}
theorem JC.init (he:∀j∈[15,16,17],e j=false):JC wB sn u1 u2 up e v wB.drew:=
 ⟨Cv,fun a=>ff (he 15 (by simp)) a,fun a=>ff (he 17 (by simp)) a,fun a=>ff (he 16 (by simp)) a⟩
theorem JC.s15 (h:JC wB sn u1 u2 up e v W) (d:e 15=false):JC wB sn u1 u2 up (zV e 15 true) (zV v 15 (.pointer (some ⟨W.heap.size,0,none⟩))) (W.alloc (.cells #[.string ⟨#[]⟩,.slice none 0 0,.slice none 0 0] 101)):=
 ⟨h.ext.alloc _,fun _=>⟨_,rfl,h.ext.size,fun _=>zj.new _ _ _ rfl,fun a=>ff (b:=e 16) (notT h.d16 d) a⟩,h.asg,fun _=>rfl⟩
theorem JC.s16 {g3:Nat} {x:Value} (h:JC wB sn u1 u2 up e v W) (d:e 15=true) (E:v 15=.pointer (some ⟨g3,0,none⟩)) (D:wB.heap.size<=g3) (o:zc wB W') (r:zj W' g3 101 #[.string sn,u1,u2]):JC wB sn u1 u2 up (zV e 16 true) (zV v 16 x) W':=
 ⟨o,fun _=>⟨g3,E,D,fun a=>(by cases a),fun _=>r⟩,h.asg,fun _=>d⟩
theorem JC.s17 (h:JC wB sn u1 u2 up e v W):JC wB sn u1 u2 up (zV e 17 true) (zV v 17 up) W:=⟨h.ext,h.al,fun _=>rfl,h.d16⟩
end
theorem candidates_calls {ok:Nat->Prop} {ch us:List Int} {ps:List (List Int)} {gu:Nat} {f u ts vc vp:Value} (w:World) (h:AQ w ok g m ch ps us f u ts vc vp gu) (so:SOk m ch ps):
  Calls Tryz.prog 91 #[.pointer (some ⟨g,0,none⟩)] w fun e w'=>∃v',e=.returned v'/\Mk w w' v' (BZ m ps us):=by
 have HS:=zh h;have SO:=zh so;have q8:ps.length<=6:=DE so.pl so.good.tk;obtain ⟨r0,r1,r2,r3,r4,r5,r6,r7,r8⟩:=h.rules;have hx:=zc.refl w
 go_enter Tryz.func91,Tryz.ntmps91
 go_wp2_with fail
 generalize i0:w.alloc (.cells #[.pointer (some ⟨g,0,none⟩)] 92)=w1;have j3:zc w w1:=by rw [<-i0];exact (zc.refl w).alloc _
 have h3:w1.cell? ⟨w.heap.size,0,none⟩=some (.pointer (some ⟨g,0,none⟩)):=by rw [<-i0];exact zQ _ _ _ rfl
 have q7:w.heap.size<w1.heap.size:=zp h3;have rb:=zc.rule h3;clear i0;refine (BE _ (HS.out.ext j3) SO.out).mono ?_;rintro e wA ⟨rfl,j9⟩;have m5:zc w1 wA:=j9.below _;have hA:=j3.trans m5;clear j9 h3
 cases M:cmpB m ps with
 | true=>
  have HC:=zh M;clear M
  go_wp2_with fail
  go_ret;exact ⟨_,rfl,hA.mono_mk (Mk.cast (Mk.nil _) (by unfold BZ;rw [if_pos HC.out]))⟩
 | false=>
  have HC:=zh M
  have hp:0<ps.length:=by
   by_cases h0:m.tasks.length=0
   ·unfold cmpB at M;rw [DF h0] at M;cases M
   ·exact so.pn (by omega)
  clear M
  go_wp2_with fail
  refine (AE _ (HS.out.ext hA) (by omega)).mono ?_;rintro e wB ⟨he,n3⟩;subst n3;obtain ⟨t,hk⟩:∃t,ps.length=t+1:=⟨ps.length - 1,by omega⟩;have l3:(ps.length:Int) - 1=(t:Int):=by omega
  rw [l3] at he;subst he;clear l3;have j5:zc w (wA.alloc (.cells #[.int .i64 t] 3)):=hA.alloc _;have o1:(wA.alloc (.cells #[.int .i64 t] 3)).cell? ⟨wA.heap.size,0,none⟩=some (.int .i64 t):=zQ _ _ _ rfl;have m6:zc w1 (wA.alloc (.cells #[.int .i64 t] 3)):=m5.alloc _;have ho:=h.ps;have o8:=h.maze;obtain ⟨vs,⟨Ap,cp,rfl,t0,m0⟩,k3⟩:=ho;obtain ⟨fr',up',ts',a8,_,_,I⟩:=o8;injection a8 with a8;injection a8 with a8;simp only [List.cons.injEq,and_true,true_and] at a8;obtain ⟨rfl,rfl,rfl⟩:=a8;have p5:=I;obtain ⟨vst,⟨At,ct,rfl,t1,_⟩,_⟩:=p5;have e0:t<ps.length:=by omega
  obtain ⟨b,off,up,rfl,_,f2,h9⟩:=BG m0 k3 e0 e0;have e7:t<m.tasks.length:=by have:=so.pl;omega
  obtain ⟨bt,offt,sn,u1,u2,rfl,_,l0,l1,l2,e6,h4⟩:=BK I e7;have h5:=so.pp _ (DD e0);have d8:=so.pr _ (DD e0);have o6:=(so.lens.tl _ (DD e7)).1;have h8:=so.good.tn _ (DD e7)
  have c8:BZ m ps us=match (ps[t]).getLast? with
    | none=>(Lib.compact (Cd (m.tasks[t]).1)).filter fun n=>zl m t n && !decide (n∈us)
    | some x=>(zu m x).filter (zL m us t (ps[t]).dropLast (m.tasks[t]).1):=by
   unfold BZ;rw [HC.out,if_neg (by simp),show ps.length - 1=t from by omega];simp [e0,e7]
  have b3:=zh c8;clear c8;obtain ⟨p,l8⟩:=EH (ps[t]);obtain ⟨tk,m3⟩:=EH (m.tasks[t]);rw [<-l8] at h9 h5 b3 d8;rw [<-m3] at e6 h4 o6 b3 h8;have k6:=e6;obtain ⟨A5,c5,rfl,s6,_⟩:=k6;have k7:=h4;obtain ⟨A6,c6,rfl,s7,_⟩:=k7;clear l8 m3 m0 k3 I h4;have HP:=zh h9;clear h9;have HF:=zh e6;clear e6;have g1:=zh d8;clear d8;have n2:=zh h8;clear h8;have v5:(t:Int)<(ps.length:Int):=by omega
  have t9:(0:Int)<=(t:Int):=by omega
  have v6:(t:Int)<(m.tasks.length:Int):=by omega
  have k4:t<m.free.length:=by have:=so.good.fl;omega
  have q0:=zc.rule f2;have q1:=zc.rule l0;have q2:=zc.rule l1;have q3:=zc.rule l2;clear f2 l0 l1 l2 h so hk;generalize p7:wA.alloc (.cells #[.int .i64 t] 3)=wB at*;have rt:=zc.rule o1;have e9:=zc.refl wB
  go_wp2_with fail
  clear p7;refine DT (S:=(fun W=>zc w W/\zc w1 W/\zc wB W)) (by kernel_rfl) (⟨j5.drew,m6.drew,e9.drew⟩) fun zH=>?_;refine ze 0 zH ?_;refine ze 1 zH ?_;simp only [za,Dz];refine ze 2 zH ?_;refine ze 3 zH ?_;simp only [za,Dz];refine ze 4 zH ?_;refine ze 5 zH ?_;simp only [za,Dz];refine ze 6 zH ?_;refine ze 7 zH ?_;simp only [za,Dz];refine ze 8 zH ?_;refine ze 9 zH ?_;simp only [za,Dz];refine ze 10 zH ?_;refine ze 11 zH ?_;simp only [za,Dz];refine ze 12 zH ?_;refine ze 13 zH ?_;simp only [za,Dz];refine ze 14 zH ?_;simp only [za,Dz];refine Bi [15,16,17] (fun e v W=>JC wB sn (.slice A5 tk.1.length c5) (.slice A6 tk.2.length c6) up e v W) (F:=?F1) (by kernel_rfl) (by kernel_rfl) (by decide) zH (fun v=>?hF1) ?init1 (by kernel_rfl) ?steps1 ?fin1
  case hF1=>(simp only [zE,Bt,List.getElem?_toArray,List.getElem?_cons_succ,List.getElem?_cons_zero,Option.bind,Act.put,List.setIfInBounds_toArray,List.set_cons_succ,List.set_cons_zero];rfl)
  case init1=>
   intro e v he;exact JC.init he
  case steps1=>
   refine zi.cons rfl (fun e v W K hJ hW he hd hK=>?_) ?_
   ·simp only [za] at hd hK⊢;go_simp;exact hK.out _ _ _ (by rfl) ⟨hW.1.alloc _,hW.2.1.alloc _,hW.2.2.alloc _⟩ (hJ.s15 he)
   refine zi.cons rfl (fun e v W K hJ hW he hd hK=>?_) ?_
   ·simp only [za] at hd hK⊢;have i6:e 15=true:=zo hd [15] (by kernel_rfl) 15 (by simp);obtain ⟨g3,U,d5,E,_⟩:=hJ.al i6;have E:=E he;have hf:=fun k=>E.frozen k
    have s4:=E.cell (k:=0) rfl;have s5:=E.cell (k:=1) rfl;have q6:=E.cell (k:=2) rfl;go_simp;have a7:=((hJ.ext.setCell (p:=⟨g3,0,none⟩) d5 (.string sn)).setCell (p:=⟨g3,1,none⟩) d5 (.slice A5 tk.1.length c5)).setCell (p:=⟨g3,2,none⟩) d5 (.slice A6 tk.2.length c6);exact hK.out _ undef _ (by simp [Act.put,U]) ⟨j5.trans a7,m6.trans a7,a7⟩ (hJ.s16 i6 U d5 a7 (((E.set (k:=0) _).set (k:=1) _).set (k:=2) _))
   refine zi.cons rfl (fun e v W K hJ hW he hd hK=>?_) ?_
   ·simp only [za] at hd hK⊢;go_simp;exact hK.out _ up _ (by rfl) hW hJ.s17
   exact zi.nil
  case fin1=>
   intro v W hJ hW;obtain ⟨g3,U,d5,_,E⟩:=hJ.al rfl;have E:=E rfl;have f7:=hJ.asg rfl;rw [U,f7];clear hJ U f7;obtain ⟨n9,j1,o0⟩:=hW;have rg3:=zc.rule (E.cell (k:=1) rfl);clear E;have e2:=zh n9;have j8:=rt W o0;have s9:=Ah (P:=Tryz.prog) Tryz.func127 (by kernel_rfl) (by kernel_rfl);have f1:=rb W j1;generalize o4:wA.heap.size=g2 at*;clear o4;have o9:=HP.out;obtain ⟨Aq,cq,rfl,j6,p4⟩:=o9;clear p4;have e9:=zc.refl W;rcases List.eq_nil_or_concat p with rfl | ⟨q,x,rfl⟩
   ·have g0:Hid (BZ m ps us=(Lib.compact (Cd tk.1)).filter fun n=>zl m t n && !decide (n∈us)):=b3.out
    go_wp2_with fail
    refine (values_calls A5 tk.1.length c5 W).mono ?_;rintro e w2 ⟨rfl,rfl⟩;have g4:zc W (W.alloc (.cells #[.slice A5 tk.1.length c5] 24)):=e9.alloc _;have j7:(W.alloc (.cells #[.slice A5 tk.1.length c5] 24)).cell? ⟨W.heap.size,0,none⟩=some (.slice A5 tk.1.length c5):=zQ _ _ _ rfl;have hS:=zh (sorted_calls W.heap.size _ j7 (HF.out.below (e2.out.trans g4)) (by omega))
    go_wp2_with fail
    refine hS.out.mono ?_;rintro e w3 ⟨v3,rfl,g8⟩;have m2:(Cd tk.1).length<=1000000000000:=by unfold Cd;rw [List.length_mergeSort];omega
    have i7:=zh (compact_calls g8 m2);have a7:=zh g8.ext;clear g8 hS
    go_wp2_with fail
    refine i7.out.mono ?_;rintro e w4 ⟨v4,rfl,e3⟩;have o7:Hid (∀y,y∈Lib.compact (Cd tk.1)->y∈tk.1):=fun y hy=>mem_sortL.1 (Dp hy)
    have t3:(Lib.compact (Cd tk.1)).length<=1000000000000:=DE (compact_len _) m2;generalize Lib.compact (Cd tk.1)=L at*;have g5:zc W w4:=g4.trans e3.ext;obtain ⟨A7,c7,p6,s8⟩:=e3.slice;subst p6;have n1:=zh e3;clear e3 i7 a7 j7 g4;have m4:zc w w4:=e2.out.trans g5;have b6:=zh (Mk.nil w4)
    go_wp2_with fail
    go_loopw [7,46] (fun v i wr=>∃k:Nat,k<=L.length/\i=.int .i64 (k:Nat)/\Hid (Mk w4 wr v ((L.take k).filter fun n=>zl m t n && !decide (n∈us)))) (fun _ i _=>L.length - (intOf i).toNat)
    case atStart=>exact ⟨0,by omega,rfl,b6⟩
    clear b6
    case round=>
     obtain ⟨k,hk,rfl,hM⟩:=hrel;have d:=hM.out.ext;by_cases G:k<L.length
     ·obtain ⟨b9,rfl,O,r⟩:=own_at (n1.out.own.ext d) G;have I:=zh (DJ G);have D:=n2.out _ (.inl (o7.out _ (DD G)));obtain ⟨y,hy⟩:=EH (L[k]);rw [<-hy] at r I D;clear hy;have o:=zh (cand1_calls t y wr (HS.out.ext (m4.trans d)) SO.out.good.fn k4 ((g5.trans d).cell f1) ((g5.trans d).cell j8) D.1 D.2);obtain ⟨bb,g9⟩:=EH ((zl m t y && !decide (y∈us)));rw [<-g9] at o;have m8:=zh g9;clear g9 D;have o3:((L.take k).filter fun n=>zl m t n && !decide (n∈us)).length<=1000000000000:=DE (Ef _ _) (by simp;omega);have a0:Hid ((L.take (k+1)).filter (fun n=>zl m t n && !decide (n∈us))=(L.take k).filter (fun n=>zl m t n && !decide (n∈us))++(if bb then [y] else [])):=by rw [I.out,List.filter_append,m8.out];show _++List.filter _ [y]=_;by_cases h:(zl m t y && !decide (y∈us))=true <;> simp [List.filter_cons,h]
      generalize (L.take k).filter (fun n=>zl m t n && !decide (n∈us))=lk at*
      go_wp2_with fail
      refine o.out.mono ?_;rintro e w5 ⟨rfl,d4⟩;have b4:zc wr w5:=d4.below _;have J:=zh (hM.out.more b4);clear d4 o
      cases bb with
      | true=>
       have p8:w4.heap.size<=w5.heap.size:=J.out.ext.size
       go_wp2_with (at_builtin;refine Dg rfl _ _ rfl _ lk y w4.heap.size w5.heap.size 1 _ rfl rfl (J.out.own.alloc _) ?d1 ?d2 ?d3 ?_)
       (try case d1=>exact zQ _ _ _ (by simp))
       case d2=>(first | (simp;done) | (simp;omega) | omega)
       case d3=>omega
       intro v' wb d7 Q _;have g7:=zh ((J.out.alloc _).app d7 Q);clear d7 Q;go_wp2;go_roundw
       case rel=>exact ⟨k+1,by omega,by go_num,by rw [a0.out];exact g7⟩
       case measure=>simp [intOf];omega
      | false=>
       go_wp2;go_roundw
       case rel=>exact ⟨k+1,by omega,by go_num,by rw [a0.out];simpa using J⟩
       case measure=>simp [intOf];omega
     ·obtain rfl:k=L.length:=by omega
      go_wp2_with fail
      go_ret;refine ⟨_,rfl,(m4.mono_mk hM.out).cast ?_⟩;rw [g0.out,DN]
   ·rw [List.concat_eq_append] at HP b3 g1;have l7:(q.concat x).length=q.length+1:=by simp
    have f5:(q++[x]).length=q.length+1:=by simp
    rw [l7] at j6 h5⊢;rw [f5] at HP;obtain ⟨N,hN⟩:=EH (q.length+1);rw [<-hN] at j6 h5 HP⊢;have s2:(q.length:Int)<(N:Int):=by omega
    have p3:IntKind.i64.wrap ((N:Int) - 1)=(q.length:Int):=by rw [DY];omega
    have l9:(N:Int) - 1=(q.length:Int):=by omega
    have t6:(0:Int)<=(q.length:Int):=by omega
    have s1:0<N:=by omega
    have t7:q.length<=N:=by omega
    have g0:Hid (BZ m ps us=(zu m x).filter (zL m us t q tk.1)):=by have h:=b3.out;simp at h;exact h
    have a4:Hid (∀k y,(q++[x])[k]?=some y->∃bq oq,Aq=some ⟨bq,oq,none⟩/\∀W',zc w W'->W'.cell? ⟨bq,oq+k,none⟩=some (.int .i64 y)):=fun k y hy=>path_cell HP.out hy
    clear l7 f5 hN;have t4:=@run_makeMap Tryz.prog
    go_wp2_with fail
    have i9:Hid (NR W (W.alloc (.map #[] 0)) W.heap.size []):=⟨e9.alloc _,zB.new W⟩;generalize k5:W.heap.size=gn at*;have f4:gn=W.heap.size:=k5.symm;have n0:=zh f4;clear k5 f4;go_loopw [66] (fun i wr=>∃k s,k<=q.length/\i=.int .i64 (k:Nat)/\Hid (NR W wr gn s)/\Hid (∀z,z∈s↔∃y∈q.take k,z∈zu m y)) (fun i _=>q.length - (intOf i).toNat)
    case atStart=>exact ⟨0,[],by omega,rfl,i9,by simp [Hid]⟩
    clear i9
    case round=>
     obtain ⟨k,s,hk,rfl,hR,d6⟩:=hrel;have d:zc W wr:=hR.out.ext;have e1:zc w wr:=e2.out.trans d;have i1:zc w1 wr:=j1.trans d;obtain ⟨wk,rfl⟩:∃wk:World,wk=wr:=⟨_,rfl⟩;by_cases G:k<q.length
     ·obtain ⟨bq,oq,rfl,r⟩:=a4.out k q[k] (by rw [DH G];exact DA G);have D:=g1.out q[k] (by simp);have I:=zh (DJ G);obtain ⟨y,hy⟩:=EH (q[k]);rw [<-hy] at r D I;clear hy;have l4:(k:Int)<(q.length:Int):=by omega
      have l6:=zh (Cx m y wk (HS.out.maze.below e1) SO.out.good.dim D.1 D.2);clear D
      go_wp2_with fail
      refine l6.out.mono ?_;rintro e w9 ⟨v9,rfl,O,a1⟩;have j0:=zh (hR.out.more O);have e4:Hid (zF w9 wk.heap.size v9 (zu m y)):=a1;obtain ⟨A9,c9,rfl,o2⟩:=AC a1;have t2:gn<wk.heap.size:=zb hR.out.set;clear O a1 l6 hR;have o5:=BV m y
      go_wp2_with fail
      go_loopw [77] (fun i wi=>∃j s',j<=(zu m y).length/\i=.int .i64 (j:Nat)/\Hid (NR W wi gn s')/\Hid (zF wi wk.heap.size (.slice A9 (zu m y).length c9) (zu m y))/\Hid (∀z,z∈s'↔z∈s\/z∈(zu m y).take j)) (fun i _=>(zu m y).length - (intOf i).toNat)
      case atStart=>exact ⟨0,s,DR _,rfl,j0,e4,by simp [Hid]⟩
      clear j0 e4
      case round=>
       obtain ⟨j,s',hj,rfl,hR,hO,l5⟩:=hrel;by_cases k8:j<(zu m y).length
       ·obtain ⟨b2,rfl,s3,e5⟩:=own_at hO.out k8;have f6:=zh (fun z=>zR k8 z);obtain ⟨z,hz⟩:=EH ((zu m y)[j]);rw [<-hz] at e5 f6;clear hz
        go_wp2_with (at_mapUpdate;refine CA rfl _ _ _ _ rfl Tryz.underlying95 gn s' z rfl rfl rfl hR.out.set ?_)
        intro wb m1 Q;have n7:=zh (hR.out.add n0.out m1 Q);have n6:Hid (zF wb wk.heap.size (.slice (some ⟨b2,0,none⟩) (zu m y).length c9) (zu m y)):=World.ownsRow.kept hO.out Q (AW hO.out hR.out.set);clear m1 Q;go_wp2;go_roundw
        case rel=>exact ⟨j+1,ins s' z,by omega,by go_num,n7,n6,fun a=>by rw [mem_ins,l5.out,f6.out,or_assoc]⟩
        case measure=>simp [intOf];omega
       ·obtain rfl:j=(zu m y).length:=by omega
        go_wp2;go_roundw
        case rel=>exact ⟨k+1,s',by omega,by go_num,hR,fun a=>by rw [l5.out,DN,d6.out,I.out];exact near_step⟩
        case measure=>simp [intOf];omega
     ·obtain rfl:k=q.length:=by omega
      rw [DN] at d6;obtain ⟨bq,oq,rfl,r⟩:=a4.out q.length x (by simp);have D:=g1.out x (by simp);have i2:=zc.refl wk;have h6:Hid (∀z,decide (z∈s)=q.any fun y=>decide (z∈zu m y)):=fun z=>near_any (d6.out z)
      have q9:IntKind.i64.wrap ((N:Int) - 1)=(q.length:Int):=by rw [DY];omega
      clear p3 l9
      go_wp2_with fail
      go_region_held3 (fun W'=>zc w W'/\zc w1 W'/\zc wk W')
       (first | (exact ⟨e1.drew,i1.drew,i2.drew⟩) | (exact ⟨e1.drew.trans O,i1.drew.trans O,i2.drew.trans O⟩))
       ((go_at_call 58;refine (Cx m x _ (HS.out.maze.below e1.drew) SO.out.good.dim D.1 D.2).mono ?_;rintro e w9 ⟨v9,rfl,O,a1⟩;obtain ⟨A9,c9,rfl,o2⟩:=AC (l:=zu m x) a1))
      rename_i n8
      obtain ⟨f8,r9,f9⟩:=n8;have j4:zc wk.drew w9:=O;have e4:Hid (zF w9 wk.drew.heap.size (.slice A9 (zu m x).length c9) (zu m x)):=a1;have h7:=zh (hR.out.set.below f9);clear O a1 hR j4 r;have o5:=BV m x;have b8:zc W w9:=d.trans f9;have b6:=zh (Mk.nil w9);have e8:=zh (fun z hz=>Bx (m:=m) (x:=z) SO.out.good.dim D.1 D.2 hz)
      go_wp2_with fail
      clear e1 i1 d i2 G hk;generalize i8:zu m x=L at*;have s0:=zh i8;clear i8;go_loopw [7,97] (fun v i wr=>∃k:Nat,k<=L.length/\i=.int .i64 (k:Nat)/\Hid (Mk w9 wr v ((L.take k).filter (zL m us t q tk.1)))) (fun _ i _=>L.length - (intOf i).toNat)
      case atStart=>exact ⟨0,by omega,rfl,b6⟩
      clear b6
      case round=>
       obtain ⟨k,hk,rfl,hM⟩:=hrel;have d:=hM.out.ext;by_cases G:k<L.length
       ·obtain ⟨b9,rfl,O,r⟩:=own_at (e4.out.ext d) G;have I:=zh (DJ G);have a6:=e8.out _ (DD G);obtain ⟨y,hy⟩:=EH (L[k]);rw [<-hy] at r I a6;clear hy;have o:=zh (cand1_calls t y wr (HS.out.ext (f8.trans d)) SO.out.good.fn k4 ((b8.trans d).cell f1) ((b8.trans d).cell j8) a6.1 a6.2);obtain ⟨b1,c0⟩:∃b1,b1=(zl m t y && !decide (y∈us)):=⟨_,rfl⟩;rw [<-c0] at o;have f3:zL m us t q tk.1 y=(b1 && !decide (y∈s) && !decide (y∈tk.1)):=by unfold zL;rw [h6.out y,c0]
        clear c0 a6;have a3:=zh f3;clear f3;have o3:((L.take k).filter (zL m us t q tk.1)).length<=1000:=DE (Ef _ _) (by simp;omega);have a0:Hid (∀bb,zL m us t q tk.1 y=bb->(L.take (k+1)).filter (zL m us t q tk.1)=(L.take k).filter (zL m us t q tk.1)++(if bb then [y] else [])):=fun bb h=>by rw [I.out,List.filter_append];show _++List.filter _ [y]=_;cases bb <;> simp [List.filter_cons,h]
        generalize (L.take k).filter (zL m us t q tk.1)=lk at*
        go_wp2_with fail
        refine o.out.mono ?_;rintro e w5 ⟨rfl,d4⟩;have b4:zc wr w5:=d4.below _;have J:=zh (hM.out.more b4);clear d4 o;have d9:=h7.out.below (d.trans b4);have j2:zc W w5:=b8.trans (d.trans b4);have n4:=zh (HF.out.below (e2.out.trans j2))
        cases b1 with
        | false=>
         have V:Hid (zL m us t q tk.1 y=false):=a3.out.trans (by simp);go_wp2;go_roundw
         case rel=>exact ⟨k+1,by omega,by go_num,by rw [a0.out false V.out];simpa using J⟩
         case measure=>simp [intOf];omega
        | true=>
         by_cases a2:y∈s
         ·have V:Hid (zL m us t q tk.1 y=false):=a3.out.trans (by simp [a2]);have l4:=look_t d9 a2;clear a2;go_wp2;go_roundw
          case rel=>exact ⟨k+1,by omega,by go_num,by rw [a0.out false V.out];simpa using J⟩
          case measure=>simp [intOf];omega
         ·have l4:=look_f d9 a2;have t8:=rg3 w5 j2;have a5:=zh (zt y w5 n4.out (by omega));by_cases a9:y∈tk.1
          ·have V:Hid (zL m us t q tk.1 y=false):=a3.out.trans (by simp [a9]);rw [DF a9] at a5;clear a2 a9
           go_wp2_with fail
           refine a5.out.mono ?_;rintro e w6 ⟨rfl,rfl⟩;go_wp2;go_roundw
           case rel=>exact ⟨k+1,by omega,by go_num,by rw [a0.out false V.out];simpa using J⟩
           case measure=>simp [intOf];omega
          ·have V:Hid (zL m us t q tk.1 y=true):=a3.out.trans (by simp [a2,a9]);rw [DG a9] at a5;clear a2 a9;have p8:w9.heap.size<=w5.heap.size:=J.out.ext.size
           go_wp2_with (first | (go_at_call 56;refine a5.out.mono ?_;rintro e w6 ⟨rfl,rfl⟩) | (at_builtin;refine Dg rfl _ _ rfl _ lk y w9.heap.size w5.heap.size 1 _ rfl rfl (J.out.own.alloc _) ?d1 ?d2 ?d3 ?_))
           (try case d1=>exact zQ _ _ _ (by simp))
           case d2=>(first | (simp;done) | (simp;omega) | omega)
           case d3=>omega
           intro v' wb d7 Q _;have g7:=zh ((J.out.alloc _).app d7 Q);clear d7 Q;go_wp2;go_roundw
           case rel=>exact ⟨k+1,by omega,by go_num,by rw [a0.out true V.out];exact g7⟩
           case measure=>simp [intOf];omega
       ·obtain rfl:k=L.length:=by omega
        go_wp2_with fail
        go_ret;refine ⟨_,rfl,(f8.mono_mk hM.out).cast ?_⟩;rw [g0.out,DN]
end
section
open Go.RowKit Go.Sort Go.Shelf
section
variable {w:World} {ok:Nat->Prop} {size n:Nat} {A:Option Addr} {v:Value} {xs:List Value}
theorem AG.bound (h:AG w ok size A n xs) (D:0<size):AG w (fun b=>ok b/\b<w.heap.size) size A n xs:=by
 refine ⟨h.1,fun o=>?_⟩;obtain ⟨b,off,e,r,d⟩:=h.2 o;have h0:0<xs.length:=by rw [h.1];exact Nat.mul_pos o D
 exact ⟨b,off,e,⟨r,zp (d 0 _ (DA h0))⟩,d⟩
theorem An.bound (h:An w ok size v n xs) (r:0<size):An w (fun b=>ok b/\b<w.heap.size) size v n xs:=by
 obtain ⟨A,c,e,d,o⟩:=h;exact ⟨A,c,e,d,o.bound r⟩
theorem AZ.bound {l:List Bool} (h:AZ w ok v l):AZ w (fun b=>ok b/\b<w.heap.size) v l:=An.bound h (by decide)
theorem Each.bound {α:Type} {R R':Value->α->Prop} {l:List α} (h:Each R w ok v l) (o:∀u x,R u x->R' u x):Each R' w (fun b=>ok b/\b<w.heap.size) v l:=by
 obtain ⟨vs,d,he⟩:=h;refine ⟨vs,d.bound (by decide),fun i x D=>?_⟩;obtain ⟨u,r,d⟩:=he i x D;exact ⟨u,r,o _ _ d⟩
theorem Bd.bound {l:List (List Bool)} (h:Bd w ok v l):Bd w (fun b=>ok b/\b<w.heap.size) v l:=Each.bound h (fun _ _ h=>AZ.bound h)
theorem Ai.bound {l:List (List Int)} (h:Ai w ok v l):Ai w (fun b=>ok b/\b<w.heap.size) v l:=Each.bound h (fun _ _ h=>zn.bound h)
theorem BA.bound {l:List (List Int×List Int)} (h:BA w ok v l):BA w (fun b=>ok b/\b<w.heap.size) v l:=by
 obtain ⟨vs,d,he⟩:=h;refine ⟨vs,d.bound (by decide),fun i x o=>?_⟩;obtain ⟨s,u1,u2,h0,h1,h2,i1,i2⟩:=he i x o;exact ⟨s,u1,u2,h0,h1,h2,i1.bound,i2.bound⟩
theorem zM.bound {m:MZ} (h:zM w ok v m):zM w (fun b=>ok b/\b<w.heap.size) v m:=by
 obtain ⟨f,u,t,rfl,h1,h2,d⟩:=h;exact ⟨f,u,t,rfl,h1.bound,h2.bound,d.bound⟩
theorem AQ.bound {g gu:Nat} {m:MZ} {ch us:List Int} {ps:List (List Int)} {f u t vc vp:Value} (h:AQ w ok g m ch ps us f u t vc vp gu):AQ w (fun b=>ok b/\b<w.heap.size) g m ch ps us f u t vc vp gu:=
 ⟨h.blk,⟨h.okg,zb h.blk⟩,h.maze.bound,h.ch.bound,h.ps.bound,⟨h.oku,zb h.us⟩,h.us⟩
end
abbrev InR (R:Int->Prop):={ x:Int // R x }
theorem holds_sub {R:Int->Prop} {w:World} {cap:Nat} {l:List (InR R)} [Inhabited (InR R)] (h:zF w B (.slice (some ⟨g,0,none⟩) (l.map (·.1)).length cap) (l.map (·.1))):Holds (fun x:InR R=>Value.int .i64 x.1) w g 0 l.toArray:=by
 intro j o;have d:j<l.length:=by simpa using o
 refine ⟨?_,by have:=World.ownsRow.frozenAt h j;simpa using this⟩;have:=World.ownsRow.cellAt h j (by simpa using d);rw [Nat.zero_add,this];simp [getElem!_pos,d]
theorem sortWorld_same {α:Type} [Inhabited α] {enc:α->Value} {w:World} {blk off n:Nat} {dk:Array α} {os:Array Obj} (r:B<=blk) (E:B<=w.heap.size):zW (fun b=>b<B) w (sortWorld enc w blk off n dk os):=by
 intro b D d;have o:blk≠b:=by omega
 simp [sortWorld,grow,putRow,mapBlock,Sort.ahead,Array.getElem?_append,Array.getElem?_modify,Array.getElem_modify,d,o]
theorem deleteFuncI_calls {w1 w:World} {v:Value} (d:Mk w1 w v l) (R:Int->Prop) (hR:∀x∈l,R x) (h0:R 0) (hl:l.length<=1000000000000) (fn:FuncId) (lb:Array Value) (p:Int->Bool)
  (eg:∀args w,(callFunc fn args).run Tryz.prog w=.ok (.enter fn args) w)
  (hp:∀x,R x->∀W,zW (fun b=>b<w1.heap.size) w W->Calls Tryz.prog fn (#[.int .i64 x]++lb) W fun e w'=>e=.returned (.bool (p x))/\zG W w'):
  Calls Tryz.prog 144 #[v,.func (.func fn) #[] lb] w fun e w'=>∃v',e=.returned v'/\Mk w1 w' v' (l.filter fun x=>!p x):=by
 rcases Em l.length with hl0 | hl0
 ·have G:=DU hl0;subst G;obtain ⟨A,c,rfl,_⟩:=d.slice;have hI:=zh (CO fn lb p w d.ints (by simp) eg (fun x hx=>by cases hx));have U:=zh d;clear d hp
  go_enter Tryz.func144,Tryz.ntmps144
  go_wp2_with fail
  refine hI.out.mono ?_;rintro e w2 ⟨r,rfl,Q,a5,M⟩
  have L:r=-1:=by
   have:¬ 0<=r:=fun h=>by have:=Q.1 h;simp at this
   omega
  subst L;have V:zc w w2:=M.below _;clear M Q
  go_wp2_with fail
  go_ret;exact ⟨_,rfl,U.out.more V⟩
 ·letI:Inhabited (InR R):=⟨⟨0,h0⟩⟩
  obtain ⟨l',rfl⟩:∃l':List (InR R),l'.map (·.1)=l:=⟨l.attachWith R hR,by simp⟩;obtain ⟨g,cap,rfl,O,a3⟩:=World.ownsRow.form d.own hl0;have D:=AN d.own;have o:(l'.map (·.1)).length=l'.toArray.size:=by simp
  have I:=AnyE.slices_DeleteFunc dfIA (fun x:InR R=>Value.int .i64 x.1) (fun _=>rfl) (fun x=>p x.1) fn lb eg ⟨0,h0⟩ Tryz.zeroValue3 g 0 cap l'.toArray w
   (fun W x hb=>by
    refine Calls.mono (hp x.1 x.2 W (fun b a2 E=>hb.block b E)) ?_;rintro e w' ⟨rfl,q,rfl⟩;exact ⟨rfl,q,rfl⟩)
   (fun n os dk x _=>by
    refine Calls.mono (hp x.1 x.2 _ (sortWorld_same O d.ext.size)) ?_;rintro e w' ⟨rfl,q,rfl⟩;exact ⟨rfl,q,rfl⟩)
   (holds_sub d.own) (by rw [<-o];omega) (by rw [<-o];exact D)
  change Calls Tryz.prog 144 _ _ _ at I;rw [<-o] at I;refine Calls.mono I ?_;rintro e w' ⟨rfl,q,rfl⟩;have K:(l'.map (·.1)).filter (fun x=>!p x)=(l'.filter fun x=>!p x.1).map (·.1):=by rw [List.filter_map];rfl
  have J:(l'.filter fun x=>!p x.1).length<=l'.length:=Ef _ _;refine ⟨_,rfl,?_,Lib.below_putRow d.ext O⟩
  have ho:w.ownsRow w1.heap.size 3 1 (.slice (some ⟨g,0,none⟩) (l'.map (·.1)).length cap) (l'.map (·.1)).length (l'.map fun x:InR R=>Value.int .i64 x.1):=by
   have:=d.own;unfold zF at this;rw [List.map_map] at this;exact this
  have:=Lib.ownsRow_putRow (enc:=fun x:InR R=>Value.int .i64 x.1) (q:=q) (k:=(l'.filter fun x=>!p x.1).length) (ys:=(l'.filter fun x=>!p x.1)++List.replicate (l'.length - (l'.filter fun x=>!p x.1).length) ⟨0,h0⟩) ho (by simp;omega) (by simpa using J);rw [List.take_left' rfl] at this;rw [K];unfold zF;rw [List.map_map,El];simpa using this
end
end Go.Proofs.YtcnaogdgjkpkmaaGreatDoor
