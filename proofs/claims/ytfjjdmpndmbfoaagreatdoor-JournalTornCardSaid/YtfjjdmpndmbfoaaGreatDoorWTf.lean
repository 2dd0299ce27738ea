import Derived.Test.YtfjjdmpndmbfoaaGreatDoorWTe
import Derived.Shelf.SlicesE.DeleteFunc
import Derived.Ground.SlgfProg
set_option linter.unusedVariables false
set_option linter.unusedSimpArgs false
set_option maxRecDepth 100000
set_option maxHeartbeats 16000000
namespace Go.Proofs.YtfjjdmpndmbfoaaGreatDoor
variable {x y:Int} {ps:List (List Int)} {ch l q s us:List Int} {m:MZ} {B b3 g gb gn gu k:Nat} {f ts u vc vp:Value} {w' wr:World}
section
open Go.RowKit
attribute [local go_sem ↓] Go.wp_at_zero Go.wp_at_succ
def zO (m:MZ) (us:List Int) (t:Nat) (q from_:List Int) (n:Int):Bool:=zm m t n && !decide (n∈us) && !(q.any fun y=>decide (n∈zy m y)) && !decide (n∈from_)
def BV (m:MZ) (ps:List (List Int)) (us:List Int):List Int:=
 if cmpB m ps=true then []
 else match (ps.getD (ps.length - 1) []).getLast? with
  | none=>(Lib.compact (BZ (m.tasks.getD (ps.length - 1) ([],[])).1)).filter fun n=>zm m (ps.length - 1) n && !decide (n∈us)
  | some x=>(zy m x).filter (zO m us (ps.length - 1) (ps.getD (ps.length - 1) []).dropLast (m.tasks.getD (ps.length - 1) ([],[])).1)
theorem mem_sortL:x∈BZ l↔x∈l:=by unfold BZ;exact (List.mergeSort_perm _ _).mem_iff
theorem compact_len (l:List Int):(Lib.compact l).length<=l.length:=by
 unfold Lib.compact Lib.compactUpTo;rw [Em];exact DG (Eg _ _) (by simp)
theorem Dt (h:x∈Lib.compact l):x∈l:=by
 unfold Lib.compact Lib.compactUpTo at h;obtain ⟨j,o,rfl⟩:=EA.1 h;have d:j<l.length:=by simpa using (Ez.1 o).1
 simp [getElem!_pos,d]
theorem path_cell {w:World} {ok:Nat->Prop} {A:Option Addr} {n c:Nat} (h:zl w ok (.slice A n c) l) (d:l[k]?=some y):∃b o,A=some ⟨b,o,none⟩/\∀W,zc w W->W.cell? ⟨b,o+k,none⟩=some (.int .i64 y):=by
 obtain ⟨A',c',e,_,G⟩:=h;injection e with e1 e2 e3;subst e1
 have D:k<l.length:=by
  rcases Ea k l.length with h | h
  ·exact h
  ·rw [DX h] at d;cases d
 obtain ⟨b,o,e,_,E⟩:=AI G D D;rw [DC D] at d;injection d with d;rw [d] at E;exact ⟨b,o,e,zc.rule E⟩
structure NR (W wr:World) (gn:Nat) (s:List Int):Prop where
 ext:zc W wr
 set:zC wr gn s
theorem NR.more {W:World} (h:NR W wr gn s) (d:zc wr w'):NR W w' gn s:=⟨h.ext.trans d,h.set.below d⟩
theorem NR.add {W:World} (h:NR W wr gn s) (D:gn=W.heap.size) (o:zC w' gn (ins s x)) (d:wr.grownBy w' (some gn)):NR W w' gn (ins s x):=⟨Aw h.ext d h.ext.size (by omega),o⟩
theorem near_step {a:Int}:((∃y'∈q,a∈zy m y')\/a∈zy m y)↔∃y'∈q++[y],a∈zy m y':=by
 constructor
 ·rintro (⟨y',h1,d⟩ | h)
  ·exact ⟨y',by simp [h1],d⟩
  ·exact ⟨y,by simp,h⟩
 ·rintro ⟨y',h1,d⟩;rw [Es,Ek] at h1;rcases h1 with h1 | rfl
  ·exact .inl ⟨y',h1,d⟩
  ·exact .inr d
theorem near_any {z:Int} (h:z∈s↔∃y∈q,z∈zy m y):decide (z∈s)=q.any fun y=>decide (z∈zy m y):=by
 by_cases d:z∈s
 ·rw [DH d];symm;obtain ⟨y,h1,o⟩:=h.1 d;exact ED.2 ⟨y,h1,DH o⟩
 ·rw [DI d];symm;rw [Bool.eq_false_iff];intro D;obtain ⟨y,h1,o⟩:=ED.1 D;exact d (h.2 ⟨y,h1,of_decide_eq_true o⟩)
structure JC (wB:World) (sn:ByteArray) (u1 u2 up:Value) (e:Nat->Bool) (v:Nat->Value) (W:World):Prop where
 ext:zc wB W
 al:e 15=true->∃g3,v 15=.pointer (some ⟨g3,0,none⟩)/\wB.heap.size<=g3/\(e 16=false->zg W g3 72 #[.string ⟨#[]⟩,.slice none 0 0,.slice none 0 0])/\(e 16=true->zg W g3 72 #[.string sn,u1,u2])
 asg:e 17=true->v 17=up
 d16:e 16=true->e 15=true
section
variable {wB W W':World} {sn:ByteArray} {u1 u2 up:Value} {e:Nat->Bool} {v:Nat->Value}
theorem JC.init (he:∀j∈[15,16,17],e j=false):JC wB sn u1 u2 up e v wB.drew:=
 ⟨Cx,fun a=>ff (he 15 (by simp)) a,fun a=>ff (he 17 (by simp)) a,fun a=>ff (he 16 (by simp)) a⟩
theorem JC.s15 (h:JC wB sn u1 u2 up e v W) (d:e 15=false):JC wB sn u1 u2 up (Ag e 15 true) (Ag v 15 (.pointer (some ⟨W.heap.size,0,none⟩))) (W.alloc (.cells #[.string ⟨#[]⟩,.slice none 0 0,.slice none 0 0] 72)):=
 ⟨h.ext.alloc _,fun _=>⟨_,rfl,h.ext.size,fun _=>zg.new _ _ _ rfl,fun a=>ff (b:=e 16) (notT h.d16 d) a⟩,h.asg,fun _=>rfl⟩
theorem JC.s16 {g3:Nat} {x:Value} (h:JC wB sn u1 u2 up e v W) (d:e 15=true) (G:v 15=.pointer (some ⟨g3,0,none⟩)) (E:wB.heap.size<=g3) (o:zc wB W') (D:zg W' g3 72 #[.string sn,u1,u2]):JC wB sn u1 u2 up (Ag e 16 true) (Ag v 16 x) W':=
 ⟨o,fun _=>⟨g3,G,E,fun a=>(by cases a),fun _=>D⟩,h.asg,fun _=>d⟩
theorem JC.s17 (h:JC wB sn u1 u2 up e v W):JC wB sn u1 u2 up (Ag e 17 true) (Ag v 17 up) W:=⟨h.ext,h.al,fun _=>rfl,h.d16⟩
end
theorem candidates_calls {ok:Nat->Prop} (w:World) (h:AM w ok g m ch ps us f u ts vc vp gu) (so:SOk m ch ps):
  Calls Tryz.prog 57 #[.pointer (some ⟨g,0,none⟩)] w fun e w'=>∃v',e=.returned v'/\Mk w w' v' (BV m ps us):=by
 have HS:=zh h;have SO:=zh so;have q8:ps.length<=6:=DG so.pl so.good.tk;obtain ⟨r0,r1,r2,r3,r4,r5,r6,r7,r8⟩:=h.rules;have hx:=zc.refl w
 go_enter Tryz.func57,Tryz.ntmps57
 go_wp2_with fail
 generalize i1:w.alloc (.cells #[.pointer (some ⟨g,0,none⟩)] 107)=w1;have j5:zc w w1:=by rw [<-i1];exact (zc.refl w).alloc _
 have h4:w1.cell? ⟨w.heap.size,0,none⟩=some (.pointer (some ⟨g,0,none⟩)):=by rw [<-i1];exact zQ _ _ _ rfl
 have q7:w.heap.size<w1.heap.size:=zn h4;have rb:=zc.rule h4;clear i1;refine (BG _ (HS.out.ext j5) SO.out).mono ?_;rintro e wA ⟨rfl,k3⟩;have m6:zc w1 wA:=k3.below _;have hA:=j5.trans m6;clear k3 h4
 cases O:cmpB m ps with
 | true=>
  have HC:=zh O;clear O
  go_wp2_with fail
  go_ret;exact ⟨_,rfl,hA.mono_mk (Mk.cast (Mk.nil _) (by unfold BV;rw [if_pos HC.out]))⟩
 | false=>
  have HC:=zh O
  have hp:0<ps.length:=by
   by_cases h0:m.tasks.length=0
   ·unfold cmpB at O;rw [DH h0] at O;cases O
   ·exact so.pn (by omega)
  clear O
  go_wp2_with fail
  refine (AA _ (HS.out.ext hA) (by omega)).mono ?_;rintro e wB ⟨he,n4⟩;subst n4;obtain ⟨t,hk⟩:∃t,ps.length=t+1:=⟨ps.length - 1,by omega⟩;have l4:(ps.length:Int) - 1=(t:Int):=by omega
  rw [l4] at he;subst he;clear l4;have j7:zc w (wA.alloc (.cells #[.int .i64 t] 3)):=hA.alloc _;have o2:(wA.alloc (.cells #[.int .i64 t] 3)).cell? ⟨wA.heap.size,0,none⟩=some (.int .i64 t):=zQ _ _ _ rfl;have m7:zc w1 (wA.alloc (.cells #[.int .i64 t] 3)):=m6.alloc _;have ho:=h.ps;have o9:=h.maze;obtain ⟨vs,⟨Ap,cp,rfl,t0,m1⟩,k4⟩:=ho;obtain ⟨fr',up',ts',a9,_,_,J⟩:=o9;injection a9 with a9;injection a9 with a9;simp only [List.cons.injEq,and_true,true_and] at a9;obtain ⟨rfl,rfl,rfl⟩:=a9;have p5:=J;obtain ⟨vst,⟨At,ct,rfl,t1,_⟩,_⟩:=p5;have e2:t<ps.length:=by omega
  obtain ⟨b,off,up,rfl,_,f4,i0⟩:=Bt m1 k4 e2 e2;have e9:t<m.tasks.length:=by have:=so.pl;omega
  obtain ⟨bt,offt,sn,u1,u2,rfl,_,l1,l2,l3,e8,h5⟩:=Cj J e9;have h6:=so.pp _ (DF e2);have e0:=so.pr _ (DF e2);have o7:=(so.lens.tl _ (DF e9)).1;have h9:=so.good.tn _ (DF e9)
  have d5:BV m ps us=match (ps[t]).getLast? with
    | none=>(Lib.compact (BZ (m.tasks[t]).1)).filter fun n=>zm m t n && !decide (n∈us)
    | some x=>(zy m x).filter (zO m us t (ps[t]).dropLast (m.tasks[t]).1):=by
   unfold BV;rw [HC.out,if_neg (by simp),show ps.length - 1=t from by omega];simp [e2,e9]
  have b5:=zh d5;clear d5;obtain ⟨p,l9⟩:=EH (ps[t]);obtain ⟨tk,m4⟩:=EH (m.tasks[t]);rw [<-l9] at i0 h6 b5 e0;rw [<-m4] at e8 h5 o7 b5 h9;have k7:=e8;obtain ⟨A5,c5,rfl,s6,_⟩:=k7;have k8:=h5;obtain ⟨A6,c6,rfl,s7,_⟩:=k8;clear l9 m4 m1 k4 J h5;have HP:=zh i0;clear i0;have HF:=zh e8;clear e8;have g5:=zh e0;clear e0;have n3:=zh h9;clear h9;have v2:(t:Int)<(ps.length:Int):=by omega
  have t9:(0:Int)<=(t:Int):=by omega
  have v5:(t:Int)<(m.tasks.length:Int):=by omega
  have k5:t<m.free.length:=by have:=so.good.fl;omega
  have q0:=zc.rule f4;have q1:=zc.rule l1;have q2:=zc.rule l2;have q3:=zc.rule l3;clear f4 l1 l2 l3 h so hk;generalize p7:wA.alloc (.cells #[.int .i64 t] 3)=wB at*;have rt:=zc.rule o2;have f1:=zc.refl wB
  go_wp2_with fail
  clear p7;refine DU (S:=(fun W=>zc w W/\zc w1 W/\zc wB W)) (by kernel_rfl) (⟨j7.drew,m7.drew,f1.drew⟩) fun zH=>?_;refine zA 0 zH ?_;refine zA 1 zH ?_;simp only [zd,DB];refine zA 2 zH ?_;refine zA 3 zH ?_;simp only [zd,DB];refine zA 4 zH ?_;refine zA 5 zH ?_;simp only [zd,DB];refine zA 6 zH ?_;refine zA 7 zH ?_;simp only [zd,DB];refine zA 8 zH ?_;refine zA 9 zH ?_;simp only [zd,DB];refine zA 10 zH ?_;refine zA 11 zH ?_;simp only [zd,DB];refine zA 12 zH ?_;refine zA 13 zH ?_;simp only [zd,DB];refine zA 14 zH ?_;simp only [zd,DB];refine BL [15,16,17] (fun e v W=>JC wB sn (.slice A5 tk.1.length c5) (.slice A6 tk.2.length c6) up e v W) (F:=?F1) (by kernel_rfl) (by kernel_rfl) (by decide) zH (fun v=>?hF1) ?init1 (by kernel_rfl) ?steps1 ?fin1
  case hF1=>(simp only [zF,Bz,List.getElem?_toArray,List.getElem?_cons_succ,List.getElem?_cons_zero,Option.bind,Act.put,List.setIfInBounds_toArray,List.set_cons_succ,List.set_cons_zero];rfl)
  case init1=>
   intro e v he;exact JC.init he
  case steps1=>
   refine zi.cons rfl (fun e v W K hJ hW he hd hK=>?_) ?_
   ·simp only [zd] at hd hK⊢;go_simp;exact hK.out _ _ _ (by rfl) ⟨hW.1.alloc _,hW.2.1.alloc _,hW.2.2.alloc _⟩ (hJ.s15 he)
   refine zi.cons rfl (fun e v W K hJ hW he hd hK=>?_) ?_
   ·simp only [zd] at hd hK⊢;have i7:e 15=true:=zo hd [15] (by kernel_rfl) 15 (by simp);obtain ⟨g3,V,d7,G,_⟩:=hJ.al i7;have G:=G he;have hf:=fun k=>G.frozen k
    have s4:=G.cell (k:=0) rfl;have s5:=G.cell (k:=1) rfl;have q6:=G.cell (k:=2) rfl;go_simp;have a8:=((hJ.ext.setCell (p:=⟨g3,0,none⟩) d7 (.string sn)).setCell (p:=⟨g3,1,none⟩) d7 (.slice A5 tk.1.length c5)).setCell (p:=⟨g3,2,none⟩) d7 (.slice A6 tk.2.length c6);exact hK.out _ undef _ (by simp [Act.put,V]) ⟨j7.trans a8,m7.trans a8,a8⟩ (hJ.s16 i7 V d7 a8 (((G.set (k:=0) _).set (k:=1) _).set (k:=2) _))
   refine zi.cons rfl (fun e v W K hJ hW he hd hK=>?_) ?_
   ·simp only [zd] at hd hK⊢;go_simp;exact hK.out _ up _ (by rfl) hW hJ.s17
   exact zi.nil
  case fin1=>
   intro v W hJ hW;obtain ⟨g3,V,d7,_,G⟩:=hJ.al rfl;have G:=G rfl;have f9:=hJ.asg rfl;rw [V,f9];clear hJ V f9;obtain ⟨o0,j3,o1⟩:=hW;have rg3:=zc.rule (G.cell (k:=1) rfl);clear G;have e4:=zh o0;have k2:=rt W o1;have s9:=AP (P:=Tryz.prog) Tryz.func93 (by kernel_rfl) (by kernel_rfl);have f3:=rb W j3;generalize o5:wA.heap.size=g2 at*;clear o5;have p2:=HP.out;obtain ⟨Aq,cq,rfl,j8,p4⟩:=p2;clear p4;have f1:=zc.refl W;rcases List.eq_nil_or_concat p with rfl | ⟨q,x,rfl⟩
   ·have g4:Hid (BV m ps us=(Lib.compact (BZ tk.1)).filter fun n=>zm m t n && !decide (n∈us)):=b5.out
    go_wp2_with fail
    refine (values_calls A5 tk.1.length c5 W).mono ?_;rintro e w2 ⟨rfl,rfl⟩;have g6:zc W (W.alloc (.cells #[.slice A5 tk.1.length c5] 39)):=f1.alloc _;have j9:(W.alloc (.cells #[.slice A5 tk.1.length c5] 39)).cell? ⟨W.heap.size,0,none⟩=some (.slice A5 tk.1.length c5):=zQ _ _ _ rfl;have hS:=zh (sorted_calls W.heap.size _ j9 (HF.out.below (e4.out.trans g6)) (by omega))
    go_wp2_with fail
    refine hS.out.mono ?_;rintro e w3 ⟨v3,rfl,h2⟩;have m3:(BZ tk.1).length<=1000000000000:=by unfold BZ;rw [List.length_mergeSort];omega
    have i8:=zh (compact_calls h2 m3);have a8:=zh h2.ext;clear h2 hS
    go_wp2_with fail
    refine i8.out.mono ?_;rintro e w4 ⟨v4,rfl,e5⟩;have o8:Hid (∀y,y∈Lib.compact (BZ tk.1)->y∈tk.1):=fun y hy=>mem_sortL.1 (Dt hy)
    have t3:(Lib.compact (BZ tk.1)).length<=1000000000000:=DG (compact_len _) m3;generalize Lib.compact (BZ tk.1)=L at*;have g7:zc W w4:=g6.trans e5.ext;obtain ⟨A7,c7,p6,s8⟩:=e5.slice;subst p6;have n2:=zh e5;clear e5 i8 a8 j9 g6;have m5:zc w w4:=e4.out.trans g7;have b8:=zh (Mk.nil w4)
    go_wp2_with fail
    go_loopw [7,46] (fun v i wr=>∃k:Nat,k<=L.length/\i=.int .i64 (k:Nat)/\Hid (Mk w4 wr v ((L.take k).filter fun n=>zm m t n && !decide (n∈us)))) (fun _ i _=>L.length - (intOf i).toNat)
    case atStart=>exact ⟨0,by omega,rfl,b8⟩
    clear b8
    case round=>
     obtain ⟨k,hk,rfl,hM⟩:=hrel;have d:=hM.out.ext;by_cases I:k<L.length
     ·obtain ⟨b9,rfl,Q,D⟩:=own_at (n2.out.own.ext d) I;have J:=zh (DL I);have E:=n3.out _ (.inl (o8.out _ (DF I)));obtain ⟨y,hy⟩:=EH (L[k]);rw [<-hy] at D J E;clear hy;have o:=zh (cand1_calls t y wr (HS.out.ext (m5.trans d)) SO.out.good.fn k5 ((g7.trans d).cell f3) ((g7.trans d).cell k2) E.1 E.2);obtain ⟨bb,h3⟩:=EH ((zm m t y && !decide (y∈us)));rw [<-h3] at o;have m9:=zh h3;clear h3 E;have o4:((L.take k).filter fun n=>zm m t n && !decide (n∈us)).length<=1000000000000:=DG (Eg _ _) (by simp;omega);have a1:Hid ((L.take (k+1)).filter (fun n=>zm m t n && !decide (n∈us))=(L.take k).filter (fun n=>zm m t n && !decide (n∈us))++(if bb then [y] else [])):=by rw [J.out,List.filter_append,m9.out];show _++List.filter _ [y]=_;by_cases h:(zm m t y && !decide (y∈us))=true <;> simp [List.filter_cons,h]
      generalize (L.take k).filter (fun n=>zm m t n && !decide (n∈us))=lk at*
      go_wp2_with fail
      refine o.out.mono ?_;rintro e w5 ⟨rfl,d6⟩;have b6:zc wr w5:=d6.below _;have M:=zh (hM.out.more b6);clear d6 o
      cases bb with
      | true=>
       have p8:w4.heap.size<=w5.heap.size:=M.out.ext.size
       go_wp2_with (at_builtin;refine Dj rfl _ _ rfl _ lk y w4.heap.size w5.heap.size 1 _ rfl rfl (M.out.own.alloc _) ?d1 ?d2 ?d3 ?_)
       (try case d1=>exact zQ _ _ _ (by simp))
       case d2=>(first | (simp;done) | (simp;omega) | omega)
       case d3=>omega
       intro v' wb d9 U _;have g9:=zh ((M.out.alloc _).app d9 U);clear d9 U;go_wp2;go_roundw
       case rel=>exact ⟨k+1,by omega,by go_num,by rw [a1.out];exact g9⟩
       case measure=>simp [intOf];omega
      | false=>
       go_wp2;go_roundw
       case rel=>exact ⟨k+1,by omega,by go_num,by rw [a1.out];simpa using M⟩
       case measure=>simp [intOf];omega
     ·obtain rfl:k=L.length:=by omega
      go_wp2_with fail
      go_ret;refine ⟨_,rfl,(m5.mono_mk hM.out).cast ?_⟩;rw [g4.out,DP]
   ·rw [List.concat_eq_append] at HP b5 g5;have l8:(q.concat x).length=q.length+1:=by simp
    have f7:(q++[x]).length=q.length+1:=by simp
    rw [l8] at j8 h6⊢;rw [f7] at HP;obtain ⟨N,hN⟩:=EH (q.length+1);rw [<-hN] at j8 h6 HP⊢;have s2:(q.length:Int)<(N:Int):=by omega
    have p3:IntKind.i64.wrap ((N:Int) - 1)=(q.length:Int):=by rw [DZ];omega
    have m0:(N:Int) - 1=(q.length:Int):=by omega
    have t6:(0:Int)<=(q.length:Int):=by omega
    have s1:0<N:=by omega
    have t7:q.length<=N:=by omega
    have g4:Hid (BV m ps us=(zy m x).filter (zO m us t q tk.1)):=by have h:=b5.out;simp at h;exact h
    have a5:Hid (∀k y,(q++[x])[k]?=some y->∃bq oq,Aq=some ⟨bq,oq,none⟩/\∀W',zc w W'->W'.cell? ⟨bq,oq+k,none⟩=some (.int .i64 y)):=fun k y hy=>path_cell HP.out hy
    clear l8 f7 hN;have t4:=@run_makeMap Tryz.prog
    go_wp2_with fail
    have j1:Hid (NR W (W.alloc (.map #[] 0)) W.heap.size []):=⟨f1.alloc _,zC.new W⟩;generalize k6:W.heap.size=gn at*;have f6:gn=W.heap.size:=k6.symm;have n1:=zh f6;clear k6 f6;go_loopw [66] (fun i wr=>∃k s,k<=q.length/\i=.int .i64 (k:Nat)/\Hid (NR W wr gn s)/\Hid (∀z,z∈s↔∃y∈q.take k,z∈zy m y)) (fun i _=>q.length - (intOf i).toNat)
    case atStart=>exact ⟨0,[],by omega,rfl,j1,by simp [Hid]⟩
    clear j1
    case round=>
     obtain ⟨k,s,hk,rfl,hR,d8⟩:=hrel;have d:zc W wr:=hR.out.ext;have e3:zc w wr:=e4.out.trans d;have i2:zc w1 wr:=j3.trans d;obtain ⟨wk,rfl⟩:∃wk:World,wk=wr:=⟨_,rfl⟩;by_cases I:k<q.length
     ·obtain ⟨bq,oq,rfl,D⟩:=a5.out k q[k] (by rw [DJ I];exact DC I);have E:=g5.out q[k] (by simp);have J:=zh (DL I);obtain ⟨y,hy⟩:=EH (q[k]);rw [<-hy] at D E J;clear hy;have l5:(k:Int)<(q.length:Int):=by omega
      have l7:=zh (next_calls m y wk (HS.out.maze.below e3) SO.out.good.dim E.1 E.2);clear E
      go_wp2_with fail
      refine l7.out.mono ?_;rintro e w9 ⟨v9,rfl,Q,a2⟩;have j2:=zh (hR.out.more Q);have e6:Hid (zY w9 wk.heap.size v9 (zy m y)):=a2;obtain ⟨A9,c9,rfl,o3⟩:=AW a2;have t2:gn<wk.heap.size:=za hR.out.set;clear Q a2 l7 hR;have o6:=nextL_len m y
      go_wp2_with fail
      go_loopw [77] (fun i wi=>∃j s',j<=(zy m y).length/\i=.int .i64 (j:Nat)/\Hid (NR W wi gn s')/\Hid (zY wi wk.heap.size (.slice A9 (zy m y).length c9) (zy m y))/\Hid (∀z,z∈s'↔z∈s\/z∈(zy m y).take j)) (fun i _=>(zy m y).length - (intOf i).toNat)
      case atStart=>exact ⟨0,s,DS _,rfl,j2,e6,by simp [Hid]⟩
      clear j2 e6
      case round=>
       obtain ⟨j,s',hj,rfl,hR,hO,l6⟩:=hrel;by_cases k9:j<(zy m y).length
       ·obtain ⟨b2,rfl,s3,e7⟩:=own_at hO.out k9;have f8:=zh (fun z=>zS k9 z);obtain ⟨z,hz⟩:=EH ((zy m y)[j]);rw [<-hz] at e7 f8;clear hz
        go_wp2_with (at_mapUpdate;refine wpSetAdd rfl _ _ _ _ rfl Tryz.underlying104 gn s' z rfl rfl rfl hR.out.set ?_)
        intro wb m2 U;have n8:=zh (hR.out.add n1.out m2 U);have n7:Hid (zY wb wk.heap.size (.slice (some ⟨b2,0,none⟩) (zy m y).length c9) (zy m y)):=World.ownsRow.kept hO.out U (AQ hO.out hR.out.set);clear m2 U;go_wp2;go_roundw
        case rel=>exact ⟨j+1,ins s' z,by omega,by go_num,n8,n7,fun a=>by rw [mem_ins,l6.out,f8.out,or_assoc]⟩
        case measure=>simp [intOf];omega
       ·obtain rfl:j=(zy m y).length:=by omega
        go_wp2;go_roundw
        case rel=>exact ⟨k+1,s',by omega,by go_num,hR,fun a=>by rw [l6.out,DP,d8.out,J.out];exact near_step⟩
        case measure=>simp [intOf];omega
     ·obtain rfl:k=q.length:=by omega
      rw [DP] at d8;obtain ⟨bq,oq,rfl,D⟩:=a5.out q.length x (by simp);have E:=g5.out x (by simp);have i3:=zc.refl wk;have h7:Hid (∀z,decide (z∈s)=q.any fun y=>decide (z∈zy m y)):=fun z=>near_any (d8.out z)
      have q9:IntKind.i64.wrap ((N:Int) - 1)=(q.length:Int):=by rw [DZ];omega
      clear p3 m0
      go_wp2_with fail
      go_region_held3 (fun W'=>zc w W'/\zc w1 W'/\zc wk W')
       (first | (exact ⟨e3.drew,i2.drew,i3.drew⟩) | (exact ⟨e3.drew.trans Q,i2.drew.trans Q,i3.drew.trans Q⟩))
       ((go_at_call 97;refine (next_calls m x _ (HS.out.maze.below e3.drew) SO.out.good.dim E.1 E.2).mono ?_;rintro e w9 ⟨v9,rfl,Q,a2⟩;obtain ⟨A9,c9,rfl,o3⟩:=AW (l:=zy m x) a2))
      rename_i n9
      obtain ⟨g0,r9,g1⟩:=n9;have j6:zc wk.drew w9:=Q;have e6:Hid (zY w9 wk.drew.heap.size (.slice A9 (zy m x).length c9) (zy m x)):=a2;have h8:=zh (hR.out.set.below g1);clear Q a2 hR j6 D;have o6:=nextL_len m x;have c8:zc W w9:=d.trans g1;have b8:=zh (Mk.nil w9);have f0:=zh (fun z hz=>BY (m:=m) (x:=z) SO.out.good.dim E.1 E.2 hz)
      go_wp2_with fail
      clear e3 i2 d i3 I hk;generalize i9:zy m x=L at*;have s0:=zh i9;clear i9;go_loopw [7,97] (fun v i wr=>∃k:Nat,k<=L.length/\i=.int .i64 (k:Nat)/\Hid (Mk w9 wr v ((L.take k).filter (zO m us t q tk.1)))) (fun _ i _=>L.length - (intOf i).toNat)
      case atStart=>exact ⟨0,by omega,rfl,b8⟩
      clear b8
      case round=>
       obtain ⟨k,hk,rfl,hM⟩:=hrel;have d:=hM.out.ext;by_cases I:k<L.length
       ·obtain ⟨b9,rfl,Q,D⟩:=own_at (e6.out.ext d) I;have J:=zh (DL I);have a7:=f0.out _ (DF I);obtain ⟨y,hy⟩:=EH (L[k]);rw [<-hy] at D J a7;clear hy;have o:=zh (cand1_calls t y wr (HS.out.ext (g0.trans d)) SO.out.good.fn k5 ((c8.trans d).cell f3) ((c8.trans d).cell k2) a7.1 a7.2);obtain ⟨b1,d4⟩:∃b1,b1=(zm m t y && !decide (y∈us)):=⟨_,rfl⟩;rw [<-d4] at o;have f5:zO m us t q tk.1 y=(b1 && !decide (y∈s) && !decide (y∈tk.1)):=by unfold zO;rw [h7.out y,d4]
        clear d4 a7;have a4:=zh f5;clear f5;have o4:((L.take k).filter (zO m us t q tk.1)).length<=1000:=DG (Eg _ _) (by simp;omega);have a1:Hid (∀bb,zO m us t q tk.1 y=bb->(L.take (k+1)).filter (zO m us t q tk.1)=(L.take k).filter (zO m us t q tk.1)++(if bb then [y] else [])):=fun bb h=>by rw [J.out,List.filter_append];show _++List.filter _ [y]=_;cases bb <;> simp [List.filter_cons,h]
        generalize (L.take k).filter (zO m us t q tk.1)=lk at*
        go_wp2_with fail
        refine o.out.mono ?_;rintro e w5 ⟨rfl,d6⟩;have b6:zc wr w5:=d6.below _;have M:=zh (hM.out.more b6);clear d6 o;have e1:=h8.out.below (d.trans b6);have j4:zc W w5:=c8.trans (d.trans b6);have n5:=zh (HF.out.below (e4.out.trans j4))
        cases b1 with
        | false=>
         have a0:Hid (zO m us t q tk.1 y=false):=a4.out.trans (by simp);go_wp2;go_roundw
         case rel=>exact ⟨k+1,by omega,by go_num,by rw [a1.out false a0.out];simpa using M⟩
         case measure=>simp [intOf];omega
        | true=>
         by_cases a3:y∈s
         ·have a0:Hid (zO m us t q tk.1 y=false):=a4.out.trans (by simp [a3]);have l5:=look_t e1 a3;clear a3;go_wp2;go_roundw
          case rel=>exact ⟨k+1,by omega,by go_num,by rw [a1.out false a0.out];simpa using M⟩
          case measure=>simp [intOf];omega
         ·have l5:=look_f e1 a3;have t8:=rg3 w5 j4;have a6:=zh (Ay y w5 n5.out (by omega));by_cases b0:y∈tk.1
          ·have a0:Hid (zO m us t q tk.1 y=false):=a4.out.trans (by simp [b0]);rw [DH b0] at a6;clear a3 b0
           go_wp2_with fail
           refine a6.out.mono ?_;rintro e w6 ⟨rfl,rfl⟩;go_wp2;go_roundw
           case rel=>exact ⟨k+1,by omega,by go_num,by rw [a1.out false a0.out];simpa using M⟩
           case measure=>simp [intOf];omega
          ·have a0:Hid (zO m us t q tk.1 y=true):=a4.out.trans (by simp [a3,b0]);rw [DI b0] at a6;clear a3 b0;have p8:w9.heap.size<=w5.heap.size:=M.out.ext.size
           go_wp2_with (first | (go_at_call 56;refine a6.out.mono ?_;rintro e w6 ⟨rfl,rfl⟩) | (at_builtin;refine Dj rfl _ _ rfl _ lk y w9.heap.size w5.heap.size 1 _ rfl rfl (M.out.own.alloc _) ?d1 ?d2 ?d3 ?_))
           (try case d1=>exact zQ _ _ _ (by simp))
           case d2=>(first | (simp;done) | (simp;omega) | omega)
           case d3=>omega
           intro v' wb d9 U _;have g9:=zh ((M.out.alloc _).app d9 U);clear d9 U;go_wp2;go_roundw
           case rel=>exact ⟨k+1,by omega,by go_num,by rw [a1.out true a0.out];exact g9⟩
           case measure=>simp [intOf];omega
       ·obtain rfl:k=L.length:=by omega
        go_wp2_with fail
        go_ret;refine ⟨_,rfl,(g0.mono_mk hM.out).cast ?_⟩;rw [g4.out,DP]
end
section
open Go.RowKit Go.Sort Go.Shelf
section
variable {w:World} {ok:Nat->Prop} {size n:Nat} {A:Option Addr} {v:Value} {xs:List Value}
theorem AD.bound (h:AD w ok size A n xs) (E:0<size):AD w (fun b=>ok b/\b<w.heap.size) size A n xs:=by
 refine ⟨h.1,fun o=>?_⟩;obtain ⟨b,off,e,D,d⟩:=h.2 o;have h0:0<xs.length:=by rw [h.1];exact Nat.mul_pos o E
 exact ⟨b,off,e,⟨D,zn (d 0 _ (DC h0))⟩,d⟩
theorem Bc.bound (h:Bc w ok size v n xs) (D:0<size):Bc w (fun b=>ok b/\b<w.heap.size) size v n xs:=by
 obtain ⟨A,c,e,d,o⟩:=h;exact ⟨A,c,e,d,o.bound D⟩
theorem AR.bound {l:List Bool} (h:AR w ok v l):AR w (fun b=>ok b/\b<w.heap.size) v l:=Bc.bound h (by decide)
theorem Each.bound {α:Type} {R R':Value->α->Prop} {l:List α} (h:Each R w ok v l) (o:∀u x,R u x->R' u x):Each R' w (fun b=>ok b/\b<w.heap.size) v l:=by
 obtain ⟨vs,d,he⟩:=h;refine ⟨vs,d.bound (by decide),fun i x E=>?_⟩;obtain ⟨u,D,d⟩:=he i x E;exact ⟨u,D,o _ _ d⟩
theorem AX.bound {l:List (List Bool)} (h:AX w ok v l):AX w (fun b=>ok b/\b<w.heap.size) v l:=Each.bound h (fun _ _ h=>AR.bound h)
theorem zV.bound {l:List (List Int)} (h:zV w ok v l):zV w (fun b=>ok b/\b<w.heap.size) v l:=Each.bound h (fun _ _ h=>zl.bound h)
theorem Bo.bound {l:List (List Int×List Int)} (h:Bo w ok v l):Bo w (fun b=>ok b/\b<w.heap.size) v l:=by
 obtain ⟨vs,o,he⟩:=h;refine ⟨vs,o.bound (by decide),fun i x D=>?_⟩;obtain ⟨s,u1,u2,h0,h1,d,i1,i2⟩:=he i x D;exact ⟨s,u1,u2,h0,h1,d,i1.bound,i2.bound⟩
theorem Ad.bound {m:MZ} (h:Ad w ok v m):Ad w (fun b=>ok b/\b<w.heap.size) v m:=by
 obtain ⟨f,u,t,rfl,h1,d,o⟩:=h;exact ⟨f,u,t,rfl,h1.bound,d.bound,o.bound⟩
theorem AM.bound {g gu:Nat} {m:MZ} {ch us:List Int} {ps:List (List Int)} {f u t vc vp:Value} (h:AM w ok g m ch ps us f u t vc vp gu):AM w (fun b=>ok b/\b<w.heap.size) g m ch ps us f u t vc vp gu:=
 ⟨h.blk,⟨h.okg,za h.blk⟩,h.maze.bound,h.ch.bound,h.ps.bound,⟨h.oku,za h.us⟩,h.us⟩
end
abbrev InR (R:Int->Prop):={ x:Int // R x }
theorem holds_sub {R:Int->Prop} {w:World} {cap:Nat} {l:List (InR R)} [Inhabited (InR R)] (h:zY w B (.slice (some ⟨g,0,none⟩) (l.map (·.1)).length cap) (l.map (·.1))):Holds (fun x:InR R=>Value.int .i64 x.1) w g 0 l.toArray:=by
 intro j o;have d:j<l.length:=by simpa using o
 refine ⟨?_,by have:=World.ownsRow.frozenAt h j;simpa using this⟩;have:=World.ownsRow.cellAt h j (by simpa using d);rw [Nat.zero_add,this];simp [getElem!_pos,d]
theorem sortWorld_same {α:Type} [Inhabited α] {enc:α->Value} {w:World} {blk off n:Nat} {dk:Array α} {os:Array Obj} (D:B<=blk) (G:B<=w.heap.size):zZ (fun b=>b<B) w (sortWorld enc w blk off n dk os):=by
 intro b E d;have o:blk≠b:=by omega
 simp [sortWorld,grow,putRow,mapBlock,Sort.ahead,Array.getElem?_append,Array.getElem?_modify,Array.getElem_modify,d,o]
theorem deleteFuncI_calls {w1 w:World} {v:Value} (d:Mk w1 w v l) (R:Int->Prop) (hR:∀x∈l,R x) (h0:R 0) (hl:l.length<=1000000000000) (fn:FuncId) (lb:Array Value) (p:Int->Bool)
  (eg:∀args w,(callFunc fn args).run Tryz.prog w=.ok (.enter fn args) w)
  (hp:∀x,R x->∀W,zZ (fun b=>b<w1.heap.size) w W->Calls Tryz.prog fn (#[.int .i64 x]++lb) W fun e w'=>e=.returned (.bool (p x))/\zB W w'):
  Calls Tryz.prog 132 #[v,.func (.func fn) #[] lb] w fun e w'=>∃v',e=.returned v'/\Mk w1 w' v' (l.filter fun x=>!p x):=by
 rcases En l.length with hl0 | hl0
 ·have G:=DV hl0;subst G;obtain ⟨A,c,rfl,_⟩:=d.slice;have hI:=zh (CR fn lb p w d.ints (by simp) eg (fun x hx=>by cases hx));have V:=zh d;clear d hp
  go_enter Tryz.func132,Tryz.ntmps132
  go_wp2_with fail
  refine hI.out.mono ?_;rintro e w2 ⟨r,rfl,U,a6,O⟩
  have M:r=-1:=by
   have:¬ 0<=r:=fun h=>by have:=U.1 h;simp at this
   omega
  subst M;have hE:zc w w2:=O.below _;clear O U
  go_wp2_with fail
  go_ret;exact ⟨_,rfl,V.out.more hE⟩
 ·letI:Inhabited (InR R):=⟨⟨0,h0⟩⟩
  obtain ⟨l',rfl⟩:∃l':List (InR R),l'.map (·.1)=l:=⟨l.attachWith R hR,by simp⟩;obtain ⟨g,cap,rfl,Q,a4⟩:=World.ownsRow.form d.own hl0;have D:=Bq d.own;have o:(l'.map (·.1)).length=l'.toArray.size:=by simp
  have I:=AnyE.slices_DeleteFunc dfIA (fun x:InR R=>Value.int .i64 x.1) (fun _=>rfl) (fun x=>p x.1) fn lb eg ⟨0,h0⟩ Tryz.zeroValue3 g 0 cap l'.toArray w
   (fun W x hb=>by
    refine Calls.mono (hp x.1 x.2 W (fun b a3 E=>hb.block b E)) ?_;rintro e w' ⟨rfl,q,rfl⟩;exact ⟨rfl,q,rfl⟩)
   (fun n os dk x _=>by
    refine Calls.mono (hp x.1 x.2 _ (sortWorld_same Q d.ext.size)) ?_;rintro e w' ⟨rfl,q,rfl⟩;exact ⟨rfl,q,rfl⟩)
   (holds_sub d.own) (by rw [<-o];omega) (by rw [<-o];exact D)
  change Calls Tryz.prog 132 _ _ _ at I;rw [<-o] at I;refine Calls.mono I ?_;rintro e w' ⟨rfl,q,rfl⟩;have K:(l'.map (·.1)).filter (fun x=>!p x)=(l'.filter fun x=>!p x.1).map (·.1):=by rw [List.filter_map];rfl
  have J:(l'.filter fun x=>!p x.1).length<=l'.length:=Eg _ _;refine ⟨_,rfl,?_,Lib.below_putRow d.ext Q⟩
  have ho:w.ownsRow w1.heap.size 3 1 (.slice (some ⟨g,0,none⟩) (l'.map (·.1)).length cap) (l'.map (·.1)).length (l'.map fun x:InR R=>Value.int .i64 x.1):=by
   have:=d.own;unfold zY at this;rw [List.map_map] at this;exact this
  have:=Lib.ownsRow_putRow (enc:=fun x:InR R=>Value.int .i64 x.1) (q:=q) (k:=(l'.filter fun x=>!p x.1).length) (ys:=(l'.filter fun x=>!p x.1)++List.replicate (l'.length - (l'.filter fun x=>!p x.1).length) ⟨0,h0⟩) ho (by simp;omega) (by simpa using J);rw [List.take_left' rfl] at this;rw [K];unfold zY;rw [List.map_map,Em];simpa using this
end
section
open Go.RowKit Go.Shelf
attribute [local go_sem] Oper.semAt_some
attribute [local go_sem ↓] Go.wp_at_zero Go.wp_at_succ
def AS (m:MZ) (ps:List (List Int)) (us:List Int) (t:Nat):List Int:=
 match (if t+1=ps.length then (ps.getD t []).getLast? else none) with
 | some x=>[x]
 | none=>((m.tasks.getD t ([],[])).1).filter fun n=>!(!zm m t n || decide (n∈us))
theorem sameCell {w W:World} (o:zZ (fun b=>b<B) w W) {p:Addr} {v:Value} (d:w.cell? p=some v) (hp:p.block<B):W.cell? p=some v:=
 (DT (w:=w) (o p.block hp (zn d))).trans d
theorem Bj {ok:Nat->Prop} {v:Value} (w:World) (h:zl w ok v l) (M:l.length<=1000000000000):
  Calls Tryz.prog 39 #[v] w fun e w'=>∃v',e=.returned v'/\Mk w w' v' l:=by
 have H:=zh h;have E:=nilEq 39 3 Tryz.underlying39;obtain ⟨A,c,rfl,K,o⟩:=h;rcases A with _ | a
 ·have d:l=[]:=by
   rcases En l.length with h | h
   ·exact DV h
   ·obtain ⟨b,off,e,_⟩:=o.2 h;cases e
  subst d;clear o
  go_enter Tryz.func39,Tryz.ntmps39
  go_wp2_with fail
  go_ret;exact ⟨_,rfl,Mk.nil _⟩
 ·clear o;have O:=zc.refl w
  go_enter Tryz.func39,Tryz.ntmps39
  go_wp2_with (at_builtin;refine CD (ok:=ok) rfl _ _ _ rfl w.heap.size [] l _ _ rfl rfl (own_empty w w.heap.size (DE _)) (H.out.below ((zc.refl w).alloc _)) ?d1 ?d2 ?_)
  case d1=>simp
  case d2=>simp;omega
  intro v' w1 G D _;have I:Hid (Mk w w1 v' l):=⟨G,AU ((zc.refl w).alloc _) D (by simp) (fun k J=>slice_own J)⟩;clear G D
  go_wp2_with fail
  go_ret;exact ⟨_,rfl,I.out⟩
theorem left11_del {ok:Nat->Prop} {w wk w8:World} {v8:Value} (tn:Nat) (h:AM w ok g m ch ps us f u ts vc vp gu) (so:SOk m ch ps) (E:zc w wk)
  (d:Mk wk w8 v8 l) (D:wk.cell? ⟨gb,0,none⟩=some (.pointer (some ⟨g,0,none⟩))) (o:wk.cell? ⟨b3,0,none⟩=some (.int .i64 (tn:Int))) (U:tn<m.tasks.length) (M:l.length<=1000000000000) (Q:∀x∈l,0<=x/\x<m.n):
  Calls Tryz.prog 132 #[v8,.func (.func 133) #[] #[.pointer (some ⟨gb,0,none⟩),.pointer (some ⟨b3,0,none⟩)]] w8 fun e w'=>∃v',e=.returned v'/\Mk wk w' v' (l.filter fun n=>!(!zm m tn n || decide (n∈us))):=by
 have J:tn<m.free.length:=by have:=so.good.fl;omega
 refine deleteFuncI_calls d (fun x=>0<=x/\x<m.n) Q ⟨by omega,by have:=so.good.n1;unfold MZ.n;omega⟩ M _ _ (fun x=>!zm m tn x || decide (x∈us)) (AP (P:=Tryz.prog) Tryz.func133 (by kernel_rfl) (by kernel_rfl)) ?_;intro x K W G;have h1:AM W (fun b=>ok b/\b<w.heap.size) g m ch ps us f u ts vc vp gu:=h.bound.keep (fun b I O=>(G b (Ef I.2 E.size) (Ef I.2 (E.trans d.ext).size)).trans ((E.trans d.ext).block b I.2));exact left11_calls tn x W h1 so.good.fn J (sameCell G (d.ext.cell D) (zn D)) (sameCell G (d.ext.cell o) (zn o)) K.1 K.2
theorem left1_next {w W w5:World} {J:Nat->World->Prop} {tn t0:Nat} (E:Hid (tn=t0+k)) (U:k<=m.tasks.length+1 - ps.length) (K:tn<m.tasks.length) (Q:m.tasks.length<=1000000) (M:ps.length=t0+1)
  (I:Hid (∀(k:Nat) (A B:World),J k A->Below W.heap.size A B->J k B)) (G:Hid (wr.cell? ⟨b3,0,none⟩=some (.int .i64 (tn:Int)))) (o:zc w w5) (D:Hid (J (k+1) w5)) (d:W.heap.size<=w5.heap.size):
  (∃k tn_1 b3,Value.pointer (some ⟨w5.heap.size,0,none⟩)=Value.pointer (some ⟨b3,0,none⟩)/\Hid (tn_1=t0+k)/\k<=m.tasks.length+1 - ps.length/\Hid (W.heap.size<=b3)/\
   Hid ((w5.alloc (Obj.cells #[Value.int IntKind.i64 (wrap64 ((tn:Int)+1))] 3)).cell? ⟨b3,0,none⟩=some (Value.int IntKind.i64 (tn_1:Int))/\(w5.alloc (Obj.cells #[Value.int IntKind.i64 (wrap64 ((tn:Int)+1))] 3)).frozen? ⟨b3,0,none⟩=false)/\
   Hid (zc w (w5.alloc (Obj.cells #[Value.int IntKind.i64 (wrap64 ((tn:Int)+1))] 3)))/\Hid (J k (w5.alloc (Obj.cells #[Value.int IntKind.i64 (wrap64 ((tn:Int)+1))] 3)))/\
   Hid (W.heap.size<=(w5.alloc (Obj.cells #[Value.int IntKind.i64 (wrap64 ((tn:Int)+1))] 3)).heap.size))/\
  (match Value.pointer (some ⟨w5.heap.size,0,none⟩) with
   | Value.pointer (some a)=>(match (w5.alloc (Obj.cells #[Value.int IntKind.i64 (wrap64 ((tn:Int)+1))] 3)).cell? a with | some (Value.int k i)=>m.tasks.length - i.toNat | x=>0)
   | x=>0)<
  (match Value.pointer (some ⟨b3,0,none⟩) with
   | Value.pointer (some a)=>(match wr.cell? a with | some (Value.int k i)=>m.tasks.length - i.toNat | x=>0)
   | x=>0):=by
 have h1:=E.out;have O:wrap64 ((tn:Int)+1)=((tn+1:Nat):Int):=by rw [IntWalk.wrap64_in _ (by omega)];omega
 rw [O];refine ⟨⟨k+1,tn+1,w5.heap.size,rfl,(by omega:tn+1=t0+(k+1)),by omega,d,⟨zQ _ _ _ rfl,World.frozen?_alloc_at _ _ _ _ rfl⟩,o.alloc _,I.out _ _ _ D.out ((Below.refl _ w5).alloc d _),DG d (by simp)⟩,?_⟩;simp only [zQ _ _ _ rfl,G.out];omega
theorem left1_gives {ok:Nat->Prop} (w:World) (h:AM w ok g m ch ps us f u ts vc vp gu) (so:SOk m ch ps) (hc:w.cell? ⟨gb,0,none⟩=some (.pointer (some ⟨g,0,none⟩))) (hp:cmpB m ps=false) (n:Nat) (hn:1<=n):
  GivesB n Tryz.prog 131 #[.pointer (some ⟨gb,0,none⟩)] (fun x:Int×Value=>#[.int .i64 x.1,x.2]) (fun k x W=>x.1=((ps.length - 1+k:Nat):Int)/\zl W (fun _=>True) x.2 (AS m ps us (ps.length - 1+k))) (m.tasks.length+1 - ps.length) w:=by
 intro l J Jx W hW h6 hl hJ i5 hY h0;have HS:=zh h.bound;clear h;have HY:=zh hY;clear hY;have HJ:=zh hJ;clear hJ;have n8:=zh i5;clear i5;have H0:=zh h0;clear h0;have n3:ps.length<=6:=DG so.pl so.good.tk;obtain ⟨r0,r1,r2,r3,r4,r5,r6,r7,r8⟩:=HS.out.rules;have rb:=zc.rule hc;have SO:=zh so
 have n2:0<ps.length:=by
  by_cases h0:m.tasks.length=0
  ·unfold cmpB at hp;rw [DH h0] at hp;cases hp
  ·exact so.pn (by omega)
 have o4:=so.pl;have m1:=HS.out.maze;obtain ⟨fr',up',ts',d4,_,_,k5⟩:=m1;injection d4 with d4;injection d4 with d4;simp only [List.cons.injEq,and_true,true_and] at d4;obtain ⟨rfl,rfl,rfl⟩:=d4;have h9:=zh k5;obtain ⟨vst,⟨At,ct,rfl,o2,_⟩,_⟩:=k5;clear hc so;refine callsIn_of_wp Tryz.func131 rfl trivial ?_ rfl;simp only [Tryz.ntmps131,List.size_toArray,EF,EG,Nat.reduceAdd,Nat.reduceSub,Array.replicate_succ,Array.replicate_zero,List.push_toArray,List.append_toArray,List.nil_append,List.cons_append]
 gi_wp2_with (refine ⟨trivial,?_⟩;gi_at_call 60;refine (callsIn_wide.2 (BG _ (HS.out.ext hW) SO.out)).mono ?_;rintro e wA ⟨rfl,i9⟩;rw [hp];have h7:zc W wA:=i9.below _;have hA:zc w wA:=hW.trans h7)
 refine ⟨trivial,?_⟩;refine (callsIn_wide.2 (AA _ (HS.out.ext hA) (by omega))).mono ?_;rintro e wB ⟨he,l3⟩;subst l3;obtain ⟨t0,h4⟩:∃t0,ps.length=t0+1:=⟨ps.length - 1,by omega⟩;have j6:(ps.length:Int) - 1=(t0:Int):=by omega
 rw [j6] at he;subst he;clear j6 i9
 gi_wp2
 gi_loopw [3] (fun v wr=>∃k tn b3,v=.pointer (some ⟨b3,0,none⟩)/\Hid (tn=t0+k)/\k<=m.tasks.length+1 - ps.length/\Hid (W.heap.size<=b3)/\Hid (wr.cell? ⟨b3,0,none⟩=some (.int .i64 (tn:Int))/\wr.frozen? ⟨b3,0,none⟩=false)/\Hid (zc w wr)/\Hid (J k wr)/\Hid (W.heap.size<=wr.heap.size)) (fun v wr=>match v with | .pointer (some a)=>(match wr.cell? a with | some (.int _ i)=>m.tasks.length - i.toNat | _=>0) | _=>0)
 case atStart=>
  have hz:=h7.size;exact ⟨0,t0,wA.heap.size,rfl,rfl,by omega,hz,⟨zQ _ _ _ rfl,World.frozen?_alloc_at _ _ _ _ rfl⟩,hA.alloc _,HJ.out _ _ _ H0.out ((h7).alloc _),DG hz (by simp)⟩
 case round=>
  obtain ⟨k,tn,b3,rfl,a6,hk,g6,i7,hE,i4,k3⟩:=hrel;have i3:=hE.out;obtain ⟨d,f9⟩:=i7.out;have e0:=zh d
  gi_wp2
  refine wpIn_wide.2 ?_;go_quiet (fail)
  generalize k7:wr.drewN nq=w2;have i8:zB wr w2:=⟨nq,k7.symm⟩;have d6:zc wr w2:=i8.below _;clear k7 i8;have c8:zc w w2:=i3.trans d6;have a4:=d6.cell d;have f4:w2.frozen? ⟨b3,0,none⟩=false:=(Below.frozen d6 (p:=⟨b3,0,none⟩) (zn d)).trans f9;have e5:=zh (HJ.out _ _ _ i4.out (d6.mono k3.out));have d7:W.heap.size<=w2.heap.size:=DG k3.out d6.size;clear d f9 i7 i4 hE i3 d6;by_cases h2:tn<m.tasks.length
  ·have b4:t0<ps.length:=by omega
   obtain ⟨vs,⟨Ap,cp,rfl,o1,j9⟩,j1⟩:=HS.out.ps;obtain ⟨b,off,up,rfl,_,f8,h5⟩:=Bt j9 j1 b4 b4;have j7:=SO.out.pp _ (DF b4);have q0:=zc.rule f8;have o8:(t0:Int)<(ps.length:Int):=by omega
   have n5:(0:Int)<=(t0:Int):=by omega
   obtain ⟨p,h3⟩:=EH (ps[t0]);rw [<-h3] at h5 j7;have g3:=zh h3;clear h3;have i0:=zh h5;obtain ⟨Aq,cq,rfl,l8,m2⟩:=h5;clear j9 j1 f8 m2;have j5:(k=0)\/(k≠0):=by omega
   rcases j5 with hk0 | hk0
   ·have d5:Hid (tn=t0):=(by have:=a6.out;omega:tn=t0);have hd:((tn:Int)==(t0:Int))=true:=by rw [beq_iff_eq,d5.out]
    have j8:min (tn:Int) (t0:Int)=(t0:Int):=by rw [d5.out];omega
    clear hk0
    gi_wp2
    refine wpIn_wide.2 ?_;go_quiet ((go_at_call 92;refine (AA _ (HS.out.ext (c8.drewN _)) (by omega)).mono ?_;rintro e w9 ⟨K,rfl⟩;rw [show (ps.length:Int) - 1=(t0:Int) from by omega] at K;exact ⟨K,⟨_,rfl⟩⟩))
    generalize f2:w2.drewN nq=w3;have e8:zB w2 w3:=⟨nq,f2.symm⟩;have Q:zc w2 w3:=e8.below _;clear f2 e8;have a2:zc w w3:=c8.trans Q;have d:=Q.cell a4;have c0:w3.frozen? ⟨b3,0,none⟩=false:=(Below.frozen Q (p:=⟨b3,0,none⟩) (zn a4)).trans f4;have b9:=zh (HJ.out _ _ _ e5.out (Q.mono d7));have a3:W.heap.size<=w3.heap.size:=DG d7 Q.size;clear a4 f4 e5 c8 Q d7;rcases List.eq_nil_or_concat p with rfl | ⟨q,x,rfl⟩
    ·have g1:Hid (AS m ps us tn=((m.tasks.getD tn ([],[])).1).filter fun n=>!(!zm m tn n || decide (n∈us))):=by
      show AS m ps us tn=_;unfold AS;rw [if_pos (by have:=d5.out;omega),d5.out,DD,DC b4,Ei,<-g3.out];rfl
     gi_wp2
     refine wpIn_wide.2 ?_;go_quiet ((go_at_call 92;refine (AA _ (HS.out.ext (a2.drewN _)) (by omega)).mono ?_;rintro e w9 ⟨K,rfl⟩;rw [show (ps.length:Int) - 1=(t0:Int) from by omega] at K;exact ⟨K,⟨_,rfl⟩⟩))
     gi_wp2
     refine wpIn_wide.2 ?_;generalize b6:w3.drewN nq=w6;have b2:zB w3 w6:=⟨nq,b6.symm⟩;have D:zc w3 w6:=b2.below _;have b7:=D;clear b6 b2;have G:zc w w6:=a2.trans D;have a0:=D.cell d;have e7:=zh (HJ.out _ _ _ b9.out (D.mono a3));have c7:W.heap.size<=w6.heap.size:=DG a3 D.size;clear b9 a2 D a3;have U:=zh a0;have e1:=zh ((Below.frozen b7 (p:=⟨b3,0,none⟩) (zn d)).trans c0);clear c0 d b7;have o:tn<m.tasks.length:=h2;obtain ⟨bt,offt,sn,u1,u2,rfl,_,e9,f0,g8,c6,g7⟩:=Cj h9.out o;have g9:=(SO.out.lens.tl _ (DF o)).1;have a1:=SO.out.good.tn _ (DF o);have V:Hid (AS m ps us tn=((m.tasks[tn]).1).filter fun n=>!(!zm m tn n || decide (n∈us))):=g1.out.trans (by rw [DD,DC o,Ei]);obtain ⟨tk,f1⟩:=EH (m.tasks[tn]);rw [<-f1] at c6 g9 a1 V;clear f1 g7 e9 g8;have HF:=zh c6;obtain ⟨A5,c5,rfl,l6,_⟩:=c6;have g4:=zh a1;clear a1;have q1:=zc.rule f0;have rb3:=zc.rule a0;have E:=zc.refl w6;have m3:(tn:Int)<(m.tasks.length:Int):=by omega
     have k4:(0:Int)<=(tn:Int):=by omega
     have j3:tn<m.free.length:=by have:=SO.out.good.fl;omega
     clear f0 a0;have l5:(0:Int)<=0/\(0:Int)<m.n:=by have:=SO.out.good.n1;unfold MZ.n;omega
     have q3:=rb3
     go_region_held3 (fun W'=>zc w W'/\zc w6 W')
      (first | (exact ⟨G.drew,E.drew⟩) | (exact ⟨G.drew.trans O.ext,E.drew.trans O.ext⟩) | (exact ⟨G.drew.trans a5.ext,E.drew.trans a5.ext⟩) | assumption)
      (first | ((go_at_call 39;refine (Bj _ (HF.out.below G.drew) (by omega)).mono ?_;rintro e w8 ⟨v8,rfl,a5⟩)) | ((go_at_call 132;refine (left11_del tn HS.out SO.out G.drew a5 (rb _ G.drew) (q3 _ E.drew) o (by omega) (fun x hx=>g4.out x (.inl hx))).mono ?_;rintro e w9 ⟨v9,rfl,O⟩)))
     all_goals
      have c9:zc w w9:=G.drew.trans O.ext;have I:zc w6 w9:=E.drew.trans O.ext
      have e3:Hid (zl w9 (fun _=>True) v9 (AS m ps us tn)):=by
       have h1:=O.ints;rw [<-V.out] at h1;exact h1.weaken fun _ _=>trivial
      have b1:=I.cell U.out;have j2:w9.frozen? ⟨b3,0,none⟩=false:=(Below.frozen I (p:=⟨b3,0,none⟩) (zn U.out)).trans e1.out;have e6:=zh (HJ.out _ _ _ e7.out (I.mono c7));have b8:W.heap.size<=w9.heap.size:=DG c7 I.size;have a7:=a6.out;clear O a5 I q3 rb3 E q1 G e7 c7 U e1;obtain ⟨fn,tmps,assign,body,hy,hR⟩:=HY.out k ((tn:Int),v9) w9 (by omega) e6.out ⟨by simp;omega,by have:=e3.out;rwa [show ps.length - 1+k=tn from by omega]⟩;have HR:=zh hR;clear hR a7;dsimp only at hy
      gi_wp2
      refine HR.out.mono ?_;rintro e w5 (⟨rfl,a8,M⟩ | ⟨rfl,a9⟩)
      ·have b0:b3≠l:=by have:=g6.out;omega
       have e4:zc w w5:=Aw c9 M (DG hW.size b8) h6;have f6:w5.cell? ⟨b3,0,none⟩=some (.int .i64 (tn:Int)):=World.grownBy.cell M b1 (fun e=>b0 (by injection e));have f3:W.heap.size<=w5.heap.size:=DG b8 M.size;have e2:=zh a8;clear a8 M hy
       gi_wp2
       exact left1_next a6 hk o (by have:=SO.out.good.tk;omega) h4 HJ e0 e4 e2 f3
      ·gi_wp2
       refine Ev (results_none rfl _ _ _) rfl ?_;exact ⟨⟨_,rfl⟩,.inr a9⟩
    ·rw [List.concat_eq_append] at*
     have V:Hid (AS m ps us tn=[x]):=by
      show AS m ps us tn=_;unfold AS;rw [if_pos (by have:=d5.out;omega),d5.out,DD,DC b4,Ei,<-g3.out];simp
     obtain ⟨N,hN⟩:=EH ((q++[x]).length);have o0:N=q.length+1:=by rw [hN];simp
     have k6:=i0.out;obtain ⟨A',c',g5,l7,k2⟩:=k6;obtain ⟨b5,o5,hA5,i6,f7⟩:=k2.2 (by simp);injection g5 with g5 i1 i2;subst g5 i2 hA5;have k8:w.cell? ⟨b5,o5+q.length,none⟩=some (.int .i64 x):=f7 q.length _ (by simp);have l1:=zh k8;have n0:b5<w.heap.size:=i6.2;clear f7 k8 k2 i1 l7 g3 i0 i6;rw [<-hN] at q0 l8 j7;have l4:(0:Int)<(N:Int):=by omega
     have n9:decide ((0:Int)<(N:Int))=true:=DH l4;have o7:IntKind.i64.wrap ((N:Int) - 1)=(q.length:Int):=by rw [DZ];omega
     have n4:wrap64 ((N:Int) - 1)=(q.length:Int):=by rw [IntWalk.wrap64_in _ (by omega)];omega
     have o6:(0:Int)<=(q.length:Int)/\(q.length:Int)<=(N:Int):=by omega
     rw [<-hN];clear hN
     gi_wp2
     refine wpIn_wide.2 ?_;go_quiet ((go_at_call 92;refine (AA _ (HS.out.ext (a2.drewN _)) (by omega)).mono ?_;rintro e w9 ⟨K,rfl⟩;rw [show (ps.length:Int) - 1=(t0:Int) from by omega] at K;exact ⟨K,⟨_,rfl⟩⟩))
     generalize b6:w3.drewN nq=w9;have b2:zB w3 w9:=⟨nq,b6.symm⟩;have D:zc w3 w9:=b2.below _;clear b6 b2;have c9:zc w w9:=a2.trans D;have b1:=D.cell d;have j2:w9.frozen? ⟨b3,0,none⟩=false:=(Below.frozen D (p:=⟨b3,0,none⟩) (zn d)).trans c0;have e6:=zh (HJ.out _ _ _ b9.out (D.mono a3));have b8:W.heap.size<=w9.heap.size:=DG a3 D.size;clear b9 a2 D a3 d c0;have o:tn<m.tasks.length:=h2;have a7:=a6.out
     have e3:Hid (zl w9 (fun _=>True) (.slice (some ⟨b5,o5+q.length,none⟩) 1 (cq - q.length)) (AS m ps us tn)):=by
      show zl w9 _ _ (AS m ps us tn);rw [V.out];refine ⟨_,_,rfl,by simp;omega,by simp,fun _=>⟨b5,o5+q.length,rfl,trivial,?_⟩⟩;intro i u hi
      match i,hi with
      | 0,hi=>
       injection hi with hi;rw [<-hi];exact c9.cell l1.out
     obtain ⟨fn,tmps,assign,body,hy,hR⟩:=HY.out k ((tn:Int),(.slice (some ⟨b5,o5+q.length,none⟩) 1 (cq - q.length))) w9 (by omega) e6.out ⟨by simp;omega,by have:=e3.out;rwa [show ps.length - 1+k=tn from by omega]⟩;have HR:=zh hR;clear hR a7;dsimp only at hy
     gi_wp2
     refine HR.out.mono ?_;rintro e w5 (⟨rfl,a8,M⟩ | ⟨rfl,a9⟩)
     ·have b0:b3≠l:=by have:=g6.out;omega
      have e4:zc w w5:=Aw c9 M (DG hW.size b8) h6;have f6:w5.cell? ⟨b3,0,none⟩=some (.int .i64 (tn:Int)):=World.grownBy.cell M b1 (fun e=>b0 (by injection e));have f3:W.heap.size<=w5.heap.size:=DG b8 M.size;have e2:=zh a8;clear a8 M hy
      gi_wp2
      exact left1_next a6 hk o (by have:=SO.out.good.tk;omega) h4 HJ e0 e4 e2 f3
     ·gi_wp2
      refine Ev (results_none rfl _ _ _) rfl ?_;exact ⟨⟨_,rfl⟩,.inr a9⟩
   ·have m9:(t0:Int)<(tn:Int):=by have:=a6.out;omega
    have hd:((tn:Int)==(t0:Int))=false:=by rw [DR];omega
    have j8:min (tn:Int) (t0:Int)=(t0:Int):=by omega
    clear hk0
    gi_wp2
    refine wpIn_wide.2 ?_;go_quiet ((go_at_call 92;refine (AA _ (HS.out.ext (c8.drewN _)) (by omega)).mono ?_;rintro e w9 ⟨K,rfl⟩;rw [show (ps.length:Int) - 1=(t0:Int) from by omega] at K;exact ⟨K,⟨_,rfl⟩⟩))
    generalize f2:w2.drewN nq=w3;have e8:zB w2 w3:=⟨nq,f2.symm⟩;have Q:zc w2 w3:=e8.below _;clear f2 e8;have a2:zc w w3:=c8.trans Q;have d:=Q.cell a4;have c0:w3.frozen? ⟨b3,0,none⟩=false:=(Below.frozen Q (p:=⟨b3,0,none⟩) (zn a4)).trans f4;have b9:=zh (HJ.out _ _ _ e5.out (Q.mono d7));have a3:W.heap.size<=w3.heap.size:=DG d7 Q.size;clear a4 f4 e5 c8 Q d7
    have g1:Hid (AS m ps us tn=((m.tasks.getD tn ([],[])).1).filter fun n=>!(!zm m tn n || decide (n∈us))):=by
     show AS m ps us tn=_;unfold AS;rw [if_neg (by omega)]
    gi_wp2
    refine wpIn_wide.2 ?_;go_quiet ((go_at_call 92;refine (AA _ (HS.out.ext (a2.drewN _)) (by omega)).mono ?_;rintro e w9 ⟨K,rfl⟩;rw [show (ps.length:Int) - 1=(t0:Int) from by omega] at K;exact ⟨K,⟨_,rfl⟩⟩))
    gi_wp2
    refine wpIn_wide.2 ?_;generalize b6:w3.drewN nq=w6;have b2:zB w3 w6:=⟨nq,b6.symm⟩;have D:zc w3 w6:=b2.below _;have b7:=D;clear b6 b2;have G:zc w w6:=a2.trans D;have a0:=D.cell d;have e7:=zh (HJ.out _ _ _ b9.out (D.mono a3));have c7:W.heap.size<=w6.heap.size:=DG a3 D.size;clear b9 a2 D a3;have U:=zh a0;have e1:=zh ((Below.frozen b7 (p:=⟨b3,0,none⟩) (zn d)).trans c0);clear c0 d b7;have o:tn<m.tasks.length:=h2;obtain ⟨bt,offt,sn,u1,u2,rfl,_,e9,f0,g8,c6,g7⟩:=Cj h9.out o;have g9:=(SO.out.lens.tl _ (DF o)).1;have a1:=SO.out.good.tn _ (DF o);have V:Hid (AS m ps us tn=((m.tasks[tn]).1).filter fun n=>!(!zm m tn n || decide (n∈us))):=g1.out.trans (by rw [DD,DC o,Ei]);obtain ⟨tk,f1⟩:=EH (m.tasks[tn]);rw [<-f1] at c6 g9 a1 V;clear f1 g7 e9 g8;have HF:=zh c6;obtain ⟨A5,c5,rfl,l6,_⟩:=c6;have g4:=zh a1;clear a1;have q1:=zc.rule f0;have rb3:=zc.rule a0;have E:=zc.refl w6;have m3:(tn:Int)<(m.tasks.length:Int):=by omega
    have k4:(0:Int)<=(tn:Int):=by omega
    have j3:tn<m.free.length:=by have:=SO.out.good.fl;omega
    clear f0 a0;have l5:(0:Int)<=0/\(0:Int)<m.n:=by have:=SO.out.good.n1;unfold MZ.n;omega
    have q3:=rb3
    go_region_held3 (fun W'=>zc w W'/\zc w6 W')
     (first | (exact ⟨G.drew,E.drew⟩) | (exact ⟨G.drew.trans O.ext,E.drew.trans O.ext⟩) | (exact ⟨G.drew.trans a5.ext,E.drew.trans a5.ext⟩) | assumption)
     (first | ((go_at_call 39;refine (Bj _ (HF.out.below G.drew) (by omega)).mono ?_;rintro e w8 ⟨v8,rfl,a5⟩)) | ((go_at_call 132;refine (left11_del tn HS.out SO.out G.drew a5 (rb _ G.drew) (q3 _ E.drew) o (by omega) (fun x hx=>g4.out x (.inl hx))).mono ?_;rintro e w9 ⟨v9,rfl,O⟩)))
    all_goals
     have c9:zc w w9:=G.drew.trans O.ext;have I:zc w6 w9:=E.drew.trans O.ext
     have e3:Hid (zl w9 (fun _=>True) v9 (AS m ps us tn)):=by
      have h1:=O.ints;rw [<-V.out] at h1;exact h1.weaken fun _ _=>trivial
     have b1:=I.cell U.out;have j2:w9.frozen? ⟨b3,0,none⟩=false:=(Below.frozen I (p:=⟨b3,0,none⟩) (zn U.out)).trans e1.out;have e6:=zh (HJ.out _ _ _ e7.out (I.mono c7));have b8:W.heap.size<=w9.heap.size:=DG c7 I.size;have a7:=a6.out;clear O a5 I q3 rb3 E q1 G e7 c7 U e1;obtain ⟨fn,tmps,assign,body,hy,hR⟩:=HY.out k ((tn:Int),v9) w9 (by omega) e6.out ⟨by simp;omega,by have:=e3.out;rwa [show ps.length - 1+k=tn from by omega]⟩;have HR:=zh hR;clear hR a7;dsimp only at hy
     gi_wp2
     refine HR.out.mono ?_;rintro e w5 (⟨rfl,a8,M⟩ | ⟨rfl,a9⟩)
     ·have b0:b3≠l:=by have:=g6.out;omega
      have e4:zc w w5:=Aw c9 M (DG hW.size b8) h6;have f6:w5.cell? ⟨b3,0,none⟩=some (.int .i64 (tn:Int)):=World.grownBy.cell M b1 (fun e=>b0 (by injection e));have f3:W.heap.size<=w5.heap.size:=DG b8 M.size;have e2:=zh a8;clear a8 M hy
      gi_wp2
      exact left1_next a6 hk o (by have:=SO.out.good.tk;omega) h4 HJ e0 e4 e2 f3
     ·gi_wp2
      refine Ev (results_none rfl _ _ _) rfl ?_;exact ⟨⟨_,rfl⟩,.inr a9⟩
  ·gi_wp2
   go_end0
   have m0:k=m.tasks.length+1 - ps.length:=by have:=a6.out;omega
   exact ⟨⟨_,rfl⟩,.inl (by rw [<-m0];exact e5.out)⟩
end
end Go.Proofs.YtfjjdmpndmbfoaaGreatDoor
