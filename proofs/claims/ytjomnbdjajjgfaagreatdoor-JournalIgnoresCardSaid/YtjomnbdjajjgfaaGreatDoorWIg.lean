import Derived.Test.YtjomnbdjajjgfaaGreatDoorWIf
import Derived.Shelf.SlicesE.DeleteFunc
import Derived.Ground.SlgfProg
set_option linter.unusedVariables false
set_option linter.unusedSimpArgs false
set_option maxRecDepth 100000
set_option maxHeartbeats 16000000
namespace Go.Proofs.YtjomnbdjajjgfaaGreatDoor
variable {x y:Int} {ps:List (List Int)} {ch l q s us:List Int} {m:MZ} {B b3 g gb gn gu k:Nat} {f ts u vc vp:Value} {w' wr:World}
section
open Go.RowKit
attribute [local go_sem ↓] Go.wp_at_zero Go.wp_at_succ
def zB (m:MZ) (us:List Int) (t:Nat) (q from_:List Int) (n:Int):Bool:=zi m t n && !decide (n∈us) && !(q.any fun y=>decide (n∈zm m y)) && !decide (n∈from_)
def BS (m:MZ) (ps:List (List Int)) (us:List Int):List Int:=
 if cmpB m ps=true then []
 else match (ps.getD (ps.length - 1) []).getLast? with
  | none=>(Lib.compact (Bc (m.tasks.getD (ps.length - 1) ([],[])).1)).filter fun n=>zi m (ps.length - 1) n && !decide (n∈us)
  | some x=>(zm m x).filter (zB m us (ps.length - 1) (ps.getD (ps.length - 1) []).dropLast (m.tasks.getD (ps.length - 1) ([],[])).1)
theorem mem_sortL:x∈Bc l↔x∈l:=by unfold Bc;exact (List.mergeSort_perm _ _).mem_iff
theorem compact_len (l:List Int):(Lib.compact l).length<=l.length:=by
 unfold Lib.compact Lib.compactUpTo;rw [EI];exact Ea (EB _ _) (by simp)
theorem DN (h:x∈Lib.compact l):x∈l:=by
 unfold Lib.compact Lib.compactUpTo at h;obtain ⟨j,o,rfl⟩:=List.mem_map.1 h;have d:j<l.length:=by simpa using (EV.1 o).1
 simp [getElem!_pos,d]
theorem path_cell {w:World} {ok:Nat->Prop} {A:Option Addr} {n c:Nat} (h:zk w ok (.slice A n c) l) (d:l[k]?=some y):∃b o,A=some ⟨b,o,none⟩/\∀W,za w W->W.cell? ⟨b,o+k,none⟩=some (.int .i64 y):=by
 obtain ⟨A',c',e,_,G⟩:=h;injection e with e1 e2 e3;subst e1
 have D:k<l.length:=by
  rcases Ev k l.length with h | h
  ·exact h
  ·rw [Es h] at d;cases d
 obtain ⟨b,o,e,_,E⟩:=AH G D D;rw [DW D] at d;injection d with d;rw [d] at E;exact ⟨b,o,e,za.rule E⟩
structure NR (W wr:World) (gn:Nat) (s:List Int):Prop where
 ext:za W wr
 set:zF wr gn s
theorem NR.more {W:World} (h:NR W wr gn s) (d:za wr w'):NR W w' gn s:=⟨h.ext.trans d,h.set.below d⟩
theorem NR.add {W:World} (h:NR W wr gn s) (D:gn=W.heap.size) (o:zF w' gn (ins s x)) (d:wr.grownBy w' (some gn)):NR W w' gn (ins s x):=⟨AU h.ext d h.ext.size (by omega),o⟩
theorem near_step {a:Int}:((∃y'∈q,a∈zm m y')\/a∈zm m y)↔∃y'∈q++[y],a∈zm m y':=by
 constructor
 ·rintro (⟨y',h1,h2⟩ | h)
  ·exact ⟨y',by simp [h1],h2⟩
  ·exact ⟨y,by simp,h⟩
 ·rintro ⟨y',h1,h2⟩;rw [EN,EF] at h1;rcases h1 with h1 | rfl
  ·exact .inl ⟨y',h1,h2⟩
  ·exact .inr h2
theorem near_any {z:Int} (h:z∈s↔∃y∈q,z∈zm m y):decide (z∈s)=q.any fun y=>decide (z∈zm m y):=by
 by_cases d:z∈s
 ·rw [Eb d];symm;obtain ⟨y,h1,h2⟩:=h.1 d;exact EZ.2 ⟨y,h1,Eb h2⟩
 ·rw [Ec d];symm;rw [Bool.eq_false_iff];intro h3;obtain ⟨y,h1,h2⟩:=EZ.1 h3;exact d (h.2 ⟨y,h1,of_decide_eq_true h2⟩)
structure JC (wB:World) (sn:ByteArray) (u1 u2 up:Value) (e:Nat->Bool) (v:Nat->Value) (W:World):Prop where
 ext:za wB W
 al:e 15=true->∃g3,v 15=.pointer (some ⟨g3,0,none⟩)/\wB.heap.size<=g3/\(e 16=false->zl W g3 87 #[.string ⟨#[]⟩,.slice none 0 0,.slice none 0 0])/\(e 16=true->zl W g3 87 #[.string sn,u1,u2])
 asg:e 17=true->v 17=up
 d16:e 16=true->e 15=true
section
variable {wB W W':World} {sn:ByteArray} {u1 u2 up:Value} {e:Nat->Bool} {v:Nat->Value}
theorem JC.init (he:∀j∈[15,16,17],e j=false):JC wB sn u1 u2 up e v wB.drew:=
 ⟨CZ,fun a=>ff (he 15 (by simp)) a,fun a=>ff (he 17 (by simp)) a,fun a=>ff (he 16 (by simp)) a⟩
theorem JC.s15 (h:JC wB sn u1 u2 up e v W) (d:e 15=false):JC wB sn u1 u2 up (Aw e 15 true) (Aw v 15 (.pointer (some ⟨W.heap.size,0,none⟩))) (W.alloc (.cells #[.string ⟨#[]⟩,.slice none 0 0,.slice none 0 0] 87)):=
 ⟨h.ext.alloc _,fun _=>⟨_,rfl,h.ext.size,fun _=>zl.new _ _ _ rfl,fun a=>ff (b:=e 16) (notT h.d16 d) a⟩,h.asg,fun _=>rfl⟩
theorem JC.s16 {g3:Nat} {x:Value} (h:JC wB sn u1 u2 up e v W) (d:e 15=true) (G:v 15=.pointer (some ⟨g3,0,none⟩)) (E:wB.heap.size<=g3) (o:za wB W') (D:zl W' g3 87 #[.string sn,u1,u2]):JC wB sn u1 u2 up (Aw e 16 true) (Aw v 16 x) W':=
 ⟨o,fun _=>⟨g3,G,E,fun a=>(by cases a),fun _=>D⟩,h.asg,fun _=>d⟩
theorem JC.s17 (h:JC wB sn u1 u2 up e v W):JC wB sn u1 u2 up (Aw e 17 true) (Aw v 17 up) W:=⟨h.ext,h.al,fun _=>rfl,h.d16⟩
end
theorem candidates_calls {ok:Nat->Prop} (w:World) (h:Bd w ok g m ch ps us f u ts vc vp gu) (so:SOk m ch ps):
  Calls Tryz.prog 148 #[.pointer (some ⟨g,0,none⟩)] w fun e w'=>∃v',e=.returned v'/\Mk w w' v' (BS m ps us):=by
 have HS:=zh h;have SO:=zh so;have s3:ps.length<=6:=Ea so.pl so.good.tk;obtain ⟨r0,r1,r2,r3,r4,r5,r6,r7,r8⟩:=h.rules;have hx:=za.refl w
 go_enter Tryz.func148,Tryz.ntmps148
 go_wp2_with fail
 generalize i3:w.alloc (.cells #[.pointer (some ⟨g,0,none⟩)] 198)=w1;have j7:za w w1:=by rw [<-i3];exact (za.refl w).alloc _
 have h6:w1.cell? ⟨w.heap.size,0,none⟩=some (.pointer (some ⟨g,0,none⟩)):=by rw [<-i3];exact zA _ _ _ rfl
 have s2:w.heap.size<w1.heap.size:=zn h6;have rb:=za.rule h6;clear i3;refine (Cc _ (HS.out.ext j7) SO.out).mono ?_;rintro e wA ⟨rfl,k7⟩;have n0:za w1 wA:=k7.below _;have hA:=j7.trans n0;clear k7 h6
 cases O:cmpB m ps with
 | true=>
  have HC:=zh O;clear O
  go_wp2_with fail
  go_ret;exact ⟨_,rfl,hA.mono_mk (Mk.cast (Mk.nil _) (by unfold BS;rw [if_pos HC.out]))⟩
 | false=>
  have HC:=zh O
  have hp:0<ps.length:=by
   by_cases h0:m.tasks.length=0
   ·unfold cmpB at O;rw [Eb h0] at O;cases O
   ·exact so.pn (by omega)
  clear O
  go_wp2_with fail
  refine (AQ _ (HS.out.ext hA) (by omega)).mono ?_;rintro e wB ⟨he,n8⟩;subst n8;obtain ⟨t,hk⟩:∃t,ps.length=t+1:=⟨ps.length - 1,by omega⟩;have l8:(ps.length:Int) - 1=(t:Int):=by omega
  rw [l8] at he;subst he;clear l8;have j9:za w (wA.alloc (.cells #[.int .i64 t] 3)):=hA.alloc _;have o6:(wA.alloc (.cells #[.int .i64 t] 3)).cell? ⟨wA.heap.size,0,none⟩=some (.int .i64 t):=zA _ _ _ rfl;have n1:za w1 (wA.alloc (.cells #[.int .i64 t] 3)):=n0.alloc _;have ho:=h.ps;have p7:=h.maze;obtain ⟨vs,⟨Ap,cp,rfl,t6,m5⟩,k8⟩:=ho;obtain ⟨fr',up',ts',a9,_,_,J⟩:=p7;injection a9 with a9;injection a9 with a9;simp only [List.cons.injEq,and_true,true_and] at a9;obtain ⟨rfl,rfl,rfl⟩:=a9;have q5:=J;obtain ⟨vst,⟨At,ct,rfl,t7,_⟩,_⟩:=q5;have e2:t<ps.length:=by omega
  obtain ⟨b,off,up,rfl,_,f4,i2⟩:=AX m5 k8 e2 e2;have e9:t<m.tasks.length:=by have:=so.pl;omega
  obtain ⟨bt,offt,sn,u1,u2,rfl,_,l5,l6,l7,e8,h7⟩:=Ce J e9;have h8:=so.pp _ (DZ e2);have e0:=so.pr _ (DZ e2);have p5:=(so.lens.tl _ (DZ e9)).1;have i1:=so.good.tn _ (DZ e9)
  have d5:BS m ps us=match (ps[t]).getLast? with
    | none=>(Lib.compact (Bc (m.tasks[t]).1)).filter fun n=>zi m t n && !decide (n∈us)
    | some x=>(zm m x).filter (zB m us t (ps[t]).dropLast (m.tasks[t]).1):=by
   unfold BS;rw [HC.out,if_neg (by simp),show ps.length - 1=t from by omega];simp [e2,e9]
  have b5:=zh d5;clear d5;obtain ⟨p,m3⟩:=Fd (ps[t]);obtain ⟨tk,m8⟩:=Fd (m.tasks[t]);rw [<-m3] at i2 h8 b5 e0;rw [<-m8] at e8 h7 p5 b5 i1;have l1:=e8;obtain ⟨A5,c5,rfl,t2,_⟩:=l1;have l2:=h7;obtain ⟨A6,c6,rfl,t3,_⟩:=l2;clear m3 m8 m5 k8 J h7;have HP:=zh i2;clear i2;have HF:=zh e8;clear e8;have g5:=zh e0;clear e0;have n7:=zh i1;clear i1;have x1:(t:Int)<(ps.length:Int):=by omega
  have x0:(0:Int)<=(t:Int):=by omega
  have x2:(t:Int)<(m.tasks.length:Int):=by omega
  have k9:t<m.free.length:=by have:=so.good.fl;omega
  have q0:=za.rule f4;have q1:=za.rule l5;have q2:=za.rule l6;have q3:=za.rule l7;clear f4 l5 l6 l7 h so hk;generalize q7:wA.alloc (.cells #[.int .i64 t] 3)=wB at*;have rt:=za.rule o6;have f1:=za.refl wB
  go_wp2_with fail
  clear q7;refine Eo (S:=(fun W=>za w W/\za w1 W/\za wB W)) (by kernel_rfl) (⟨j9.drew,n1.drew,f1.drew⟩) fun zH=>?_;refine z6 0 zH ?_;refine z6 1 zH ?_;simp only [zd,DV];refine z6 2 zH ?_;refine z6 3 zH ?_;simp only [zd,DV];refine z6 4 zH ?_;refine z6 5 zH ?_;simp only [zd,DV];refine z6 6 zH ?_;refine z6 7 zH ?_;simp only [zd,DV];refine z6 8 zH ?_;refine z6 9 zH ?_;simp only [zd,DV];refine z6 10 zH ?_;refine z6 11 zH ?_;simp only [zd,DV];refine z6 12 zH ?_;refine z6 13 zH ?_;simp only [zd,DV];refine z6 14 zH ?_;simp only [zd,DV];refine Cg [15,16,17] (fun e v W=>JC wB sn (.slice A5 tk.1.length c5) (.slice A6 tk.2.length c6) up e v W) (F:=?F1) (by kernel_rfl) (by kernel_rfl) (by decide) zH (fun v=>?hF1) ?init1 (by kernel_rfl) ?steps1 ?fin1
  case hF1=>(simp only [zE,BU,List.getElem?_toArray,List.getElem?_cons_succ,List.getElem?_cons_zero,Option.bind,Act.put,List.setIfInBounds_toArray,List.set_cons_succ,List.set_cons_zero];rfl)
  case init1=>
   intro e v he;exact JC.init he
  case steps1=>
   refine zj.cons rfl (fun e v W K hJ hW he hd hK=>?_) ?_
   ·simp only [zd] at hd hK⊢;go_simp;exact hK.out _ _ _ (by rfl) ⟨hW.1.alloc _,hW.2.1.alloc _,hW.2.2.alloc _⟩ (hJ.s15 he)
   refine zj.cons rfl (fun e v W K hJ hW he hd hK=>?_) ?_
   ·simp only [zd] at hd hK⊢;have i9:e 15=true:=zu hd [15] (by kernel_rfl) 15 (by simp);obtain ⟨g3,V,d7,G,_⟩:=hJ.al i9;have G:=G he;have hf:=fun k=>G.frozen k
    have t0:=G.cell (k:=0) rfl;have t1:=G.cell (k:=1) rfl;have s1:=G.cell (k:=2) rfl;go_simp;have a8:=((hJ.ext.setCell (p:=⟨g3,0,none⟩) d7 (.string sn)).setCell (p:=⟨g3,1,none⟩) d7 (.slice A5 tk.1.length c5)).setCell (p:=⟨g3,2,none⟩) d7 (.slice A6 tk.2.length c6);exact hK.out _ undef _ (by simp [Act.put,V]) ⟨j9.trans a8,n1.trans a8,a8⟩ (hJ.s16 i9 V d7 a8 (((G.set (k:=0) _).set (k:=1) _).set (k:=2) _))
   refine zj.cons rfl (fun e v W K hJ hW he hd hK=>?_) ?_
   ·simp only [zd] at hd hK⊢;go_simp;exact hK.out _ up _ (by rfl) hW hJ.s17
   exact zj.nil
  case fin1=>
   intro v W hJ hW;obtain ⟨g3,V,d7,_,G⟩:=hJ.al rfl;have G:=G rfl;have f9:=hJ.asg rfl;rw [V,f9];clear hJ V f9;obtain ⟨o4,j5,o5⟩:=hW;have rg3:=za.rule (G.cell (k:=1) rfl);clear G;have e4:=zh o4;have k6:=rt W o5;have t5:=Cb (P:=Tryz.prog) Tryz.func200 (by kernel_rfl) (by kernel_rfl);have f3:=rb W j5;generalize o9:wA.heap.size=g2 at*;clear o9;have p8:=HP.out;obtain ⟨Aq,cq,rfl,k4,q4⟩:=p8;clear q4;have f1:=za.refl W;rcases List.eq_nil_or_concat p with rfl | ⟨q,x,rfl⟩
   ·have g4:Hid (BS m ps us=(Lib.compact (Bc tk.1)).filter fun n=>zi m t n && !decide (n∈us)):=b5.out
    go_wp2_with fail
    refine (values_calls A5 tk.1.length c5 W).mono ?_;rintro e w2 ⟨rfl,rfl⟩;have g6:za W (W.alloc (.cells #[.slice A5 tk.1.length c5] 23)):=f1.alloc _;have k5:(W.alloc (.cells #[.slice A5 tk.1.length c5] 23)).cell? ⟨W.heap.size,0,none⟩=some (.slice A5 tk.1.length c5):=zA _ _ _ rfl;have hS:=zh (sorted_calls W.heap.size _ k5 (HF.out.below (e4.out.trans g6)) (by omega))
    go_wp2_with fail
    refine hS.out.mono ?_;rintro e w3 ⟨v3,rfl,h4⟩;have m7:(Bc tk.1).length<=1000000000000:=by unfold Bc;rw [List.length_mergeSort];omega
    have j1:=zh (compact_calls h4 m7);have a8:=zh h4.ext;clear h4 hS
    go_wp2_with fail
    refine j1.out.mono ?_;rintro e w4 ⟨v4,rfl,e5⟩;have p6:Hid (∀y,y∈Lib.compact (Bc tk.1)->y∈tk.1):=fun y hy=>mem_sortL.1 (DN hy)
    have t9:(Lib.compact (Bc tk.1)).length<=1000000000000:=Ea (compact_len _) m7;generalize Lib.compact (Bc tk.1)=L at*;have g7:za W w4:=g6.trans e5.ext;obtain ⟨A7,c7,q6,t4⟩:=e5.slice;subst q6;have n6:=zh e5;clear e5 j1 a8 k5 g6;have m9:za w w4:=e4.out.trans g7;have b8:=zh (Mk.nil w4)
    go_wp2_with fail
    go_loopw [7,46] (fun v i wr=>∃k:Nat,k<=L.length/\i=.int .i64 (k:Nat)/\Hid (Mk w4 wr v ((L.take k).filter fun n=>zi m t n && !decide (n∈us)))) (fun _ i _=>L.length - (intOf i).toNat)
    case atStart=>exact ⟨0,by omega,rfl,b8⟩
    clear b8
    case round=>
     obtain ⟨k,hk,rfl,hM⟩:=hrel;have d:=hM.out.ext;by_cases I:k<L.length
     ·obtain ⟨b9,rfl,Q,D⟩:=own_at (n6.out.own.ext d) I;have J:=zh (Ef I);have E:=n7.out _ (.inl (p6.out _ (DZ I)));obtain ⟨y,hy⟩:=Fd (L[k]);rw [<-hy] at D J E;clear hy;have o:=zh (cand1_calls t y wr (HS.out.ext (m9.trans d)) SO.out.good.fn k9 ((g7.trans d).cell f3) ((g7.trans d).cell k6) E.1 E.2);obtain ⟨bb,h5⟩:=Fd ((zi m t y && !decide (y∈us)));rw [<-h5] at o;have n3:=zh h5;clear h5 E;have o8:((L.take k).filter fun n=>zi m t n && !decide (n∈us)).length<=1000000000000:=Ea (EB _ _) (by simp;omega);have a1:Hid ((L.take (k+1)).filter (fun n=>zi m t n && !decide (n∈us))=(L.take k).filter (fun n=>zi m t n && !decide (n∈us))++(if bb then [y] else [])):=by rw [J.out,List.filter_append,n3.out];show _++List.filter _ [y]=_;by_cases h:(zi m t y && !decide (y∈us))=true <;> simp [List.filter_cons,h]
      generalize (L.take k).filter (fun n=>zi m t n && !decide (n∈us))=lk at*
      go_wp2_with fail
      refine o.out.mono ?_;rintro e w5 ⟨rfl,d6⟩;have b6:za wr w5:=d6.below _;have M:=zh (hM.out.more b6);clear d6 o
      cases bb with
      | true=>
       have q8:w4.heap.size<=w5.heap.size:=M.out.ext.size
       go_wp2_with (at_builtin;refine AR rfl _ _ rfl _ lk y w4.heap.size w5.heap.size 1 _ rfl rfl (M.out.own.alloc _) ?d1 ?d2 ?d3 ?_)
       (try case d1=>exact zA _ _ _ (by simp))
       case d2=>(first | (simp;done) | (simp;omega) | omega)
       case d3=>omega
       intro v' wb d9 U _;have g9:=zh ((M.out.alloc _).app d9 U);clear d9 U;go_wp2;go_roundw
       case rel=>exact ⟨k+1,by omega,by go_num,by rw [a1.out];exact g9⟩
       case measure=>simp [intOf];omega
      | false=>
       go_wp2;go_roundw
       case rel=>exact ⟨k+1,by omega,by go_num,by rw [a1.out];simpa using M⟩
       case measure=>simp [intOf];omega
     ·obtain rfl:k=L.length:=by omega
      go_wp2_with fail
      go_ret;refine ⟨_,rfl,(m9.mono_mk hM.out).cast ?_⟩;rw [g4.out,Ej]
   ·rw [List.concat_eq_append] at HP b5 g5;have m2:(q.concat x).length=q.length+1:=by simp
    have f7:(q++[x]).length=q.length+1:=by simp
    rw [m2] at k4 h8⊢;rw [f7] at HP;obtain ⟨N,hN⟩:=Fd (q.length+1);rw [<-hN] at k4 h8 HP⊢;have s8:(q.length:Int)<(N:Int):=by omega
    have p9:IntKind.i64.wrap ((N:Int) - 1)=(q.length:Int):=by rw [Eu];omega
    have m4:(N:Int) - 1=(q.length:Int):=by omega
    have v7:(0:Int)<=(q.length:Int):=by omega
    have s7:0<N:=by omega
    have v8:q.length<=N:=by omega
    have g4:Hid (BS m ps us=(zm m x).filter (zB m us t q tk.1)):=by have h:=b5.out;simp at h;exact h
    have a5:Hid (∀k y,(q++[x])[k]?=some y->∃bq oq,Aq=some ⟨bq,oq,none⟩/\∀W',za w W'->W'.cell? ⟨bq,oq+k,none⟩=some (.int .i64 y)):=fun k y hy=>path_cell HP.out hy
    clear m2 f7 hN;have v5:=@run_makeMap Tryz.prog
    go_wp2_with fail
    have j3:Hid (NR W (W.alloc (.map #[] 0)) W.heap.size []):=⟨f1.alloc _,zF.new W⟩;generalize l0:W.heap.size=gn at*;have f6:gn=W.heap.size:=l0.symm;have n5:=zh f6;clear l0 f6;go_loopw [66] (fun i wr=>∃k s,k<=q.length/\i=.int .i64 (k:Nat)/\Hid (NR W wr gn s)/\Hid (∀z,z∈s↔∃y∈q.take k,z∈zm m y)) (fun i _=>q.length - (intOf i).toNat)
    case atStart=>exact ⟨0,[],by omega,rfl,j3,by simp [Hid]⟩
    clear j3
    case round=>
     obtain ⟨k,s,hk,rfl,hR,d8⟩:=hrel;have d:za W wr:=hR.out.ext;have e3:za w wr:=e4.out.trans d;have i4:za w1 wr:=j5.trans d;obtain ⟨wk,rfl⟩:∃wk:World,wk=wr:=⟨_,rfl⟩;by_cases I:k<q.length
     ·obtain ⟨bq,oq,rfl,D⟩:=a5.out k q[k] (by rw [Ed I];exact DW I);have E:=g5.out q[k] (by simp);have J:=zh (Ef I);obtain ⟨y,hy⟩:=Fd (q[k]);rw [<-hy] at D E J;clear hy;have l9:(k:Int)<(q.length:Int):=by omega
      have m1:=zh (next_calls m y wk (HS.out.maze.below e3) SO.out.good.dim E.1 E.2);clear E
      go_wp2_with fail
      refine m1.out.mono ?_;rintro e w9 ⟨v9,rfl,Q,a2⟩;have j4:=zh (hR.out.more Q);have e6:Hid (zL w9 wk.heap.size v9 (zm m y)):=a2;obtain ⟨A9,c9,rfl,o7⟩:=AL a2;have t8:gn<wk.heap.size:=zc hR.out.set;clear Q a2 m1 hR;have p4:=Cr m y
      go_wp2_with fail
      go_loopw [77] (fun i wi=>∃j s',j<=(zm m y).length/\i=.int .i64 (j:Nat)/\Hid (NR W wi gn s')/\Hid (zL wi wk.heap.size (.slice A9 (zm m y).length c9) (zm m y))/\Hid (∀z,z∈s'↔z∈s\/z∈(zm m y).take j)) (fun i _=>(zm m y).length - (intOf i).toNat)
      case atStart=>exact ⟨0,s,Em _,rfl,j4,e6,by simp [Hid]⟩
      clear j4 e6
      case round=>
       obtain ⟨j,s',hj,rfl,hR,hO,m0⟩:=hrel;by_cases l3:j<(zm m y).length
       ·obtain ⟨b2,rfl,s9,e7⟩:=own_at hO.out l3;have f8:=zh (fun z=>zv l3 z);obtain ⟨z,hz⟩:=Fd ((zm m y)[j]);rw [<-hz] at e7 f8;clear hz
        go_wp2_with (at_mapUpdate;refine wpSetAdd rfl _ _ _ _ rfl Tryz.underlying205 gn s' z rfl rfl rfl hR.out.set ?_)
        intro wb m6 U;have o2:=zh (hR.out.add n5.out m6 U);have o1:Hid (zL wb wk.heap.size (.slice (some ⟨b2,0,none⟩) (zm m y).length c9) (zm m y)):=World.ownsRow.kept hO.out U (Bi hO.out hR.out.set);clear m6 U;go_wp2;go_roundw
        case rel=>exact ⟨j+1,ins s' z,by omega,by go_num,o2,o1,fun a=>by rw [mem_ins,m0.out,f8.out,or_assoc]⟩
        case measure=>simp [intOf];omega
       ·obtain rfl:j=(zm m y).length:=by omega
        go_wp2;go_roundw
        case rel=>exact ⟨k+1,s',by omega,by go_num,hR,fun a=>by rw [m0.out,Ej,d8.out,J.out];exact near_step⟩
        case measure=>simp [intOf];omega
     ·obtain rfl:k=q.length:=by omega
      rw [Ej] at d8;obtain ⟨bq,oq,rfl,D⟩:=a5.out q.length x (by simp);have E:=g5.out x (by simp);have i5:=za.refl wk;have h9:Hid (∀z,decide (z∈s)=q.any fun y=>decide (z∈zm m y)):=fun z=>near_any (d8.out z)
      have s4:IntKind.i64.wrap ((N:Int) - 1)=(q.length:Int):=by rw [Eu];omega
      clear p9 m4
      go_wp2_with fail
      go_region_held3 (fun W'=>za w W'/\za w1 W'/\za wk W')
       (first | (exact ⟨e3.drew,i4.drew,i5.drew⟩) | (exact ⟨e3.drew.trans Q,i4.drew.trans Q,i5.drew.trans Q⟩))
       ((go_at_call 161;refine (next_calls m x _ (HS.out.maze.below e3.drew) SO.out.good.dim E.1 E.2).mono ?_;rintro e w9 ⟨v9,rfl,Q,a2⟩;obtain ⟨A9,c9,rfl,o7⟩:=AL (l:=zm m x) a2))
      rename_i o3
      obtain ⟨g0,s5,g1⟩:=o3;have j8:za wk.drew w9:=Q;have e6:Hid (zL w9 wk.drew.heap.size (.slice A9 (zm m x).length c9) (zm m x)):=a2;have i0:=zh (hR.out.set.below g1);clear Q a2 hR j8 D;have p4:=Cr m x;have c8:za W w9:=d.trans g1;have b8:=zh (Mk.nil w9);have f0:=zh (fun z hz=>Bz (m:=m) (x:=z) SO.out.good.dim E.1 E.2 hz)
      go_wp2_with fail
      clear e3 i4 d i5 I hk;generalize j2:zm m x=L at*;have s6:=zh j2;clear j2;go_loopw [7,97] (fun v i wr=>∃k:Nat,k<=L.length/\i=.int .i64 (k:Nat)/\Hid (Mk w9 wr v ((L.take k).filter (zB m us t q tk.1)))) (fun _ i _=>L.length - (intOf i).toNat)
      case atStart=>exact ⟨0,by omega,rfl,b8⟩
      clear b8
      case round=>
       obtain ⟨k,hk,rfl,hM⟩:=hrel;have d:=hM.out.ext;by_cases I:k<L.length
       ·obtain ⟨b9,rfl,Q,D⟩:=own_at (e6.out.ext d) I;have J:=zh (Ef I);have a7:=f0.out _ (DZ I);obtain ⟨y,hy⟩:=Fd (L[k]);rw [<-hy] at D J a7;clear hy;have o:=zh (cand1_calls t y wr (HS.out.ext (g0.trans d)) SO.out.good.fn k9 ((c8.trans d).cell f3) ((c8.trans d).cell k6) a7.1 a7.2);obtain ⟨b1,d4⟩:∃b1,b1=(zi m t y && !decide (y∈us)):=⟨_,rfl⟩;rw [<-d4] at o;have f5:zB m us t q tk.1 y=(b1 && !decide (y∈s) && !decide (y∈tk.1)):=by unfold zB;rw [h9.out y,d4]
        clear d4 a7;have a4:=zh f5;clear f5;have o8:((L.take k).filter (zB m us t q tk.1)).length<=1000:=Ea (EB _ _) (by simp;omega);have a1:Hid (∀bb,zB m us t q tk.1 y=bb->(L.take (k+1)).filter (zB m us t q tk.1)=(L.take k).filter (zB m us t q tk.1)++(if bb then [y] else [])):=fun bb h=>by rw [J.out,List.filter_append];show _++List.filter _ [y]=_;cases bb <;> simp [List.filter_cons,h]
        generalize (L.take k).filter (zB m us t q tk.1)=lk at*
        go_wp2_with fail
        refine o.out.mono ?_;rintro e w5 ⟨rfl,d6⟩;have b6:za wr w5:=d6.below _;have M:=zh (hM.out.more b6);clear d6 o;have e1:=i0.out.below (d.trans b6);have j6:za W w5:=c8.trans (d.trans b6);have n9:=zh (HF.out.below (e4.out.trans j6))
        cases b1 with
        | false=>
         have a0:Hid (zB m us t q tk.1 y=false):=a4.out.trans (by simp);go_wp2;go_roundw
         case rel=>exact ⟨k+1,by omega,by go_num,by rw [a1.out false a0.out];simpa using M⟩
         case measure=>simp [intOf];omega
        | true=>
         by_cases a3:y∈s
         ·have a0:Hid (zB m us t q tk.1 y=false):=a4.out.trans (by simp [a3]);have l9:=look_t e1 a3;clear a3;go_wp2;go_roundw
          case rel=>exact ⟨k+1,by omega,by go_num,by rw [a1.out false a0.out];simpa using M⟩
          case measure=>simp [intOf];omega
         ·have l9:=look_f e1 a3;have w0:=rg3 w5 j6;have a6:=zh (CW y w5 n9.out (by omega));by_cases b0:y∈tk.1
          ·have a0:Hid (zB m us t q tk.1 y=false):=a4.out.trans (by simp [b0]);rw [Eb b0] at a6;clear a3 b0
           go_wp2_with fail
           refine a6.out.mono ?_;rintro e w6 ⟨rfl,rfl⟩;go_wp2;go_roundw
           case rel=>exact ⟨k+1,by omega,by go_num,by rw [a1.out false a0.out];simpa using M⟩
           case measure=>simp [intOf];omega
          ·have a0:Hid (zB m us t q tk.1 y=true):=a4.out.trans (by simp [a3,b0]);rw [Ec b0] at a6;clear a3 b0;have q8:w9.heap.size<=w5.heap.size:=M.out.ext.size
           go_wp2_with (first | (go_at_call 130;refine a6.out.mono ?_;rintro e w6 ⟨rfl,rfl⟩) | (at_builtin;refine AR rfl _ _ rfl _ lk y w9.heap.size w5.heap.size 1 _ rfl rfl (M.out.own.alloc _) ?d1 ?d2 ?d3 ?_))
           (try case d1=>exact zA _ _ _ (by simp))
           case d2=>(first | (simp;done) | (simp;omega) | omega)
           case d3=>omega
           intro v' wb d9 U _;have g9:=zh ((M.out.alloc _).app d9 U);clear d9 U;go_wp2;go_roundw
           case rel=>exact ⟨k+1,by omega,by go_num,by rw [a1.out true a0.out];exact g9⟩
           case measure=>simp [intOf];omega
       ·obtain rfl:k=L.length:=by omega
        go_wp2_with fail
        go_ret;refine ⟨_,rfl,(g0.mono_mk hM.out).cast ?_⟩;rw [g4.out,Ej]
end
section
open Go.RowKit Go.Sort Go.Shelf
section
variable {w:World} {ok:Nat->Prop} {size n:Nat} {A:Option Addr} {v:Value} {xs:List Value}
theorem AT.bound (h:AT w ok size A n xs) (E:0<size):AT w (fun b=>ok b/\b<w.heap.size) size A n xs:=by
 refine ⟨h.1,fun o=>?_⟩;obtain ⟨b,off,e,D,d⟩:=h.2 o;have h0:0<xs.length:=by rw [h.1];exact Nat.mul_pos o E
 exact ⟨b,off,e,⟨D,zn (d 0 _ (DW h0))⟩,d⟩
theorem Bv.bound (h:Bv w ok size v n xs) (D:0<size):Bv w (fun b=>ok b/\b<w.heap.size) size v n xs:=by
 obtain ⟨A,c,e,d,o⟩:=h;exact ⟨A,c,e,d,o.bound D⟩
theorem Be.bound {l:List Bool} (h:Be w ok v l):Be w (fun b=>ok b/\b<w.heap.size) v l:=Bv.bound h (by decide)
theorem Each.bound {α:Type} {R R':Value->α->Prop} {l:List α} (h:Each R w ok v l) (o:∀u x,R u x->R' u x):Each R' w (fun b=>ok b/\b<w.heap.size) v l:=by
 obtain ⟨vs,d,he⟩:=h;refine ⟨vs,d.bound (by decide),fun i x E=>?_⟩;obtain ⟨u,D,d⟩:=he i x E;exact ⟨u,D,o _ _ d⟩
theorem Bw.bound {l:List (List Bool)} (h:Bw w ok v l):Bw w (fun b=>ok b/\b<w.heap.size) v l:=Each.bound h (fun _ _ h=>Be.bound h)
theorem Aa.bound {l:List (List Int)} (h:Aa w ok v l):Aa w (fun b=>ok b/\b<w.heap.size) v l:=Each.bound h (fun _ _ h=>zk.bound h)
theorem BR.bound {l:List (List Int×List Int)} (h:BR w ok v l):BR w (fun b=>ok b/\b<w.heap.size) v l:=by
 obtain ⟨vs,d,he⟩:=h;refine ⟨vs,d.bound (by decide),fun i x o=>?_⟩;obtain ⟨s,u1,u2,h0,h1,h2,i1,i2⟩:=he i x o;exact ⟨s,u1,u2,h0,h1,h2,i1.bound,i2.bound⟩
theorem zY.bound {m:MZ} (h:zY w ok v m):zY w (fun b=>ok b/\b<w.heap.size) v m:=by
 obtain ⟨f,u,t,rfl,h1,h2,h3⟩:=h;exact ⟨f,u,t,rfl,h1.bound,h2.bound,h3.bound⟩
theorem Bd.bound {g gu:Nat} {m:MZ} {ch us:List Int} {ps:List (List Int)} {f u t vc vp:Value} (h:Bd w ok g m ch ps us f u t vc vp gu):Bd w (fun b=>ok b/\b<w.heap.size) g m ch ps us f u t vc vp gu:=
 ⟨h.blk,⟨h.okg,zc h.blk⟩,h.maze.bound,h.ch.bound,h.ps.bound,⟨h.oku,zc h.us⟩,h.us⟩
end
abbrev InR (R:Int->Prop):={ x:Int // R x }
theorem holds_sub {R:Int->Prop} {w:World} {cap:Nat} {l:List (InR R)} [Inhabited (InR R)] (h:zL w B (.slice (some ⟨g,0,none⟩) (l.map (·.1)).length cap) (l.map (·.1))):Holds (fun x:InR R=>Value.int .i64 x.1) w g 0 l.toArray:=by
 intro j o;have d:j<l.length:=by simpa using o
 refine ⟨?_,by have:=World.ownsRow.frozenAt h j;simpa using this⟩;have:=World.ownsRow.cellAt h j (by simpa using d);rw [Nat.zero_add,this];simp [getElem!_pos,d]
theorem sortWorld_same {α:Type} [Inhabited α] {enc:α->Value} {w:World} {blk off n:Nat} {dk:Array α} {os:Array Obj} (D:B<=blk) (G:B<=w.heap.size):Ar (fun b=>b<B) w (sortWorld enc w blk off n dk os):=by
 intro b E d;have o:blk≠b:=by omega
 simp [sortWorld,grow,putRow,mapBlock,Sort.ahead,Array.getElem?_append,Array.getElem?_modify,Array.getElem_modify,d,o]
theorem deleteFuncI_calls {w1 w:World} {v:Value} (d:Mk w1 w v l) (R:Int->Prop) (hR:∀x∈l,R x) (h0:R 0) (hl:l.length<=1000000000000) (fn:FuncId) (lb:Array Value) (p:Int->Bool)
  (eg:∀args w,(callFunc fn args).run Tryz.prog w=.ok (.enter fn args) w)
  (hp:∀x,R x->∀W,Ar (fun b=>b<w1.heap.size) w W->Calls Tryz.prog fn (#[.int .i64 x]++lb) W fun e w'=>e=.returned (.bool (p x))/\z8 W w'):
  Calls Tryz.prog 228 #[v,.func (.func fn) #[] lb] w fun e w'=>∃v',e=.returned v'/\Mk w1 w' v' (l.filter fun x=>!p x):=by
 rcases EJ l.length with hl0 | hl0
 ·have G:=Ep hl0;subst G;obtain ⟨A,c,rfl,_⟩:=d.slice;have hI:=zh (Dn fn lb p w d.ints (by simp) eg (fun x hx=>by cases hx));have V:=zh d;clear d hp
  go_enter Tryz.func228,Tryz.ntmps228
  go_wp2_with fail
  refine hI.out.mono ?_;rintro e w2 ⟨r,rfl,U,a6,O⟩
  have M:r=-1:=by
   have:¬ 0<=r:=fun h=>by have:=U.1 h;simp at this
   omega
  subst M;have hE:za w w2:=O.below _;clear O U
  go_wp2_with fail
  go_ret;exact ⟨_,rfl,V.out.more hE⟩
 ·letI:Inhabited (InR R):=⟨⟨0,h0⟩⟩
  obtain ⟨l',rfl⟩:∃l':List (InR R),l'.map (·.1)=l:=⟨l.attachWith R hR,by simp⟩;obtain ⟨g,cap,rfl,Q,a4⟩:=World.ownsRow.form d.own hl0;have D:=BE d.own;have o:(l'.map (·.1)).length=l'.toArray.size:=by simp
  have I:=AnyE.slices_DeleteFunc dfIA (fun x:InR R=>Value.int .i64 x.1) (fun _=>rfl) (fun x=>p x.1) fn lb eg ⟨0,h0⟩ Tryz.zeroValue3 g 0 cap l'.toArray w
   (fun W x hb=>by
    refine Calls.mono (hp x.1 x.2 W (fun b a3 E=>hb.block b E)) ?_;rintro e w' ⟨rfl,q,rfl⟩;exact ⟨rfl,q,rfl⟩)
   (fun n os dk x _=>by
    refine Calls.mono (hp x.1 x.2 _ (sortWorld_same Q d.ext.size)) ?_;rintro e w' ⟨rfl,q,rfl⟩;exact ⟨rfl,q,rfl⟩)
   (holds_sub d.own) (by rw [<-o];omega) (by rw [<-o];exact D)
  change Calls Tryz.prog 228 _ _ _ at I;rw [<-o] at I;refine Calls.mono I ?_;rintro e w' ⟨rfl,q,rfl⟩;have K:(l'.map (·.1)).filter (fun x=>!p x)=(l'.filter fun x=>!p x.1).map (·.1):=by rw [List.filter_map];rfl
  have J:(l'.filter fun x=>!p x.1).length<=l'.length:=EB _ _;refine ⟨_,rfl,?_,Lib.below_putRow d.ext Q⟩
  have ho:w.ownsRow w1.heap.size 3 1 (.slice (some ⟨g,0,none⟩) (l'.map (·.1)).length cap) (l'.map (·.1)).length (l'.map fun x:InR R=>Value.int .i64 x.1):=by
   have:=d.own;unfold zL at this;rw [List.map_map] at this;exact this
  have:=Lib.ownsRow_putRow (enc:=fun x:InR R=>Value.int .i64 x.1) (q:=q) (k:=(l'.filter fun x=>!p x.1).length) (ys:=(l'.filter fun x=>!p x.1)++List.replicate (l'.length - (l'.filter fun x=>!p x.1).length) ⟨0,h0⟩) ho (by simp;omega) (by simpa using J);rw [List.take_left' rfl] at this;rw [K];unfold zL;rw [List.map_map,EI];simpa using this
end
section
open Go.RowKit Go.Shelf
attribute [local go_sem] Oper.semAt_some
attribute [local go_sem ↓] Go.wp_at_zero Go.wp_at_succ
def Ay (m:MZ) (ps:List (List Int)) (us:List Int) (t:Nat):List Int:=
 match (if t+1=ps.length then (ps.getD t []).getLast? else none) with
 | some x=>[x]
 | none=>((m.tasks.getD t ([],[])).1).filter fun n=>!(!zi m t n || decide (n∈us))
theorem sameCell {w W:World} (o:Ar (fun b=>b<B) w W) {p:Addr} {v:Value} (d:w.cell? p=some v) (hp:p.block<B):W.cell? p=some v:=
 (En (w:=w) (o p.block hp (zn d))).trans d
theorem CK {ok:Nat->Prop} {v:Value} (w:World) (h:zk w ok v l) (M:l.length<=1000000000000):
  Calls Tryz.prog 92 #[v] w fun e w'=>∃v',e=.returned v'/\Mk w w' v' l:=by
 have H:=zh h;have E:=nilEq 23 3 Tryz.underlying23;obtain ⟨A,c,rfl,K,o⟩:=h;rcases A with _ | a
 ·have d:l=[]:=by
   rcases EJ l.length with h | h
   ·exact Ep h
   ·obtain ⟨b,off,e,_⟩:=o.2 h;cases e
  subst d;clear o
  go_enter Tryz.func92,Tryz.ntmps92
  go_wp2_with fail
  go_ret;exact ⟨_,rfl,Mk.nil _⟩
 ·clear o;have O:=za.refl w
  go_enter Tryz.func92,Tryz.ntmps92
  go_wp2_with (at_builtin;refine Dd (ok:=ok) rfl _ _ _ rfl w.heap.size [] l _ _ rfl rfl (BX w w.heap.size (DY _)) (H.out.below ((za.refl w).alloc _)) ?d1 ?d2 ?_)
  case d1=>simp
  case d2=>simp;omega
  intro v' w1 G D _;have I:Hid (Mk w w1 v' l):=⟨G,Ao ((za.refl w).alloc _) D (by simp) (fun k J=>slice_own J)⟩;clear G D
  go_wp2_with fail
  go_ret;exact ⟨_,rfl,I.out⟩
theorem left11_del {ok:Nat->Prop} {w wk w8:World} {v8:Value} (tn:Nat) (h:Bd w ok g m ch ps us f u ts vc vp gu) (so:SOk m ch ps) (E:za w wk)
  (d:Mk wk w8 v8 l) (D:wk.cell? ⟨gb,0,none⟩=some (.pointer (some ⟨g,0,none⟩))) (o:wk.cell? ⟨b3,0,none⟩=some (.int .i64 (tn:Int))) (U:tn<m.tasks.length) (M:l.length<=1000000000000) (Q:∀x∈l,0<=x/\x<m.n):
  Calls Tryz.prog 228 #[v8,.func (.func 229) #[] #[.pointer (some ⟨gb,0,none⟩),.pointer (some ⟨b3,0,none⟩)]] w8 fun e w'=>∃v',e=.returned v'/\Mk wk w' v' (l.filter fun n=>!(!zi m tn n || decide (n∈us))):=by
 have J:tn<m.free.length:=by have:=so.good.fl;omega
 refine deleteFuncI_calls d (fun x=>0<=x/\x<m.n) Q ⟨by omega,by have:=so.good.n1;unfold MZ.n;omega⟩ M _ _ (fun x=>!zi m tn x || decide (x∈us)) (Cb (P:=Tryz.prog) Tryz.func229 (by kernel_rfl) (by kernel_rfl)) ?_;intro x K W G;have h1:Bd W (fun b=>ok b/\b<w.heap.size) g m ch ps us f u ts vc vp gu:=h.bound.keep (fun b I O=>(G b (EA I.2 E.size) (EA I.2 (E.trans d.ext).size)).trans ((E.trans d.ext).block b I.2));exact left11_calls tn x W h1 so.good.fn J (sameCell G (d.ext.cell D) (zn D)) (sameCell G (d.ext.cell o) (zn o)) K.1 K.2
theorem left1_next {w W w5:World} {J:Nat->World->Prop} {tn t0:Nat} (E:Hid (tn=t0+k)) (U:k<=m.tasks.length+1 - ps.length) (K:tn<m.tasks.length) (Q:m.tasks.length<=1000000) (M:ps.length=t0+1)
  (I:Hid (∀(k:Nat) (A B:World),J k A->Below W.heap.size A B->J k B)) (G:Hid (wr.cell? ⟨b3,0,none⟩=some (.int .i64 (tn:Int)))) (o:za w w5) (D:Hid (J (k+1) w5)) (d:W.heap.size<=w5.heap.size):
  (∃k tn_1 b3,Value.pointer (some ⟨w5.heap.size,0,none⟩)=Value.pointer (some ⟨b3,0,none⟩)/\Hid (tn_1=t0+k)/\k<=m.tasks.length+1 - ps.length/\Hid (W.heap.size<=b3)/\
   Hid ((w5.alloc (Obj.cells #[Value.int IntKind.i64 (wrap64 ((tn:Int)+1))] 3)).cell? ⟨b3,0,none⟩=some (Value.int IntKind.i64 (tn_1:Int))/\(w5.alloc (Obj.cells #[Value.int IntKind.i64 (wrap64 ((tn:Int)+1))] 3)).frozen? ⟨b3,0,none⟩=false)/\
   Hid (za w (w5.alloc (Obj.cells #[Value.int IntKind.i64 (wrap64 ((tn:Int)+1))] 3)))/\Hid (J k (w5.alloc (Obj.cells #[Value.int IntKind.i64 (wrap64 ((tn:Int)+1))] 3)))/\
   Hid (W.heap.size<=(w5.alloc (Obj.cells #[Value.int IntKind.i64 (wrap64 ((tn:Int)+1))] 3)).heap.size))/\
  (match Value.pointer (some ⟨w5.heap.size,0,none⟩) with
   | Value.pointer (some a)=>(match (w5.alloc (Obj.cells #[Value.int IntKind.i64 (wrap64 ((tn:Int)+1))] 3)).cell? a with | some (Value.int k i)=>m.tasks.length - i.toNat | x=>0)
   | x=>0)<
  (match Value.pointer (some ⟨b3,0,none⟩) with
   | Value.pointer (some a)=>(match wr.cell? a with | some (Value.int k i)=>m.tasks.length - i.toNat | x=>0)
   | x=>0):=by
 have h1:=E.out;have O:wrap64 ((tn:Int)+1)=((tn+1:Nat):Int):=by rw [IntWalk.wrap64_in _ (by omega)];omega
 rw [O];refine ⟨⟨k+1,tn+1,w5.heap.size,rfl,(by omega:tn+1=t0+(k+1)),by omega,d,⟨zA _ _ _ rfl,World.frozen?_alloc_at _ _ _ _ rfl⟩,o.alloc _,I.out _ _ _ D.out ((Below.refl _ w5).alloc d _),Ea d (by simp)⟩,?_⟩;simp only [zA _ _ _ rfl,G.out];omega
theorem left1_gives {ok:Nat->Prop} (w:World) (h:Bd w ok g m ch ps us f u ts vc vp gu) (so:SOk m ch ps) (hc:w.cell? ⟨gb,0,none⟩=some (.pointer (some ⟨g,0,none⟩))) (hp:cmpB m ps=false) (n:Nat) (hn:1<=n):
  GivesB n Tryz.prog 227 #[.pointer (some ⟨gb,0,none⟩)] (fun x:Int×Value=>#[.int .i64 x.1,x.2]) (fun k x W=>x.1=((ps.length - 1+k:Nat):Int)/\zk W (fun _=>True) x.2 (Ay m ps us (ps.length - 1+k))) (m.tasks.length+1 - ps.length) w:=by
 intro l J Jx W hW h8 hl hJ i7 hY h0;have HS:=zh h.bound;clear h;have HY:=zh hY;clear hY;have HJ:=zh hJ;clear hJ;have o2:=zh i7;clear i7;have H0:=zh h0;clear h0;have n7:ps.length<=6:=Ea so.pl so.good.tk;obtain ⟨r0,r1,r2,r3,r4,r5,r6,r7,r8⟩:=HS.out.rules;have rb:=za.rule hc;have SO:=zh so
 have n6:0<ps.length:=by
  by_cases h0:m.tasks.length=0
  ·unfold cmpB at hp;rw [Eb h0] at hp;cases hp
  ·exact so.pn (by omega)
 have o9:=so.pl;have m5:=HS.out.maze;obtain ⟨fr',up',ts',d4,_,_,k9⟩:=m5;injection d4 with d4;injection d4 with d4;simp only [List.cons.injEq,and_true,true_and] at d4;obtain ⟨rfl,rfl,rfl⟩:=d4;have i1:=zh k9;obtain ⟨vst,⟨At,ct,rfl,o7,_⟩,_⟩:=k9;clear hc so;refine callsIn_of_wp Tryz.func227 rfl trivial ?_ rfl;simp only [Tryz.ntmps227,List.size_toArray,Fb,Fc,Nat.reduceAdd,Nat.reduceSub,Array.replicate_succ,Array.replicate_zero,List.push_toArray,List.append_toArray,List.nil_append,List.cons_append]
 gi_wp2_with (refine ⟨trivial,?_⟩;gi_at_call 151;refine (callsIn_wide.2 (Cc _ (HS.out.ext hW) SO.out)).mono ?_;rintro e wA ⟨rfl,j2⟩;rw [hp];have h9:za W wA:=j2.below _;have hA:za w wA:=hW.trans h9)
 refine ⟨trivial,?_⟩;refine (callsIn_wide.2 (AQ _ (HS.out.ext hA) (by omega))).mono ?_;rintro e wB ⟨he,l7⟩;subst l7;obtain ⟨t0,h6⟩:∃t0,ps.length=t0+1:=⟨ps.length - 1,by omega⟩;have j8:(ps.length:Int) - 1=(t0:Int):=by omega
 rw [j8] at he;subst he;clear j8 j2
 gi_wp2
 gi_loopw [3] (fun v wr=>∃k tn b3,v=.pointer (some ⟨b3,0,none⟩)/\Hid (tn=t0+k)/\k<=m.tasks.length+1 - ps.length/\Hid (W.heap.size<=b3)/\Hid (wr.cell? ⟨b3,0,none⟩=some (.int .i64 (tn:Int))/\wr.frozen? ⟨b3,0,none⟩=false)/\Hid (za w wr)/\Hid (J k wr)/\Hid (W.heap.size<=wr.heap.size)) (fun v wr=>match v with | .pointer (some a)=>(match wr.cell? a with | some (.int _ i)=>m.tasks.length - i.toNat | _=>0) | _=>0)
 case atStart=>
  have hz:=h9.size;exact ⟨0,t0,wA.heap.size,rfl,rfl,by omega,hz,⟨zA _ _ _ rfl,World.frozen?_alloc_at _ _ _ _ rfl⟩,hA.alloc _,HJ.out _ _ _ H0.out ((h9).alloc _),Ea hz (by simp)⟩
 case round=>
  obtain ⟨k,tn,b3,rfl,a6,hk,g6,i9,hE,i6,k7⟩:=hrel;have i5:=hE.out;obtain ⟨d,f9⟩:=i9.out;have e0:=zh d
  gi_wp2
  refine wpIn_wide.2 ?_;go_quiet (fail)
  generalize l1:wr.drewN nq=w2;have j1:z8 wr w2:=⟨nq,l1.symm⟩;have d6:za wr w2:=j1.below _;clear l1 j1;have c8:za w w2:=i5.trans d6;have a4:=d6.cell d;have f4:w2.frozen? ⟨b3,0,none⟩=false:=(Below.frozen d6 (p:=⟨b3,0,none⟩) (zn d)).trans f9;have e5:=zh (HJ.out _ _ _ i6.out (d6.mono k7.out));have d7:W.heap.size<=w2.heap.size:=Ea k7.out d6.size;clear d f9 i9 i6 hE i5 d6;by_cases h4:tn<m.tasks.length
  ·have b4:t0<ps.length:=by omega
   obtain ⟨vs,⟨Ap,cp,rfl,o6,k5⟩,j3⟩:=HS.out.ps;obtain ⟨b,off,up,rfl,_,f8,h7⟩:=AX k5 j3 b4 b4;have j9:=SO.out.pp _ (DZ b4);have q0:=za.rule f8;have p6:(t0:Int)<(ps.length:Int):=by omega
   have n9:(0:Int)<=(t0:Int):=by omega
   obtain ⟨p,h5⟩:=Fd (ps[t0]);rw [<-h5] at h7 j9;have g3:=zh h5;clear h5;have i2:=zh h7;obtain ⟨Aq,cq,rfl,m2,m6⟩:=h7;clear k5 j3 f8 m6;have j7:(k=0)\/(k≠0):=by omega
   rcases j7 with hk0 | hk0
   ·have d5:Hid (tn=t0):=(by have:=a6.out;omega:tn=t0);have hd:((tn:Int)==(t0:Int))=true:=by rw [beq_iff_eq,d5.out]
    have k4:min (tn:Int) (t0:Int)=(t0:Int):=by rw [d5.out];omega
    clear hk0
    gi_wp2
    refine wpIn_wide.2 ?_;go_quiet ((go_at_call 199;refine (AQ _ (HS.out.ext (c8.drewN _)) (by omega)).mono ?_;rintro e w9 ⟨K,rfl⟩;rw [show (ps.length:Int) - 1=(t0:Int) from by omega] at K;exact ⟨K,⟨_,rfl⟩⟩))
    generalize f2:w2.drewN nq=w3;have e8:z8 w2 w3:=⟨nq,f2.symm⟩;have Q:za w2 w3:=e8.below _;clear f2 e8;have a2:za w w3:=c8.trans Q;have d:=Q.cell a4;have c0:w3.frozen? ⟨b3,0,none⟩=false:=(Below.frozen Q (p:=⟨b3,0,none⟩) (zn a4)).trans f4;have b9:=zh (HJ.out _ _ _ e5.out (Q.mono d7));have a3:W.heap.size<=w3.heap.size:=Ea d7 Q.size;clear a4 f4 e5 c8 Q d7;rcases List.eq_nil_or_concat p with rfl | ⟨q,x,rfl⟩
    ·have g1:Hid (Ay m ps us tn=((m.tasks.getD tn ([],[])).1).filter fun n=>!(!zi m tn n || decide (n∈us))):=by
      show Ay m ps us tn=_;unfold Ay;rw [if_pos (by have:=d5.out;omega),d5.out,DX,DW b4,ED,<-g3.out];rfl
     gi_wp2
     refine wpIn_wide.2 ?_;go_quiet ((go_at_call 199;refine (AQ _ (HS.out.ext (a2.drewN _)) (by omega)).mono ?_;rintro e w9 ⟨K,rfl⟩;rw [show (ps.length:Int) - 1=(t0:Int) from by omega] at K;exact ⟨K,⟨_,rfl⟩⟩))
     gi_wp2
     refine wpIn_wide.2 ?_;generalize b6:w3.drewN nq=w6;have b2:z8 w3 w6:=⟨nq,b6.symm⟩;have D:za w3 w6:=b2.below _;have b7:=D;clear b6 b2;have G:za w w6:=a2.trans D;have a0:=D.cell d;have e7:=zh (HJ.out _ _ _ b9.out (D.mono a3));have c7:W.heap.size<=w6.heap.size:=Ea a3 D.size;clear b9 a2 D a3;have U:=zh a0;have e1:=zh ((Below.frozen b7 (p:=⟨b3,0,none⟩) (zn d)).trans c0);clear c0 d b7;have o:tn<m.tasks.length:=h4;obtain ⟨bt,offt,sn,u1,u2,rfl,_,e9,f0,g8,c6,g7⟩:=Ce i1.out o;have g9:=(SO.out.lens.tl _ (DZ o)).1;have a1:=SO.out.good.tn _ (DZ o);have V:Hid (Ay m ps us tn=((m.tasks[tn]).1).filter fun n=>!(!zi m tn n || decide (n∈us))):=g1.out.trans (by rw [DX,DW o,ED]);obtain ⟨tk,f1⟩:=Fd (m.tasks[tn]);rw [<-f1] at c6 g9 a1 V;clear f1 g7 e9 g8;have HF:=zh c6;obtain ⟨A5,c5,rfl,m0,_⟩:=c6;have g4:=zh a1;clear a1;have q1:=za.rule f0;have rb3:=za.rule a0;have E:=za.refl w6;have m7:(tn:Int)<(m.tasks.length:Int):=by omega
     have k8:(0:Int)<=(tn:Int):=by omega
     have j5:tn<m.free.length:=by have:=SO.out.good.fl;omega
     clear f0 a0;have l9:(0:Int)<=0/\(0:Int)<m.n:=by have:=SO.out.good.n1;unfold MZ.n;omega
     have q3:=rb3
     go_region_held3 (fun W'=>za w W'/\za w6 W')
      (first | (exact ⟨G.drew,E.drew⟩) | (exact ⟨G.drew.trans O.ext,E.drew.trans O.ext⟩) | (exact ⟨G.drew.trans a5.ext,E.drew.trans a5.ext⟩) | assumption)
      (first | ((go_at_call 92;refine (CK _ (HF.out.below G.drew) (by omega)).mono ?_;rintro e w8 ⟨v8,rfl,a5⟩)) | ((go_at_call 228;refine (left11_del tn HS.out SO.out G.drew a5 (rb _ G.drew) (q3 _ E.drew) o (by omega) (fun x hx=>g4.out x (.inl hx))).mono ?_;rintro e w9 ⟨v9,rfl,O⟩)))
     all_goals
      have c9:za w w9:=G.drew.trans O.ext;have I:za w6 w9:=E.drew.trans O.ext
      have e3:Hid (zk w9 (fun _=>True) v9 (Ay m ps us tn)):=by
       have h1:=O.ints;rw [<-V.out] at h1;exact h1.weaken fun _ _=>trivial
      have b1:=I.cell U.out;have j4:w9.frozen? ⟨b3,0,none⟩=false:=(Below.frozen I (p:=⟨b3,0,none⟩) (zn U.out)).trans e1.out;have e6:=zh (HJ.out _ _ _ e7.out (I.mono c7));have b8:W.heap.size<=w9.heap.size:=Ea c7 I.size;have a7:=a6.out;clear O a5 I q3 rb3 E q1 G e7 c7 U e1;obtain ⟨fn,tmps,assign,body,hy,hR⟩:=HY.out k ((tn:Int),v9) w9 (by omega) e6.out ⟨by simp;omega,by have:=e3.out;rwa [show ps.length - 1+k=tn from by omega]⟩;have HR:=zh hR;clear hR a7;dsimp only at hy
      gi_wp2
      refine HR.out.mono ?_;rintro e w5 (⟨rfl,a8,M⟩ | ⟨rfl,a9⟩)
      ·have b0:b3≠l:=by have:=g6.out;omega
       have e4:za w w5:=AU c9 M (Ea hW.size b8) h8;have f6:w5.cell? ⟨b3,0,none⟩=some (.int .i64 (tn:Int)):=World.grownBy.cell M b1 (fun e=>b0 (by injection e));have f3:W.heap.size<=w5.heap.size:=Ea b8 M.size;have e2:=zh a8;clear a8 M hy
       gi_wp2
       exact left1_next a6 hk o (by have:=SO.out.good.tk;omega) h6 HJ e0 e4 e2 f3
      ·gi_wp2
       refine ER (results_none rfl _ _ _) rfl ?_;exact ⟨⟨_,rfl⟩,.inr a9⟩
    ·rw [List.concat_eq_append] at*
     have V:Hid (Ay m ps us tn=[x]):=by
      show Ay m ps us tn=_;unfold Ay;rw [if_pos (by have:=d5.out;omega),d5.out,DX,DW b4,ED,<-g3.out];simp
     obtain ⟨N,hN⟩:=Fd ((q++[x]).length);have o4:N=q.length+1:=by rw [hN];simp
     have l0:=i2.out;obtain ⟨A',c',g5,m1,k6⟩:=l0;obtain ⟨b5,o5,hA5,i8,f7⟩:=k6.2 (by simp);injection g5 with g5 i3 i4;subst g5 i4 hA5;have l2:w.cell? ⟨b5,o5+q.length,none⟩=some (.int .i64 x):=f7 q.length _ (by simp);have l5:=zh l2;have n5:b5<w.heap.size:=i8.2;clear f7 l2 k6 i3 m1 g3 i2 i8;rw [<-hN] at q0 m2 j9;have l8:(0:Int)<(N:Int):=by omega
     have o3:decide ((0:Int)<(N:Int))=true:=Eb l8;have p5:IntKind.i64.wrap ((N:Int) - 1)=(q.length:Int):=by rw [Eu];omega
     have n8:wrap64 ((N:Int) - 1)=(q.length:Int):=by rw [IntWalk.wrap64_in _ (by omega)];omega
     have p4:(0:Int)<=(q.length:Int)/\(q.length:Int)<=(N:Int):=by omega
     rw [<-hN];clear hN
     gi_wp2
     refine wpIn_wide.2 ?_;go_quiet ((go_at_call 199;refine (AQ _ (HS.out.ext (a2.drewN _)) (by omega)).mono ?_;rintro e w9 ⟨K,rfl⟩;rw [show (ps.length:Int) - 1=(t0:Int) from by omega] at K;exact ⟨K,⟨_,rfl⟩⟩))
     generalize b6:w3.drewN nq=w9;have b2:z8 w3 w9:=⟨nq,b6.symm⟩;have D:za w3 w9:=b2.below _;clear b6 b2;have c9:za w w9:=a2.trans D;have b1:=D.cell d;have j4:w9.frozen? ⟨b3,0,none⟩=false:=(Below.frozen D (p:=⟨b3,0,none⟩) (zn d)).trans c0;have e6:=zh (HJ.out _ _ _ b9.out (D.mono a3));have b8:W.heap.size<=w9.heap.size:=Ea a3 D.size;clear b9 a2 D a3 d c0;have o:tn<m.tasks.length:=h4;have a7:=a6.out
     have e3:Hid (zk w9 (fun _=>True) (.slice (some ⟨b5,o5+q.length,none⟩) 1 (cq - q.length)) (Ay m ps us tn)):=by
      show zk w9 _ _ (Ay m ps us tn);rw [V.out];refine ⟨_,_,rfl,by simp;omega,by simp,fun _=>⟨b5,o5+q.length,rfl,trivial,?_⟩⟩;intro i u hi
      match i,hi with
      | 0,hi=>
       injection hi with hi;rw [<-hi];exact c9.cell l5.out
     obtain ⟨fn,tmps,assign,body,hy,hR⟩:=HY.out k ((tn:Int),(.slice (some ⟨b5,o5+q.length,none⟩) 1 (cq - q.length))) w9 (by omega) e6.out ⟨by simp;omega,by have:=e3.out;rwa [show ps.length - 1+k=tn from by omega]⟩;have HR:=zh hR;clear hR a7;dsimp only at hy
     gi_wp2
     refine HR.out.mono ?_;rintro e w5 (⟨rfl,a8,M⟩ | ⟨rfl,a9⟩)
     ·have b0:b3≠l:=by have:=g6.out;omega
      have e4:za w w5:=AU c9 M (Ea hW.size b8) h8;have f6:w5.cell? ⟨b3,0,none⟩=some (.int .i64 (tn:Int)):=World.grownBy.cell M b1 (fun e=>b0 (by injection e));have f3:W.heap.size<=w5.heap.size:=Ea b8 M.size;have e2:=zh a8;clear a8 M hy
      gi_wp2
      exact left1_next a6 hk o (by have:=SO.out.good.tk;omega) h6 HJ e0 e4 e2 f3
     ·gi_wp2
      refine ER (results_none rfl _ _ _) rfl ?_;exact ⟨⟨_,rfl⟩,.inr a9⟩
   ·have n4:(t0:Int)<(tn:Int):=by have:=a6.out;omega
    have hd:((tn:Int)==(t0:Int))=false:=by rw [El];omega
    have k4:min (tn:Int) (t0:Int)=(t0:Int):=by omega
    clear hk0
    gi_wp2
    refine wpIn_wide.2 ?_;go_quiet ((go_at_call 199;refine (AQ _ (HS.out.ext (c8.drewN _)) (by omega)).mono ?_;rintro e w9 ⟨K,rfl⟩;rw [show (ps.length:Int) - 1=(t0:Int) from by omega] at K;exact ⟨K,⟨_,rfl⟩⟩))
    generalize f2:w2.drewN nq=w3;have e8:z8 w2 w3:=⟨nq,f2.symm⟩;have Q:za w2 w3:=e8.below _;clear f2 e8;have a2:za w w3:=c8.trans Q;have d:=Q.cell a4;have c0:w3.frozen? ⟨b3,0,none⟩=false:=(Below.frozen Q (p:=⟨b3,0,none⟩) (zn a4)).trans f4;have b9:=zh (HJ.out _ _ _ e5.out (Q.mono d7));have a3:W.heap.size<=w3.heap.size:=Ea d7 Q.size;clear a4 f4 e5 c8 Q d7
    have g1:Hid (Ay m ps us tn=((m.tasks.getD tn ([],[])).1).filter fun n=>!(!zi m tn n || decide (n∈us))):=by
     show Ay m ps us tn=_;unfold Ay;rw [if_neg (by omega)]
    gi_wp2
    refine wpIn_wide.2 ?_;go_quiet ((go_at_call 199;refine (AQ _ (HS.out.ext (a2.drewN _)) (by omega)).mono ?_;rintro e w9 ⟨K,rfl⟩;rw [show (ps.length:Int) - 1=(t0:Int) from by omega] at K;exact ⟨K,⟨_,rfl⟩⟩))
    gi_wp2
    refine wpIn_wide.2 ?_;generalize b6:w3.drewN nq=w6;have b2:z8 w3 w6:=⟨nq,b6.symm⟩;have D:za w3 w6:=b2.below _;have b7:=D;clear b6 b2;have G:za w w6:=a2.trans D;have a0:=D.cell d;have e7:=zh (HJ.out _ _ _ b9.out (D.mono a3));have c7:W.heap.size<=w6.heap.size:=Ea a3 D.size;clear b9 a2 D a3;have U:=zh a0;have e1:=zh ((Below.frozen b7 (p:=⟨b3,0,none⟩) (zn d)).trans c0);clear c0 d b7;have o:tn<m.tasks.length:=h4;obtain ⟨bt,offt,sn,u1,u2,rfl,_,e9,f0,g8,c6,g7⟩:=Ce i1.out o;have g9:=(SO.out.lens.tl _ (DZ o)).1;have a1:=SO.out.good.tn _ (DZ o);have V:Hid (Ay m ps us tn=((m.tasks[tn]).1).filter fun n=>!(!zi m tn n || decide (n∈us))):=g1.out.trans (by rw [DX,DW o,ED]);obtain ⟨tk,f1⟩:=Fd (m.tasks[tn]);rw [<-f1] at c6 g9 a1 V;clear f1 g7 e9 g8;have HF:=zh c6;obtain ⟨A5,c5,rfl,m0,_⟩:=c6;have g4:=zh a1;clear a1;have q1:=za.rule f0;have rb3:=za.rule a0;have E:=za.refl w6;have m7:(tn:Int)<(m.tasks.length:Int):=by omega
    have k8:(0:Int)<=(tn:Int):=by omega
    have j5:tn<m.free.length:=by have:=SO.out.good.fl;omega
    clear f0 a0;have l9:(0:Int)<=0/\(0:Int)<m.n:=by have:=SO.out.good.n1;unfold MZ.n;omega
    have q3:=rb3
    go_region_held3 (fun W'=>za w W'/\za w6 W')
     (first | (exact ⟨G.drew,E.drew⟩) | (exact ⟨G.drew.trans O.ext,E.drew.trans O.ext⟩) | (exact ⟨G.drew.trans a5.ext,E.drew.trans a5.ext⟩) | assumption)
     (first | ((go_at_call 92;refine (CK _ (HF.out.below G.drew) (by omega)).mono ?_;rintro e w8 ⟨v8,rfl,a5⟩)) | ((go_at_call 228;refine (left11_del tn HS.out SO.out G.drew a5 (rb _ G.drew) (q3 _ E.drew) o (by omega) (fun x hx=>g4.out x (.inl hx))).mono ?_;rintro e w9 ⟨v9,rfl,O⟩)))
    all_goals
     have c9:za w w9:=G.drew.trans O.ext;have I:za w6 w9:=E.drew.trans O.ext
     have e3:Hid (zk w9 (fun _=>True) v9 (Ay m ps us tn)):=by
      have h1:=O.ints;rw [<-V.out] at h1;exact h1.weaken fun _ _=>trivial
     have b1:=I.cell U.out;have j4:w9.frozen? ⟨b3,0,none⟩=false:=(Below.frozen I (p:=⟨b3,0,none⟩) (zn U.out)).trans e1.out;have e6:=zh (HJ.out _ _ _ e7.out (I.mono c7));have b8:W.heap.size<=w9.heap.size:=Ea c7 I.size;have a7:=a6.out;clear O a5 I q3 rb3 E q1 G e7 c7 U e1;obtain ⟨fn,tmps,assign,body,hy,hR⟩:=HY.out k ((tn:Int),v9) w9 (by omega) e6.out ⟨by simp;omega,by have:=e3.out;rwa [show ps.length - 1+k=tn from by omega]⟩;have HR:=zh hR;clear hR a7;dsimp only at hy
     gi_wp2
     refine HR.out.mono ?_;rintro e w5 (⟨rfl,a8,M⟩ | ⟨rfl,a9⟩)
     ·have b0:b3≠l:=by have:=g6.out;omega
      have e4:za w w5:=AU c9 M (Ea hW.size b8) h8;have f6:w5.cell? ⟨b3,0,none⟩=some (.int .i64 (tn:Int)):=World.grownBy.cell M b1 (fun e=>b0 (by injection e));have f3:W.heap.size<=w5.heap.size:=Ea b8 M.size;have e2:=zh a8;clear a8 M hy
      gi_wp2
      exact left1_next a6 hk o (by have:=SO.out.good.tk;omega) h6 HJ e0 e4 e2 f3
     ·gi_wp2
      refine ER (results_none rfl _ _ _) rfl ?_;exact ⟨⟨_,rfl⟩,.inr a9⟩
  ·gi_wp2
   go_end0
   have m4:k=m.tasks.length+1 - ps.length:=by have:=a6.out;omega
   exact ⟨⟨_,rfl⟩,.inl (by rw [<-m4];exact e5.out)⟩
end
end Go.Proofs.YtjomnbdjajjgfaaGreatDoor
