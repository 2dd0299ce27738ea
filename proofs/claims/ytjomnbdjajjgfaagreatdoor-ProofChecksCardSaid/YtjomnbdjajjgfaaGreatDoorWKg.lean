import Derived.Test.YtjomnbdjajjgfaaGreatDoorWKf
import Derived.Shelf.SlicesE.DeleteFunc
import Derived.Ground.SlgfProg
import Derived.KernelRfl
import Derived.Maps.AppendAt
set_option linter.unusedVariables false
set_option linter.unusedSimpArgs false
set_option maxRecDepth 100000
set_option maxHeartbeats 16000000
namespace Go.Proofs.YtjomnbdjajjgfaaGreatDoor
variable {x y z:Int} {S acc l q:List Int} {gn k:Nat} {a b c wr:World}
section
open Go.RowKit
attribute [local go_sem ↓] Go.wp_at_zero Go.wp_at_succ
def zD (m:MZ) (us:List Int) (t:Nat) (q from_:List Int) (n:Int):Bool:=ze m t n && !decide (n∈us) && !(q.any fun y=>decide (n∈zo m y)) && !decide (n∈from_)
def BV (m:MZ) (ps:List (List Int)) (us:List Int):List Int:=
 if cmpB m ps=true then []
 else match (ps.getD (ps.length - 1) []).getLast? with
  | none=>(Lib.compact (Bc (m.tasks.getD (ps.length - 1) ([],[])).1)).filter fun n=>ze m (ps.length - 1) n && !decide (n∈us)
  | some x=>(zo m x).filter (zD m us (ps.length - 1) (ps.getD (ps.length - 1) []).dropLast (m.tasks.getD (ps.length - 1) ([],[])).1)
theorem mem_sortL:x∈Bc l↔x∈l:=by unfold Bc;exact (List.mergeSort_perm _ _).mem_iff
theorem compact_len (l:List Int):(Lib.compact l).length<=l.length:=by
 unfold Lib.compact Lib.compactUpTo;rw [EB];exact DT (Eu _ _) (by simp)
theorem DA (h:x∈Lib.compact l):x∈l:=by
 unfold Lib.compact Lib.compactUpTo at h;obtain ⟨j,B,rfl⟩:=EP.1 h;have o:j<l.length:=by simpa using (EO.1 B).1
 simp [getElem!_pos,o]
theorem path_cell {w:World} {ok:Nat->Prop} {A:Option Addr} {n c:Nat} (h:zk w ok (.slice A n c) l) (B:l[k]?=some y):∃b o,A=some ⟨b,o,none⟩/\∀W,za w W->W.cell? ⟨b,o+k,none⟩=some (.int .i64 y):=by
 obtain ⟨A',c',e,_,G⟩:=h;injection e with e1 e2 e3;subst e1
 have D:k<l.length:=by
  rcases En k l.length with h | h
  ·exact h
  ·rw [Ek h] at B;cases B
 obtain ⟨b,o,e,_,E⟩:=zE G D D;rw [DO D] at B;injection B with B;rw [B] at E;exact ⟨b,o,e,za.rule E⟩
structure NR (W wr:World) (gn:Nat) (s:List Int):Prop where
 ext:za W wr
 set:zG wr gn s
theorem NR.more {W w':World} {s:List Int} (h:NR W wr gn s) (o:za wr w'):NR W w' gn s:=⟨h.ext.trans o,h.set.below o⟩
theorem NR.add {W w':World} {s:List Int} (h:NR W wr gn s) (D:gn=W.heap.size) (B:zG w' gn (ins s x)) (o:wr.grownBy w' (some gn)):NR W w' gn (ins s x):=⟨BA h.ext o h.ext.size (by omega),B⟩
theorem near_step {m:MZ} {a:Int}:((∃y'∈q,a∈zo m y')\/a∈zo m y)↔∃y'∈q++[y],a∈zo m y':=by
 constructor
 ·rintro (⟨y',h1,h2⟩ | h)
  ·exact ⟨y',by simp [h1],h2⟩
  ·exact ⟨y,by simp,h⟩
 ·rintro ⟨y',h1,h2⟩;rw [EH,Ey] at h1;rcases h1 with h1 | rfl
  ·exact .inl ⟨y',h1,h2⟩
  ·exact .inr h2
theorem near_any {m:MZ} {s:List Int} (h:z∈s↔∃y∈q,z∈zo m y):decide (z∈s)=q.any fun y=>decide (z∈zo m y):=by
 by_cases o:z∈s
 ·rw [DU o];symm;obtain ⟨y,h1,h2⟩:=h.1 o;exact ET.2 ⟨y,h1,DU h2⟩
 ·rw [DV o];symm;rw [Bool.eq_false_iff];intro h3;obtain ⟨y,h1,h2⟩:=ET.1 h3;exact o (h.2 ⟨y,h1,EV h2⟩)
structure JC (wB:World) (sn:ByteArray) (u1 u2 up:Value) (e:Nat->Bool) (v:Nat->Value) (W:World):Prop where
 ext:za wB W
 al:e 15=true->∃g3,v 15=.pointer (some ⟨g3,0,none⟩)/\wB.heap.size<=g3/\(e 16=false->zd W g3 87 #[.string ⟨#[]⟩,.slice none 0 0,.slice none 0 0])/\(e 16=true->zd W g3 87 #[.string sn,u1,u2])
 asg:e 17=true->v 17=up
 d16:e 16=true->e 15=true
section
variable {wB W W':World} {sn:ByteArray} {u1 u2 up:Value} {e:Nat->Bool} {v:Nat->Value}
theorem JC.init (he:∀j∈[15,16,17],e j=false):JC wB sn u1 u2 up e v wB.drew:=
 ⟨Dj,fun a=>ff (he 15 (by simp)) a,fun a=>ff (he 17 (by simp)) a,fun a=>ff (he 16 (by simp)) a⟩
theorem JC.s15 (h:JC wB sn u1 u2 up e v W) (o:e 15=false):JC wB sn u1 u2 up (AM e 15 true) (AM v 15 (.pointer (some ⟨W.heap.size,0,none⟩))) (W.alloc (.cells #[.string ⟨#[]⟩,.slice none 0 0,.slice none 0 0] 87)):=
 ⟨h.ext.alloc _,fun _=>⟨_,rfl,h.ext.size,fun _=>zd.new _ _ _ rfl,fun a=>ff (b:=e 16) (notT h.d16 o) a⟩,h.asg,fun _=>rfl⟩
theorem JC.s16 {g3:Nat} {x:Value} (h:JC wB sn u1 u2 up e v W) (o:e 15=true) (G:v 15=.pointer (some ⟨g3,0,none⟩)) (E:wB.heap.size<=g3) (B:za wB W') (D:zd W' g3 87 #[.string sn,u1,u2]):JC wB sn u1 u2 up (AM e 16 true) (AM v 16 x) W':=
 ⟨B,fun _=>⟨g3,G,E,fun a=>(by cases a),fun _=>D⟩,h.asg,fun _=>o⟩
theorem JC.s17 (h:JC wB sn u1 u2 up e v W):JC wB sn u1 u2 up (AM e 17 true) (AM v 17 up) W:=⟨h.ext,h.al,fun _=>rfl,h.d16⟩
end
theorem candidates_calls {ok:Nat->Prop} {m:MZ} {ch us:List Int} {ps:List (List Int)} {g gu:Nat} {f u ts vc vp:Value} (w:World) (h:BJ w ok g m ch ps us f u ts vc vp gu) (so:SOk m ch ps):
  Calls Tryz.prog 148 #[.pointer (some ⟨g,0,none⟩)] w fun e w'=>∃v',e=.returned v'/\Mk w w' v' (BV m ps us):=by
 have HS:=zh h;have SO:=zh so;have q9:ps.length<=6:=DT so.pl so.good.tk;obtain ⟨r0,r1,r2,r3,r4,r5,r6,r7,r8⟩:=h.rules;have hx:=za.refl w
 go_enter Tryz.func148,Tryz.ntmps148
 go_wp2_with fail
 generalize i2:w.alloc (.cells #[.pointer (some ⟨g,0,none⟩)] 198)=w1;have j4:za w w1:=by rw [<-i2];exact (za.refl w).alloc _
 have h5:w1.cell? ⟨w.heap.size,0,none⟩=some (.pointer (some ⟨g,0,none⟩)):=by rw [<-i2];exact zC _ _ _ rfl
 have q8:w.heap.size<w1.heap.size:=zA h5;have rb:=za.rule h5;clear i2;refine (complete_calls _ (HS.out.ext j4) SO.out).mono ?_;rintro e wA ⟨rfl,k3⟩;have m6:za w1 wA:=k3.below _;have hA:=j4.trans m6;clear k3 h5
 cases O:cmpB m ps with
 | true=>
  have HC:=zh O;clear O
  go_wp2_with fail
  go_ret;exact ⟨_,rfl,hA.mono_mk (Mk.cast (Mk.nil _) (by unfold BV;rw [if_pos HC.out]))⟩
 | false=>
  have HC:=zh O
  have hp:0<ps.length:=by
   by_cases h0:m.tasks.length=0
   ·unfold cmpB at O;rw [DU h0] at O;cases O
   ·exact so.pn (by omega)
  clear O
  go_wp2_with fail
  refine (CO _ (HS.out.ext hA) (by omega)).mono ?_;rintro e wB ⟨he,n4⟩;subst n4;obtain ⟨t,hk⟩:∃t,ps.length=t+1:=⟨ps.length - 1,by omega⟩;have l4:(ps.length:Int) - 1=(t:Int):=by omega
  rw [l4] at he;subst he;clear l4;have j6:za w (wA.alloc (.cells #[.int .i64 t] 3)):=hA.alloc _;have o2:(wA.alloc (.cells #[.int .i64 t] 3)).cell? ⟨wA.heap.size,0,none⟩=some (.int .i64 t):=zC _ _ _ rfl;have m7:za w1 (wA.alloc (.cells #[.int .i64 t] 3)):=m6.alloc _;have ho:=h.ps;have o9:=h.maze;obtain ⟨vs,⟨Ap,cp,rfl,t1,m1⟩,k4⟩:=ho;obtain ⟨fr',up',ts',a9,_,_,J⟩:=o9;injection a9 with a9;injection a9 with a9;simp only [List.cons.injEq,and_true,true_and] at a9;obtain ⟨rfl,rfl,rfl⟩:=a9;have p6:=J;obtain ⟨vst,⟨At,ct,rfl,t2,_⟩,_⟩:=p6;have e1:t<ps.length:=by omega
  obtain ⟨b,off,up,rfl,_,f3,i1⟩:=Br m1 k4 e1 e1;have e8:t<m.tasks.length:=by have:=so.pl;omega
  obtain ⟨bt,offt,sn,u1,u2,rfl,_,l1,l2,l3,e7,h6⟩:=Bm J e8;have h7:=so.pp _ (DS e1);have d9:=so.pr _ (DS e1);have o7:=(so.lens.tl _ (DS e8)).1;have i0:=so.good.tn _ (DS e8)
  have d4:BV m ps us=match (ps[t]).getLast? with
    | none=>(Lib.compact (Bc (m.tasks[t]).1)).filter fun n=>ze m t n && !decide (n∈us)
    | some x=>(zo m x).filter (zD m us t (ps[t]).dropLast (m.tasks[t]).1):=by
   unfold BV;rw [HC.out,if_neg (by simp),show ps.length - 1=t from by omega];simp [e1,e8]
  have b4:=zh d4;clear d4;obtain ⟨p,l9⟩:=EY (ps[t]);obtain ⟨tk,m4⟩:=EY (m.tasks[t]);rw [<-l9] at i1 h7 b4 d9;rw [<-m4] at e7 h6 o7 b4 i0;have k7:=e7;obtain ⟨A5,c5,rfl,s7,_⟩:=k7;have k8:=h6;obtain ⟨A6,c6,rfl,s8,_⟩:=k8;clear l9 m4 m1 k4 J h6;have HP:=zh i1;clear i1;have HF:=zh e7;clear e7;have g4:=zh d9;clear d9;have n3:=zh i0;clear i0;have v6:(t:Int)<(ps.length:Int):=by omega
  have v5:(0:Int)<=(t:Int):=by omega
  have v7:(t:Int)<(m.tasks.length:Int):=by omega
  have k5:t<m.free.length:=by have:=so.good.fl;omega
  have q0:=za.rule f3;have q1:=za.rule l1;have q2:=za.rule l2;have q3:=za.rule l3;clear f3 l1 l2 l3 h so hk;generalize p8:wA.alloc (.cells #[.int .i64 t] 3)=wB at*;have rt:=za.rule o2;have f0:=za.refl wB
  go_wp2_with fail
  clear p8;refine Eh (S:=(fun W=>za w W/\za w1 W/\za wB W)) (by kernel_rfl) (⟨j6.drew,m7.drew,f0.drew⟩) fun zH=>?_;refine zg 0 zH ?_;refine zg 1 zH ?_;simp only [zb,DN];refine zg 2 zH ?_;refine zg 3 zH ?_;simp only [zb,DN];refine zg 4 zH ?_;refine zg 5 zH ?_;simp only [zb,DN];refine zg 6 zH ?_;refine zg 7 zH ?_;simp only [zb,DN];refine zg 8 zH ?_;refine zg 9 zH ?_;simp only [zb,DN];refine zg 10 zH ?_;refine zg 11 zH ?_;simp only [zb,DN];refine zg 12 zH ?_;refine zg 13 zH ?_;simp only [zb,DN];refine zg 14 zH ?_;simp only [zb,DN];refine BD [15,16,17] (fun e v W=>JC wB sn (.slice A5 tk.1.length c5) (.slice A6 tk.2.length c6) up e v W) (F:=?F1) (by kernel_rfl) (by kernel_rfl) (by decide) zH (fun v=>?hF1) ?init1 (by kernel_rfl) ?steps1 ?fin1
  case hF1=>(simp only [zX,Cj,List.getElem?_toArray,List.getElem?_cons_succ,List.getElem?_cons_zero,Option.bind,Act.put,List.setIfInBounds_toArray,List.set_cons_succ,List.set_cons_zero];rfl)
  case init1=>
   intro e v he;exact JC.init he
  case steps1=>
   refine zn.cons rfl (fun e v W K hJ hW he hd hK=>?_) ?_
   ·simp only [zb] at hd hK⊢;go_simp;exact hK.out _ _ _ (by rfl) ⟨hW.1.alloc _,hW.2.1.alloc _,hW.2.2.alloc _⟩ (hJ.s15 he)
   refine zn.cons rfl (fun e v W K hJ hW he hd hK=>?_) ?_
   ·simp only [zb] at hd hK⊢;have i7:e 15=true:=zw hd [15] (by kernel_rfl) 15 (by simp);obtain ⟨g3,V,d6,G,_⟩:=hJ.al i7;have G:=G he;have hf:=fun k=>G.frozen k
    have s5:=G.cell (k:=0) rfl;have s6:=G.cell (k:=1) rfl;have q7:=G.cell (k:=2) rfl;go_simp;have a8:=((hJ.ext.setCell (p:=⟨g3,0,none⟩) d6 (.string sn)).setCell (p:=⟨g3,1,none⟩) d6 (.slice A5 tk.1.length c5)).setCell (p:=⟨g3,2,none⟩) d6 (.slice A6 tk.2.length c6);exact hK.out _ undef _ (by simp [Act.put,V]) ⟨j6.trans a8,m7.trans a8,a8⟩ (hJ.s16 i7 V d6 a8 (((G.set (k:=0) _).set (k:=1) _).set (k:=2) _))
   refine zn.cons rfl (fun e v W K hJ hW he hd hK=>?_) ?_
   ·simp only [zb] at hd hK⊢;go_simp;exact hK.out _ up _ (by rfl) hW hJ.s17
   exact zn.nil
  case fin1=>
   intro v W hJ hW;obtain ⟨g3,V,d6,_,G⟩:=hJ.al rfl;have G:=G rfl;have f8:=hJ.asg rfl;rw [V,f8];clear hJ V f8;obtain ⟨o0,j2,o1⟩:=hW;have rg3:=za.rule (G.cell (k:=1) rfl);clear G;have e3:=zh o0;have j9:=rt W o1;have t0:=AW (P:=Tryz.prog) Tryz.func200 (by kernel_rfl) (by kernel_rfl);have f2:=rb W j2;generalize o5:wA.heap.size=g2 at*;clear o5;have p3:=HP.out;obtain ⟨Aq,cq,rfl,j7,p5⟩:=p3;clear p5;have f0:=za.refl W;rcases List.eq_nil_or_concat p with rfl | ⟨q,x,rfl⟩
   ·have g1:Hid (BV m ps us=(Lib.compact (Bc tk.1)).filter fun n=>ze m t n && !decide (n∈us)):=b4.out
    go_wp2_with fail
    refine (values_calls A5 tk.1.length c5 W).mono ?_;rintro e w2 ⟨rfl,rfl⟩;have g5:za W (W.alloc (.cells #[.slice A5 tk.1.length c5] 23)):=f0.alloc _;have j8:(W.alloc (.cells #[.slice A5 tk.1.length c5] 23)).cell? ⟨W.heap.size,0,none⟩=some (.slice A5 tk.1.length c5):=zC _ _ _ rfl;have hS:=zh (sorted_calls W.heap.size _ j8 (HF.out.below (e3.out.trans g5)) (by omega))
    go_wp2_with fail
    refine hS.out.mono ?_;rintro e w3 ⟨v3,rfl,g9⟩;have m3:(Bc tk.1).length<=1000000000000:=by unfold Bc;rw [List.length_mergeSort];omega
    have i8:=zh (compact_calls g9 m3);have a8:=zh g9.ext;clear g9 hS
    go_wp2_with fail
    refine i8.out.mono ?_;rintro e w4 ⟨v4,rfl,e4⟩;have o8:Hid (∀y,y∈Lib.compact (Bc tk.1)->y∈tk.1):=fun y hy=>mem_sortL.1 (DA hy)
    have t4:(Lib.compact (Bc tk.1)).length<=1000000000000:=DT (compact_len _) m3;generalize Lib.compact (Bc tk.1)=L at*;have g6:za W w4:=g5.trans e4.ext;obtain ⟨A7,c7,p7,s9⟩:=e4.slice;subst p7;have n2:=zh e4;clear e4 i8 a8 j8 g5;have m5:za w w4:=e3.out.trans g6;have b7:=zh (Mk.nil w4)
    go_wp2_with fail
    go_loopw [7,46] (fun v i wr=>∃k:Nat,k<=L.length/\i=.int .i64 (k:Nat)/\Hid (Mk w4 wr v ((L.take k).filter fun n=>ze m t n && !decide (n∈us)))) (fun _ i _=>L.length - (intOf i).toNat)
    case atStart=>exact ⟨0,by omega,rfl,b7⟩
    clear b7
    case round=>
     obtain ⟨k,hk,rfl,hM⟩:=hrel;have o:=hM.out.ext;by_cases I:k<L.length
     ·obtain ⟨b9,rfl,Q,D⟩:=own_at (n2.out.own.ext o) I;have J:=zh (DY I);have E:=n3.out _ (.inl (o8.out _ (DS I)));obtain ⟨y,hy⟩:=EY (L[k]);rw [<-hy] at D J E;clear hy;have B:=zh (cand1_calls t y wr (HS.out.ext (m5.trans o)) SO.out.good.fn k5 ((g6.trans o).cell f2) ((g6.trans o).cell j9) E.1 E.2);obtain ⟨bb,h4⟩:=EY ((ze m t y && !decide (y∈us)));rw [<-h4] at B;have m9:=zh h4;clear h4 E;have o4:((L.take k).filter fun n=>ze m t n && !decide (n∈us)).length<=1000000000000:=DT (Eu _ _) (by simp;omega);have a1:Hid ((L.take (k+1)).filter (fun n=>ze m t n && !decide (n∈us))=(L.take k).filter (fun n=>ze m t n && !decide (n∈us))++(if bb then [y] else [])):=by rw [J.out,EF,m9.out];show _++List.filter _ [y]=_;by_cases h:(ze m t y && !decide (y∈us))=true <;> simp [List.filter_cons,h]
      generalize (L.take k).filter (fun n=>ze m t n && !decide (n∈us))=lk at*
      go_wp2_with fail
      refine B.out.mono ?_;rintro e w5 ⟨rfl,d5⟩;have b5:za wr w5:=d5.below _;have M:=zh (hM.out.more b5);clear d5 B
      cases bb with
      | true=>
       have p9:w4.heap.size<=w5.heap.size:=M.out.ext.size
       go_wp2_with (at_builtin;refine AF rfl _ _ rfl _ lk y w4.heap.size w5.heap.size 1 _ rfl rfl (M.out.own.alloc _) ?d1 ?d2 ?d3 ?_)
       (try case d1=>exact zC _ _ _ (by simp))
       case d2=>(first | (simp;done) | (simp;omega) | omega)
       case d3=>omega
       intro v' wb d8 U _;have g8:=zh ((M.out.alloc _).app d8 U);clear d8 U;go_wp2;go_roundw
       case rel=>exact ⟨k+1,by omega,by go_num,by rw [a1.out];exact g8⟩
       case measure=>simp [intOf];omega
      | false=>
       go_wp2;go_roundw
       case rel=>exact ⟨k+1,by omega,by go_num,by rw [a1.out];simpa using M⟩
       case measure=>simp [intOf];omega
     ·obtain rfl:k=L.length:=by omega
      go_wp2_with fail
      go_ret;refine ⟨_,rfl,(m5.mono_mk hM.out).cast ?_⟩;rw [g1.out,Ec]
   ·rw [List.concat_eq_append] at HP b4 g4;have l8:(q.concat x).length=q.length+1:=by simp
    have f6:(q++[x]).length=q.length+1:=by simp
    rw [l8] at j7 h7⊢;rw [f6] at HP;obtain ⟨N,hN⟩:=EY (q.length+1);rw [<-hN] at j7 h7 HP⊢;have s3:(q.length:Int)<(N:Int):=by omega
    have p4:IntKind.i64.wrap ((N:Int) - 1)=(q.length:Int):=by rw [Em];omega
    have m0:(N:Int) - 1=(q.length:Int):=by omega
    have t7:(0:Int)<=(q.length:Int):=by omega
    have s2:0<N:=by omega
    have t8:q.length<=N:=by omega
    have g1:Hid (BV m ps us=(zo m x).filter (zD m us t q tk.1)):=by have h:=b4.out;simp at h;exact h
    have a5:Hid (∀k y,(q++[x])[k]?=some y->∃bq oq,Aq=some ⟨bq,oq,none⟩/\∀W',za w W'->W'.cell? ⟨bq,oq+k,none⟩=some (.int .i64 y)):=fun k y hy=>path_cell HP.out hy
    clear l8 f6 hN;have t5:=@run_makeMap Tryz.prog
    go_wp2_with fail
    have j0:Hid (NR W (W.alloc (.map #[] 0)) W.heap.size []):=⟨f0.alloc _,zG.new W⟩;generalize k6:W.heap.size=gn at*;have f5:gn=W.heap.size:=k6.symm;have n1:=zh f5;clear k6 f5;go_loopw [66] (fun i wr=>∃k s,k<=q.length/\i=.int .i64 (k:Nat)/\Hid (NR W wr gn s)/\Hid (∀z,z∈s↔∃y∈q.take k,z∈zo m y)) (fun i _=>q.length - (intOf i).toNat)
    case atStart=>exact ⟨0,[],by omega,rfl,j0,by simp [Hid]⟩
    clear j0
    case round=>
     obtain ⟨k,s,hk,rfl,hR,d7⟩:=hrel;have o:za W wr:=hR.out.ext;have e2:za w wr:=e3.out.trans o;have i3:za w1 wr:=j2.trans o;obtain ⟨wk,rfl⟩:∃wk:World,wk=wr:=⟨_,rfl⟩;by_cases I:k<q.length
     ·obtain ⟨bq,oq,rfl,D⟩:=a5.out k q[k] (by rw [DW I];exact DO I);have E:=g4.out q[k] (by simp);have J:=zh (DY I);obtain ⟨y,hy⟩:=EY (q[k]);rw [<-hy] at D E J;clear hy;have l5:(k:Int)<(q.length:Int):=by omega
      have l7:=zh (Dl m y wk (HS.out.maze.below e2) SO.out.good.dim E.1 E.2);clear E
      go_wp2_with fail
      refine l7.out.mono ?_;rintro e w9 ⟨v9,rfl,Q,a2⟩;have j1:=zh (hR.out.more Q);have e5:Hid (zB w9 wk.heap.size v9 (zo m y)):=a2;obtain ⟨A9,c9,rfl,o3⟩:=AA a2;have t3:gn<wk.heap.size:=zc hR.out.set;clear Q a2 l7 hR;have o6:=BZ m y
      go_wp2_with fail
      go_loopw [77] (fun i wi=>∃j s',j<=(zo m y).length/\i=.int .i64 (j:Nat)/\Hid (NR W wi gn s')/\Hid (zB wi wk.heap.size (.slice A9 (zo m y).length c9) (zo m y))/\Hid (∀z,z∈s'↔z∈s\/z∈(zo m y).take j)) (fun i _=>(zo m y).length - (intOf i).toNat)
      case atStart=>exact ⟨0,s,Ef _,rfl,j1,e5,by simp [Hid]⟩
      clear j1 e5
      case round=>
       obtain ⟨j,s',hj,rfl,hR,hO,l6⟩:=hrel;by_cases k9:j<(zo m y).length
       ·obtain ⟨b2,rfl,s4,e6⟩:=own_at hO.out k9;have f7:=zh (fun z=>zr k9 z);obtain ⟨z,hz⟩:=EY ((zo m y)[j]);rw [<-hz] at e6 f7;clear hz
        go_wp2_with (at_mapUpdate;refine wpSetAdd rfl _ _ _ _ rfl Tryz.underlying205 gn s' z rfl rfl rfl hR.out.set ?_)
        intro wb m2 U;have n8:=zh (hR.out.add n1.out m2 U);have n7:Hid (zB wb wk.heap.size (.slice (some ⟨b2,0,none⟩) (zo m y).length c9) (zo m y)):=World.ownsRow.kept hO.out U (Bl hO.out hR.out.set);clear m2 U;go_wp2;go_roundw
        case rel=>exact ⟨j+1,ins s' z,by omega,by go_num,n8,n7,fun a=>by rw [mem_ins,l6.out,f7.out,or_assoc]⟩
        case measure=>simp [intOf];omega
       ·obtain rfl:j=(zo m y).length:=by omega
        go_wp2;go_roundw
        case rel=>exact ⟨k+1,s',by omega,by go_num,hR,fun a=>by rw [l6.out,Ec,d7.out,J.out];exact near_step⟩
        case measure=>simp [intOf];omega
     ·obtain rfl:k=q.length:=by omega
      rw [Ec] at d7;obtain ⟨bq,oq,rfl,D⟩:=a5.out q.length x (by simp);have E:=g4.out x (by simp);have i4:=za.refl wk;have h8:Hid (∀z,decide (z∈s)=q.any fun y=>decide (z∈zo m y)):=fun z=>near_any (d7.out z)
      have r9:IntKind.i64.wrap ((N:Int) - 1)=(q.length:Int):=by rw [Em];omega
      clear p4 m0
      go_wp2_with fail
      go_region_held3 (fun W'=>za w W'/\za w1 W'/\za wk W')
       (first | (exact ⟨e2.drew,i3.drew,i4.drew⟩) | (exact ⟨e2.drew.trans Q,i3.drew.trans Q,i4.drew.trans Q⟩))
       ((go_at_call 161;refine (Dl m x _ (HS.out.maze.below e2.drew) SO.out.good.dim E.1 E.2).mono ?_;rintro e w9 ⟨v9,rfl,Q,a2⟩;obtain ⟨A9,c9,rfl,o3⟩:=AA (l:=zo m x) a2))
      rename_i n9
      obtain ⟨f9,s0,g0⟩:=n9;have j5:za wk.drew w9:=Q;have e5:Hid (zB w9 wk.drew.heap.size (.slice A9 (zo m x).length c9) (zo m x)):=a2;have h9:=zh (hR.out.set.below g0);clear Q a2 hR j5 D;have o6:=BZ m x;have c0:za W w9:=o.trans g0;have b7:=zh (Mk.nil w9);have e9:=zh (fun z hz=>Bg (m:=m) (x:=z) SO.out.good.dim E.1 E.2 hz)
      go_wp2_with fail
      clear e2 i3 o i4 I hk;generalize i9:zo m x=L at*;have s1:=zh i9;clear i9;go_loopw [7,97] (fun v i wr=>∃k:Nat,k<=L.length/\i=.int .i64 (k:Nat)/\Hid (Mk w9 wr v ((L.take k).filter (zD m us t q tk.1)))) (fun _ i _=>L.length - (intOf i).toNat)
      case atStart=>exact ⟨0,by omega,rfl,b7⟩
      clear b7
      case round=>
       obtain ⟨k,hk,rfl,hM⟩:=hrel;have o:=hM.out.ext;by_cases I:k<L.length
       ·obtain ⟨b9,rfl,Q,D⟩:=own_at (e5.out.ext o) I;have J:=zh (DY I);have a7:=e9.out _ (DS I);obtain ⟨y,hy⟩:=EY (L[k]);rw [<-hy] at D J a7;clear hy;have B:=zh (cand1_calls t y wr (HS.out.ext (f9.trans o)) SO.out.good.fn k5 ((c0.trans o).cell f2) ((c0.trans o).cell j9) a7.1 a7.2);obtain ⟨b1,c8⟩:∃b1,b1=(ze m t y && !decide (y∈us)):=⟨_,rfl⟩;rw [<-c8] at B;have f4:zD m us t q tk.1 y=(b1 && !decide (y∈s) && !decide (y∈tk.1)):=by unfold zD;rw [h8.out y,c8]
        clear c8 a7;have a4:=zh f4;clear f4;have o4:((L.take k).filter (zD m us t q tk.1)).length<=1000:=DT (Eu _ _) (by simp;omega);have a1:Hid (∀bb,zD m us t q tk.1 y=bb->(L.take (k+1)).filter (zD m us t q tk.1)=(L.take k).filter (zD m us t q tk.1)++(if bb then [y] else [])):=fun bb h=>by rw [J.out,EF];show _++List.filter _ [y]=_;cases bb <;> simp [List.filter_cons,h]
        generalize (L.take k).filter (zD m us t q tk.1)=lk at*
        go_wp2_with fail
        refine B.out.mono ?_;rintro e w5 ⟨rfl,d5⟩;have b5:za wr w5:=d5.below _;have M:=zh (hM.out.more b5);clear d5 B;have e0:=h9.out.below (o.trans b5);have j3:za W w5:=c0.trans (o.trans b5);have n5:=zh (HF.out.below (e3.out.trans j3))
        cases b1 with
        | false=>
         have a0:Hid (zD m us t q tk.1 y=false):=a4.out.trans (by simp);go_wp2;go_roundw
         case rel=>exact ⟨k+1,by omega,by go_num,by rw [a1.out false a0.out];simpa using M⟩
         case measure=>simp [intOf];omega
        | true=>
         by_cases a3:y∈s
         ·have a0:Hid (zD m us t q tk.1 y=false):=a4.out.trans (by simp [a3]);have l5:=look_t e0 a3;clear a3;go_wp2;go_roundw
          case rel=>exact ⟨k+1,by omega,by go_num,by rw [a1.out false a0.out];simpa using M⟩
          case measure=>simp [intOf];omega
         ·have l5:=look_f e0 a3;have t9:=rg3 w5 j3;have a6:=zh (Ai y w5 n5.out (by omega));by_cases b0:y∈tk.1
          ·have a0:Hid (zD m us t q tk.1 y=false):=a4.out.trans (by simp [b0]);rw [DU b0] at a6;clear a3 b0
           go_wp2_with fail
           refine a6.out.mono ?_;rintro e w6 ⟨rfl,rfl⟩;go_wp2;go_roundw
           case rel=>exact ⟨k+1,by omega,by go_num,by rw [a1.out false a0.out];simpa using M⟩
           case measure=>simp [intOf];omega
          ·have a0:Hid (zD m us t q tk.1 y=true):=a4.out.trans (by simp [a3,b0]);rw [DV b0] at a6;clear a3 b0;have p9:w9.heap.size<=w5.heap.size:=M.out.ext.size
           go_wp2_with (first | (go_at_call 130;refine a6.out.mono ?_;rintro e w6 ⟨rfl,rfl⟩) | (at_builtin;refine AF rfl _ _ rfl _ lk y w9.heap.size w5.heap.size 1 _ rfl rfl (M.out.own.alloc _) ?d1 ?d2 ?d3 ?_))
           (try case d1=>exact zC _ _ _ (by simp))
           case d2=>(first | (simp;done) | (simp;omega) | omega)
           case d3=>omega
           intro v' wb d8 U _;have g8:=zh ((M.out.alloc _).app d8 U);clear d8 U;go_wp2;go_roundw
           case rel=>exact ⟨k+1,by omega,by go_num,by rw [a1.out true a0.out];exact g8⟩
           case measure=>simp [intOf];omega
       ·obtain rfl:k=L.length:=by omega
        go_wp2_with fail
        go_ret;refine ⟨_,rfl,(f9.mono_mk hM.out).cast ?_⟩;rw [g1.out,Ec]
end
section
open Go.RowKit Go.Sort Go.Shelf
section
variable {w:World} {ok:Nat->Prop} {size n:Nat} {A:Option Addr} {v:Value} {xs:List Value}
theorem AE.bound (h:AE w ok size A n xs) (E:0<size):AE w (fun b=>ok b/\b<w.heap.size) size A n xs:=by
 refine ⟨h.1,fun B=>?_⟩;obtain ⟨b,off,e,D,o⟩:=h.2 B;have h0:0<xs.length:=by rw [h.1];exact Nat.mul_pos B E
 exact ⟨b,off,e,⟨D,zA (o 0 _ (DO h0))⟩,o⟩
theorem Ae.bound (h:Ae w ok size v n xs) (D:0<size):Ae w (fun b=>ok b/\b<w.heap.size) size v n xs:=by
 obtain ⟨A,c,e,o,B⟩:=h;exact ⟨A,c,e,o,B.bound D⟩
theorem Bo.bound {l:List Bool} (h:Bo w ok v l):Bo w (fun b=>ok b/\b<w.heap.size) v l:=Ae.bound h (by decide)
theorem Each.bound {α:Type} {R R':Value->α->Prop} {l:List α} (h:Each R w ok v l) (B:∀u x,R u x->R' u x):Each R' w (fun b=>ok b/\b<w.heap.size) v l:=by
 obtain ⟨vs,o,he⟩:=h;refine ⟨vs,o.bound (by decide),fun i x E=>?_⟩;obtain ⟨u,D,o⟩:=he i x E;exact ⟨u,D,B _ _ o⟩
theorem Bi.bound {l:List (List Bool)} (h:Bi w ok v l):Bi w (fun b=>ok b/\b<w.heap.size) v l:=Each.bound h (fun _ _ h=>Bo.bound h)
theorem zR.bound {l:List (List Int)} (h:zR w ok v l):zR w (fun b=>ok b/\b<w.heap.size) v l:=Each.bound h (fun _ _ h=>zk.bound h)
theorem Bz.bound {l:List (List Int×List Int)} (h:Bz w ok v l):Bz w (fun b=>ok b/\b<w.heap.size) v l:=by
 obtain ⟨vs,o,he⟩:=h;refine ⟨vs,o.bound (by decide),fun i x B=>?_⟩;obtain ⟨s,u1,u2,h0,h1,h2,i1,i2⟩:=he i x B;exact ⟨s,u1,u2,h0,h1,h2,i1.bound,i2.bound⟩
theorem zt.bound {m:MZ} (h:zt w ok v m):zt w (fun b=>ok b/\b<w.heap.size) v m:=by
 obtain ⟨f,u,t,rfl,h1,h2,h3⟩:=h;exact ⟨f,u,t,rfl,h1.bound,h2.bound,h3.bound⟩
theorem BJ.bound {g gu:Nat} {m:MZ} {ch us:List Int} {ps:List (List Int)} {f u t vc vp:Value} (h:BJ w ok g m ch ps us f u t vc vp gu):BJ w (fun b=>ok b/\b<w.heap.size) g m ch ps us f u t vc vp gu:=
 ⟨h.blk,⟨h.okg,zc h.blk⟩,h.maze.bound,h.ch.bound,h.ps.bound,⟨h.oku,zc h.us⟩,h.us⟩
end
end
section
open Go.RowKit Go.Shelf
attribute [local go_sem] Oper.semAt_some
attribute [local go_sem ↓] Go.wp_at_zero Go.wp_at_succ
theorem cloneJ_calls {ok:Nat->Prop} {v:Value} (w:World) (h:zk w ok v l) (L:l.length<=1000000000000):
  Calls Tryz.prog 92 #[v] w fun e w'=>∃v',e=.returned v'/\Mk w w' v' l:=by
 have H:=zh h;have E:=nilEq 23 3 Tryz.underlying23;obtain ⟨A,c,rfl,K,B⟩:=h;rcases A with _ | a
 ·have o:l=[]:=by
   rcases EC l.length with h | h
   ·exact Ei h
   ·obtain ⟨b,off,e,_⟩:=B.2 h;cases e
  subst o;clear B
  go_enter Tryz.func92,Tryz.ntmps92
  go_wp2_with fail
  go_ret;exact ⟨_,rfl,Mk.nil _⟩
 ·clear B;have M:=za.refl w
  go_enter Tryz.func92,Tryz.ntmps92
  go_wp2_with (at_builtin;refine Bn (ok:=ok) rfl _ _ _ rfl w.heap.size [] l _ _ rfl rfl (CB w w.heap.size (DR _)) (H.out.below ((za.refl w).alloc _)) ?d1 ?d2 ?_)
  case d1=>simp
  case d2=>simp;omega
  intro v' w1 G D _;have I:Hid (Mk w w1 v' l):=⟨G,zS ((za.refl w).alloc _) D (by simp) (fun k J=>slice_own J)⟩;clear G D
  go_wp2_with fail
  go_ret;exact ⟨_,rfl,I.out⟩
theorem AE.apart {w:World} {ok:Nat->Prop} {size n b:Nat} {A:Option Addr} {xs:List Value} {r:Loop} (h:AE w ok size A n xs) (G:0<size) (D:w.heap[b]?=some (.loop r)):AE w (fun k=>ok k/\k≠b) size A n xs:=by
 refine ⟨h.1,fun B=>?_⟩;obtain ⟨k,off,e,E,o⟩:=h.2 B;have h0:0<xs.length:=by rw [h.1];exact Nat.mul_pos B G
 refine ⟨k,off,e,⟨E,?_⟩,o⟩;rintro rfl;have h1:=o 0 _ (DO h0);unfold World.cell? at h1;simp only [D] at h1;cases h1
theorem zk.apart {w:World} {ok:Nat->Prop} {v:Value} {l:List Int} {b:Nat} {r:Loop} (h:zk w ok v l) (o:w.heap[b]?=some (.loop r)):zk w (fun k=>ok k/\k≠b) v l:=by
 obtain ⟨A,c,e,B,D⟩:=h;exact ⟨A,c,e,B,D.apart (by decide) o⟩
theorem zI:Tryz.prog.follows .mixedOrders=true:=by kernel_rfl
end
section
open Go.RowKit
def Aw (m:MZ) (ch:List Int):List (List Int):=ch.foldl (Bv m) (ps0 m)
def BK (m:MZ) (ch:List Int):List Int:=BV m (Aw m ch) ch
def cmpC (m:MZ) (ch:List Int):Bool:=cmpB m (Aw m ch)
theorem psOf_nil (m:MZ):Aw m []=ps0 m:=rfl
theorem Db (m:MZ) (ch:List Int) (n:Int):Aw m (ch++[n])=Bv m (Aw m ch) n:=by simp [Aw,List.foldl_append]
section
variable {m:MZ} {ps:List (List Int)} {us us':List Int}
theorem dec_congr (h:∀x,x∈us↔x∈us') (n:Int):decide (n∈us)=decide (n∈us'):=by rw [decide_eq_decide];exact h n
theorem candL_congr (h:∀x,x∈us↔x∈us'):BV m ps us=BV m ps us':=by
 unfold BV;simp only [zD,dec_congr h]
 have:(fun n=>zD m us (ps.length - 1) (ps.getD (ps.length - 1) []).dropLast (m.tasks.getD (ps.length - 1) ([],[])).1 n)=(fun n=>zD m us' (ps.length - 1) (ps.getD (ps.length - 1) []).dropLast (m.tasks.getD (ps.length - 1) ([],[])).1 n):=by
  funext n;simp only [zD,dec_congr h]
 have h2:zD m us (ps.length - 1) (ps.getD (ps.length - 1) []).dropLast (m.tasks.getD (ps.length - 1) ([],[])).1=zD m us' (ps.length - 1) (ps.getD (ps.length - 1) []).dropLast (m.tasks.getD (ps.length - 1) ([],[])).1:=this;rw [h2]
end
inductive zy (m:MZ):List Int->Prop
 | nil:zy m []
 | snoc {ch:List Int} {n:Int}:zy m ch->n∈BK m ch->zy m (ch++[n])
theorem BW {m:MZ} {ch:List Int} {n:Int} (h:n∈BK m ch):cmpC m ch=false:=by
 unfold BK BV at h;unfold cmpC
 cases o:cmpB m (Aw m ch)
 ·rfl
 ·rw [if_pos o] at h;cases h
theorem BS {m:MZ} {ps:List (List Int)} (h:cmpB m ps=false):0<m.tasks.length:=by
 rcases EC m.tasks.length with h0 | h0
 ·unfold cmpB at h;rw [DU h0] at h;cases h
 ·exact h0
structure PsOk (m:MZ) (ch:List Int) (ps:List (List Int)):Prop where
 pl:ps.length<=m.tasks.length
 pn:0<m.tasks.length->0<ps.length
 fl:ps.flatten=ch
theorem getD_mem {α:Type} {l:List (List α)} (h:k<l.length):l.getD k []∈l:=by
 rw [DP,DO h];exact DS h
theorem addN_eq {ps:List (List Int)} (hp:0<ps.length) (n:Int):∃qs p,ps=qs++[p]/\BQ ps n=qs++[p++[n]]:=by
 rcases List.eq_nil_or_concat ps with rfl | ⟨qs,p,rfl⟩
 ·simp at hp
 ·refine ⟨qs,p,by simp,?_⟩;unfold BQ;rw [List.concat_eq_append,DZ,Er,Nat.add_sub_cancel,List.set_append_right _ _ (DR _)];simp
theorem CD {ps:List (List Int)} {n:Int}:(BQ ps n).length=ps.length:=by unfold BQ;simp
theorem addN_flat {ps:List (List Int)} (hp:0<ps.length) (n:Int):(BQ ps n).flatten=ps.flatten++[n]:=by
 obtain ⟨qs,p,rfl,h⟩:=addN_eq hp n;rw [h];simp
theorem withPs_flat {m:MZ} {ps:List (List Int)} (hp:0<ps.length) (n:Int):(Bv m ps n).flatten=ps.flatten++[n]:=by
 unfold Bv
 split
 ·rw [List.flatten_append,addN_flat hp];simp
 ·exact addN_flat hp n
theorem PsOk.step {m:MZ} {ch:List Int} {ps:List (List Int)} (h:PsOk m ch ps) (ht:0<m.tasks.length) (n:Int):PsOk m (ch++[n]) (Bv m ps n):=by
 have hp:=h.pn ht;refine ⟨?_,fun _=>?_,?_⟩
 ·unfold Bv
  split
  ·rename_i h1
   simp only [DZ,CD,Er];omega
  ·rw [CD];exact h.pl
 ·unfold Bv
  split <;> simp [CD] <;> omega
 ·rw [withPs_flat hp,h.fl]
theorem psOk_nil (m:MZ):PsOk m [] (Aw m []):=by
 rw [psOf_nil];unfold ps0
 split
 ·rename_i h;exact ⟨by simp,fun o=>by omega,rfl⟩
 ·rename_i h;exact ⟨by simp;omega,fun _=>by simp,rfl⟩
theorem zy.psOk {m:MZ} {ch:List Int} (h:zy m ch):PsOk m ch (Aw m ch):=by
 induction h with
 | nil=>exact psOk_nil m
 | snoc h o ih=>rw [Db];exact ih.step (BS (BW o)) _
theorem mem_flat_last {ps:List (List Int)} (B:(ps.getD k []).getLast?=some x):x∈ps.flatten:=by
 have h1:x∈ps.getD k []:=List.mem_of_getLast? B;by_cases o:k<ps.length
 ·exact List.mem_flatten.2 ⟨_,getD_mem o,h1⟩
 ·rw [DP,Ek (by omega)] at h1;cases h1
theorem cand_range {m:MZ} (g:AN m) {ch:List Int} (G:∀x∈ch,0<=x/\x<m.n) (hf:(Aw m ch).flatten=ch) {n:Int} (h:n∈BK m ch):0<=n/\n<m.n/\n∉ch:=by
 have ht:=BS (BW h);have o:=BW h;unfold cmpC at o;unfold BK BV at h;rw [if_neg (by rw [o];simp)] at h
 split at h
 ·obtain ⟨h1,h2⟩:=EO.1 h;have h3:=mem_sortL.1 (DA h1);simp only [Ed,Bool.not_eq_true',Eo] at h2;by_cases E:(Aw m ch).length - 1<m.tasks.length
  ·rw [DP,DO E] at h3;have:=g.tn _ (DS E) n (.inl h3);exact ⟨this.1,this.2,h2.2⟩
  ·rw [DP,Ek (by omega)] at h3;cases h3
 ·rename_i x I
  obtain ⟨h1,h2⟩:=EO.1 h;have D:x∈ch:=by rw [<-hf];exact mem_flat_last I
  have B:=G x D;have h3:=Bg g.dim B.1 B.2 h1;unfold zD at h2;simp only [Ed,Bool.not_eq_true',Eo] at h2;exact ⟨h3.1,h3.2,h2.1.1.2⟩
theorem zy.range {m:MZ} (g:AN m) {ch:List Int} (h:zy m ch):(∀x∈ch,0<=x/\x<m.n)/\ch.Nodup:=by
 induction h with
 | nil=>exact ⟨fun x hx=>absurd hx EN,List.nodup_nil⟩
 | snoc h E ih=>
  have o:=cand_range g ih.1 h.psOk.fl E;refine ⟨fun x hx=>?_,?_⟩
  ·rcases EH.1 hx with hx | hx
   ·exact ih.1 x hx
   ·rw [Ey] at hx;subst hx;exact ⟨o.1,o.2.1⟩
  ·rw [List.nodup_append];refine ⟨ih.2,by simp,fun a D b B=>?_⟩;rw [Ey] at B;subst B;rintro rfl;exact o.2.2 D
theorem zy.len {m:MZ} (g:AN m) {ch:List Int} (h:zy m ch):ch.length<=m.n.toNat:=Bp (h.range g).2 m.n (h.range g).1
theorem flat_le {ps:List (List Int)} {p:List Int} (h:p∈ps):p.length<=ps.flatten.length:=by
 induction ps with
 | nil=>cases h
 | cons q qs ih=>
  rw [List.flatten_cons,DZ];rcases EG.1 h with rfl | h
  ·omega
  ·have:=ih h;omega
theorem sok_of {m:MZ} (g:AN m) (B:Lens m) {ch:List Int} {ps:List (List Int)} (h:PsOk m ch ps) (D:∀x∈ch,0<=x/\x<m.n) (o:ch.length<=1000):SOk m ch ps:=
 ⟨g,B,h.pl,h.pn,fun p hp=>by have:=flat_le hp;rw [h.fl] at this;omega,fun p hp x E=>D x (by rw [<-h.fl];exact List.mem_flatten.2 ⟨p,hp,E⟩),o⟩
theorem zy.len300 {m:MZ} (g:AN m) {ch:List Int} (h:zy m ch):ch.length<=300:=by
 have h1:=h.len g;have h2:=g.dim.n1;have h3:m.n=m.w*m.h*m.l:=rfl;omega
theorem zy.sok {m:MZ} (g:AN m) (o:Lens m) {ch:List Int} (h:zy m ch):SOk m ch (Aw m ch):=
 sok_of g o h.psOk (h.range g).1 (by have:=h.len300 g;omega)
theorem zy.sok1 {m:MZ} (g:AN m) (B:Lens m) {ch:List Int} (h:zy m ch) {n:Int} (o:n∈BK m ch):SOk m (ch++[n]) (BQ (Aw m ch) n):=by
 have h1:=h.psOk;have ht:=BS (BW o);have h2:=zy.snoc h o;refine sok_of g B ⟨by rw [CD];exact h1.pl,fun h=>by rw [CD];exact h1.pn h,by rw [addN_flat (h1.pn ht),h1.fl]⟩ (h2.range g).1 (by have:=h2.len300 g;omega)
theorem CE {m:MZ} (B:Lens m) (ch:List Int):(BK m ch).length<=400000000000:=by
 unfold BK BV
 split
 ·simp
 ·split
  ·refine DT (Eu _ _) (DT (compact_len _) ?_);unfold Bc;rw [List.length_mergeSort];by_cases o:(Aw m ch).length - 1<m.tasks.length
   ·rw [DP,DO o];exact (B.tl _ (DS o)).1
   ·rw [DP,Ek (by omega)];simp
  ·refine DT (Eu _ _) ?_;have:=BZ m;exact DT (this _) (by omega)
structure RS where
 ch:List Int
 done:Bool
 steps:Int
theorem zy.take {m:MZ} {ch:List Int} (h:zy m ch) (k:Nat):zy m (ch.take k):=by
 induction h with
 | nil=>simpa using zy.nil
 | @snoc ch n h o ih=>
  rcases En ch.length k with hk | hk
  ·rw [List.take_of_length_le (by simp;omega)];exact .snoc h o
  ·rw [List.take_append_of_le_length hk];exact ih
theorem zy.at {m:MZ} {ch:List Int} (h:zy m ch) {k:Nat} (o:k<ch.length):ch[k]∈BK m (ch.take k):=by
 induction h with
 | nil=>simp at o
 | @snoc ch n h B ih=>
  rcases En k ch.length with h1 | h1
  ·rw [List.getElem_append_left h1,List.take_append_of_le_length (by omega)];exact ih h1
  ·have h2:k=ch.length:=by simp at o;omega
   subst h2;rw [List.getElem_append_right (DR _),List.take_append_of_le_length (DR _),Ec];simpa using B
def BO (m:MZ) (t:Nat) (us acc:List Int) (z:Int):List Int:=if (ze m t z && !decide (z∈us) && !decide (z∈acc))=true then acc++[z] else acc
def growX (m:MZ) (t:Nat) (us S:List Int):List Int:=(S.flatMap (zo m)).foldl (BO m t us) S
def growN (m:MZ) (t:Nat) (us:List Int):Nat->List Int->List Int
 | 0,S=>S
 | k+1,S=>growN m t us k (growX m t us S)
def start (m:MZ) (f:List Int):List Int:=f.foldl (fun acc x=>if (decide (0<=x) && decide (x<m.n) && !decide (x∈acc))=true then acc++[x] else acc) []
def reachX (m:MZ) (t:Nat) (f us:List Int):List Int:=growN m t us (m.n.toNat+1) (start m f)
section
variable {m:MZ} {t:Nat} {us f:List Int}
structure GK (m:MZ) (t:Nat) (f us S:List Int):Prop where
 nd:S.Nodup
 rg:∀x∈S,0<=x/\x<m.n
 rp:∀x∈S,RP m t f us x
theorem addIf_sub (acc:List Int) (z:Int):∀x∈acc,x∈BO m t us acc z:=by
 intro x o;unfold BO
 split
 ·exact List.mem_append_left _ o
 ·exact o
theorem addIf_len (acc:List Int) (z:Int):acc.length<=(BO m t us acc z).length:=by
 unfold BO
 split <;> simp
theorem addIf_gk (h:GK m t f us acc) (h0:0<=z/\z<m.n) (h1:ze m t z=true->z∉us->RP m t f us z):GK m t f us (BO m t us acc z):=by
 unfold BO
 split
 ·rename_i o
  simp only [Ed,Bool.not_eq_true',Eo] at o;refine ⟨?_,fun x hx=>?_,fun x hx=>?_⟩
  ·rw [List.nodup_append];refine ⟨h.nd,by simp,fun a D b B=>?_⟩;rw [Ey] at B;rintro rfl;subst B;exact o.2 D
  ·rcases EH.1 hx with hx | hx
   ·exact h.rg x hx
   ·rw [Ey] at hx;subst hx;exact h0
  ·rcases EH.1 hx with hx | hx
   ·exact h.rp x hx
   ·rw [Ey] at hx;subst hx;exact h1 o.1.1 o.1.2
 ·exact h
theorem fold_sub:∀(l acc:List Int),∀x∈acc,x∈l.foldl (BO m t us) acc
 | [],acc,x,o=>o
 | z :: l,acc,x,o=>fold_sub l (BO m t us acc z) x (addIf_sub acc z x o)
theorem fold_len:∀(l acc:List Int),acc.length<=(l.foldl (BO m t us) acc).length
 | [],acc=>DR _
 | z :: l,acc=>DT (addIf_len acc z) (fold_len l _)
theorem fold_gk:∀(l acc:List Int),GK m t f us acc->(∀z∈l,(0<=z/\z<m.n)/\(ze m t z=true->z∉us->RP m t f us z))->GK m t f us (l.foldl (BO m t us) acc)
 | [],acc,h,_=>h
 | z :: l,acc,h,o=>fold_gk l _ (addIf_gk h (o z (ED ..)).1 (o z (ED ..)).2) (fun x B=>o x (El _ B))
theorem grow_gk (d:Dim m) (h:GK m t f us S):GK m t f us (growX m t us S):=by
 refine fold_gk _ _ h fun z E=>?_
 obtain ⟨y,D,B⟩:=List.mem_flatMap.1 E;have o:=h.rg y D;exact ⟨Bg d o.1 o.2 B,fun h1 h2=>(h.rp y D).step B h1 h2⟩
def Closed (m:MZ) (t:Nat) (us S:List Int):Prop:=∀y∈S,∀z∈zo m y,ze m t z=true->z∉us->z∈S
theorem addIf_eq (h:ze m t z=true->z∉us->z∈acc):BO m t us acc z=acc:=by
 unfold BO;rw [if_neg];intro o;simp only [Ed,Bool.not_eq_true',Eo] at o;exact o.2 (h o.1.1 o.1.2)
theorem fold_eq:∀(l acc:List Int),(∀z∈l,ze m t z=true->z∉us->z∈acc)->l.foldl (BO m t us) acc=acc
 | [],acc,_=>rfl
 | z :: l,acc,h=>by
  rw [List.foldl_cons,addIf_eq (h z (ED ..))];exact fold_eq l acc (fun x o=>h x (El _ o))
theorem grow_closed (h:Closed m t us S):growX m t us S=S:=
 fold_eq _ _ fun z D=>by
  obtain ⟨y,B,o⟩:=List.mem_flatMap.1 D;exact h y B z o
theorem fold_more:∀(l acc:List Int),(∃z∈l,ze m t z=true/\z∉us/\z∉acc)->acc.length<(l.foldl (BO m t us) acc).length
 | z :: l,acc,⟨x,hx,h1,h2,h3⟩=>by
  rw [List.foldl_cons];rcases EG.1 hx with rfl | hx
  ·have:(BO m t us acc x).length=acc.length+1:=by
    unfold BO;rw [if_pos (by simp [h1,h2,h3])];simp
   have:=fold_len (m:=m) (t:=t) (us:=us) l (BO m t us acc x);omega
  ·by_cases o:x∈BO m t us acc z
   ·have B:acc.length<(BO m t us acc z).length:=by
     unfold BO at o⊢
     split
     ·simp
     ·rename_i D;rw [if_neg D] at o;exact absurd o h3
    exact Et B (fold_len l _)
   ·exact Nat.lt_of_le_of_lt (addIf_len acc z) (fold_more l _ ⟨x,hx,h1,h2,o⟩)
theorem growN_gk (d:Dim m):∀(k:Nat) {S:List Int},GK m t f us S->GK m t f us (growN m t us k S)
 | 0,S,h=>h
 | k+1,S,h=>growN_gk d k (grow_gk d h)
theorem growN_sub:∀(k:Nat) (S:List Int),∀x∈S,x∈growN m t us k S
 | 0,S,x,o=>o
 | k+1,S,x,o=>growN_sub k _ x (fold_sub _ _ x o)
theorem growN_closed {S:List Int} (h:Closed m t us S):∀k,growN m t us k S=S
 | 0=>rfl
 | k+1=>by unfold growN;rw [grow_closed h];exact growN_closed h k
theorem growN_or:∀(k:Nat) (S:List Int),Closed m t us (growN m t us k S)\/S.length+k<=(growN m t us k S).length
 | 0,S=>.inr (DR _)
 | k+1,S=>by
  by_cases h:Closed m t us S
  ·left
   rw [growN_closed h];exact h
  ·have h1:S.length<(growX m t us S).length:=by
    refine fold_more _ _ ?_;unfold Closed at h;simp only [Classical.not_forall] at h;obtain ⟨y,o,z,B,h1,h2,h3⟩:=h;exact ⟨z,List.mem_flatMap.2 ⟨y,o,B⟩,h1,h2,h3⟩
   rcases growN_or k (growX m t us S) with h2 | h2
   ·exact .inl h2
   ·right
    unfold growN;omega
theorem start_gk (m:MZ) (t:Nat) (us f:List Int):GK m t f us (start m f)/\∀x∈f,0<=x->x<m.n->x∈start m f:=by
 have key:∀(l acc:List Int),(∀x∈l,x∈f)->GK m t f us acc->GK m t f us (l.foldl (fun acc x=>if (decide (0<=x) && decide (x<m.n) && !decide (x∈acc))=true then acc++[x] else acc) acc)/\
   (∀x∈acc,x∈l.foldl (fun acc x=>if (decide (0<=x) && decide (x<m.n) && !decide (x∈acc))=true then acc++[x] else acc) acc)/\∀x∈l,0<=x->x<m.n->x∈l.foldl (fun acc x=>if (decide (0<=x) && decide (x<m.n) && !decide (x∈acc))=true then acc++[x] else acc) acc:=by
  intro l
  induction l with
  | nil=>intro acc _ h;exact ⟨h,fun x hx=>hx,fun x hx=>by cases hx⟩
  | cons z l ih=>
   intro acc B h;rw [List.foldl_cons];by_cases o:(decide (0<=z) && decide (z<m.n) && !decide (z∈acc))=true
   ·rw [if_pos o];simp only [Ed,Bool.not_eq_true',Eo,Eb] at o
    obtain ⟨h1,h2,h3⟩:=ih (acc++[z]) (fun x hx=>B x (El _ hx)) ⟨by
     rw [List.nodup_append];refine ⟨h.nd,by simp,fun a E b D=>?_⟩;rw [Ey] at D;rintro rfl;subst D;exact o.2 E,fun x hx=>by
     rcases EH.1 hx with hx | hx
     ·exact h.rg x hx
     ·rw [Ey] at hx;subst hx;exact o.1,fun x hx=>by
     rcases EH.1 hx with hx | hx
     ·exact h.rp x hx
     ·rw [Ey] at hx;subst hx;exact RP.base (B x (ED ..)) o.1.1 o.1.2⟩
    refine ⟨h1,fun x hx=>h2 x (List.mem_append_left _ hx),fun x hx a b=>?_⟩;rcases EG.1 hx with rfl | hx
    ·exact h2 x (by simp)
    ·exact h3 x hx a b
   ·rw [if_neg o];obtain ⟨h1,h2,h3⟩:=ih acc (fun x hx=>B x (El _ hx)) h;refine ⟨h1,h2,fun x hx a b=>?_⟩;rcases EG.1 hx with rfl | hx
    ·refine h2 x ?_;simp only [Ed,Bool.not_eq_true',Eo,Eb] at o;by_cases hm:x∈acc
     ·exact hm
     ·exact absurd ⟨⟨a,b⟩,hm⟩ o
    ·exact h3 x hx a b
 have h:=key f [] (fun _ h=>h) ⟨List.nodup_nil,fun x hx=>absurd hx EN,fun x hx=>absurd hx EN⟩;exact ⟨h.1,h.2.2⟩
theorem mem_reachX (d:Dim m) (x:Int):x∈reachX m t f us↔RP m t f us x:=by
 have D:=start_gk m t us f;have o:=growN_gk (t:=t) (f:=f) (us:=us) d (m.n.toNat+1) D.1
 have E:Closed m t us (reachX m t f us):=by
  rcases growN_or (m:=m) (t:=t) (us:=us) (m.n.toNat+1) (start m f) with h | h
  ·exact h
  ·have:=Bp o.nd m.n o.rg;omega
 constructor
 ·exact fun h=>o.rp x h
 ·intro h;exact h (fun x=>x∈reachX m t f us) (fun y B h0 h1=>growN_sub _ _ y (D.2 y B h0 h1)) (fun y z B G h1 h2=>E y B z G h1 h2)
end
theorem reachL_x {m:MZ} (d:Dim m) (t:Nat) (f us:List Int):Cm m t f us=((List.range m.n.toNat).map Int.ofNat).filter fun x=>decide (x∈reachX m t f us):=by
 rw [reachL_of (fun x=>mem_reachX d x)]
theorem reachL_pw (m:MZ) (t:Nat) (f us:List Int):(Cm m t f us).Pairwise (·<·):=by
 unfold Cm;apply List.Pairwise.filter;rw [List.pairwise_map];exact List.Pairwise.imp (fun h=>by simpa using h) List.pairwise_lt_range
end
section
open Go.RowKit
attribute [local go_sem ↓] Go.wp_at_zero Go.wp_at_succ
def StC (w:World) (ok:Nat->Prop) (p:Nat) (m:MZ) (ch:List Int):Prop:=
 ∃us f u t vc vp gu,(∀x,x∈us↔x∈ch)/\BJ w ok p m ch (Aw m ch) us f u t vc vp gu
section
variable {w w':World} {ok ok':Nat->Prop} {p:Nat} {m:MZ} {ch:List Int}
theorem StC.keep (h:StC w ok p m ch) (o:zK ok w w'):StC w' ok p m ch:=by
 obtain ⟨us,f,u,t,vc,vp,gu,h1,h2⟩:=h;exact ⟨us,f,u,t,vc,vp,gu,h1,h2.keep o⟩
theorem StC.weaken (h:StC w ok p m ch) (o:∀b,ok b->ok' b):StC w ok' p m ch:=by
 obtain ⟨us,f,u,t,vc,vp,gu,h1,h2⟩:=h;exact ⟨us,f,u,t,vc,vp,gu,h1,h2.weaken o⟩
theorem StC.bound (h:StC w ok p m ch):StC w (fun b=>ok b/\b<w.heap.size) p m ch:=by
 obtain ⟨us,f,u,t,vc,vp,gu,h1,h2⟩:=h;exact ⟨us,f,u,t,vc,vp,gu,h1,h2.bound⟩
theorem StC.ext (h:StC w ok p m ch) (o:za w w'):StC w' ok p m ch:=h.keep (zK.of_below o)
end
theorem begin_c {ok:Nat->Prop} {v:Value} {m:MZ} (w:World) (hm:zt w ok v m) (o:m.tasks.length<=100000):
  Calls Tryz.prog 146 #[v] w fun e w'=>∃p,e=.returned (.pointer (some ⟨p,0,none⟩))/\za w w'/\StC w' (fun b=>ok b\/w.heap.size<=b) p m []:=by
 refine (begin_calls w hm o).mono ?_;rintro e w' ⟨v',rfl,B,g,f,u,t,vc,vp,gu,rfl,h⟩;exact ⟨g,rfl,B,[],f,u,t,vc,vp,gu,fun _=>Iff.rfl,h⟩
theorem candidates_c {ok:Nat->Prop} {m:MZ} {ch:List Int} {p:Nat} (w:World) (h:StC w ok p m ch) (g:AN m) (B:Lens m) (o:zy m ch):
  Calls Tryz.prog 148 #[.pointer (some ⟨p,0,none⟩)] w fun e w'=>∃v',e=.returned v'/\Mk w w' v' (BK m ch):=by
 obtain ⟨us,f,u,t,vc,vp,gu,h1,h2⟩:=h;unfold BK;rw [<-candL_congr h1];exact candidates_calls w h2 (o.sok g B)
theorem with_c {ok:Nat->Prop} {m:MZ} {ch:List Int} {p:Nat} {n:Int} (w:World) (h:StC w ok p m ch) (g:AN m) (B:Lens m) (o:zy m ch) (D:n∈BK m ch):
  Calls Tryz.prog 149 #[.pointer (some ⟨p,0,none⟩),.int .i64 n] w fun e w'=>∃q,e=.returned (.pointer (some ⟨q,0,none⟩))/\za w w'/\StC w' (fun b=>(ok b/\b<w.heap.size)\/w.heap.size<=b) q m (ch++[n]):=by
 obtain ⟨us,f,u,t,vc,vp,gu,h1,h2⟩:=h;have hp:=o.psOk.pn (BS (BW D));refine (with_calls n w h2.bound (o.sok g B) (o.sok1 g B D) hp).mono ?_;rintro e w' ⟨v',rfl,G,us',h3,q,f',u',t',vc',vp',gu',rfl,E⟩;refine ⟨q,rfl,G,us',f',u',t',vc',vp',gu',fun x=>?_,?_⟩
 ·rw [h3,h1,EH,Ey];exact Or.comm
 ·rw [Db];exact E
structure zp (X:Nat->Prop) (w w':World):Prop where
 os:w'.os=w.os
 tape:w'.tape=w.tape
 output:w'.output=w.output
 size:w.heap.size<=w'.heap.size
 block:∀b,b<w.heap.size->¬ X b->w'.heap[b]?=w.heap[b]?
theorem zp.refl (X:Nat->Prop) (w:World):zp X w w:=⟨rfl,rfl,rfl,DR _,fun _ _ _=>rfl⟩
theorem zp.of_ext {X:Nat->Prop} {w w':World} (h:za w w'):zp X w w':=⟨h.os,h.tape,h.output,h.size,fun b o _=>h.block b o⟩
theorem zp.trans {X X':Nat->Prop} {a b c:World} (h:zp X a b) (o:zp X' b c) (G:∀k,k<a.heap.size->X' k->X k):zp X a c:=
 ⟨o.os.trans h.os,o.tape.trans h.tape,o.output.trans h.output,DT h.size o.size,fun k B E=>(o.block k (Et B h.size) (fun D=>E (G k B D))).trans (h.block k B E)⟩
theorem zp.same {X ok:Nat->Prop} {w w':World} (h:zp X w w') (D:∀b,ok b->¬ X b):zK ok w w':=fun b B o=>h.block b o (D b B)
theorem zp.below {X:Nat->Prop} {w w':World} {B:Nat} (h:zp X w w') (E:B<=w.heap.size) (o:∀b,X b->B<=b):Below B w w':=
 ⟨h.os,h.tape,h.output,h.size,fun b G=>h.block b (by omega) (fun D=>by have:=o b D;omega)⟩
end
section
open Go.RowKit
section
variable {w w' W:World} {X Y:Nat->Prop} {g gr cap:Nat} {m:MZ} {s:RS} {ptrs:List Nat} {ch:List Int}
theorem zp.tr {X:Nat->Prop} (h:zp X a b) (o:zp X b c):zp X a c:=h.trans o (fun _ _ h=>h)
theorem zp.ext_r {X:Nat->Prop} (h:zp X a b) (o:za b c):zp X a c:=h.tr (zp.of_ext o)
end
end
end Go.Proofs.YtjomnbdjajjgfaaGreatDoor
