import Derived.Test.YtcnaogdgjkpkmaaGreatDoorWCd
import Derived.Shelf.SlicesE.DeleteFunc
import Derived.Ground.SlgfProg
import Derived.Lib.ItoaLen
import Derived.Maps.AppendAt
set_option linter.unusedVariables false
set_option linter.unusedSimpArgs false
set_option maxRecDepth 100000
set_option maxHeartbeats 16000000
namespace Go.Proofs.YtcnaogdgjkpkmaaGreatDoor
variable {x y:Int} {l q:List Int} {bs:List Value} {B b gn k:Nat} {a c wr:World}
section
open Go.RowKit
attribute [local go_sem ↓] Go.wp_at_zero Go.wp_at_succ
def zx (m:MZ) (us:List Int) (t:Nat) (q from_:List Int) (n:Int):Bool:=zg m t n && !decide (n∈us) && !(q.any fun y=>decide (n∈zo m y)) && !decide (n∈from_)
def Bu (m:MZ) (ps:List (List Int)) (us:List Int):List Int:=
 if cmpB m ps=true then []
 else match (ps.getD (ps.length - 1) []).getLast? with
  | none=>(Lib.compact (BA (m.tasks.getD (ps.length - 1) ([],[])).1)).filter fun n=>zg m (ps.length - 1) n && !decide (n∈us)
  | some x=>(zo m x).filter (zx m us (ps.length - 1) (ps.getD (ps.length - 1) []).dropLast (m.tasks.getD (ps.length - 1) ([],[])).1)
theorem mem_sortL:x∈BA l↔x∈l:=by unfold BA;exact (List.mergeSort_perm _ _).mem_iff
theorem compact_len (l:List Int):(Lib.compact l).length<=l.length:=by
 unfold Lib.compact Lib.compactUpTo;rw [DF];exact Da (DA _ _) (by simp)
theorem CM (h:x∈Lib.compact l):x∈l:=by
 unfold Lib.compact Lib.compactUpTo at h;obtain ⟨j,o,rfl⟩:=DQ.1 h;have d:j<l.length:=by simpa using (DP.1 o).1
 simp [getElem!_pos,d]
theorem path_cell {w:World} {ok:Nat->Prop} {A:Option Addr} {n c:Nat} (h:zk w ok (.slice A n c) l) (d:l[k]?=some y):∃b o,A=some ⟨b,o,none⟩/\∀W,za w W->W.cell? ⟨b,o+k,none⟩=some (.int .i64 y):=by
 obtain ⟨A',c',e,_,D⟩:=h;injection e with e1 e2 e3;subst e1
 have r:k<l.length:=by
  rcases Dv k l.length with h | h
  ·exact h
  ·rw [Dr h] at d;cases d
 obtain ⟨b,o,e,_,z⟩:=Am D r r;rw [CW r] at d;injection d with d;rw [d] at z;exact ⟨b,o,e,za.rule z⟩
structure NR (W wr:World) (gn:Nat) (s:List Int):Prop where
 ext:za W wr
 set:zv wr gn s
theorem NR.more {W w':World} {s:List Int} (h:NR W wr gn s) (d:za wr w'):NR W w' gn s:=⟨h.ext.trans d,h.set.below d⟩
theorem NR.add {W w':World} {s:List Int} (h:NR W wr gn s) (r:gn=W.heap.size) (o:zv w' gn (ins s x)) (d:wr.grownBy w' (some gn)):NR W w' gn (ins s x):=⟨AG h.ext d h.ext.size (by omega),o⟩
theorem near_step {m:MZ} {a:Int}:((∃y'∈q,a∈zo m y')\/a∈zo m y)↔∃y'∈q++[y],a∈zo m y':=by
 constructor
 ·rintro (⟨y',h1,h2⟩ | h)
  ·exact ⟨y',by simp [h1],h2⟩
  ·exact ⟨y,by simp,h⟩
 ·rintro ⟨y',h1,h2⟩;rw [DK,DD] at h1;rcases h1 with h1 | rfl
  ·exact .inl ⟨y',h1,h2⟩
  ·exact .inr h2
theorem near_any {m:MZ} {s:List Int} {z:Int} (h:z∈s↔∃y∈q,z∈zo m y):decide (z∈s)=q.any fun y=>decide (z∈zo m y):=by
 by_cases d:z∈s
 ·rw [Db d];symm;obtain ⟨y,h1,h2⟩:=h.1 d;exact DS.2 ⟨y,h1,Db h2⟩
 ·rw [Dc d];symm;rw [Bool.eq_false_iff];intro o;obtain ⟨y,h1,h2⟩:=DS.1 o;exact d (h.2 ⟨y,h1,DU h2⟩)
structure JC (wB:World) (sn:ByteArray) (u1 u2 up:Value) (e:Nat->Bool) (v:Nat->Value) (W:World):Prop where
 ext:za wB W
 al:e 15=true->∃g3,v 15=.pointer (some ⟨g3,0,none⟩)/\wB.heap.size<=g3/\(e 16=false->ze W g3 101 #[.string ⟨#[]⟩,.slice none 0 0,.slice none 0 0])/\(e 16=true->ze W g3 101 #[.string sn,u1,u2])
 asg:e 17=true->v 17=up
 d16:e 16=true->e 15=true
section
variable {wB W W':World} {sn:ByteArray} {u1 u2 up:Value} {e:Nat->Bool} {v:Nat->Value}
theorem JC.init (he:∀j∈[15,16,17],e j=false):JC wB sn u1 u2 up e v wB.drew:=
 ⟨Cu,fun a=>ff (he 15 (by simp)) a,fun a=>ff (he 17 (by simp)) a,fun a=>ff (he 16 (by simp)) a⟩
theorem JC.s15 (h:JC wB sn u1 u2 up e v W) (d:e 15=false):JC wB sn u1 u2 up (Ba e 15 true) (Ba v 15 (.pointer (some ⟨W.heap.size,0,none⟩))) (W.alloc (.cells #[.string ⟨#[]⟩,.slice none 0 0,.slice none 0 0] 101)):=
 ⟨h.ext.alloc _,fun _=>⟨_,rfl,h.ext.size,fun _=>ze.new _ _ _ rfl,fun a=>ff (b:=e 16) (notT h.d16 d) a⟩,h.asg,fun _=>rfl⟩
theorem JC.s16 {g3:Nat} {x:Value} (h:JC wB sn u1 u2 up e v W) (d:e 15=true) (D:v 15=.pointer (some ⟨g3,0,none⟩)) (z:wB.heap.size<=g3) (o:za wB W') (r:ze W' g3 101 #[.string sn,u1,u2]):JC wB sn u1 u2 up (Ba e 16 true) (Ba v 16 x) W':=
 ⟨o,fun _=>⟨g3,D,z,fun a=>(by cases a),fun _=>r⟩,h.asg,fun _=>d⟩
theorem JC.s17 (h:JC wB sn u1 u2 up e v W):JC wB sn u1 u2 up (Ba e 17 true) (Ba v 17 up) W:=⟨h.ext,h.al,fun _=>rfl,h.d16⟩
end
theorem candidates_calls {ok:Nat->Prop} {m:MZ} {ch us:List Int} {ps:List (List Int)} {g gu:Nat} {f u ts vc vp:Value} (w:World) (h:AQ w ok g m ch ps us f u ts vc vp gu) (so:SOk m ch ps):
  Calls Tryz.prog 91 #[.pointer (some ⟨g,0,none⟩)] w fun e w'=>∃v',e=.returned v'/\Mk w w' v' (Bu m ps us):=by
 have HS:=zh h;have SO:=zh so;have q8:ps.length<=6:=Da so.pl so.good.tk;obtain ⟨r0,r1,r2,r3,r4,r5,r6,r7,r8⟩:=h.rules;have hx:=za.refl w
 go_enter Tryz.func91,Tryz.ntmps91
 go_wp2_with fail
 generalize i0:w.alloc (.cells #[.pointer (some ⟨g,0,none⟩)] 92)=w1;have j3:za w w1:=by rw [<-i0];exact (za.refl w).alloc _
 have h3:w1.cell? ⟨w.heap.size,0,none⟩=some (.pointer (some ⟨g,0,none⟩)):=by rw [<-i0];exact zU _ _ _ rfl
 have q7:w.heap.size<w1.heap.size:=zA h3;have rb:=za.rule h3;clear i0;refine (complete_calls _ (HS.out.ext j3) SO.out).mono ?_;rintro e wA ⟨rfl,j9⟩;have m5:za w1 wA:=j9.below _;have hA:=j3.trans m5;clear j9 h3
 cases M:cmpB m ps with
 | true=>
  have HC:=zh M;clear M
  go_wp2_with fail
  go_ret;exact ⟨_,rfl,hA.mono_mk (Mk.cast (Mk.nil _) (by unfold Bu;rw [if_pos HC.out]))⟩
 | false=>
  have HC:=zh M
  have hp:0<ps.length:=by
   by_cases h0:m.tasks.length=0
   ·unfold cmpB at M;rw [Db h0] at M;cases M
   ·exact so.pn (by omega)
  clear M
  go_wp2_with fail
  refine (BZ _ (HS.out.ext hA) (by omega)).mono ?_;rintro e wB ⟨he,n3⟩;subst n3;obtain ⟨t,hk⟩:∃t,ps.length=t+1:=⟨ps.length - 1,by omega⟩;have l3:(ps.length:Int) - 1=(t:Int):=by omega
  rw [l3] at he;subst he;clear l3;have j5:za w (wA.alloc (.cells #[.int .i64 t] 3)):=hA.alloc _;have o1:(wA.alloc (.cells #[.int .i64 t] 3)).cell? ⟨wA.heap.size,0,none⟩=some (.int .i64 t):=zU _ _ _ rfl;have m6:za w1 (wA.alloc (.cells #[.int .i64 t] 3)):=m5.alloc _;have ho:=h.ps;have o8:=h.maze;obtain ⟨vs,⟨Ap,cp,rfl,t0,m0⟩,k3⟩:=ho;obtain ⟨fr',up',ts',a8,_,_,I⟩:=o8;injection a8 with a8;injection a8 with a8;simp only [List.cons.injEq,and_true,true_and] at a8;obtain ⟨rfl,rfl,rfl⟩:=a8;have p5:=I;obtain ⟨vst,⟨At,ct,rfl,t1,_⟩,_⟩:=p5;have e0:t<ps.length:=by omega
  obtain ⟨b,off,up,rfl,_,f2,h9⟩:=eachAt m0 k3 e0 e0;have e7:t<m.tasks.length:=by have:=so.pl;omega
  obtain ⟨bt,offt,sn,u1,u2,rfl,_,l0,l1,l2,e6,h4⟩:=CC I e7;have h5:=so.pp _ (CZ e0);have d8:=so.pr _ (CZ e0);have o6:=(so.lens.tl _ (CZ e7)).1;have h8:=so.good.tn _ (CZ e7)
  have c8:Bu m ps us=match (ps[t]).getLast? with
    | none=>(Lib.compact (BA (m.tasks[t]).1)).filter fun n=>zg m t n && !decide (n∈us)
    | some x=>(zo m x).filter (zx m us t (ps[t]).dropLast (m.tasks[t]).1):=by
   unfold Bu;rw [HC.out,if_neg (by simp),show ps.length - 1=t from by omega];simp [e0,e7]
  have b3:=zh c8;clear c8;obtain ⟨p,l8⟩:=DX (ps[t]);obtain ⟨tk,m3⟩:=DX (m.tasks[t]);rw [<-l8] at h9 h5 b3 d8;rw [<-m3] at e6 h4 o6 b3 h8;have k6:=e6;obtain ⟨A5,c5,rfl,s6,_⟩:=k6;have k7:=h4;obtain ⟨A6,c6,rfl,s7,_⟩:=k7;clear l8 m3 m0 k3 I h4;have HP:=zh h9;clear h9;have HF:=zh e6;clear e6;have g1:=zh d8;clear d8;have n2:=zh h8;clear h8;have v5:(t:Int)<(ps.length:Int):=by omega
  have t9:(0:Int)<=(t:Int):=by omega
  have v6:(t:Int)<(m.tasks.length:Int):=by omega
  have k4:t<m.free.length:=by have:=so.good.fl;omega
  have q0:=za.rule f2;have q1:=za.rule l0;have q2:=za.rule l1;have q3:=za.rule l2;clear f2 l0 l1 l2 h so hk;generalize p7:wA.alloc (.cells #[.int .i64 t] 3)=wB at*;have rt:=za.rule o1;have e9:=za.refl wB
  go_wp2_with fail
  clear p7;refine Dp (S:=(fun W=>za w W/\za w1 W/\za wB W)) (by kernel_rfl) (⟨j5.drew,m6.drew,e9.drew⟩) fun zH=>?_;refine zj 0 zH ?_;refine zj 1 zH ?_;simp only [zc,CV];refine zj 2 zH ?_;refine zj 3 zH ?_;simp only [zc,CV];refine zj 4 zH ?_;refine zj 5 zH ?_;simp only [zc,CV];refine zj 6 zH ?_;refine zj 7 zH ?_;simp only [zc,CV];refine zj 8 zH ?_;refine zj 9 zH ?_;simp only [zc,CV];refine zj 10 zH ?_;refine zj 11 zH ?_;simp only [zc,CV];refine zj 12 zH ?_;refine zj 13 zH ?_;simp only [zc,CV];refine zj 14 zH ?_;simp only [zc,CV];refine Bg [15,16,17] (fun e v W=>JC wB sn (.slice A5 tk.1.length c5) (.slice A6 tk.2.length c6) up e v W) (F:=?F1) (by kernel_rfl) (by kernel_rfl) (by decide) zH (fun v=>?hF1) ?init1 (by kernel_rfl) ?steps1 ?fin1
  case hF1=>(simp only [zN,Bw,List.getElem?_toArray,List.getElem?_cons_succ,List.getElem?_cons_zero,Option.bind,Act.put,List.setIfInBounds_toArray,List.set_cons_succ,List.set_cons_zero];rfl)
  case init1=>
   intro e v he;exact JC.init he
  case steps1=>
   refine zp.cons rfl (fun e v W K hJ hW he hd hK=>?_) ?_
   ·simp only [zc] at hd hK⊢;go_simp;exact hK.out _ _ _ (by rfl) ⟨hW.1.alloc _,hW.2.1.alloc _,hW.2.2.alloc _⟩ (hJ.s15 he)
   refine zp.cons rfl (fun e v W K hJ hW he hd hK=>?_) ?_
   ·simp only [zc] at hd hK⊢;have i6:e 15=true:=Ah hd [15] (by kernel_rfl) 15 (by simp);obtain ⟨g3,U,d5,E,_⟩:=hJ.al i6;have E:=E he;have hf:=fun k=>E.frozen k
    have s4:=E.cell (k:=0) rfl;have s5:=E.cell (k:=1) rfl;have q6:=E.cell (k:=2) rfl;go_simp;have a7:=((hJ.ext.setCell (p:=⟨g3,0,none⟩) d5 (.string sn)).setCell (p:=⟨g3,1,none⟩) d5 (.slice A5 tk.1.length c5)).setCell (p:=⟨g3,2,none⟩) d5 (.slice A6 tk.2.length c6);exact hK.out _ undef _ (by simp [Act.put,U]) ⟨j5.trans a7,m6.trans a7,a7⟩ (hJ.s16 i6 U d5 a7 (((E.set (k:=0) _).set (k:=1) _).set (k:=2) _))
   refine zp.cons rfl (fun e v W K hJ hW he hd hK=>?_) ?_
   ·simp only [zc] at hd hK⊢;go_simp;exact hK.out _ up _ (by rfl) hW hJ.s17
   exact zp.nil
  case fin1=>
   intro v W hJ hW;obtain ⟨g3,U,d5,_,E⟩:=hJ.al rfl;have E:=E rfl;have f7:=hJ.asg rfl;rw [U,f7];clear hJ U f7;obtain ⟨n9,j1,o0⟩:=hW;have rg3:=za.rule (E.cell (k:=1) rfl);clear E;have e2:=zh n9;have j8:=rt W o0;have s9:=Ae (P:=Tryz.prog) Tryz.func127 (by kernel_rfl) (by kernel_rfl);have f1:=rb W j1;generalize o4:wA.heap.size=g2 at*;clear o4;have o9:=HP.out;obtain ⟨Aq,cq,rfl,j6,p4⟩:=o9;clear p4;have e9:=za.refl W;rcases List.eq_nil_or_concat p with rfl | ⟨q,x,rfl⟩
   ·have g0:Hid (Bu m ps us=(Lib.compact (BA tk.1)).filter fun n=>zg m t n && !decide (n∈us)):=b3.out
    go_wp2_with fail
    refine (values_calls A5 tk.1.length c5 W).mono ?_;rintro e w2 ⟨rfl,rfl⟩;have g4:za W (W.alloc (.cells #[.slice A5 tk.1.length c5] 24)):=e9.alloc _;have j7:(W.alloc (.cells #[.slice A5 tk.1.length c5] 24)).cell? ⟨W.heap.size,0,none⟩=some (.slice A5 tk.1.length c5):=zU _ _ _ rfl;have hS:=zh (sorted_calls W.heap.size _ j7 (HF.out.below (e2.out.trans g4)) (by omega))
    go_wp2_with fail
    refine hS.out.mono ?_;rintro e w3 ⟨v3,rfl,g8⟩;have m2:(BA tk.1).length<=1000000000000:=by unfold BA;rw [List.length_mergeSort];omega
    have i7:=zh (compact_calls g8 m2);have a7:=zh g8.ext;clear g8 hS
    go_wp2_with fail
    refine i7.out.mono ?_;rintro e w4 ⟨v4,rfl,e3⟩;have o7:Hid (∀y,y∈Lib.compact (BA tk.1)->y∈tk.1):=fun y hy=>mem_sortL.1 (CM hy)
    have t3:(Lib.compact (BA tk.1)).length<=1000000000000:=Da (compact_len _) m2;generalize Lib.compact (BA tk.1)=L at*;have g5:za W w4:=g4.trans e3.ext;obtain ⟨A7,c7,p6,s8⟩:=e3.slice;subst p6;have n1:=zh e3;clear e3 i7 a7 j7 g4;have m4:za w w4:=e2.out.trans g5;have b6:=zh (Mk.nil w4)
    go_wp2_with fail
    go_loopw [7,46] (fun v i wr=>∃k:Nat,k<=L.length/\i=.int .i64 (k:Nat)/\Hid (Mk w4 wr v ((L.take k).filter fun n=>zg m t n && !decide (n∈us)))) (fun _ i _=>L.length - (intOf i).toNat)
    case atStart=>exact ⟨0,by omega,rfl,b6⟩
    clear b6
    case round=>
     obtain ⟨k,hk,rfl,hM⟩:=hrel;have d:=hM.out.ext;by_cases G:k<L.length
     ·obtain ⟨b9,rfl,O,r⟩:=own_at (n1.out.own.ext d) G;have I:=zh (Dg G);have D:=n2.out _ (.inl (o7.out _ (CZ G)));obtain ⟨y,hy⟩:=DX (L[k]);rw [<-hy] at r I D;clear hy;have o:=zh (cand1_calls t y wr (HS.out.ext (m4.trans d)) SO.out.good.fn k4 ((g5.trans d).cell f1) ((g5.trans d).cell j8) D.1 D.2);obtain ⟨bb,g9⟩:=DX ((zg m t y && !decide (y∈us)));rw [<-g9] at o;have m8:=zh g9;clear g9 D;have o3:((L.take k).filter fun n=>zg m t n && !decide (n∈us)).length<=1000000000000:=Da (DA _ _) (by simp;omega);have a0:Hid ((L.take (k+1)).filter (fun n=>zg m t n && !decide (n∈us))=(L.take k).filter (fun n=>zg m t n && !decide (n∈us))++(if bb then [y] else [])):=by rw [I.out,List.filter_append,m8.out];show _++List.filter _ [y]=_;by_cases h:(zg m t y && !decide (y∈us))=true <;> simp [List.filter_cons,h]
      generalize (L.take k).filter (fun n=>zg m t n && !decide (n∈us))=lk at*
      go_wp2_with fail
      refine o.out.mono ?_;rintro e w5 ⟨rfl,d4⟩;have b4:za wr w5:=d4.below _;have J:=zh (hM.out.more b4);clear d4 o
      cases bb with
      | true=>
       have p8:w4.heap.size<=w5.heap.size:=J.out.ext.size
       go_wp2_with (at_builtin;refine Cf rfl _ _ rfl _ lk y w4.heap.size w5.heap.size 1 _ rfl rfl (J.out.own.alloc _) ?d1 ?d2 ?d3 ?_)
       (try case d1=>exact zU _ _ _ (by simp))
       case d2=>(first | (simp;done) | (simp;omega) | omega)
       case d3=>omega
       intro v' wb d7 Q _;have g7:=zh ((J.out.alloc _).app d7 Q);clear d7 Q;go_wp2;go_roundw
       case rel=>exact ⟨k+1,by omega,by go_num,by rw [a0.out];exact g7⟩
       case measure=>simp [intOf];omega
      | false=>
       go_wp2;go_roundw
       case rel=>exact ⟨k+1,by omega,by go_num,by rw [a0.out];simpa using J⟩
       case measure=>simp [intOf];omega
     ·obtain rfl:k=L.length:=by omega
      go_wp2_with fail
      go_ret;refine ⟨_,rfl,(m4.mono_mk hM.out).cast ?_⟩;rw [g0.out,Dl]
   ·rw [List.concat_eq_append] at HP b3 g1;have l7:(q.concat x).length=q.length+1:=by simp
    have f5:(q++[x]).length=q.length+1:=by simp
    rw [l7] at j6 h5⊢;rw [f5] at HP;obtain ⟨N,hN⟩:=DX (q.length+1);rw [<-hN] at j6 h5 HP⊢;have s2:(q.length:Int)<(N:Int):=by omega
    have p3:IntKind.i64.wrap ((N:Int) - 1)=(q.length:Int):=by rw [Du];omega
    have l9:(N:Int) - 1=(q.length:Int):=by omega
    have t6:(0:Int)<=(q.length:Int):=by omega
    have s1:0<N:=by omega
    have t7:q.length<=N:=by omega
    have g0:Hid (Bu m ps us=(zo m x).filter (zx m us t q tk.1)):=by have h:=b3.out;simp at h;exact h
    have a4:Hid (∀k y,(q++[x])[k]?=some y->∃bq oq,Aq=some ⟨bq,oq,none⟩/\∀W',za w W'->W'.cell? ⟨bq,oq+k,none⟩=some (.int .i64 y)):=fun k y hy=>path_cell HP.out hy
    clear l7 f5 hN;have t4:=@run_makeMap Tryz.prog
    go_wp2_with fail
    have i9:Hid (NR W (W.alloc (.map #[] 0)) W.heap.size []):=⟨e9.alloc _,zv.new W⟩;generalize k5:W.heap.size=gn at*;have f4:gn=W.heap.size:=k5.symm;have n0:=zh f4;clear k5 f4;go_loopw [66] (fun i wr=>∃k s,k<=q.length/\i=.int .i64 (k:Nat)/\Hid (NR W wr gn s)/\Hid (∀z,z∈s↔∃y∈q.take k,z∈zo m y)) (fun i _=>q.length - (intOf i).toNat)
    case atStart=>exact ⟨0,[],by omega,rfl,i9,by simp [Hid]⟩
    clear i9
    case round=>
     obtain ⟨k,s,hk,rfl,hR,d6⟩:=hrel;have d:za W wr:=hR.out.ext;have e1:za w wr:=e2.out.trans d;have i1:za w1 wr:=j1.trans d;obtain ⟨wk,rfl⟩:∃wk:World,wk=wr:=⟨_,rfl⟩;by_cases G:k<q.length
     ·obtain ⟨bq,oq,rfl,r⟩:=a4.out k q[k] (by rw [Dd G];exact CW G);have D:=g1.out q[k] (by simp);have I:=zh (Dg G);obtain ⟨y,hy⟩:=DX (q[k]);rw [<-hy] at r D I;clear hy;have l4:(k:Int)<(q.length:Int):=by omega
      have l6:=zh (Cy m y wk (HS.out.maze.below e1) SO.out.good.dim D.1 D.2);clear D
      go_wp2_with fail
      refine l6.out.mono ?_;rintro e w9 ⟨v9,rfl,O,a1⟩;have j0:=zh (hR.out.more O);have e4:Hid (zT w9 wk.heap.size v9 (zo m y)):=a1;obtain ⟨A9,c9,rfl,o2⟩:=Az a1;have t2:gn<wk.heap.size:=zb hR.out.set;clear O a1 l6 hR;have o5:=Cl m y
      go_wp2_with fail
      go_loopw [77] (fun i wi=>∃j s',j<=(zo m y).length/\i=.int .i64 (j:Nat)/\Hid (NR W wi gn s')/\Hid (zT wi wk.heap.size (.slice A9 (zo m y).length c9) (zo m y))/\Hid (∀z,z∈s'↔z∈s\/z∈(zo m y).take j)) (fun i _=>(zo m y).length - (intOf i).toNat)
      case atStart=>exact ⟨0,s,Do _,rfl,j0,e4,by simp [Hid]⟩
      clear j0 e4
      case round=>
       obtain ⟨j,s',hj,rfl,hR,hO,l5⟩:=hrel;by_cases k8:j<(zo m y).length
       ·obtain ⟨b2,rfl,s3,e5⟩:=own_at hO.out k8;have f6:=zh (fun z=>zQ k8 z);obtain ⟨z,hz⟩:=DX ((zo m y)[j]);rw [<-hz] at e5 f6;clear hz
        go_wp2_with (at_mapUpdate;refine wpSetAdd rfl _ _ _ _ rfl Tryz.underlying95 gn s' z rfl rfl rfl hR.out.set ?_)
        intro wb m1 Q;have n7:=zh (hR.out.add n0.out m1 Q);have n6:Hid (zT wb wk.heap.size (.slice (some ⟨b2,0,none⟩) (zo m y).length c9) (zo m y)):=World.ownsRow.kept hO.out Q (Av hO.out hR.out.set);clear m1 Q;go_wp2;go_roundw
        case rel=>exact ⟨j+1,ins s' z,by omega,by go_num,n7,n6,fun a=>by rw [mem_ins,l5.out,f6.out,or_assoc]⟩
        case measure=>simp [intOf];omega
       ·obtain rfl:j=(zo m y).length:=by omega
        go_wp2;go_roundw
        case rel=>exact ⟨k+1,s',by omega,by go_num,hR,fun a=>by rw [l5.out,Dl,d6.out,I.out];exact near_step⟩
        case measure=>simp [intOf];omega
     ·obtain rfl:k=q.length:=by omega
      rw [Dl] at d6;obtain ⟨bq,oq,rfl,r⟩:=a4.out q.length x (by simp);have D:=g1.out x (by simp);have i2:=za.refl wk;have h6:Hid (∀z,decide (z∈s)=q.any fun y=>decide (z∈zo m y)):=fun z=>near_any (d6.out z)
      have q9:IntKind.i64.wrap ((N:Int) - 1)=(q.length:Int):=by rw [Du];omega
      clear p3 l9
      go_wp2_with fail
      go_region_held3 (fun W'=>za w W'/\za w1 W'/\za wk W')
       (first | (exact ⟨e1.drew,i1.drew,i2.drew⟩) | (exact ⟨e1.drew.trans O,i1.drew.trans O,i2.drew.trans O⟩))
       ((go_at_call 58;refine (Cy m x _ (HS.out.maze.below e1.drew) SO.out.good.dim D.1 D.2).mono ?_;rintro e w9 ⟨v9,rfl,O,a1⟩;obtain ⟨A9,c9,rfl,o2⟩:=Az (l:=zo m x) a1))
      rename_i n8
      obtain ⟨f8,r9,f9⟩:=n8;have j4:za wk.drew w9:=O;have e4:Hid (zT w9 wk.drew.heap.size (.slice A9 (zo m x).length c9) (zo m x)):=a1;have h7:=zh (hR.out.set.below f9);clear O a1 hR j4 r;have o5:=Cl m x;have b8:za W w9:=d.trans f9;have b6:=zh (Mk.nil w9);have e8:=zh (fun z hz=>Bc (m:=m) (x:=z) SO.out.good.dim D.1 D.2 hz)
      go_wp2_with fail
      clear e1 i1 d i2 G hk;generalize i8:zo m x=L at*;have s0:=zh i8;clear i8;go_loopw [7,97] (fun v i wr=>∃k:Nat,k<=L.length/\i=.int .i64 (k:Nat)/\Hid (Mk w9 wr v ((L.take k).filter (zx m us t q tk.1)))) (fun _ i _=>L.length - (intOf i).toNat)
      case atStart=>exact ⟨0,by omega,rfl,b6⟩
      clear b6
      case round=>
       obtain ⟨k,hk,rfl,hM⟩:=hrel;have d:=hM.out.ext;by_cases G:k<L.length
       ·obtain ⟨b9,rfl,O,r⟩:=own_at (e4.out.ext d) G;have I:=zh (Dg G);have a6:=e8.out _ (CZ G);obtain ⟨y,hy⟩:=DX (L[k]);rw [<-hy] at r I a6;clear hy;have o:=zh (cand1_calls t y wr (HS.out.ext (f8.trans d)) SO.out.good.fn k4 ((b8.trans d).cell f1) ((b8.trans d).cell j8) a6.1 a6.2);obtain ⟨b1,c0⟩:∃b1,b1=(zg m t y && !decide (y∈us)):=⟨_,rfl⟩;rw [<-c0] at o;have f3:zx m us t q tk.1 y=(b1 && !decide (y∈s) && !decide (y∈tk.1)):=by unfold zx;rw [h6.out y,c0]
        clear c0 a6;have a3:=zh f3;clear f3;have o3:((L.take k).filter (zx m us t q tk.1)).length<=1000:=Da (DA _ _) (by simp;omega);have a0:Hid (∀bb,zx m us t q tk.1 y=bb->(L.take (k+1)).filter (zx m us t q tk.1)=(L.take k).filter (zx m us t q tk.1)++(if bb then [y] else [])):=fun bb h=>by rw [I.out,List.filter_append];show _++List.filter _ [y]=_;cases bb <;> simp [List.filter_cons,h]
        generalize (L.take k).filter (zx m us t q tk.1)=lk at*
        go_wp2_with fail
        refine o.out.mono ?_;rintro e w5 ⟨rfl,d4⟩;have b4:za wr w5:=d4.below _;have J:=zh (hM.out.more b4);clear d4 o;have d9:=h7.out.below (d.trans b4);have j2:za W w5:=b8.trans (d.trans b4);have n4:=zh (HF.out.below (e2.out.trans j2))
        cases b1 with
        | false=>
         have V:Hid (zx m us t q tk.1 y=false):=a3.out.trans (by simp);go_wp2;go_roundw
         case rel=>exact ⟨k+1,by omega,by go_num,by rw [a0.out false V.out];simpa using J⟩
         case measure=>simp [intOf];omega
        | true=>
         by_cases a2:y∈s
         ·have V:Hid (zx m us t q tk.1 y=false):=a3.out.trans (by simp [a2]);have l4:=look_t d9 a2;clear a2;go_wp2;go_roundw
          case rel=>exact ⟨k+1,by omega,by go_num,by rw [a0.out false V.out];simpa using J⟩
          case measure=>simp [intOf];omega
         ·have l4:=look_f d9 a2;have t8:=rg3 w5 j2;have a5:=zh (zS y w5 n4.out (by omega));by_cases a9:y∈tk.1
          ·have V:Hid (zx m us t q tk.1 y=false):=a3.out.trans (by simp [a9]);rw [Db a9] at a5;clear a2 a9
           go_wp2_with fail
           refine a5.out.mono ?_;rintro e w6 ⟨rfl,rfl⟩;go_wp2;go_roundw
           case rel=>exact ⟨k+1,by omega,by go_num,by rw [a0.out false V.out];simpa using J⟩
           case measure=>simp [intOf];omega
          ·have V:Hid (zx m us t q tk.1 y=true):=a3.out.trans (by simp [a2,a9]);rw [Dc a9] at a5;clear a2 a9;have p8:w9.heap.size<=w5.heap.size:=J.out.ext.size
           go_wp2_with (first | (go_at_call 56;refine a5.out.mono ?_;rintro e w6 ⟨rfl,rfl⟩) | (at_builtin;refine Cf rfl _ _ rfl _ lk y w9.heap.size w5.heap.size 1 _ rfl rfl (J.out.own.alloc _) ?d1 ?d2 ?d3 ?_))
           (try case d1=>exact zU _ _ _ (by simp))
           case d2=>(first | (simp;done) | (simp;omega) | omega)
           case d3=>omega
           intro v' wb d7 Q _;have g7:=zh ((J.out.alloc _).app d7 Q);clear d7 Q;go_wp2;go_roundw
           case rel=>exact ⟨k+1,by omega,by go_num,by rw [a0.out true V.out];exact g7⟩
           case measure=>simp [intOf];omega
       ·obtain rfl:k=L.length:=by omega
        go_wp2_with fail
        go_ret;refine ⟨_,rfl,(f8.mono_mk hM.out).cast ?_⟩;rw [g0.out,Dl]
end
section
open Go.RowKit Go.Sort Go.Shelf
section
variable {w:World} {ok:Nat->Prop} {size n:Nat} {A:Option Addr} {v:Value} {xs:List Value}
theorem Aj.bound (h:Aj w ok size A n xs) (z:0<size):Aj w (fun b=>ok b/\b<w.heap.size) size A n xs:=by
 refine ⟨h.1,fun o=>?_⟩;obtain ⟨b,off,e,r,d⟩:=h.2 o;have h0:0<xs.length:=by rw [h.1];exact Nat.mul_pos o z
 exact ⟨b,off,e,⟨r,zA (d 0 _ (CW h0))⟩,d⟩
theorem Ay.bound (h:Ay w ok size v n xs) (r:0<size):Ay w (fun b=>ok b/\b<w.heap.size) size v n xs:=by
 obtain ⟨A,c,e,d,o⟩:=h;exact ⟨A,c,e,d,o.bound r⟩
theorem AO.bound {l:List Bool} (h:AO w ok v l):AO w (fun b=>ok b/\b<w.heap.size) v l:=Ay.bound h (by decide)
theorem Each.bound {α:Type} {R R':Value->α->Prop} {l:List α} (h:Each R w ok v l) (o:∀u x,R u x->R' u x):Each R' w (fun b=>ok b/\b<w.heap.size) v l:=by
 obtain ⟨vs,d,he⟩:=h;refine ⟨vs,d.bound (by decide),fun i x z=>?_⟩;obtain ⟨u,r,d⟩:=he i x z;exact ⟨u,r,o _ _ d⟩
theorem AE.bound {l:List (List Bool)} (h:AE w ok v l):AE w (fun b=>ok b/\b<w.heap.size) v l:=Each.bound h (fun _ _ h=>AO.bound h)
theorem AT.bound {l:List (List Int)} (h:AT w ok v l):AT w (fun b=>ok b/\b<w.heap.size) v l:=Each.bound h (fun _ _ h=>zk.bound h)
theorem Bd.bound {l:List (List Int×List Int)} (h:Bd w ok v l):Bd w (fun b=>ok b/\b<w.heap.size) v l:=by
 obtain ⟨vs,d,he⟩:=h;refine ⟨vs,d.bound (by decide),fun i x o=>?_⟩;obtain ⟨s,u1,u2,h0,h1,h2,i1,i2⟩:=he i x o;exact ⟨s,u1,u2,h0,h1,h2,i1.bound,i2.bound⟩
theorem zL.bound {m:MZ} (h:zL w ok v m):zL w (fun b=>ok b/\b<w.heap.size) v m:=by
 obtain ⟨f,u,t,rfl,h1,h2,d⟩:=h;exact ⟨f,u,t,rfl,h1.bound,h2.bound,d.bound⟩
theorem AQ.bound {g gu:Nat} {m:MZ} {ch us:List Int} {ps:List (List Int)} {f u t vc vp:Value} (h:AQ w ok g m ch ps us f u t vc vp gu):AQ w (fun b=>ok b/\b<w.heap.size) g m ch ps us f u t vc vp gu:=
 ⟨h.blk,⟨h.okg,zb h.blk⟩,h.maze.bound,h.ch.bound,h.ps.bound,⟨h.oku,zb h.us⟩,h.us⟩
end
end
section
open Go.RowKit Go.Shelf
attribute [local go_sem] Oper.semAt_some
attribute [local go_sem ↓] Go.wp_at_zero Go.wp_at_succ
theorem cloneJ_calls {ok:Nat->Prop} {v:Value} (w:World) (h:zk w ok v l) (J:l.length<=1000000000000):
  Calls Tryz.prog 55 #[v] w fun e w'=>∃v',e=.returned v'/\Mk w w' v' l:=by
 have H:=zh h;have z:=nilEq 24 3 Tryz.underlying24;obtain ⟨A,c,rfl,I,o⟩:=h;rcases A with _ | a
 ·have d:l=[]:=by
   rcases DG l.length with h | h
   ·exact Dq h
   ·obtain ⟨b,off,e,_⟩:=o.2 h;cases e
  subst d;clear o
  go_enter Tryz.func55,Tryz.ntmps55
  go_wp2_with fail
  go_ret;exact ⟨_,rfl,Mk.nil _⟩
 ·clear o;have K:=za.refl w
  go_enter Tryz.func55,Tryz.ntmps55
  go_wp2_with (at_builtin;refine Cb (ok:=ok) rfl _ _ _ rfl w.heap.size [] l _ _ rfl rfl (own_empty w w.heap.size (CY _)) (H.out.below ((za.refl w).alloc _)) ?d1 ?d2 ?_)
  case d1=>simp
  case d2=>simp;omega
  intro v' w1 D r _;have E:Hid (Mk w w1 v' l):=⟨D,AM ((za.refl w).alloc _) r (by simp) (fun k G=>slice_own G)⟩;clear D r
  go_wp2_with fail
  go_ret;exact ⟨_,rfl,E.out⟩
theorem Aj.apart {w:World} {ok:Nat->Prop} {size n:Nat} {A:Option Addr} {xs:List Value} {r:Loop} (h:Aj w ok size A n xs) (E:0<size) (z:w.heap[b]?=some (.loop r)):Aj w (fun k=>ok k/\k≠b) size A n xs:=by
 refine ⟨h.1,fun o=>?_⟩;obtain ⟨k,off,e,D,d⟩:=h.2 o;have h0:0<xs.length:=by rw [h.1];exact Nat.mul_pos o E
 refine ⟨k,off,e,⟨D,?_⟩,d⟩;rintro rfl;have h1:=d 0 _ (CW h0);unfold World.cell? at h1;simp only [z] at h1;cases h1
theorem zk.apart {w:World} {ok:Nat->Prop} {v:Value} {l:List Int} {b:Nat} {r:Loop} (h:zk w ok v l) (d:w.heap[b]?=some (.loop r)):zk w (fun k=>ok k/\k≠b) v l:=by
 obtain ⟨A,c,e,o,z⟩:=h;exact ⟨A,c,e,o,z.apart (by decide) d⟩
theorem An:Tryz.prog.follows .mixedOrders=true:=by kernel_rfl
end
section
open Go.RowKit
def Ao (m:MZ) (ch:List Int):List (List Int):=ch.foldl (AK m) (ps0 m)
def cand (m:MZ) (ch:List Int):List Int:=Bu m (Ao m ch) ch
def cmpC (m:MZ) (ch:List Int):Bool:=cmpB m (Ao m ch)
theorem psOf_nil (m:MZ):Ao m []=ps0 m:=rfl
theorem psOf_snoc (m:MZ) (ch:List Int) (n:Int):Ao m (ch++[n])=AK m (Ao m ch) n:=by simp [Ao,List.foldl_append]
section
variable {m:MZ} {ps:List (List Int)} {us us':List Int}
theorem dec_congr (h:∀x,x∈us↔x∈us') (n:Int):decide (n∈us)=decide (n∈us'):=by rw [decide_eq_decide];exact h n
theorem candL_congr (h:∀x,x∈us↔x∈us'):Bu m ps us=Bu m ps us':=by
 unfold Bu;simp only [zx,dec_congr h]
 have:(fun n=>zx m us (ps.length - 1) (ps.getD (ps.length - 1) []).dropLast (m.tasks.getD (ps.length - 1) ([],[])).1 n)=(fun n=>zx m us' (ps.length - 1) (ps.getD (ps.length - 1) []).dropLast (m.tasks.getD (ps.length - 1) ([],[])).1 n):=by
  funext n;simp only [zx,dec_congr h]
 have h2:zx m us (ps.length - 1) (ps.getD (ps.length - 1) []).dropLast (m.tasks.getD (ps.length - 1) ([],[])).1=zx m us' (ps.length - 1) (ps.getD (ps.length - 1) []).dropLast (m.tasks.getD (ps.length - 1) ([],[])).1:=this;rw [h2]
end
inductive zG (m:MZ):List Int->Prop
 | nil:zG m []
 | snoc {ch:List Int} {n:Int}:zG m ch->n∈cand m ch->zG m (ch++[n])
theorem BJ {m:MZ} {ch:List Int} {n:Int} (h:n∈cand m ch):cmpC m ch=false:=by
 unfold cand Bu at h;unfold cmpC
 cases d:cmpB m (Ao m ch)
 ·rfl
 ·rw [if_pos d] at h;cases h
theorem Bo {m:MZ} {ps:List (List Int)} (h:cmpB m ps=false):0<m.tasks.length:=by
 rcases DG m.tasks.length with h0 | h0
 ·unfold cmpB at h;rw [Db h0] at h;cases h
 ·exact h0
structure PsOk (m:MZ) (ch:List Int) (ps:List (List Int)):Prop where
 pl:ps.length<=m.tasks.length
 pn:0<m.tasks.length->0<ps.length
 fl:ps.flatten=ch
theorem getD_mem {α:Type} {l:List (List α)} (h:k<l.length):l.getD k []∈l:=by
 rw [CX,CW h];exact CZ h
theorem addN_eq {ps:List (List Int)} (hp:0<ps.length) (n:Int):∃qs p,ps=qs++[p]/\addN ps n=qs++[p++[n]]:=by
 rcases List.eq_nil_or_concat ps with rfl | ⟨qs,p,rfl⟩
 ·simp at hp
 ·refine ⟨qs,p,by simp,?_⟩;unfold addN;rw [List.concat_eq_append,Dh,Dx,Nat.add_sub_cancel,List.set_append_right _ _ (CY _)];simp
theorem BP {ps:List (List Int)} {n:Int}:(addN ps n).length=ps.length:=by unfold addN;simp
theorem addN_flat {ps:List (List Int)} (hp:0<ps.length) (n:Int):(addN ps n).flatten=ps.flatten++[n]:=by
 obtain ⟨qs,p,rfl,h⟩:=addN_eq hp n;rw [h];simp
theorem withPs_flat {m:MZ} {ps:List (List Int)} (hp:0<ps.length) (n:Int):(AK m ps n).flatten=ps.flatten++[n]:=by
 unfold AK
 split
 ·rw [List.flatten_append,addN_flat hp];simp
 ·exact addN_flat hp n
theorem PsOk.step {m:MZ} {ch:List Int} {ps:List (List Int)} (h:PsOk m ch ps) (ht:0<m.tasks.length) (n:Int):PsOk m (ch++[n]) (AK m ps n):=by
 have hp:=h.pn ht;refine ⟨?_,fun _=>?_,?_⟩
 ·unfold AK
  split
  ·rename_i h1
   simp only [Dh,BP,Dx];omega
  ·rw [BP];exact h.pl
 ·unfold AK
  split <;> simp [BP] <;> omega
 ·rw [withPs_flat hp,h.fl]
theorem psOk_nil (m:MZ):PsOk m [] (Ao m []):=by
 rw [psOf_nil];unfold ps0
 split
 ·rename_i h;exact ⟨by simp,fun d=>by omega,rfl⟩
 ·rename_i h;exact ⟨by simp;omega,fun _=>by simp,rfl⟩
theorem zG.psOk {m:MZ} {ch:List Int} (h:zG m ch):PsOk m ch (Ao m ch):=by
 induction h with
 | nil=>exact psOk_nil m
 | snoc h d ih=>rw [psOf_snoc];exact ih.step (Bo (BJ d)) _
theorem mem_flat_last {ps:List (List Int)} (o:(ps.getD k []).getLast?=some x):x∈ps.flatten:=by
 have h1:x∈ps.getD k []:=List.mem_of_getLast? o;by_cases d:k<ps.length
 ·exact List.mem_flatten.2 ⟨_,getD_mem d,h1⟩
 ·rw [CX,Dr (by omega)] at h1;cases h1
theorem cand_range {m:MZ} (g:AF m) {ch:List Int} (E:∀x∈ch,0<=x/\x<m.n) (hf:(Ao m ch).flatten=ch) {n:Int} (h:n∈cand m ch):0<=n/\n<m.n/\n∉ch:=by
 have ht:=Bo (BJ h);have o:=BJ h;unfold cmpC at o;unfold cand Bu at h;rw [if_neg (by rw [o];simp)] at h
 split at h
 ·obtain ⟨h1,h2⟩:=DP.1 h;have d:=mem_sortL.1 (CM h1);simp only [Dm,Bool.not_eq_true',Dw] at h2;by_cases D:(Ao m ch).length - 1<m.tasks.length
  ·rw [CX,CW D] at d;have:=g.tn _ (CZ D) n (.inl d);exact ⟨this.1,this.2,h2.2⟩
  ·rw [CX,Dr (by omega)] at d;cases d
 ·rename_i x G
  obtain ⟨h1,h2⟩:=DP.1 h;have z:x∈ch:=by rw [<-hf];exact mem_flat_last G
  have r:=E x z;have d:=Bc g.dim r.1 r.2 h1;unfold zx at h2;simp only [Dm,Bool.not_eq_true',Dw] at h2;exact ⟨d.1,d.2,h2.1.1.2⟩
theorem zG.range {m:MZ} (g:AF m) {ch:List Int} (h:zG m ch):(∀x∈ch,0<=x/\x<m.n)/\ch.Nodup:=by
 induction h with
 | nil=>exact ⟨fun x hx=>absurd hx DO,List.nodup_nil⟩
 | snoc h z ih=>
  have d:=cand_range g ih.1 h.psOk.fl z;refine ⟨fun x hx=>?_,?_⟩
  ·rcases DK.1 hx with hx | hx
   ·exact ih.1 x hx
   ·rw [DD] at hx;subst hx;exact ⟨d.1,d.2.1⟩
  ·rw [List.nodup_append];refine ⟨ih.2,by simp,fun a r b o=>?_⟩;rw [DD] at o;subst o;rintro rfl;exact d.2.2 r
theorem zG.len {m:MZ} (g:AF m) {ch:List Int} (h:zG m ch):ch.length<=m.n.toNat:=BL (h.range g).2 m.n (h.range g).1
theorem flat_le {ps:List (List Int)} {p:List Int} (h:p∈ps):p.length<=ps.flatten.length:=by
 induction ps with
 | nil=>cases h
 | cons q qs ih=>
  rw [List.flatten_cons,Dh];rcases DJ.1 h with rfl | h
  ·omega
  ·have:=ih h;omega
theorem sok_of {m:MZ} (g:AF m) (o:Lens m) {ch:List Int} {ps:List (List Int)} (h:PsOk m ch ps) (r:∀x∈ch,0<=x/\x<m.n) (d:ch.length<=1000):SOk m ch ps:=
 ⟨g,o,h.pl,h.pn,fun p hp=>by have:=flat_le hp;rw [h.fl] at this;omega,fun p hp x z=>r x (by rw [<-h.fl];exact List.mem_flatten.2 ⟨p,hp,z⟩),d⟩
theorem zG.len300 {m:MZ} (g:AF m) {ch:List Int} (h:zG m ch):ch.length<=300:=by
 have h1:=h.len g;have h2:=g.dim.n1;have d:m.n=m.w*m.h*m.l:=rfl;omega
theorem zG.sok {m:MZ} (g:AF m) (d:Lens m) {ch:List Int} (h:zG m ch):SOk m ch (Ao m ch):=
 sok_of g d h.psOk (h.range g).1 (by have:=h.len300 g;omega)
theorem zG.sok1 {m:MZ} (g:AF m) (o:Lens m) {ch:List Int} (h:zG m ch) {n:Int} (d:n∈cand m ch):SOk m (ch++[n]) (addN (Ao m ch) n):=by
 have h1:=h.psOk;have ht:=Bo (BJ d);have h2:=zG.snoc h d;refine sok_of g o ⟨by rw [BP];exact h1.pl,fun h=>by rw [BP];exact h1.pn h,by rw [addN_flat (h1.pn ht),h1.fl]⟩ (h2.range g).1 (by have:=h2.len300 g;omega)
theorem cand_len {m:MZ} (o:Lens m) (ch:List Int):(cand m ch).length<=400000000000:=by
 unfold cand Bu
 split
 ·simp
 ·split
  ·refine Da (DA _ _) (Da (compact_len _) ?_);unfold BA;rw [List.length_mergeSort];by_cases d:(Ao m ch).length - 1<m.tasks.length
   ·rw [CX,CW d];exact (o.tl _ (CZ d)).1
   ·rw [CX,Dr (by omega)];simp
  ·refine Da (DA _ _) ?_;have:=Cl m;exact Da (this _) (by omega)
structure RS where
 ch:List Int
 done:Bool
 steps:Int
theorem zG.take {m:MZ} {ch:List Int} (h:zG m ch) (k:Nat):zG m (ch.take k):=by
 induction h with
 | nil=>simpa using zG.nil
 | @snoc ch n h d ih=>
  rcases Dv ch.length k with hk | hk
  ·rw [List.take_of_length_le (by simp;omega)];exact .snoc h d
  ·rw [List.take_append_of_le_length hk];exact ih
theorem zG.at {m:MZ} {ch:List Int} (h:zG m ch) {k:Nat} (d:k<ch.length):ch[k]∈cand m (ch.take k):=by
 induction h with
 | nil=>simp at d
 | @snoc ch n h o ih=>
  rcases Dv k ch.length with h1 | h1
  ·rw [List.getElem_append_left h1,List.take_append_of_le_length (by omega)];exact ih h1
  ·have h2:k=ch.length:=by simp at d;omega
   subst h2;rw [List.getElem_append_right (CY _),List.take_append_of_le_length (CY _),Dl];simpa using o
end
section
open Go.RowKit
attribute [local go_sem ↓] Go.wp_at_zero Go.wp_at_succ
def StC (w:World) (ok:Nat->Prop) (p:Nat) (m:MZ) (ch:List Int):Prop:=
 ∃us f u t vc vp gu,(∀x,x∈us↔x∈ch)/\AQ w ok p m ch (Ao m ch) us f u t vc vp gu
section
variable {w w':World} {ok ok':Nat->Prop} {p:Nat} {m:MZ} {ch:List Int}
theorem StC.keep (h:StC w ok p m ch) (d:zK ok w w'):StC w' ok p m ch:=by
 obtain ⟨us,f,u,t,vc,vp,gu,h1,h2⟩:=h;exact ⟨us,f,u,t,vc,vp,gu,h1,h2.keep d⟩
theorem StC.weaken (h:StC w ok p m ch) (d:∀b,ok b->ok' b):StC w ok' p m ch:=by
 obtain ⟨us,f,u,t,vc,vp,gu,h1,h2⟩:=h;exact ⟨us,f,u,t,vc,vp,gu,h1,h2.weaken d⟩
theorem StC.bound (h:StC w ok p m ch):StC w (fun b=>ok b/\b<w.heap.size) p m ch:=by
 obtain ⟨us,f,u,t,vc,vp,gu,h1,h2⟩:=h;exact ⟨us,f,u,t,vc,vp,gu,h1,h2.bound⟩
theorem StC.ext (h:StC w ok p m ch) (d:za w w'):StC w' ok p m ch:=h.keep (zK.of_below d)
end
theorem begin_c {ok:Nat->Prop} {v:Value} {m:MZ} (w:World) (hm:zL w ok v m) (d:m.tasks.length<=100000):
  Calls Tryz.prog 90 #[v] w fun e w'=>∃p,e=.returned (.pointer (some ⟨p,0,none⟩))/\za w w'/\StC w' (fun b=>ok b\/w.heap.size<=b) p m []:=by
 refine (begin_calls w hm d).mono ?_;rintro e w' ⟨v',rfl,o,g,f,u,t,vc,vp,gu,rfl,h⟩;exact ⟨g,rfl,o,[],f,u,t,vc,vp,gu,fun _=>Iff.rfl,h⟩
theorem candidates_c {ok:Nat->Prop} {m:MZ} {ch:List Int} {p:Nat} (w:World) (h:StC w ok p m ch) (g:AF m) (o:Lens m) (d:zG m ch):
  Calls Tryz.prog 91 #[.pointer (some ⟨p,0,none⟩)] w fun e w'=>∃v',e=.returned v'/\Mk w w' v' (cand m ch):=by
 obtain ⟨us,f,u,t,vc,vp,gu,h1,h2⟩:=h;unfold cand;rw [<-candL_congr h1];exact candidates_calls w h2 (d.sok g o)
theorem with_c {ok:Nat->Prop} {m:MZ} {ch:List Int} {p:Nat} {n:Int} (w:World) (h:StC w ok p m ch) (g:AF m) (o:Lens m) (d:zG m ch) (r:n∈cand m ch):
  Calls Tryz.prog 92 #[.pointer (some ⟨p,0,none⟩),.int .i64 n] w fun e w'=>∃q,e=.returned (.pointer (some ⟨q,0,none⟩))/\za w w'/\StC w' (fun b=>(ok b/\b<w.heap.size)\/w.heap.size<=b) q m (ch++[n]):=by
 obtain ⟨us,f,u,t,vc,vp,gu,h1,h2⟩:=h;have hp:=d.psOk.pn (Bo (BJ r));refine (with_calls n w h2.bound (d.sok g o) (d.sok1 g o r) hp).mono ?_;rintro e w' ⟨v',rfl,E,us',z,q,f',u',t',vc',vp',gu',rfl,D⟩;refine ⟨q,rfl,E,us',f',u',t',vc',vp',gu',fun x=>?_,?_⟩
 ·rw [z,h1,DK,DD];exact Or.comm
 ·rw [psOf_snoc];exact D
structure zd (X:Nat->Prop) (w w':World):Prop where
 os:w'.os=w.os
 tape:w'.tape=w.tape
 output:w'.output=w.output
 size:w.heap.size<=w'.heap.size
 block:∀b,b<w.heap.size->¬ X b->w'.heap[b]?=w.heap[b]?
theorem zd.refl (X:Nat->Prop) (w:World):zd X w w:=⟨rfl,rfl,rfl,CY _,fun _ _ _=>rfl⟩
theorem zd.of_ext {X:Nat->Prop} {w w':World} (h:za w w'):zd X w w':=⟨h.os,h.tape,h.output,h.size,fun b d _=>h.block b d⟩
theorem zd.trans {X X':Nat->Prop} {a b c:World} (h:zd X a b) (d:zd X' b c) (D:∀k,k<a.heap.size->X' k->X k):zd X a c:=
 ⟨d.os.trans h.os,d.tape.trans h.tape,d.output.trans h.output,Da h.size d.size,fun k o z=>(d.block k (Dz o h.size) (fun r=>z (D k o r))).trans (h.block k o z)⟩
theorem zd.same {X ok:Nat->Prop} {w w':World} (h:zd X w w') (r:∀b,ok b->¬ X b):zK ok w w':=fun b o d=>h.block b d (r b o)
theorem zd.below {X:Nat->Prop} {w w':World} (h:zd X w w') (r:B<=w.heap.size) (d:∀b,X b->B<=b):Below B w w':=
 ⟨h.os,h.tape,h.output,h.size,fun b z=>h.block b (by omega) (fun o=>by have:=d b o;omega)⟩
end
section
open Go.RowKit Go.Shelf
attribute [local go_sem ↓] Go.wp_at_zero Go.wp_at_succ
abbrev Bui (B:Nat) (bs:List Value) (w:World):Prop:=Lib.IsBuilderF 147 5 B B bs w
abbrev BuiU (B:Nat) (bs:List Value) (w:World):Prop:=Lib.BuilderAtF 147 5 B B (.pointer (some ⟨B,0,none⟩)) bs w
theorem Bui.old {w w':World} (h:Bui B bs w) (d:za w w'):Bui B bs w':=by
 have f:∀p,Lib.BuilderAtF 147 5 B B p bs w->Lib.BuilderAtF 147 5 B B p bs w':=fun p h=>by
  have r:=h.lt;obtain ⟨D,v,E,o,z⟩:=h;exact ⟨D,v,(d.block B r).trans E,o.kept (row:=none) ⟨d.os,d.tape,d.output,d.size,fun k G _=>d.block k G⟩ (by cases h:v.ownBlock <;> simp),z⟩
 exact h.imp (f _) (f _)
theorem Bui.new (w:World):Bui w.heap.size [] (w.alloc (.cells #[.pointer none,.slice none 0 0] 147)):=Lib.IsBuilderF.of (Lib.fresh_isBuilder _ _ w)
theorem ptrInfo:∃j,Tryz.prog.info? 147=some j/\j.size=2:=Option.map_eq_some_iff.1 sExt.sizeBuilder
theorem ccUsed (B:Nat) (w:World) (h0:w.cell? ⟨B,0,none⟩=some (.pointer (some ⟨B,0,none⟩))):Calls Tryz.prog 136 #[.pointer (some ⟨B,0,none⟩)] w fun e w'=>e=.returned (.tuple #[])/\w=w':=by
 obtain ⟨j,d,-⟩:=ptrInfo;have o:=Lib.run_neq_ptr_same w ⟨B,0,none⟩ Tryz.underlying144 d
 go_enter Tryz.func136,Tryz.ntmps136
 go_wp2;exact bodyPost_end (results_none rfl _ _ _) rfl ⟨rfl,rfl⟩
theorem ccNew (B:Nat) (w:World) (h0:w.cell? ⟨B,0,none⟩=some (.pointer none)) (r:w.shape? B=some (147,2)) (hf:w.frozen? ⟨B,0,none⟩=false):Calls Tryz.prog 136 #[.pointer (some ⟨B,0,none⟩)] w fun e w'=>e=.returned (.tuple #[])/\w'=w.setCell ⟨B,0,none⟩ (.pointer (some ⟨B,0,none⟩)):=by
 obtain ⟨j,o,d⟩:=ptrInfo;have c1:=Lib.run_to_unsafe w ⟨B,0,none⟩ Tryz.underlying144 Tryz.underlying182 o (by rw [d];decide) r (Nat.zero_lt_succ 1);have c2:=run_callFunc_extern Tryz.func150 (by kernel_rfl) (by kernel_rfl) (by kernel_rfl) (e:=Extern.AbiNoEscape.same) (by kernel_rfl) (args:=#[.pointer (some ⟨B,0,none⟩)]) (w:=w);have c3:=Lib.run_from_unsafe w ⟨B,0,none⟩ Tryz.underlying182 Tryz.underlying144 o r sExt.liesBuilder;rw [Lib.run_noEscape] at c2
 go_enter Tryz.func136,Tryz.ntmps136
 go_wp2;exact bodyPost_end (results_none rfl _ _ _) rfl ⟨rfl,rfl⟩
theorem cc_calls {w:World} (h:Bui B bs w):Calls Tryz.prog 136 #[.pointer (some ⟨B,0,none⟩)] w fun e w'=>e=.returned (.tuple #[])/\BuiU B bs w'/\Below B w w':=by
 rcases h with h | h
 ·refine (ccNew B w h.cell0 h.shape h.frozen0).mono ?_;rintro e w' ⟨rfl,rfl⟩;exact ⟨rfl,h.used _,(Below.refl B w).setCell (p:=⟨B,0,none⟩) (CY _) _⟩
 ·refine (ccUsed B w h.cell0).mono ?_;rintro e w' ⟨rfl,rfl⟩;exact ⟨rfl,h,Below.refl B w⟩
theorem lt_heap {w:World} {o:Obj} (h:w.heap[b]?=some o):b<w.heap.size:=(DN.1 h).1
theorem wByte_calls {w:World} (c:Int) (h:Bui B bs w) (hl:bs.length+1<=140737488355328):
  Calls Tryz.prog 116 #[.pointer (some ⟨B,0,none⟩),.int .u8 c] w fun e w'=>e=.returned .nilIface/\BuiU B (bs++[.int .u8 c]) w'/\Below B w w':=by
 obtain ⟨i0,V,K,L,M⟩:=info_parts sExt.infoByte;have H:=zh h;clear h
 go_enter Tryz.func116,Tryz.ntmps116
 go_wp2_with fail
 refine (cc_calls H.out).mono ?_;rintro e w1 ⟨rfl,⟨O,v,z,o,I⟩,E⟩;have c1:w1.cell? ⟨B,1,none⟩=some v:=by rw [Lib.cell_of_heap z];rfl
 have G:=lt_heap z
 go_wp2_with (at_builtin;refine wpList_append_ownF _ rfl _ _ 145 rfl B 5 i0 (.int .u8 0) 1 1 Tryz.underlying145 V K L M rfl (by decide) _ _ _ rfl (o.alloc _) ⟨w1.heap.size,0,none⟩ 1 1 [.int .u8 c] rfl rfl ?c1 ?c2 ?c3 ?c4 ?c5 ?_)
 case c1=>
  intro j u D
  match j,D with
  | 0,D=>simp at D;subst D;simp [Addr.add]
 case c2=>intro u U;simp at U;subst U;rfl
 case c3=>unfold maxLen;omega
 case c4=>omega
 case c5=>simp;omega
 intro v' w2 d Q _
 have r:w2.heap[B]?=some (.cells #[.pointer (some ⟨B,0,none⟩),v] 147 (0,0)):=by
  rw [Q.block B (by simp;omega) (fun e=>I e.symm),Lib.alloc_old w1 _ B G];exact z
 have d1:w2.cell? ⟨B,1,none⟩=some v:=by rw [Lib.cell_of_heap r];rfl
 have f1:w2.frozen? ⟨B,1,none⟩=false:=Lib.frozen_of_heap r 1
 obtain ⟨ao,n',cap,rfl⟩:∃ao n' cap,v'=.slice ao n' cap:=by
  rcases d.2 with ⟨J,_⟩ | ⟨g,cap,cur,fz,J,_⟩
  ·exact ⟨_,_,_,J⟩
  ·exact ⟨_,_,_,J⟩
 go_wp2;go_ret;refine ⟨rfl,Lib.BuilderAtF.put (T:=147) (e:=5) O r (bs':=bs++[.int .u8 c]) (by simpa using d) (by decide),?_⟩;exact ((E.alloc (by omega) _).grown Q (by simp;omega) (fun k hk=>(o.lt k hk).1)).setCell (p:=⟨B,1,none⟩) O _
theorem wString_calls {w:World} (s:ByteArray) (h:Bui B bs w) (V:bs.length+s.size<=140737488355328):
  Calls Tryz.prog 117 #[.pointer (some ⟨B,0,none⟩),.string s] w fun e w'=>e=.returned (.tuple #[.int .i64 s.size,.nilIface])/\BuiU B (bs++Lib.strCells s) w'/\Below B w w':=by
 obtain ⟨i0,Q,J,K,L⟩:=info_parts sExt.infoByte;have H:=zh h;clear h
 go_enter Tryz.func117,Tryz.ntmps117
 go_wp2_with fail
 refine (cc_calls H.out).mono ?_;rintro e w1 ⟨rfl,⟨M,v,z,o,G⟩,D⟩;have c1:w1.cell? ⟨B,1,none⟩=some v:=by rw [Lib.cell_of_heap z];rfl
 have E:=lt_heap z
 go_wp2_with (at_builtin;refine Lib.wpList_append_own_stringF _ rfl _ _ 145 9 rfl B 5 i0 Tryz.underlying145 Tryz.underlying9 Q J K L _ _ _ rfl o s rfl ?c3 ?c4 ?c5 ?_)
 case c3=>unfold maxLen;omega
 case c4=>omega
 case c5=>omega
 intro v' w2 d O _
 have r:w2.heap[B]?=some (.cells #[.pointer (some ⟨B,0,none⟩),v] 147 (0,0)):=by
  rw [O.block B E (fun e=>G e.symm)];exact z
 have d1:w2.cell? ⟨B,1,none⟩=some v:=by rw [Lib.cell_of_heap r];rfl
 have f1:w2.frozen? ⟨B,1,none⟩=false:=Lib.frozen_of_heap r 1
 obtain ⟨ao,n',cap,rfl⟩:∃ao n' cap,v'=.slice ao n' cap:=by
  rcases d.2 with ⟨I,_⟩ | ⟨g,cap,cur,fz,I,_⟩
  ·exact ⟨_,_,_,I⟩
  ·exact ⟨_,_,_,I⟩
 go_wp2
 go_ret2
 refine ⟨rfl,Lib.BuilderAtF.put (T:=147) (e:=5) M r (bs':=bs++Lib.strCells s) (by simpa [Lib.strCells_length] using d) (by decide),?_⟩;exact (D.grown O (by omega) (fun k U=>(o.lt k U).1)).setCell (p:=⟨B,1,none⟩) M _
theorem bOut_calls {l:List UInt8} {w:World} (h:Bui B (Lib.byteCells l) w) (d:B<=w.heap.size):Calls Tryz.prog 118 #[.pointer (some ⟨B,0,none⟩)] w fun e w'=>e=.returned (.string ⟨l.toArray⟩)/\Below B w w':=
 (Any.Builder_String_any_k sStr sExt B B l w h d).mono fun e w' h=>⟨h.1,h.2.2.1⟩
structure z9 (w:World):Prop where
 tab : Lib.TabIs Tryz.prog w "internal/strconv.uint64pow10" .u64 Lib.pow10Tab
 syn : ∃ tp p, w.var? Tryz.prog "strconv.ErrSyntax" = some #[.iface tp p]
 rng : ∃ tp p, w.var? Tryz.prog "strconv.ErrRange" = some #[.iface tp p]
theorem var_ext {w w':World} (r:za w w') {n:String} {cs:Array Value} (h:w.var? Tryz.prog n=some cs):w'.var? Tryz.prog n=some cs:=by
 unfold World.var? at h⊢
 cases o:Tryz.prog.globalNamed n with
 | none=>rw [o] at h;cases h
 | some g=>
  rw [o] at h;simp only [Option.bind_some] at h⊢
  split at h
  ·rename_i d
   rw [r.block g (lt_heap d),d];exact h
  ·cases h
theorem z9.ext {w w':World} (h:z9 w) (d:za w w'):z9 w':=
 ⟨var_ext d h.tab,h.syn.imp fun _ ⟨p,h⟩=>⟨p,var_ext d h⟩,h.rng.imp fun _ ⟨p,h⟩=>⟨p,var_ext d h⟩⟩
theorem ret_str {a b:List UInt8} (h:a=b):Ending.returned (.string ⟨a.toArray⟩)=.returned (.string ⟨b.toArray⟩):=by rw [h]
def Cp (n:Int):Prop:=-9223372036854775808<=n/\n<=9223372036854775807
theorem grow_ext (w:World) (os:Array Obj):za w (Sort.grow w os):=⟨rfl,rfl,rfl,by simp [Sort.grow],fun k d=>by simp [Sort.grow,Array.getElem?_append,d]⟩
theorem itoa_calls {n:Int} (w:World) (o:z9 w) (d:Cp n):Calls Tryz.prog 80 #[.int .i64 n] w fun e w'=>e=.returned (.string ⟨(Lib.itoa n).toArray⟩)/\za w w':=by
 refine (Any.strconv_Itoa sItoa n d.1 d.2 w o.tab).mono ?_;rintro e w' ⟨rfl,k,os,rfl⟩;exact ⟨rfl,((za.refl w).drewN k).trans (grow_ext _ os)⟩
def wI (n:Int):List UInt8:=Lib.itoa n++[59]
def wL (l:List Int):List UInt8:=91 :: (l.flatMap wI++[93])
theorem By {n:Int} (d:Cp n):(Lib.itoa n).length<=21:=Lib.itoa_length_le n d.1 d.2
theorem wI_len {n:Int} (d:Cp n):(wI n).length<=22:=by have:=By d;simp [wI];omega
theorem wIs_len:∀{l:List Int},(∀x∈l,Cp x)->(l.flatMap wI).length<=22*l.length
 | [],_=>by simp
 | x :: l,h=>by
  have h1:=wI_len (h x (DH ..));have h2:=wIs_len fun y d=>h y (Dt x d)
  rw [List.flatMap_cons,Dh,DV];omega
theorem Ab {x y:List UInt8} {w:World} (h:x.length+y.length<=9223372036854775807):(Op.stringOp .add ⟨x.toArray⟩ ⟨y.toArray⟩).run Tryz.prog w=.ok (.string ⟨(x++y).toArray⟩) w:=by
 rw [run_string_add_sum w _ _ (by simpa [ByteArray.size] using h),ByteArray.mk_append_mk]
theorem wInt_calls {n:Int} (w:World) (E:z9 w) (r:Cp n):Calls Tryz.prog 36 #[.int .i64 n] w fun e w'=>e=.returned (.string ⟨(wI n).toArray⟩)/\za w w':=by
 have z:=zh (itoa_calls w E r);have D:=By r;obtain ⟨d,o⟩:=DX (Lib.itoa n);have G:Hid (wI n=d++[59]):=by rw [o];rfl
 rw [<-o] at D z;have J:∀w,(Op.stringOp .add ⟨d.toArray⟩ ⟨#[59]⟩).run Tryz.prog w=.ok (.string ⟨(d++[59]).toArray⟩) w:=fun w=>Ab (y:=[59]) (by simp;omega)
 clear o D E r
 go_enter Tryz.func36,Tryz.ntmps36
 go_wp2_with fail
 refine z.out.mono ?_;rintro e w1 ⟨rfl,I⟩
 go_wp2_with fail
 go_ret;exact ⟨ret_str G.out.symm,I⟩
theorem bui_bytes (l:List UInt8) (c:UInt8):Lib.byteCells l++[Value.int .u8 c.toNat]=Lib.byteCells (l++[c]):=by simp [Lib.byteCells]
theorem bui_str (l s:List UInt8):Lib.byteCells l++Lib.strCells ⟨s.toArray⟩=Lib.byteCells (l++s):=by simp [Lib.byteCells,Lib.strCells]
theorem bui_len (l:List UInt8):(Lib.byteCells l).length=l.length:=by simp [Lib.byteCells]
theorem wInts_calls {ok:Nat->Prop} {v:Value} (w:World) (hv:z9 w) (hl:zk w ok v l) (hn:∀x∈l,Cp x) (b1:l.length<=1000000000000):Calls Tryz.prog 81 #[v,.func (.func 36) #[] #[]] w fun e w'=>e=.returned (.string ⟨(wL l).toArray⟩)/\za w w':=by
 have HL:=zh hl;have HV:=zh hv;have HN:=zh hn;obtain ⟨A,c,rfl,hc,hr⟩:=hl;clear hn hv hr
 go_enter Tryz.func81,Tryz.ntmps81
 go_wp2_with fail
 have U:=Bui.new w;refine (wByte_calls 91 U (by simp)).mono ?_;rintro e w1 ⟨rfl,V,a0⟩;have M:Hid (Bui w.heap.size (Lib.byteCells [91]) w1):=.inr V;have O:Hid (za w w1):=((Below.refl _ _).alloc (CY _) _).trans a0;clear U V a0
 go_wp2_with fail
 go_loopw [11] (fun i wr=>∃k:Nat,k<=l.length/\i=.int .i64 k/\Hid (Bui w.heap.size (Lib.byteCells (91 :: (l.take k).flatMap wI)) wr)/\Hid (za w wr)) (fun i _=>l.length - (intOf i).toNat)
 case atStart=>exact ⟨0,Do _,rfl,M,O⟩
 clear M O
 case round=>
  obtain ⟨k,hk,rfl,HB,HE⟩:=hrel
  have d:(91 :: (l.take k).flatMap wI).length<=1+22*l.length:=by
   have h1:=wIs_len (l:=l.take k) fun x L=>HN.out x (List.mem_of_mem_take L)
   simp at h1⊢;omega
  by_cases J:k<l.length
  ·have hR:=HL.out.below HE.out;obtain ⟨A',c',e',-,hr⟩:=hR;injection e' with e1 e2 e3;subst e1;obtain ⟨b,off,rfl,-,r⟩:=Am hr J J;obtain ⟨x,L⟩:=DX (l[k]);rw [<-L] at r;have K:Cp x:=by rw [L];exact HN.out _ (CZ _)
   have hs:(l.take (k+1)).flatMap wI=(l.take k).flatMap wI++wI x:=by rw [Dg J,List.flatMap_append,L];simp
   have HS:=zh hs;have HX:=zh (wI_len K);have HC:=zh (wInt_calls wr (HV.out.ext HE.out) K);have HR:=zh d;clear L K hs hr e2 e3 d
   go_wp2_with fail
   refine HC.out.mono ?_;rintro e w2 ⟨rfl,I⟩;have o:=HB.out.old I;have z:(Lib.byteCells (91 :: (l.take k).flatMap wI)).length+(wI x).toArray.size<=140737488355328:=by have:=HX.out;have:=HR.out;rw [bui_len];simp at this⊢;omega
   go_wp2_with fail
   refine (wString_calls ⟨(wI x).toArray⟩ o z).mono ?_;rintro e w3 ⟨rfl,G,D⟩;rw [bui_str] at G;have a6:Hid (Bui w.heap.size (Lib.byteCells (91 :: (l.take (k+1)).flatMap wI)) w3):=by rw [HS.out];exact .inr G
   have a7:Hid (za w w3):=Below.trans (HE.out.trans I) D;clear o z G D I r
   go_wp2_with fail
   go_roundw
   case rel=>exact ⟨k+1,by omega,by go_num,a6,a7⟩
   case measure=>simp [intOf];omega
  ·obtain rfl:k=l.length:=by omega
   rw [Dl] at HB d;have z:(Lib.byteCells (91 :: l.flatMap wI)).length+1<=140737488355328:=by rw [bui_len];omega
   have a8:=zh z;clear d z
   go_wp2_with fail
   refine (wByte_calls 93 HB.out a8.out).mono ?_;rintro e w2 ⟨rfl,o,a1⟩
   have E:Bui w.heap.size (Lib.byteCells (wL l)) w2:=by
    have:=o;rw [show Value.int .u8 93=Value.int .u8 (93:UInt8).toNat from rfl,bui_bytes] at this;exact .inr this
   have a5:=zh E;have Q:Hid (za w w2):=Below.trans HE.out a1;clear o E a1
   go_wp2_with fail
   refine (bOut_calls a5.out Q.out.size).mono ?_;rintro e w3 ⟨rfl,D⟩
   go_wp2_with fail
   go_ret;exact ⟨rfl,Below.trans Q.out D⟩
theorem wireInts_calls {ok:Nat->Prop} {v:Value} (w:World) (z:z9 w) (o:zk w ok v l) (r:∀x∈l,Cp x) (d:l.length<=1000000000000):Calls Tryz.prog 37 #[v] w fun e w'=>e=.returned (.string ⟨(wL l).toArray⟩)/\za w w':=by
 have D:=zh (wInts_calls w z o r d);obtain ⟨A,c,rfl,-,-⟩:=o;clear z r
 go_enter Tryz.func37,Tryz.ntmps37
 go_wp2_with fail
 refine D.out.mono ?_;rintro e w1 ⟨rfl,E⟩
 go_wp2_with fail
 go_ret;exact ⟨rfl,E⟩
end
section
open Go.RowKit
section
variable {w w' W:World} {X Y:Nat->Prop} {g gr cap:Nat} {m:MZ} {s:RS} {ptrs:List Nat} {ch:List Int}
theorem zd.tr {X:Nat->Prop} {b:World} (h:zd X a b) (d:zd X b c):zd X a c:=h.trans d (fun _ _ h=>h)
theorem zd.ext_r {X:Nat->Prop} {b:World} (h:zd X a b) (d:za b c):zd X a c:=h.tr (zd.of_ext d)
end
end
end Go.Proofs.YtcnaogdgjkpkmaaGreatDoor
