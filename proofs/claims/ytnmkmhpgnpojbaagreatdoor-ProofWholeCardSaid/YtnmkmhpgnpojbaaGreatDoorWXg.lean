import Derived.Test.YtnmkmhpgnpojbaaGreatDoorWXf
import Derived.Shelf.SlicesE.DeleteFunc
import Derived.Ground.SlgfProg
set_option linter.unusedVariables false
set_option linter.unusedSimpArgs false
set_option maxRecDepth 100000
set_option maxHeartbeats 16000000
namespace Go.Proofs.YtnmkmhpgnpojbaaGreatDoor
variable {x y:Int} {l q s:List Int} {m:MZ} {B g gn:Nat} {w' wr:World}
section
open Go.RowKit
attribute [local go_sem ↓] Go.wp_at_zero Go.wp_at_succ
def zD (m:MZ) (us:List Int) (t:Nat) (q from_:List Int) (n:Int):Bool:=zf m t n && !decide (n∈us) && !(q.any fun y=>decide (n∈zg m y)) && !decide (n∈from_)
def Bu (m:MZ) (ps:List (List Int)) (us:List Int):List Int:=
 if cmpB m ps=true then []
 else match (ps.getD (ps.length - 1) []).getLast? with
  | none=>(Lib.compact (AG (m.tasks.getD (ps.length - 1) ([],[])).1)).filter fun n=>zf m (ps.length - 1) n && !decide (n∈us)
  | some x=>(zg m x).filter (zD m us (ps.length - 1) (ps.getD (ps.length - 1) []).dropLast (m.tasks.getD (ps.length - 1) ([],[])).1)
theorem mem_sortL:x∈AG l↔x∈l:=by unfold AG;exact (List.mergeSort_perm _ _).mem_iff
theorem compact_len (l:List Int):(Lib.compact l).length<=l.length:=by
 unfold Lib.compact Lib.compactUpTo;rw [Eb];exact Dt (DU _ _) (by simp)
theorem Db (h:x∈Lib.compact l):x∈l:=by
 unfold Lib.compact Lib.compactUpTo at h;obtain ⟨j,o,rfl⟩:=Er.1 h;have d:j<l.length:=by simpa using (Ep.1 o).1
 simp [getElem!_pos,d]
theorem path_cell {w:World} {ok:Nat->Prop} {A:Option Addr} {n c:Nat} (h:zk w ok (.slice A n c) l) {k:Nat} (d:l[k]?=some y):∃b o,A=some ⟨b,o,none⟩/\∀W,zb w W->W.cell? ⟨b,o+k,none⟩=some (.int .i64 y):=by
 obtain ⟨A',c',e,_,E⟩:=h;injection e with e1 e2 e3;subst e1
 have z:k<l.length:=by
  rcases DO k l.length with h | h
  ·exact h
  ·rw [DL h] at d;cases d
 obtain ⟨b,o,e,_,D⟩:=Ao E z z;rw [Do z] at d;injection d with d;rw [d] at D;exact ⟨b,o,e,zb.rule D⟩
structure NR (W wr:World) (gn:Nat) (s:List Int):Prop where
 ext:zb W wr
 set:zu wr gn s
theorem NR.more {W:World} (h:NR W wr gn s) (d:zb wr w'):NR W w' gn s:=⟨h.ext.trans d,h.set.below d⟩
theorem NR.add {W:World} (h:NR W wr gn s) (z:gn=W.heap.size) (o:zu w' gn (ins s x)) (d:wr.grownBy w' (some gn)):NR W w' gn (ins s x):=⟨Am h.ext d h.ext.size (by omega),o⟩
theorem near_step {a:Int}:((∃y'∈q,a∈zg m y')\/a∈zg m y)↔∃y'∈q++[y],a∈zg m y':=by
 constructor
 ·rintro (⟨y',d,o⟩ | h)
  ·exact ⟨y',by simp [d],o⟩
  ·exact ⟨y,by simp,h⟩
 ·rintro ⟨y',d,o⟩;rw [Eg,DY] at d;rcases d with d | rfl
  ·exact .inl ⟨y',d,o⟩
  ·exact .inr o
theorem near_any {z:Int} (h:z∈s↔∃y∈q,z∈zg m y):decide (z∈s)=q.any fun y=>decide (z∈zg m y):=by
 by_cases d:z∈s
 ·rw [Du d];symm;obtain ⟨y,o,D⟩:=h.1 d;exact Eu.2 ⟨y,o,Du D⟩
 ·rw [Dv d];symm;rw [Bool.eq_false_iff];intro E;obtain ⟨y,o,D⟩:=Eu.1 E;exact d (h.2 ⟨y,o,Ew D⟩)
structure JC (wB:World) (sn:ByteArray) (u1 u2 up:Value) (e:Nat->Bool) (v:Nat->Value) (W:World):Prop where
 ext:zb wB W
 al:e 15=true->∃g3,v 15=.pointer (some ⟨g3,0,none⟩)/\wB.heap.size<=g3/\(e 16=false->ze W g3 113 #[.string ⟨#[]⟩,.slice none 0 0,.slice none 0 0])/\(e 16=true->ze W g3 113 #[.string sn,u1,u2])
 asg:e 17=true->v 17=up
 d16:e 16=true->e 15=true
section
variable {wB W W':World} {sn:ByteArray} {u1 u2 up:Value} {e:Nat->Bool} {v:Nat->Value}
theorem JC.init (he:∀j∈[15,16,17],e j=false):JC wB sn u1 u2 up e v wB.drew:=
 ⟨Ch,fun a=>ff (he 15 (by simp)) a,fun a=>ff (he 17 (by simp)) a,fun a=>ff (he 16 (by simp)) a⟩
theorem JC.s15 (h:JC wB sn u1 u2 up e v W) (d:e 15=false):JC wB sn u1 u2 up (zT e 15 true) (zT v 15 (.pointer (some ⟨W.heap.size,0,none⟩))) (W.alloc (.cells #[.string ⟨#[]⟩,.slice none 0 0,.slice none 0 0] 113)):=
 ⟨h.ext.alloc _,fun _=>⟨_,rfl,h.ext.size,fun _=>ze.new _ _ _ rfl,fun a=>ff (b:=e 16) (notT h.d16 d) a⟩,h.asg,fun _=>rfl⟩
theorem JC.s16 {g3:Nat} {x:Value} (h:JC wB sn u1 u2 up e v W) (d:e 15=true) (E:v 15=.pointer (some ⟨g3,0,none⟩)) (D:wB.heap.size<=g3) (o:zb wB W') (z:ze W' g3 113 #[.string sn,u1,u2]):JC wB sn u1 u2 up (zT e 16 true) (zT v 16 x) W':=
 ⟨o,fun _=>⟨g3,E,D,fun a=>(by cases a),fun _=>z⟩,h.asg,fun _=>d⟩
theorem JC.s17 (h:JC wB sn u1 u2 up e v W):JC wB sn u1 u2 up (zT e 17 true) (zT v 17 up) W:=⟨h.ext,h.al,fun _=>rfl,h.d16⟩
end
theorem candidates_calls {ok:Nat->Prop} {ch us:List Int} {ps:List (List Int)} {gu:Nat} {f u ts vc vp:Value} (w:World) (h:AJ w ok g m ch ps us f u ts vc vp gu) (so:SOk m ch ps):
  Calls Tryz.prog 161 #[.pointer (some ⟨g,0,none⟩)] w fun e w'=>∃v',e=.returned v'/\Mk w w' v' (Bu m ps us):=by
 have HS:=zh h;have SO:=zh so;have p9:ps.length<=6:=Dt so.pl so.good.tk;obtain ⟨r0,r1,r2,r3,r4,r5,r6,r7,r8⟩:=h.rules;have hx:=zb.refl w
 go_enter Tryz.func161,Tryz.ntmps161
 go_wp2_with fail
 generalize h9:w.alloc (.cells #[.pointer (some ⟨g,0,none⟩)] 149)=w1;have j2:zb w w1:=by rw [<-h9];exact (zb.refl w).alloc _
 have h2:w1.cell? ⟨w.heap.size,0,none⟩=some (.pointer (some ⟨g,0,none⟩)):=by rw [<-h9];exact zR _ _ _ rfl
 have p8:w.heap.size<w1.heap.size:=zn h2;have rb:=zb.rule h2;clear h9;refine (BD _ (HS.out.ext j2) SO.out).mono ?_;rintro e wA ⟨rfl,j8⟩;have m2:zb w1 wA:=j8.below _;have hA:=j2.trans m2;clear j8 h2
 cases O:cmpB m ps with
 | true=>
  have HC:=zh O;clear O
  go_wp2_with fail
  go_ret;exact ⟨_,rfl,hA.mono_mk (Mk.cast (Mk.nil _) (by unfold Bu;rw [if_pos HC.out]))⟩
 | false=>
  have HC:=zh O
  have hp:0<ps.length:=by
   by_cases h0:m.tasks.length=0
   ·unfold cmpB at O;rw [Du h0] at O;cases O
   ·exact so.pn (by omega)
  clear O
  go_wp2_with fail
  refine (Ar _ (HS.out.ext hA) (by omega)).mono ?_;rintro e wB ⟨he,n0⟩;subst n0;obtain ⟨t,hk⟩:∃t,ps.length=t+1:=⟨ps.length - 1,by omega⟩;have l0:(ps.length:Int) - 1=(t:Int):=by omega
  rw [l0] at he;subst he;clear l0;have j4:zb w (wA.alloc (.cells #[.int .i64 t] 3)):=hA.alloc _;have n8:(wA.alloc (.cells #[.int .i64 t] 3)).cell? ⟨wA.heap.size,0,none⟩=some (.int .i64 t):=zR _ _ _ rfl;have m3:zb w1 (wA.alloc (.cells #[.int .i64 t] 3)):=m2.alloc _;have ho:=h.ps;have o5:=h.maze;obtain ⟨vs,⟨Ap,cp,rfl,s5,l7⟩,j9⟩:=ho;obtain ⟨fr',up',ts',a9,_,_,J⟩:=o5;injection a9 with a9;injection a9 with a9;simp only [List.cons.injEq,and_true,true_and] at a9;obtain ⟨rfl,rfl,rfl⟩:=a9;have o9:=J;obtain ⟨vst,⟨At,ct,rfl,s6,_⟩,_⟩:=o9;have e1:t<ps.length:=by omega
  obtain ⟨b,off,up,rfl,_,f3,h8⟩:=BU l7 j9 e1 e1;have e8:t<m.tasks.length:=by have:=so.pl;omega
  obtain ⟨bt,offt,sn,u1,u2,rfl,_,k7,k8,k9,e7,h3⟩:=BR J e8;have h4:=so.pp _ (Dr e1);have d9:=so.pr _ (Dr e1);have o3:=(so.lens.tl _ (Dr e8)).1;have h7:=so.good.tn _ (Dr e8)
  have d4:Bu m ps us=match (ps[t]).getLast? with
    | none=>(Lib.compact (AG (m.tasks[t]).1)).filter fun n=>zf m t n && !decide (n∈us)
    | some x=>(zg m x).filter (zD m us t (ps[t]).dropLast (m.tasks[t]).1):=by
   unfold Bu;rw [HC.out,if_neg (by simp),show ps.length - 1=t from by omega];simp [e1,e8]
  have b4:=zh d4;clear d4;obtain ⟨p,l5⟩:=Ez (ps[t]);obtain ⟨tk,m0⟩:=Ez (m.tasks[t]);rw [<-l5] at h8 h4 b4 d9;rw [<-m0] at e7 h3 o3 b4 h7;have k3:=e7;obtain ⟨A5,c5,rfl,s1,_⟩:=k3;have k4:=h3;obtain ⟨A6,c6,rfl,s2,_⟩:=k4;clear l5 m0 l7 j9 J h3;have HP:=zh h8;clear h8;have HF:=zh e7;clear e7;have g4:=zh d9;clear d9;have m9:=zh h7;clear h7;have t5:(t:Int)<(ps.length:Int):=by omega
  have t4:(0:Int)<=(t:Int):=by omega
  have t6:(t:Int)<(m.tasks.length:Int):=by omega
  have k1:t<m.free.length:=by have:=so.good.fl;omega
  have q0:=zb.rule f3;have q1:=zb.rule k7;have q2:=zb.rule k8;have q3:=zb.rule k9;clear f3 k7 k8 k9 h so hk;generalize p2:wA.alloc (.cells #[.int .i64 t] 3)=wB at*;have rt:=zb.rule n8;have f0:=zb.refl wB
  go_wp2_with fail
  clear p2;refine DH (S:=(fun W=>zb w W/\zb w1 W/\zb wB W)) (by kernel_rfl) (⟨j4.drew,m3.drew,f0.drew⟩) fun zH=>?_;refine zo 0 zH ?_;refine zo 1 zH ?_;simp only [zc,Dn];refine zo 2 zH ?_;refine zo 3 zH ?_;simp only [zc,Dn];refine zo 4 zH ?_;refine zo 5 zH ?_;simp only [zc,Dn];refine zo 6 zH ?_;refine zo 7 zH ?_;simp only [zc,Dn];refine zo 8 zH ?_;refine zo 9 zH ?_;simp only [zc,Dn];refine zo 10 zH ?_;refine zo 11 zH ?_;simp only [zc,Dn];refine zo 12 zH ?_;refine zo 13 zH ?_;simp only [zc,Dn];refine zo 14 zH ?_;simp only [zc,Dn];refine BI [15,16,17] (fun e v W=>JC wB sn (.slice A5 tk.1.length c5) (.slice A6 tk.2.length c6) up e v W) (F:=?F1) (by kernel_rfl) (by kernel_rfl) (by decide) zH (fun v=>?hF1) ?init1 (by kernel_rfl) ?steps1 ?fin1
  case hF1=>(simp only [zA,Bw,List.getElem?_toArray,List.getElem?_cons_succ,List.getElem?_cons_zero,Option.bind,Act.put,List.setIfInBounds_toArray,List.set_cons_succ,List.set_cons_zero];rfl)
  case init1=>
   intro e v he;exact JC.init he
  case steps1=>
   refine zj.cons rfl (fun e v W K hJ hW he hd hK=>?_) ?_
   ·simp only [zc] at hd hK⊢;go_simp;exact hK.out _ _ _ (by rfl) ⟨hW.1.alloc _,hW.2.1.alloc _,hW.2.2.alloc _⟩ (hJ.s15 he)
   refine zj.cons rfl (fun e v W K hJ hW he hd hK=>?_) ?_
   ·simp only [zc] at hd hK⊢;have i5:e 15=true:=zq hd [15] (by kernel_rfl) 15 (by simp);obtain ⟨g3,V,d6,G,_⟩:=hJ.al i5;have G:=G he;have hf:=fun k=>G.frozen k
    have r9:=G.cell (k:=0) rfl;have s0:=G.cell (k:=1) rfl;have p7:=G.cell (k:=2) rfl;go_simp;have a8:=((hJ.ext.setCell (p:=⟨g3,0,none⟩) d6 (.string sn)).setCell (p:=⟨g3,1,none⟩) d6 (.slice A5 tk.1.length c5)).setCell (p:=⟨g3,2,none⟩) d6 (.slice A6 tk.2.length c6);exact hK.out _ undef _ (by simp [Act.put,V]) ⟨j4.trans a8,m3.trans a8,a8⟩ (hJ.s16 i5 V d6 a8 (((G.set (k:=0) _).set (k:=1) _).set (k:=2) _))
   refine zj.cons rfl (fun e v W K hJ hW he hd hK=>?_) ?_
   ·simp only [zc] at hd hK⊢;go_simp;exact hK.out _ up _ (by rfl) hW hJ.s17
   exact zj.nil
  case fin1=>
   intro v W hJ hW;obtain ⟨g3,V,d6,_,G⟩:=hJ.al rfl;have G:=G rfl;have f8:=hJ.asg rfl;rw [V,f8];clear hJ V f8;obtain ⟨n6,j0,n7⟩:=hW;have rg3:=zb.rule (G.cell (k:=1) rfl);clear G;have e3:=zh n6;have j7:=rt W n7;have s4:=zX (P:=Tryz.prog) Tryz.func212 (by kernel_rfl) (by kernel_rfl);have f2:=rb W j0;generalize o1:wA.heap.size=g2 at*;clear o1;have o6:=HP.out;obtain ⟨Aq,cq,rfl,j5,o8⟩:=o6;clear o8;have f0:=zb.refl W;rcases List.eq_nil_or_concat p with rfl | ⟨q,x,rfl⟩
   ·have g1:Hid (Bu m ps us=(Lib.compact (AG tk.1)).filter fun n=>zf m t n && !decide (n∈us)):=b4.out
    go_wp2_with fail
    refine (values_calls A5 tk.1.length c5 W).mono ?_;rintro e w2 ⟨rfl,rfl⟩;have g5:zb W (W.alloc (.cells #[.slice A5 tk.1.length c5] 23)):=f0.alloc _;have j6:(W.alloc (.cells #[.slice A5 tk.1.length c5] 23)).cell? ⟨W.heap.size,0,none⟩=some (.slice A5 tk.1.length c5):=zR _ _ _ rfl;have hS:=zh (sorted_calls W.heap.size _ j6 (HF.out.below (e3.out.trans g5)) (by omega))
    go_wp2_with fail
    refine hS.out.mono ?_;rintro e w3 ⟨v3,rfl,g9⟩;have l9:(AG tk.1).length<=1000000000000:=by unfold AG;rw [List.length_mergeSort];omega
    have i6:=zh (compact_calls g9 l9);have a8:=zh g9.ext;clear g9 hS
    go_wp2_with fail
    refine i6.out.mono ?_;rintro e w4 ⟨v4,rfl,e4⟩;have o4:Hid (∀y,y∈Lib.compact (AG tk.1)->y∈tk.1):=fun y hy=>mem_sortL.1 (Db hy)
    have s8:(Lib.compact (AG tk.1)).length<=1000000000000:=Dt (compact_len _) l9;generalize Lib.compact (AG tk.1)=L at*;have g6:zb W w4:=g5.trans e4.ext;obtain ⟨A7,c7,p1,s3⟩:=e4.slice;subst p1;have m8:=zh e4;clear e4 i6 a8 j6 g5;have m1:zb w w4:=e3.out.trans g6;have b7:=zh (Mk.nil w4)
    go_wp2_with fail
    go_loopw [7,46] (fun v i wr=>∃k:Nat,k<=L.length/\i=.int .i64 (k:Nat)/\Hid (Mk w4 wr v ((L.take k).filter fun n=>zf m t n && !decide (n∈us)))) (fun _ i _=>L.length - (intOf i).toNat)
    case atStart=>exact ⟨0,by omega,rfl,b7⟩
    clear b7
    case round=>
     obtain ⟨k,hk,rfl,hM⟩:=hrel;have d:=hM.out.ext;by_cases I:k<L.length
     ·obtain ⟨b9,rfl,Q,D⟩:=own_at (m8.out.own.ext d) I;have J:=zh (Dy I);have E:=m9.out _ (.inl (o4.out _ (Dr I)));obtain ⟨y,hy⟩:=Ez (L[k]);rw [<-hy] at D J E;clear hy;have o:=zh (cand1_calls t y wr (HS.out.ext (m1.trans d)) SO.out.good.fn k1 ((g6.trans d).cell f2) ((g6.trans d).cell j7) E.1 E.2);obtain ⟨bb,h1⟩:=Ez ((zf m t y && !decide (y∈us)));rw [<-h1] at o;have m5:=zh h1;clear h1 E;have o0:((L.take k).filter fun n=>zf m t n && !decide (n∈us)).length<=1000000000000:=Dt (DU _ _) (by simp;omega);have a1:Hid ((L.take (k+1)).filter (fun n=>zf m t n && !decide (n∈us))=(L.take k).filter (fun n=>zf m t n && !decide (n∈us))++(if bb then [y] else [])):=by rw [J.out,List.filter_append,m5.out];show _++List.filter _ [y]=_;by_cases h:(zf m t y && !decide (y∈us))=true <;> simp [List.filter_cons,h]
      generalize (L.take k).filter (fun n=>zf m t n && !decide (n∈us))=lk at*
      go_wp2_with fail
      refine o.out.mono ?_;rintro e w5 ⟨rfl,d5⟩;have b5:zb wr w5:=d5.below _;have M:=zh (hM.out.more b5);clear d5 o
      cases bb with
      | true=>
       have p3:w4.heap.size<=w5.heap.size:=M.out.ext.size
       go_wp2_with (at_builtin;refine CU rfl _ _ rfl _ lk y w4.heap.size w5.heap.size 1 _ rfl rfl (M.out.own.alloc _) ?d1 ?d2 ?d3 ?_)
       (try case d1=>exact zR _ _ _ (by simp))
       case d2=>(first | (simp;done) | (simp;omega) | omega)
       case d3=>omega
       intro v' wb d8 U _;have g8:=zh ((M.out.alloc _).app d8 U);clear d8 U;go_wp2;go_roundw
       case rel=>exact ⟨k+1,by omega,by go_num,by rw [a1.out];exact g8⟩
       case measure=>simp [intOf];omega
      | false=>
       go_wp2;go_roundw
       case rel=>exact ⟨k+1,by omega,by go_num,by rw [a1.out];simpa using M⟩
       case measure=>simp [intOf];omega
     ·obtain rfl:k=L.length:=by omega
      go_wp2_with fail
      go_ret;refine ⟨_,rfl,(m1.mono_mk hM.out).cast ?_⟩;rw [g1.out,DC]
   ·rw [List.concat_eq_append] at HP b4 g4;have l4:(q.concat x).length=q.length+1:=by simp
    have f6:(q++[x]).length=q.length+1:=by simp
    rw [l4] at j5 h4⊢;rw [f6] at HP;obtain ⟨N,hN⟩:=Ez (q.length+1);rw [<-hN] at j5 h4 HP⊢;have q8:(q.length:Int)<(N:Int):=by omega
    have o7:IntKind.i64.wrap ((N:Int) - 1)=(q.length:Int):=by rw [DN];omega
    have l6:(N:Int) - 1=(q.length:Int):=by omega
    have t1:(0:Int)<=(q.length:Int):=by omega
    have q7:0<N:=by omega
    have t2:q.length<=N:=by omega
    have g1:Hid (Bu m ps us=(zg m x).filter (zD m us t q tk.1)):=by have h:=b4.out;simp at h;exact h
    have a5:Hid (∀k y,(q++[x])[k]?=some y->∃bq oq,Aq=some ⟨bq,oq,none⟩/\∀W',zb w W'->W'.cell? ⟨bq,oq+k,none⟩=some (.int .i64 y)):=fun k y hy=>path_cell HP.out hy
    clear l4 f6 hN;have s9:=@run_makeMap Tryz.prog
    go_wp2_with fail
    have i8:Hid (NR W (W.alloc (.map #[] 0)) W.heap.size []):=⟨f0.alloc _,zu.new W⟩;generalize k2:W.heap.size=gn at*;have f5:gn=W.heap.size:=k2.symm;have m7:=zh f5;clear k2 f5;go_loopw [66] (fun i wr=>∃k s,k<=q.length/\i=.int .i64 (k:Nat)/\Hid (NR W wr gn s)/\Hid (∀z,z∈s↔∃y∈q.take k,z∈zg m y)) (fun i _=>q.length - (intOf i).toNat)
    case atStart=>exact ⟨0,[],by omega,rfl,i8,by simp [Hid]⟩
    clear i8
    case round=>
     obtain ⟨k,s,hk,rfl,hR,d7⟩:=hrel;have d:zb W wr:=hR.out.ext;have e2:zb w wr:=e3.out.trans d;have i0:zb w1 wr:=j0.trans d;obtain ⟨wk,rfl⟩:∃wk:World,wk=wr:=⟨_,rfl⟩;by_cases I:k<q.length
     ·obtain ⟨bq,oq,rfl,D⟩:=a5.out k q[k] (by rw [Dw I];exact Do I);have E:=g4.out q[k] (by simp);have J:=zh (Dy I);obtain ⟨y,hy⟩:=Ez (q[k]);rw [<-hy] at D E J;clear hy;have l1:(k:Int)<(q.length:Int):=by omega
      have l3:=zh (CQ m y wk (HS.out.maze.below e2) SO.out.good.dim E.1 E.2);clear E
      go_wp2_with fail
      refine l3.out.mono ?_;rintro e w9 ⟨v9,rfl,Q,a2⟩;have i9:=zh (hR.out.more Q);have e5:Hid (zt w9 wk.heap.size v9 (zg m y)):=a2;obtain ⟨A9,c9,rfl,n9⟩:=AV a2;have s7:gn<wk.heap.size:=za hR.out.set;clear Q a2 l3 hR;have o2:=CB m y
      go_wp2_with fail
      go_loopw [77] (fun i wi=>∃j s',j<=(zg m y).length/\i=.int .i64 (j:Nat)/\Hid (NR W wi gn s')/\Hid (zt wi wk.heap.size (.slice A9 (zg m y).length c9) (zg m y))/\Hid (∀z,z∈s'↔z∈s\/z∈(zg m y).take j)) (fun i _=>(zg m y).length - (intOf i).toNat)
      case atStart=>exact ⟨0,s,DF _,rfl,i9,e5,by simp [Hid]⟩
      clear i9 e5
      case round=>
       obtain ⟨j,s',hj,rfl,hR,hO,l2⟩:=hrel;by_cases k5:j<(zg m y).length
       ·obtain ⟨b2,rfl,q9,e6⟩:=own_at hO.out k5;have f7:=zh (fun z=>zx k5 z);obtain ⟨z,hz⟩:=Ez ((zg m y)[j]);rw [<-hz] at e6 f7;clear hz
        go_wp2_with (at_mapUpdate;refine wpSetAdd rfl _ _ _ _ rfl Tryz.underlying152 gn s' z rfl rfl rfl hR.out.set ?_)
        intro wb l8 U;have n4:=zh (hR.out.add m7.out l8 U);have n3:Hid (zt wb wk.heap.size (.slice (some ⟨b2,0,none⟩) (zg m y).length c9) (zg m y)):=World.ownsRow.kept hO.out U (AQ hO.out hR.out.set);clear l8 U;go_wp2;go_roundw
        case rel=>exact ⟨j+1,ins s' z,by omega,by go_num,n4,n3,fun a=>by rw [mem_ins,l2.out,f7.out,or_assoc]⟩
        case measure=>simp [intOf];omega
       ·obtain rfl:j=(zg m y).length:=by omega
        go_wp2;go_roundw
        case rel=>exact ⟨k+1,s',by omega,by go_num,hR,fun a=>by rw [l2.out,DC,d7.out,J.out];exact near_step⟩
        case measure=>simp [intOf];omega
     ·obtain rfl:k=q.length:=by omega
      rw [DC] at d7;obtain ⟨bq,oq,rfl,D⟩:=a5.out q.length x (by simp);have E:=g4.out x (by simp);have i1:=zb.refl wk;have h5:Hid (∀z,decide (z∈s)=q.any fun y=>decide (z∈zg m y)):=fun z=>near_any (d7.out z)
      have q4:IntKind.i64.wrap ((N:Int) - 1)=(q.length:Int):=by rw [DN];omega
      clear o7 l6
      go_wp2_with fail
      go_region_held3 (fun W'=>zb w W'/\zb w1 W'/\zb wk W')
       (first | (exact ⟨e2.drew,i0.drew,i1.drew⟩) | (exact ⟨e2.drew.trans Q,i0.drew.trans Q,i1.drew.trans Q⟩))
       ((go_at_call 100;refine (CQ m x _ (HS.out.maze.below e2.drew) SO.out.good.dim E.1 E.2).mono ?_;rintro e w9 ⟨v9,rfl,Q,a2⟩;obtain ⟨A9,c9,rfl,n9⟩:=AV (l:=zg m x) a2))
      rename_i n5
      obtain ⟨f9,q5,g0⟩:=n5;have j3:zb wk.drew w9:=Q;have e5:Hid (zt w9 wk.drew.heap.size (.slice A9 (zg m x).length c9) (zg m x)):=a2;have h6:=zh (hR.out.set.below g0);clear Q a2 hR j3 D;have o2:=CB m x;have c0:zb W w9:=d.trans g0;have b7:=zh (Mk.nil w9);have e9:=zh (fun z hz=>Ba (m:=m) (x:=z) SO.out.good.dim E.1 E.2 hz)
      go_wp2_with fail
      clear e2 i0 d i1 I hk;generalize i7:zg m x=L at*;have q6:=zh i7;clear i7;go_loopw [7,97] (fun v i wr=>∃k:Nat,k<=L.length/\i=.int .i64 (k:Nat)/\Hid (Mk w9 wr v ((L.take k).filter (zD m us t q tk.1)))) (fun _ i _=>L.length - (intOf i).toNat)
      case atStart=>exact ⟨0,by omega,rfl,b7⟩
      clear b7
      case round=>
       obtain ⟨k,hk,rfl,hM⟩:=hrel;have d:=hM.out.ext;by_cases I:k<L.length
       ·obtain ⟨b9,rfl,Q,D⟩:=own_at (e5.out.ext d) I;have J:=zh (Dy I);have a7:=e9.out _ (Dr I);obtain ⟨y,hy⟩:=Ez (L[k]);rw [<-hy] at D J a7;clear hy;have o:=zh (cand1_calls t y wr (HS.out.ext (f9.trans d)) SO.out.good.fn k1 ((c0.trans d).cell f2) ((c0.trans d).cell j7) a7.1 a7.2);obtain ⟨b1,c8⟩:∃b1,b1=(zf m t y && !decide (y∈us)):=⟨_,rfl⟩;rw [<-c8] at o;have f4:zD m us t q tk.1 y=(b1 && !decide (y∈s) && !decide (y∈tk.1)):=by unfold zD;rw [h5.out y,c8]
        clear c8 a7;have a4:=zh f4;clear f4;have o0:((L.take k).filter (zD m us t q tk.1)).length<=1000:=Dt (DU _ _) (by simp;omega);have a1:Hid (∀bb,zD m us t q tk.1 y=bb->(L.take (k+1)).filter (zD m us t q tk.1)=(L.take k).filter (zD m us t q tk.1)++(if bb then [y] else [])):=fun bb h=>by rw [J.out,List.filter_append];show _++List.filter _ [y]=_;cases bb <;> simp [List.filter_cons,h]
        generalize (L.take k).filter (zD m us t q tk.1)=lk at*
        go_wp2_with fail
        refine o.out.mono ?_;rintro e w5 ⟨rfl,d5⟩;have b5:zb wr w5:=d5.below _;have M:=zh (hM.out.more b5);clear d5 o;have e0:=h6.out.below (d.trans b5);have j1:zb W w5:=c0.trans (d.trans b5);have n1:=zh (HF.out.below (e3.out.trans j1))
        cases b1 with
        | false=>
         have a0:Hid (zD m us t q tk.1 y=false):=a4.out.trans (by simp);go_wp2;go_roundw
         case rel=>exact ⟨k+1,by omega,by go_num,by rw [a1.out false a0.out];simpa using M⟩
         case measure=>simp [intOf];omega
        | true=>
         by_cases a3:y∈s
         ·have a0:Hid (zD m us t q tk.1 y=false):=a4.out.trans (by simp [a3]);have l1:=look_t e0 a3;clear a3;go_wp2;go_roundw
          case rel=>exact ⟨k+1,by omega,by go_num,by rw [a1.out false a0.out];simpa using M⟩
          case measure=>simp [intOf];omega
         ·have l1:=look_f e0 a3;have t3:=rg3 w5 j1;have a6:=zh (zV y w5 n1.out (by omega));by_cases b0:y∈tk.1
          ·have a0:Hid (zD m us t q tk.1 y=false):=a4.out.trans (by simp [b0]);rw [Du b0] at a6;clear a3 b0
           go_wp2_with fail
           refine a6.out.mono ?_;rintro e w6 ⟨rfl,rfl⟩;go_wp2;go_roundw
           case rel=>exact ⟨k+1,by omega,by go_num,by rw [a1.out false a0.out];simpa using M⟩
           case measure=>simp [intOf];omega
          ·have a0:Hid (zD m us t q tk.1 y=true):=a4.out.trans (by simp [a3,b0]);rw [Dv b0] at a6;clear a3 b0;have p3:w9.heap.size<=w5.heap.size:=M.out.ext.size
           go_wp2_with (first | (go_at_call 98;refine a6.out.mono ?_;rintro e w6 ⟨rfl,rfl⟩) | (at_builtin;refine CU rfl _ _ rfl _ lk y w9.heap.size w5.heap.size 1 _ rfl rfl (M.out.own.alloc _) ?d1 ?d2 ?d3 ?_))
           (try case d1=>exact zR _ _ _ (by simp))
           case d2=>(first | (simp;done) | (simp;omega) | omega)
           case d3=>omega
           intro v' wb d8 U _;have g8:=zh ((M.out.alloc _).app d8 U);clear d8 U;go_wp2;go_roundw
           case rel=>exact ⟨k+1,by omega,by go_num,by rw [a1.out true a0.out];exact g8⟩
           case measure=>simp [intOf];omega
       ·obtain rfl:k=L.length:=by omega
        go_wp2_with fail
        go_ret;refine ⟨_,rfl,(f9.mono_mk hM.out).cast ?_⟩;rw [g1.out,DC]
end
section
open Go.RowKit Go.Sort Go.Shelf
section
variable {w:World} {ok:Nat->Prop} {size n:Nat} {A:Option Addr} {v:Value} {xs:List Value}
theorem AI.bound (h:AI w ok size A n xs) (D:0<size):AI w (fun b=>ok b/\b<w.heap.size) size A n xs:=by
 refine ⟨h.1,fun o=>?_⟩;obtain ⟨b,off,e,z,d⟩:=h.2 o;have h0:0<xs.length:=by rw [h.1];exact Nat.mul_pos o D
 exact ⟨b,off,e,⟨z,zn (d 0 _ (Do h0))⟩,d⟩
theorem Aw.bound (h:Aw w ok size v n xs) (z:0<size):Aw w (fun b=>ok b/\b<w.heap.size) size v n xs:=by
 obtain ⟨A,c,e,d,o⟩:=h;exact ⟨A,c,e,d,o.bound z⟩
theorem AR.bound {l:List Bool} (h:AR w ok v l):AR w (fun b=>ok b/\b<w.heap.size) v l:=Aw.bound h (by decide)
theorem Each.bound {α:Type} {R R':Value->α->Prop} {l:List α} (h:Each R w ok v l) (o:∀u x,R u x->R' u x):Each R' w (fun b=>ok b/\b<w.heap.size) v l:=by
 obtain ⟨vs,d,he⟩:=h;refine ⟨vs,d.bound (by decide),fun i x D=>?_⟩;obtain ⟨u,z,d⟩:=he i x D;exact ⟨u,z,o _ _ d⟩
theorem AO.bound {l:List (List Bool)} (h:AO w ok v l):AO w (fun b=>ok b/\b<w.heap.size) v l:=Each.bound h (fun _ _ h=>AR.bound h)
theorem zU.bound {l:List (List Int)} (h:zU w ok v l):zU w (fun b=>ok b/\b<w.heap.size) v l:=Each.bound h (fun _ _ h=>zk.bound h)
theorem Bf.bound {l:List (List Int×List Int)} (h:Bf w ok v l):Bf w (fun b=>ok b/\b<w.heap.size) v l:=by
 obtain ⟨vs,z,he⟩:=h;refine ⟨vs,z.bound (by decide),fun i x D=>?_⟩;obtain ⟨s,u1,u2,h0,d,o,i1,i2⟩:=he i x D;exact ⟨s,u1,u2,h0,d,o,i1.bound,i2.bound⟩
theorem zF.bound {m:MZ} (h:zF w ok v m):zF w (fun b=>ok b/\b<w.heap.size) v m:=by
 obtain ⟨f,u,t,rfl,d,o,z⟩:=h;exact ⟨f,u,t,rfl,d.bound,o.bound,z.bound⟩
theorem AJ.bound {g gu:Nat} {m:MZ} {ch us:List Int} {ps:List (List Int)} {f u t vc vp:Value} (h:AJ w ok g m ch ps us f u t vc vp gu):AJ w (fun b=>ok b/\b<w.heap.size) g m ch ps us f u t vc vp gu:=
 ⟨h.blk,⟨h.okg,za h.blk⟩,h.maze.bound,h.ch.bound,h.ps.bound,⟨h.oku,za h.us⟩,h.us⟩
end
abbrev InR (R:Int->Prop):={ x:Int // R x }
theorem holds_sub {R:Int->Prop} {w:World} {cap:Nat} {l:List (InR R)} [Inhabited (InR R)] (h:zt w B (.slice (some ⟨g,0,none⟩) (l.map (·.1)).length cap) (l.map (·.1))):Holds (fun x:InR R=>Value.int .i64 x.1) w g 0 l.toArray:=by
 intro j o;have d:j<l.length:=by simpa using o
 refine ⟨?_,by have:=World.ownsRow.frozenAt h j;simpa using this⟩;have:=World.ownsRow.cellAt h j (by simpa using d);rw [Nat.zero_add,this];simp [getElem!_pos,d]
theorem sortWorld_same {α:Type} [Inhabited α] {enc:α->Value} {w:World} {blk off n:Nat} {dk:Array α} {os:Array Obj} (z:B<=blk) (E:B<=w.heap.size):zN (fun b=>b<B) w (sortWorld enc w blk off n dk os):=by
 intro b D d;have o:blk≠b:=by omega
 simp [sortWorld,grow,putRow,mapBlock,Sort.ahead,Array.getElem?_append,Array.getElem?_modify,Array.getElem_modify,d,o]
theorem deleteFuncI_calls {w1 w:World} {v:Value} (d:Mk w1 w v l) (R:Int->Prop) (V:∀x∈l,R x) (h0:R 0) (hl:l.length<=1000000000000) (fn:FuncId) (lb:Array Value) (p:Int->Bool)
  (eg:∀args w,(callFunc fn args).run Tryz.prog w=.ok (.enter fn args) w)
  (hp:∀x,R x->∀W,zN (fun b=>b<w1.heap.size) w W->Calls Tryz.prog fn (#[.int .i64 x]++lb) W fun e w'=>e=.returned (.bool (p x))/\zB W w'):
  Calls Tryz.prog 237 #[v,.func (.func fn) #[] lb] w fun e w'=>∃v',e=.returned v'/\Mk w1 w' v' (l.filter fun x=>!p x):=by
 rcases Ec l.length with hl0 | hl0
 ·have E:=DJ hl0;subst E;obtain ⟨A,c,rfl,_⟩:=d.slice;have hI:=zh (CA fn lb p w d.ints (by simp) eg (fun x hx=>by cases hx));have Q:=zh d;clear d hp
  go_enter Tryz.func237,Tryz.ntmps237
  go_wp2_with fail
  refine hI.out.mono ?_;rintro e w2 ⟨r,rfl,O,a4,L⟩
  have K:r=-1:=by
   have:¬ 0<=r:=fun h=>by have:=O.1 h;simp at this
   omega
  subst K;have U:zb w w2:=L.below _;clear L O
  go_wp2_with fail
  go_ret;exact ⟨_,rfl,Q.out.more U⟩
 ·letI:Inhabited (InR R):=⟨⟨0,h0⟩⟩
  obtain ⟨l',rfl⟩:∃l':List (InR R),l'.map (·.1)=l:=⟨l.attachWith R V,by simp⟩;obtain ⟨g,cap,rfl,M,a2⟩:=World.ownsRow.form d.own hl0;have z:=Be d.own;have o:(l'.map (·.1)).length=l'.toArray.size:=by simp
  have G:=AnyE.slices_DeleteFunc dfIA (fun x:InR R=>Value.int .i64 x.1) (fun _=>rfl) (fun x=>p x.1) fn lb eg ⟨0,h0⟩ Tryz.zeroValue3 g 0 cap l'.toArray w
   (fun W x hb=>by
    refine Calls.mono (hp x.1 x.2 W (fun b a1 D=>hb.block b D)) ?_;rintro e w' ⟨rfl,q,rfl⟩;exact ⟨rfl,q,rfl⟩)
   (fun n os dk x _=>by
    refine Calls.mono (hp x.1 x.2 _ (sortWorld_same M d.ext.size)) ?_;rintro e w' ⟨rfl,q,rfl⟩;exact ⟨rfl,q,rfl⟩)
   (holds_sub d.own) (by rw [<-o];omega) (by rw [<-o];exact z)
  change Calls Tryz.prog 237 _ _ _ at G;rw [<-o] at G;refine Calls.mono G ?_;rintro e w' ⟨rfl,q,rfl⟩;have J:(l'.map (·.1)).filter (fun x=>!p x)=(l'.filter fun x=>!p x.1).map (·.1):=by rw [List.filter_map];rfl
  have I:(l'.filter fun x=>!p x.1).length<=l'.length:=DU _ _;refine ⟨_,rfl,?_,Lib.below_putRow d.ext M⟩
  have ho:w.ownsRow w1.heap.size 3 1 (.slice (some ⟨g,0,none⟩) (l'.map (·.1)).length cap) (l'.map (·.1)).length (l'.map fun x:InR R=>Value.int .i64 x.1):=by
   have:=d.own;unfold zt at this;rw [List.map_map] at this;exact this
  have:=Lib.ownsRow_putRow (enc:=fun x:InR R=>Value.int .i64 x.1) (q:=q) (k:=(l'.filter fun x=>!p x.1).length) (ys:=(l'.filter fun x=>!p x.1)++List.replicate (l'.length - (l'.filter fun x=>!p x.1).length) ⟨0,h0⟩) ho (by simp;omega) (by simpa using I);rw [List.take_left' rfl] at this;rw [J];unfold zt;rw [List.map_map,Eb];simpa using this
end
end Go.Proofs.YtnmkmhpgnpojbaaGreatDoor
