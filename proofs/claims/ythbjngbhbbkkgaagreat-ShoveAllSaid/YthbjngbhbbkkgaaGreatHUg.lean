/- RtCa RtDf RtLe -/
import Derived.Test.YthbjngbhbbkkgaaGreatHUa
import Derived.Test.YthbjngbhbbkkgaaGreatHUb
import Derived.Test.YthbjngbhbbkkgaaGreatHUc
import Derived.Test.YthbjngbhbbkkgaaGreatHUd
import Derived.Test.YthbjngbhbbkkgaaGreatHUe
import Derived.Test.YthbjngbhbbkkgaaGreatHUf
import Derived.Shelf.SlicesE.DeleteFunc
import Derived.Ground.SlgfProg
set_option linter.unusedVariables false
set_option linter.unusedSimpArgs false
set_option maxRecDepth 100000
set_option maxHeartbeats 16000000
namespace Go.Proofs.YthbjngbhbbkkgaaGreat
open Go.RowKit
attribute [local go_sem ↓] Go.wp_at_zero Go.wp_at_succ
def zL (m:MZ) (us:List Int) (t:Nat) (q from_:List Int) (n:Int):Bool:=ze m t n && !decide (n∈us) && !(q.any fun y=>decide (n∈zi m y)) && !decide (n∈from_)
def zb3 (m:MZ) (ps:List (List Int)) (us:List Int):List Int:=
 if cmpB m ps=true then []
 else match (ps.getD (ps.length - 1) []).getLast? with
  | none=>(Lib.compact (zaW (m.tasks.getD (ps.length - 1) ([],[])).1)).filter fun n=>ze m (ps.length - 1) n && !decide (n∈us)
  | some x=>(zi m x).filter (zL m us (ps.length - 1) (ps.getD (ps.length - 1) []).dropLast (m.tasks.getD (ps.length - 1) ([],[])).1)
theorem mem_sortL {l:List Int} {x:Int}:x∈zaW l↔x∈l:=by unfold zaW;exact (List.mergeSort_perm _ _).mem_iff
theorem compact_len (l:List Int):(Lib.compact l).length≤l.length:=by
 unfold Lib.compact Lib.compactUpTo;rw [List.length_map];exact Nat.le_trans (List.length_filter_le _ _) (by simp)
theorem zdb {l:List Int} {x:Int} (h:x∈Lib.compact l):x∈l:=by
 unfold Lib.compact Lib.compactUpTo at h;obtain ⟨j,hj,rfl⟩:=List.mem_map.1 h;have hj':j<l.length:=by simpa using (List.mem_filter.1 hj).1
 simp [getElem!_pos,hj']
theorem path_cell {w:World} {ok:Nat→Prop} {A:Option Addr} {n c:Nat} {l:List Int} (h:zf w ok (.slice A n c) l) {k:Nat} {y:Int} (hy:l[k]?=some y):∃b o,A=some ⟨b,o,none⟩∧∀W,Ext w W→W.cell? ⟨b,o+k,none⟩=some (.int .i64 y):=by
 obtain ⟨A',c',e,_,hr⟩:=h;injection e with e1 e2 e3;subst e1
 have hk:k<l.length:=by
  rcases Nat.lt_or_ge k l.length with h | h
  ·exact h
  ·rw [List.getElem?_eq_none h] at hy;cases hy
 obtain ⟨b,o,e,_,hc⟩:=zt hr hk hk;rw [List.getElem?_eq_getElem hk] at hy;injection hy with hy;rw [hy] at hc;exact ⟨b,o,e,Ext.rule hc⟩
structure NR (W wr:World) (gn:Nat) (s:List Int):Prop where
 ext:Ext W wr
 set:zA wr gn s
theorem NR.more {W wr w':World} {gn:Nat} {s:List Int} (h:NR W wr gn s) (hb:Ext wr w'):NR W w' gn s:=⟨h.ext.trans hb,h.set.below hb⟩
theorem NR.add {W wr w':World} {gn:Nat} {s:List Int} {x:Int} (h:NR W wr gn s) (hg:gn=W.heap.size) (hs:zA w' gn (ins s x)) (hb:wr.grownBy w' (some gn)):NR W w' gn (ins s x):=⟨za4 h.ext hb h.ext.size (by omega),hs⟩
theorem near_step {m:MZ} {q:List Int} {y a:Int}:((∃y'∈q,a∈zi m y')∨a∈zi m y)↔∃y'∈q++[y],a∈zi m y':=by
 constructor
 ·rintro (⟨y',h1,h2⟩ | h)
  ·exact ⟨y',by simp [h1],h2⟩
  ·exact ⟨y,by simp,h⟩
 ·rintro ⟨y',h1,h2⟩;rw [List.mem_append,List.mem_singleton] at h1;rcases h1 with h1 | rfl
  ·exact .inl ⟨y',h1,h2⟩
  ·exact .inr h2
theorem near_any {m:MZ} {q s:List Int} {z:Int} (h:z∈s↔∃y∈q,z∈zi m y):decide (z∈s)=q.any fun y=>decide (z∈zi m y):=by
 by_cases hz:z∈s
 ·rw [decide_eq_true hz];symm;obtain ⟨y,h1,h2⟩:=h.1 hz;exact List.any_eq_true.2 ⟨y,h1,decide_eq_true h2⟩
 ·rw [decide_eq_false hz];symm;rw [Bool.eq_false_iff];intro h3;obtain ⟨y,h1,h2⟩:=List.any_eq_true.1 h3;exact hz (h.2 ⟨y,h1,of_decide_eq_true h2⟩)
structure JC (wB:World) (sn:ByteArray) (u1 u2 up:Value) (e:Nat→Bool) (v:Nat→Value) (W:World):Prop where
 ext:Ext wB W
 al:e 15=true→∃g3,v 15=.pointer (some ⟨g3,0,none⟩)∧wB.heap.size≤g3∧(e 16=false→Blk W g3 56 #[.string ⟨#[]⟩,.slice none 0 0,.slice none 0 0])∧(e 16=true→Blk W g3 56 #[.string sn,u1,u2])
 asg:e 17=true→v 17=up
 d16:e 16=true→e 15=true
section
variable {wB W W':World} {sn:ByteArray} {u1 u2 up:Value} {e:Nat→Bool} {v:Nat→Value}
theorem JC.init (he:∀j∈[15,16,17],e j=false):JC wB sn u1 u2 up e v wB.drew:=
 ⟨zco,fun a=>ff (he 15 (by simp)) a,fun a=>ff (he 17 (by simp)) a,fun a=>ff (he 16 (by simp)) a⟩
theorem JC.s15 (h:JC wB sn u1 u2 up e v W) (h15:e 15=false):JC wB sn u1 u2 up (upd e 15 true) (upd v 15 (.pointer (some ⟨W.heap.size,0,none⟩))) (W.alloc (.cells #[.string ⟨#[]⟩,.slice none 0 0,.slice none 0 0] 56)):=
 ⟨h.ext.alloc _,fun _=>⟨_,rfl,h.ext.size,fun _=>Blk.new _ _ _ rfl,fun a=>ff (b:=e 16) (notT h.d16 h15) a⟩,h.asg,fun _=>rfl⟩
theorem JC.s16 {g3:Nat} {x:Value} (h:JC wB sn u1 u2 up e v W) (h15:e 15=true) (hv:v 15=.pointer (some ⟨g3,0,none⟩)) (hg:wB.heap.size≤g3) (hE:Ext wB W') (hb:Blk W' g3 56 #[.string sn,u1,u2]):JC wB sn u1 u2 up (upd e 16 true) (upd v 16 x) W':=
 ⟨hE,fun _=>⟨g3,hv,hg,fun a=>(by cases a),fun _=>hb⟩,h.asg,fun _=>h15⟩
theorem JC.s17 (h:JC wB sn u1 u2 up e v W):JC wB sn u1 u2 up (upd e 17 true) (upd v 17 up) W:=⟨h.ext,h.al,fun _=>rfl,h.d16⟩
end
theorem candidates_calls {ok:Nat→Prop} {m:MZ} {ch us:List Int} {ps:List (List Int)} {g gu:Nat} {f u ts vc vp:Value} (w:World) (h:zaZ w ok g m ch ps us f u ts vc vp gu) (so:SOk m ch ps):
  Calls Tryz.prog 84 #[.pointer (some ⟨g,0,none⟩)] w fun e w'=>∃v',e=.returned v'∧Mk w w' v' (zb3 m ps us):=by
 have HS:=zh h;have SO:=zh so;have hps6:ps.length≤6:=Nat.le_trans so.pl so.good.tk;obtain ⟨r0,r1,r2,r3,r4,r5,r6,r7,r8⟩:=h.rules;have hx:=Ext.refl w
 go_enter Tryz.func84,Tryz.ntmps84
 go_wp2_with fail
 generalize hw1:w.alloc (.cells #[.pointer (some ⟨g,0,none⟩)] 97)=w1;have hb1:Ext w w1:=by rw [←hw1];exact (Ext.refl w).alloc _
 have hcb:w1.cell? ⟨w.heap.size,0,none⟩=some (.pointer (some ⟨g,0,none⟩)):=by rw [←hw1];exact zm _ _ _ rfl
 have hlt1:w.heap.size<w1.heap.size:=zl hcb;have rb:=Ext.rule hcb;clear hw1;refine (zb8 _ (HS.out.ext hb1) SO.out).mono ?_;rintro e wA ⟨rfl,hdA⟩;have hxA:Ext w1 wA:=hdA.below _;have hA:=hb1.trans hxA;clear hdA hcb
 cases hcmp:cmpB m ps with
 | true=>
  have HC:=zh hcmp;clear hcmp
  go_wp2_with fail
  go_ret;exact ⟨_,rfl,hA.mono_mk (Mk.cast (Mk.nil _) (by unfold zb3;rw [if_pos HC.out]))⟩
 | false=>
  have HC:=zh hcmp
  have hp:0<ps.length:=by
   by_cases h0:m.tasks.length=0
   ·unfold cmpB at hcmp;rw [decide_eq_true h0] at hcmp;cases hcmp
   ·exact so.pn (by omega)
  clear hcmp
  go_wp2_with fail
  refine (zaB _ (HS.out.ext hA) (by omega)).mono ?_;rintro e wB ⟨he,hBA⟩;subst hBA;obtain ⟨t,hk⟩:∃t,ps.length=t+1:=⟨ps.length - 1,by omega⟩;have hki:(ps.length:Int) - 1=(t:Int):=by omega
  rw [hki] at he;subst he;clear hki;have hbB:Ext w (wA.alloc (.cells #[.int .i64 t] 3)):=hA.alloc _;have hc2:(wA.alloc (.cells #[.int .i64 t] 3)).cell? ⟨wA.heap.size,0,none⟩=some (.int .i64 t):=zm _ _ _ rfl;have hxB:Ext w1 (wA.alloc (.cells #[.int .i64 t] 3)):=hxA.alloc _;have ho:=h.ps;have hmz:=h.maze;obtain ⟨vs,⟨Ap,cp,rfl,hcp,hrp⟩,hep⟩:=ho;obtain ⟨fr',up',ts',hee,_,_,hts⟩:=hmz;injection hee with hee;injection hee with hee;simp only [List.cons.injEq,and_true,true_and] at hee;obtain ⟨rfl,rfl,rfl⟩:=hee;have htt:=hts;obtain ⟨vst,⟨At,ct,rfl,hct,_⟩,_⟩:=htt;have htp:t<ps.length:=by omega
  obtain ⟨b,off,up,rfl,_,hcp0,hup⟩:=zP hrp hep htp htp;have hkt:t<m.tasks.length:=by have:=so.pl;omega
  obtain ⟨bt,offt,sn,u1,u2,rfl,_,hk0,hk1,hk2,hi1,hi2⟩:=zam hts hkt;have hlp:=so.pp _ (List.getElem_mem htp);have hrp2:=so.pr _ (List.getElem_mem htp);have hlf:=(so.lens.tl _ (List.getElem_mem hkt)).1;have htn:=so.good.tn _ (List.getElem_mem hkt)
  have hcand:zb3 m ps us=match (ps[t]).getLast? with
    | none=>(Lib.compact (zaW (m.tasks[t]).1)).filter fun n=>ze m t n && !decide (n∈us)
    | some x=>(zi m x).filter (zL m us t (ps[t]).dropLast (m.tasks[t]).1):=by
   unfold zb3;rw [HC.out,if_neg (by simp),show ps.length - 1=t from by omega];simp [htp,hkt]
  have HCA:=zh hcand;clear hcand;obtain ⟨p,hpp⟩:∃p,p=ps[t]:=⟨_,rfl⟩;obtain ⟨tk,htk⟩:∃tk,tk=m.tasks[t]:=⟨_,rfl⟩;rw [←hpp] at hup hlp HCA hrp2;rw [←htk] at hi1 hi2 hlf HCA htn;have hi1':=hi1;obtain ⟨A5,c5,rfl,hc5,_⟩:=hi1';have hi2':=hi2;obtain ⟨A6,c6,rfl,hc6,_⟩:=hi2';clear hpp htk hrp hep hts hi2;have HP:=zh hup;clear hup;have HF:=zh hi1;clear hi1;have HRP:=zh hrp2;clear hrp2;have HTN:=zh htn;clear htn;have ht1:(t:Int)<(ps.length:Int):=by omega
  have ht0:(0:Int)≤(t:Int):=by omega
  have ht2:(t:Int)<(m.tasks.length:Int):=by omega
  have hfr:t<m.free.length:=by have:=so.good.fl;omega
  have q0:=Ext.rule hcp0;have q1:=Ext.rule hk0;have q2:=Ext.rule hk1;have q3:=Ext.rule hk2;clear hcp0 hk0 hk1 hk2 h so hk;generalize hwB:wA.alloc (.cells #[.int .i64 t] 3)=wB at*;have rt:=Ext.rule hc2;have hxx:=Ext.refl wB
  go_wp2_with fail
  clear hwB;refine wp_region_held_drew (S:=(fun W=>Ext w W∧Ext w1 W∧Ext wB W)) (by kernel_rfl) (⟨hbB.drew,hxB.drew,hxx.drew⟩) (fun zH=>?_);refine rtT 0 zH ?_;simp only [za,Act.put];refine rtT 1 zH ?_;simp only [za,Act.put];refine rtT 2 zH ?_;simp only [za,Act.put];refine rtT 3 zH ?_;simp only [za,Act.put];refine rtT 4 zH ?_;simp only [za,Act.put];refine rtT 5 zH ?_;simp only [za,Act.put];refine rtT 6 zH ?_;simp only [za,Act.put];refine rtT 7 zH ?_;simp only [za,Act.put];refine rtT 8 zH ?_;simp only [za,Act.put];refine rtT 9 zH ?_;simp only [za,Act.put];refine rtT 10 zH ?_;simp only [za,Act.put];refine rtT 11 zH ?_;simp only [za,Act.put];refine rtT 12 zH ?_;simp only [za,Act.put];refine rtT 13 zH ?_;simp only [za,Act.put];refine rtT 14 zH ?_;simp only [za,Act.put];refine zaY [15,16,17] (fun e v W=>JC wB sn (.slice A5 tk.1.length c5) (.slice A6 tk.2.length c6) up e v W) (F:=?F1) (by kernel_rfl) (by kernel_rfl) (by decide) zH (fun v=>?hF1) ?init1 (by kernel_rfl) ?steps1 ?fin1
  case hF1=>(simp only [zK,zbp,List.getElem?_toArray,List.getElem?_cons_succ,List.getElem?_cons_zero,Option.bind,Act.put,List.setIfInBounds_toArray,List.set_cons_succ,List.set_cons_zero];rfl)
  case init1=>
   intro e v he;exact JC.init he
  case steps1=>
   refine zg.cons rfl (fun e v W K hJ hW he hd hK=>?_) ?_
   ·simp only [za] at hd hK⊢;go_simp;exact hK.out _ _ _ (by rfl) ⟨hW.1.alloc _,hW.2.1.alloc _,hW.2.2.alloc _⟩ (hJ.s15 he)
   refine zg.cons rfl (fun e v W K hJ hW he hd hK=>?_) ?_
   ·simp only [za] at hd hK⊢;have h15:e 15=true:=zk hd [15] (by kernel_rfl) 15 (by simp);obtain ⟨g3,hv15,hg3,hb3,_⟩:=hJ.al h15;have hb3:=hb3 he;have hf:=fun k=>hb3.frozen k
    have hc0:=hb3.cell (k:=0) rfl;have hc1:=hb3.cell (k:=1) rfl;have hc2':=hb3.cell (k:=2) rfl;go_simp;have hE3:=((hJ.ext.setCell (p:=⟨g3,0,none⟩) hg3 (.string sn)).setCell (p:=⟨g3,1,none⟩) hg3 (.slice A5 tk.1.length c5)).setCell (p:=⟨g3,2,none⟩) hg3 (.slice A6 tk.2.length c6);exact hK.out _ undef _ (by simp [Act.put,hv15]) ⟨hbB.trans hE3,hxB.trans hE3,hE3⟩ (hJ.s16 h15 hv15 hg3 hE3 (((hb3.set (k:=0) _).set (k:=1) _).set (k:=2) _))
   refine zg.cons rfl (fun e v W K hJ hW he hd hK=>?_) ?_
   ·simp only [za] at hd hK⊢;go_simp;exact hK.out _ up _ (by rfl) hW hJ.s17
   exact zg.nil
  case fin1=>
   intro v W hJ hW;obtain ⟨g3,hv15,hg3,_,hb3⟩:=hJ.al rfl;have hb3:=hb3 rfl;have hv17:=hJ.asg rfl;rw [hv15,hv17];clear hJ hv15 hv17;obtain ⟨hW0,hW1,hWB⟩:=hW;have rg3:=Ext.rule (hb3.cell (k:=1) rfl);clear hb3;have HW0:=zh hW0;have hcw:=rt W hWB;have hcf:=zad (P:=Tryz.prog) Tryz.func104 (by kernel_rfl) (by kernel_rfl);have hcbW:=rb W hW1;generalize hgA:wA.heap.size=g2 at*;clear hgA;have hpc:=HP.out;obtain ⟨Aq,cq,rfl,hcq,hrq⟩:=hpc;clear hrq;have hxx:=Ext.refl W;rcases List.eq_nil_or_concat p with rfl | ⟨q,x,rfl⟩
   ·have HC2:Hid (zb3 m ps us=(Lib.compact (zaW tk.1)).filter fun n=>ze m t n && !decide (n∈us)):=HCA.out
    go_wp2_with fail
    refine (values_calls A5 tk.1.length c5 W).mono ?_;rintro e w2 ⟨rfl,rfl⟩;have hE2:Ext W (W.alloc (.cells #[.slice A5 tk.1.length c5] 23)):=hxx.alloc _;have hcv:(W.alloc (.cells #[.slice A5 tk.1.length c5] 23)).cell? ⟨W.heap.size,0,none⟩=some (.slice A5 tk.1.length c5):=zm _ _ _ rfl;have hS:=zh (sorted_calls W.heap.size _ hcv (HF.out.below (HW0.out.trans hE2)) (by omega))
    go_wp2_with fail
    refine hS.out.mono ?_;rintro e w3 ⟨v3,rfl,hM3⟩;have hsl:(zaW tk.1).length≤1000000000000:=by unfold zaW;rw [List.length_mergeSort];omega
    have hCo:=zh (compact_calls hM3 hsl);have hE3:=zh hM3.ext;clear hM3 hS
    go_wp2_with fail
    refine hCo.out.mono ?_;rintro e w4 ⟨v4,rfl,hM4⟩;have hmL:Hid (∀y,y∈Lib.compact (zaW tk.1)→y∈tk.1):=fun y hy=>mem_sortL.1 (zdb hy)
    have hlL:(Lib.compact (zaW tk.1)).length≤1000000000000:=Nat.le_trans (compact_len _) hsl;generalize Lib.compact (zaW tk.1)=L at*;have hE4:Ext W w4:=hE2.trans hM4.ext;obtain ⟨A7,c7,hv4,hc7⟩:=hM4.slice;subst hv4;have HM4:=zh hM4;clear hM4 hCo hE3 hcv hE2;have hx4:Ext w w4:=HW0.out.trans hE4;have hMk:=zh (Mk.nil w4)
    go_wp2_with fail
    go_loopw [7,46] (fun v i wr=>∃k:Nat,k≤L.length∧i=.int .i64 (k:Nat)∧Hid (Mk w4 wr v ((L.take k).filter fun n=>ze m t n && !decide (n∈us)))) (fun _ i _=>L.length - (intOf i).toNat)
    case atStart=>exact ⟨0,by omega,rfl,hMk⟩
    clear hMk
    case round=>
     obtain ⟨k,hk,rfl,hM⟩:=hrel;have hxr:=hM.out.ext;by_cases hlt:k<L.length
     ·obtain ⟨b9,rfl,hb9,hcell⟩:=own_at (HM4.out.own.ext hxr) hlt;have hts:=zh (List.take_succ_eq_append_getElem hlt);have hyr:=HTN.out _ (.inl (hmL.out _ (List.getElem_mem hlt)));obtain ⟨y,hy⟩:∃y,y=L[k]:=⟨_,rfl⟩;rw [←hy] at hcell hts hyr;clear hy;have hcall:=zh (cand1_calls t y wr (HS.out.ext (hx4.trans hxr)) SO.out.good.fn hfr ((hE4.trans hxr).cell hcbW) ((hE4.trans hxr).cell hcw) hyr.1 hyr.2);obtain ⟨bb,hbb⟩:∃bb,bb=(ze m t y && !decide (y∈us)):=⟨_,rfl⟩;rw [←hbb] at hcall;have HBB:=zh hbb;clear hbb hyr;have hfl:((L.take k).filter fun n=>ze m t n && !decide (n∈us)).length≤1000000000000:=Nat.le_trans (List.length_filter_le _ _) (by simp;omega);have hfs:Hid ((L.take (k+1)).filter (fun n=>ze m t n && !decide (n∈us))=(L.take k).filter (fun n=>ze m t n && !decide (n∈us))++(if bb then [y] else [])):=by rw [hts.out,List.filter_append,HBB.out];show _++List.filter _ [y]=_;by_cases h:(ze m t y && !decide (y∈us))=true <;> simp [List.filter_cons,h]
      generalize (L.take k).filter (fun n=>ze m t n && !decide (n∈us))=lk at*
      go_wp2_with fail
      refine hcall.out.mono ?_;rintro e w5 ⟨rfl,hd5⟩;have hE5:Ext wr w5:=hd5.below _;have hM5:=zh (hM.out.more hE5);clear hd5 hcall
      cases bb with
      | true=>
       have hz5:w4.heap.size≤w5.heap.size:=hM5.out.ext.size
       go_wp2_with (at_builtin;refine zan rfl _ _ rfl _ lk y w4.heap.size w5.heap.size 1 _ rfl rfl (hM5.out.own.alloc _) ?d1 ?d2 ?d3 ?_)
       (try case d1=>exact zm _ _ _ (by simp))
       case d2=>(first | (simp;done) | (simp;omega) | omega)
       case d3=>omega
       intro v' wb hob hgb _;have hM':=zh ((hM5.out.alloc _).app hob hgb);clear hob hgb;go_wp2;go_roundw
       case rel=>exact ⟨k+1,by omega,by go_num,by rw [hfs.out];exact hM'⟩
       case measure=>simp [intOf];omega
      | false=>
       go_wp2;go_roundw
       case rel=>exact ⟨k+1,by omega,by go_num,by rw [hfs.out];simpa using hM5⟩
       case measure=>simp [intOf];omega
     ·obtain rfl:k=L.length:=by omega
      go_wp2_with fail
      go_ret;refine ⟨_,rfl,(hx4.mono_mk hM.out).cast ?_⟩;rw [HC2.out,List.take_length]
   ·rw [List.concat_eq_append] at HP HCA HRP;have hpl:(q.concat x).length=q.length+1:=by simp
    have hpl2:(q++[x]).length=q.length+1:=by simp
    rw [hpl] at hcq hlp⊢;rw [hpl2] at HP;obtain ⟨N,hN⟩:∃N,N=q.length+1:=⟨_,rfl⟩;rw [←hN] at hcq hlp HP⊢;have hNi:(q.length:Int)<(N:Int):=by omega
    have hqw:IntKind.i64.wrap ((N:Int) - 1)=(q.length:Int):=by rw [IntKind.wrap_i64];omega
    have hqw2:(N:Int) - 1=(q.length:Int):=by omega
    have hq0:(0:Int)≤(q.length:Int):=by omega
    have hN0:0<N:=by omega
    have hqN:q.length≤N:=by omega
    have HC2:Hid (zb3 m ps us=(zi m x).filter (zL m us t q tk.1)):=by have h:=HCA.out;simp at h;exact h
    have hcells:Hid (∀k y,(q++[x])[k]?=some y→∃bq oq,Aq=some ⟨bq,oq,none⟩∧∀W',Ext w W'→W'.cell? ⟨bq,oq+k,none⟩=some (.int .i64 y)):=fun k y hy=>path_cell HP.out hy
    clear hpl hpl2 hN;have hmm:=@run_makeMap Tryz.prog
    go_wp2_with fail
    have hNR:Hid (NR W (W.alloc (.map #[] 0)) W.heap.size []):=⟨hxx.alloc _,zA.new W⟩;generalize hgn:W.heap.size=gn at*;have hgn1:gn=W.heap.size:=hgn.symm;have HGN:=zh hgn1;clear hgn hgn1;go_loopw [66] (fun i wr=>∃k s,k≤q.length∧i=.int .i64 (k:Nat)∧Hid (NR W wr gn s)∧Hid (∀z,z∈s↔∃y∈q.take k,z∈zi m y)) (fun i _=>q.length - (intOf i).toNat)
    case atStart=>exact ⟨0,[],by omega,rfl,hNR,by simp [Hid]⟩
    clear hNR
    case round=>
     obtain ⟨k,s,hk,rfl,hR,hmem⟩:=hrel;have hxr:Ext W wr:=hR.out.ext;have hx0:Ext w wr:=HW0.out.trans hxr;have hx1:Ext w1 wr:=hW1.trans hxr;obtain ⟨wk,rfl⟩:∃wk:World,wk=wr:=⟨_,rfl⟩;by_cases hlt:k<q.length
     ·obtain ⟨bq,oq,rfl,hcell⟩:=hcells.out k q[k] (by rw [List.getElem?_append_left hlt];exact List.getElem?_eq_getElem hlt);have hyr:=HRP.out q[k] (by simp);have hts:=zh (List.take_succ_eq_append_getElem hlt);obtain ⟨y,hy⟩:∃y,y=q[k]:=⟨_,rfl⟩;rw [←hy] at hcell hyr hts;clear hy;have hlk:(k:Int)<(q.length:Int):=by omega
      have hnx:=zh (zcq m y wk (HS.out.maze.below hx0) SO.out.good.dim hyr.1 hyr.2);clear hyr
      go_wp2_with fail
      refine hnx.out.mono ?_;rintro e w9 ⟨v9,rfl,hb9,ho9⟩;have hR9:=zh (hR.out.more hb9);have hO9:Hid (zy w9 wk.heap.size v9 (zi m y)):=ho9;obtain ⟨A9,c9,rfl,hc9⟩:=za6 ho9;have hgk:gn<wk.heap.size:=zb hR.out.set;clear hb9 ho9 hnx hR;have hl6:=za5 m y
      go_wp2_with fail
      go_loopw [77] (fun i wi=>∃j s',j≤(zi m y).length∧i=.int .i64 (j:Nat)∧Hid (NR W wi gn s')∧Hid (zy wi wk.heap.size (.slice A9 (zi m y).length c9) (zi m y))∧Hid (∀z,z∈s'↔z∈s∨z∈(zi m y).take j)) (fun i _=>(zi m y).length - (intOf i).toNat)
      case atStart=>exact ⟨0,s,Nat.zero_le _,rfl,hR9,hO9,by simp [Hid]⟩
      clear hR9 hO9
      case round=>
       obtain ⟨j,s',hj,rfl,hR,hO,hm'⟩:=hrel;by_cases hjl:j<(zi m y).length
       ·obtain ⟨b2,rfl,hb2,hcell2⟩:=own_at hO.out hjl;have hts2:=zh (fun z=>zW hjl z);obtain ⟨z,hz⟩:∃z,z=(zi m y)[j]:=⟨_,rfl⟩;rw [←hz] at hcell2 hts2;clear hz
        go_wp2_with (at_mapUpdate;refine zbD rfl _ _ _ _ rfl Tryz.underlying79 gn s' z rfl rfl rfl hR.out.set ?_)
        intro wb hsb hgb;have hR2:=zh (hR.out.add HGN.out hsb hgb);have hO2:Hid (zy wb wk.heap.size (.slice (some ⟨b2,0,none⟩) (zi m y).length c9) (zi m y)):=World.ownsRow.kept hO.out hgb (zbb hO.out hR.out.set);clear hsb hgb;go_wp2;go_roundw
        case rel=>exact ⟨j+1,ins s' z,by omega,by go_num,hR2,hO2,fun a=>by rw [mem_ins,hm'.out,hts2.out,or_assoc]⟩
        case measure=>simp [intOf];omega
       ·obtain rfl:j=(zi m y).length:=by omega
        go_wp2;go_roundw
        case rel=>exact ⟨k+1,s',by omega,by go_num,hR,fun a=>by rw [hm'.out,List.take_length,hmem.out,hts.out];exact near_step⟩
        case measure=>simp [intOf];omega
     ·obtain rfl:k=q.length:=by omega
      rw [List.take_length] at hmem;obtain ⟨bq,oq,rfl,hcell⟩:=hcells.out q.length x (by simp);have hyr:=HRP.out x (by simp);have hxk:=Ext.refl wk;have hnear:Hid (∀z,decide (z∈s)=q.any fun y=>decide (z∈zi m y)):=fun z=>near_any (hmem.out z)
      have hqw3:IntKind.i64.wrap ((N:Int) - 1)=(q.length:Int):=by rw [IntKind.wrap_i64];omega
      clear hqw hqw2
      go_wp2_with fail
      go_region_held3 (fun W'=>Ext w W'∧Ext w1 W'∧Ext wk W')
       (first | (exact ⟨hx0.drew,hx1.drew,hxk.drew⟩) | (exact ⟨hx0.drew.trans hb9,hx1.drew.trans hb9,hxk.drew.trans hb9⟩))
       ((go_at_call 44;refine (zcq m x _ (HS.out.maze.below hx0.drew) SO.out.good.dim hyr.1 hyr.2).mono ?_;rintro e w9 ⟨v9,rfl,hb9,ho9⟩;obtain ⟨A9,c9,rfl,hc9⟩:=za6 (l:=zi m x) ho9))
      rename_i hS9
      obtain ⟨hx09,hx19,hxk9⟩:=hS9;have hb9':Ext wk.drew w9:=hb9;have hO9:Hid (zy w9 wk.drew.heap.size (.slice A9 (zi m x).length c9) (zi m x)):=ho9;have hset9:=zh (hR.out.set.below hxk9);clear hb9 ho9 hR hb9' hcell;have hl6:=za5 m x;have hWk9:Ext W w9:=hxr.trans hxk9;have hMk:=zh (Mk.nil w9);have hrange:=zh (fun z hz=>zab (m:=m) (x:=z) SO.out.good.dim hyr.1 hyr.2 hz)
      go_wp2_with fail
      clear hx0 hx1 hxr hxk hlt hk;generalize hLL:zi m x=L at*;have HLL:=zh hLL;clear hLL;go_loopw [7,97] (fun v i wr=>∃k:Nat,k≤L.length∧i=.int .i64 (k:Nat)∧Hid (Mk w9 wr v ((L.take k).filter (zL m us t q tk.1)))) (fun _ i _=>L.length - (intOf i).toNat)
      case atStart=>exact ⟨0,by omega,rfl,hMk⟩
      clear hMk
      case round=>
       obtain ⟨k,hk,rfl,hM⟩:=hrel;have hxr:=hM.out.ext;by_cases hlt:k<L.length
       ·obtain ⟨b9,rfl,hb9,hcell⟩:=own_at (hO9.out.ext hxr) hlt;have hts:=zh (List.take_succ_eq_append_getElem hlt);have hyr2:=hrange.out _ (List.getElem_mem hlt);obtain ⟨y,hy⟩:∃y,y=L[k]:=⟨_,rfl⟩;rw [←hy] at hcell hts hyr2;clear hy;have hcall:=zh (cand1_calls t y wr (HS.out.ext (hx09.trans hxr)) SO.out.good.fn hfr ((hWk9.trans hxr).cell hcbW) ((hWk9.trans hxr).cell hcw) hyr2.1 hyr2.2);obtain ⟨b1,hb1'⟩:∃b1,b1=(ze m t y && !decide (y∈us)):=⟨_,rfl⟩;rw [←hb1'] at hcall;have hfol:zL m us t q tk.1 y=(b1 && !decide (y∈s) && !decide (y∈tk.1)):=by unfold zL;rw [hnear.out y,hb1']
        clear hb1' hyr2;have HFOL:=zh hfol;clear hfol;have hfl:((L.take k).filter (zL m us t q tk.1)).length≤1000:=Nat.le_trans (List.length_filter_le _ _) (by simp;omega);have hfs:Hid (∀bb,zL m us t q tk.1 y=bb→(L.take (k+1)).filter (zL m us t q tk.1)=(L.take k).filter (zL m us t q tk.1)++(if bb then [y] else [])):=fun bb h=>by rw [hts.out,List.filter_append];show _++List.filter _ [y]=_;cases bb <;> simp [List.filter_cons,h]
        generalize (L.take k).filter (zL m us t q tk.1)=lk at*
        go_wp2_with fail
        refine hcall.out.mono ?_;rintro e w5 ⟨rfl,hd5⟩;have hE5:Ext wr w5:=hd5.below _;have hM5:=zh (hM.out.more hE5);clear hd5 hcall;have hset5:=hset9.out.below (hxr.trans hE5);have hW5:Ext W w5:=hWk9.trans (hxr.trans hE5);have hF5:=zh (HF.out.below (HW0.out.trans hW5))
        cases b1 with
        | false=>
         have hff:Hid (zL m us t q tk.1 y=false):=HFOL.out.trans (by simp);go_wp2;go_roundw
         case rel=>exact ⟨k+1,by omega,by go_num,by rw [hfs.out false hff.out];simpa using hM5⟩
         case measure=>simp [intOf];omega
        | true=>
         by_cases hys:y∈s
         ·have hff:Hid (zL m us t q tk.1 y=false):=HFOL.out.trans (by simp [hys]);have hlk:=look_t hset5 hys;clear hys;go_wp2;go_roundw
          case rel=>exact ⟨k+1,by omega,by go_num,by rw [hfs.out false hff.out];simpa using hM5⟩
          case measure=>simp [intOf];omega
         ·have hlk:=look_f hset5 hys;have hrc:=rg3 w5 hW5;have hcon:=zh (zv y w5 hF5.out (by omega));by_cases hyf:y∈tk.1
          ·have hff:Hid (zL m us t q tk.1 y=false):=HFOL.out.trans (by simp [hyf]);rw [decide_eq_true hyf] at hcon;clear hys hyf
           go_wp2_with fail
           refine hcon.out.mono ?_;rintro e w6 ⟨rfl,rfl⟩;go_wp2;go_roundw
           case rel=>exact ⟨k+1,by omega,by go_num,by rw [hfs.out false hff.out];simpa using hM5⟩
           case measure=>simp [intOf];omega
          ·have hff:Hid (zL m us t q tk.1 y=true):=HFOL.out.trans (by simp [hys,hyf]);rw [decide_eq_false hyf] at hcon;clear hys hyf;have hz5:w9.heap.size≤w5.heap.size:=hM5.out.ext.size
           go_wp2_with (first | (go_at_call 42;refine hcon.out.mono ?_;rintro e w6 ⟨rfl,rfl⟩) | (at_builtin;refine zan rfl _ _ rfl _ lk y w9.heap.size w5.heap.size 1 _ rfl rfl (hM5.out.own.alloc _) ?d1 ?d2 ?d3 ?_))
           (try case d1=>exact zm _ _ _ (by simp))
           case d2=>(first | (simp;done) | (simp;omega) | omega)
           case d3=>omega
           intro v' wb hob hgb _;have hM':=zh ((hM5.out.alloc _).app hob hgb);clear hob hgb;go_wp2;go_roundw
           case rel=>exact ⟨k+1,by omega,by go_num,by rw [hfs.out true hff.out];exact hM'⟩
           case measure=>simp [intOf];omega
       ·obtain rfl:k=L.length:=by omega
        go_wp2_with fail
        go_ret;refine ⟨_,rfl,(hx09.mono_mk hM.out).cast ?_⟩;rw [HC2.out,List.take_length]
end Go.Proofs.YthbjngbhbbkkgaaGreat
namespace Go.Proofs.YthbjngbhbbkkgaaGreat
open Go.RowKit Go.Sort Go.Shelf
section
variable {w:World} {ok:Nat→Prop} {size n:Nat} {A:Option Addr} {v:Value} {xs:List Value}
theorem zY.bound (h:zY w ok size A n xs) (hs:0<size):zY w (fun b=>ok b∧b<w.heap.size) size A n xs:=by
 refine ⟨h.1,fun hn=>?_⟩;obtain ⟨b,off,e,hb,hc⟩:=h.2 hn;have h0:0<xs.length:=by rw [h.1];exact Nat.mul_pos hn hs
 exact ⟨b,off,e,⟨hb,zl (hc 0 _ (List.getElem?_eq_getElem h0))⟩,hc⟩
theorem Row.bound (h:Row w ok size v n xs) (hs:0<size):Row w (fun b=>ok b∧b<w.heap.size) size v n xs:=by
 obtain ⟨A,c,e,hc,hr⟩:=h;exact ⟨A,c,e,hc,hr.bound hs⟩
theorem zaQ.bound {l:List Bool} (h:zaQ w ok v l):zaQ w (fun b=>ok b∧b<w.heap.size) v l:=Row.bound h (by decide)
theorem Each.bound {α:Type} {R R':Value→α→Prop} {l:List α} (h:Each R w ok v l) (hR:∀u x,R u x→R' u x):Each R' w (fun b=>ok b∧b<w.heap.size) v l:=by
 obtain ⟨vs,hr,he⟩:=h;refine ⟨vs,hr.bound (by decide),fun i x hx=>?_⟩;obtain ⟨u,hu,hr⟩:=he i x hx;exact ⟨u,hu,hR _ _ hr⟩
theorem zaG.bound {l:List (List Bool)} (h:zaG w ok v l):zaG w (fun b=>ok b∧b<w.heap.size) v l:=Each.bound h (fun _ _ h=>zaQ.bound h)
theorem zo.bound {l:List (List Int)} (h:zo w ok v l):zo w (fun b=>ok b∧b<w.heap.size) v l:=Each.bound h (fun _ _ h=>zf.bound h)
theorem zbh.bound {l:List (List Int×List Int)} (h:zbh w ok v l):zbh w (fun b=>ok b∧b<w.heap.size) v l:=by
 obtain ⟨vs,hr,he⟩:=h;refine ⟨vs,hr.bound (by decide),fun i x hx=>?_⟩;obtain ⟨s,u1,u2,h0,h1,h2,i1,i2⟩:=he i x hx;exact ⟨s,u1,u2,h0,h1,h2,i1.bound,i2.bound⟩
theorem zr.bound {m:MZ} (h:zr w ok v m):zr w (fun b=>ok b∧b<w.heap.size) v m:=by
 obtain ⟨f,u,t,rfl,h1,h2,h3⟩:=h;exact ⟨f,u,t,rfl,h1.bound,h2.bound,h3.bound⟩
theorem zaZ.bound {g gu:Nat} {m:MZ} {ch us:List Int} {ps:List (List Int)} {f u t vc vp:Value} (h:zaZ w ok g m ch ps us f u t vc vp gu):zaZ w (fun b=>ok b∧b<w.heap.size) g m ch ps us f u t vc vp gu:=
 ⟨h.blk,⟨h.okg,zb h.blk⟩,h.maze.bound,h.ch.bound,h.ps.bound,⟨h.oku,zb h.us⟩,h.us⟩
end
abbrev InR (R:Int→Prop):={ x:Int // R x }
theorem holds_sub {R:Int→Prop} {w:World} {B g cap:Nat} {l:List (InR R)} [Inhabited (InR R)] (h:zy w B (.slice (some ⟨g,0,none⟩) (l.map (·.1)).length cap) (l.map (·.1))):Holds (fun x:InR R=>Value.int .i64 x.1) w g 0 l.toArray:=by
 intro j hj;have hj':j<l.length:=by simpa using hj
 refine ⟨?_,by have:=World.ownsRow.frozenAt h j;simpa using this⟩;have:=World.ownsRow.cellAt h j (by simpa using hj');rw [Nat.zero_add,this];simp [getElem!_pos,hj']
theorem sortWorld_same {α:Type} [Inhabited α] {enc:α→Value} {w:World} {blk off n B:Nat} {dk:Array α} {os:Array Obj} (hB:B≤blk) (hw:B≤w.heap.size):zX (fun b=>b<B) w (sortWorld enc w blk off n dk os):=by
 intro b hb hlt;have hne:blk≠b:=by omega
 simp [sortWorld,grow,putRow,mapBlock,Sort.ahead,Array.getElem?_append,Array.getElem?_modify,Array.getElem_modify,hlt,hne]
theorem deleteFuncI_calls {w1 w:World} {v:Value} {l:List Int} (hM:Mk w1 w v l) (R:Int→Prop) (hR:∀x∈l,R x) (h0:R 0) (hl:l.length≤1000000000000) (fn:FuncId) (lb:Array Value) (p:Int→Bool)
  (eg:∀args w,(callFunc fn args).run Tryz.prog w=.ok (.enter fn args) w)
  (hp:∀x,R x→∀W,zX (fun b=>b<w1.heap.size) w W→Calls Tryz.prog fn (#[.int .i64 x]++lb) W fun e w'=>e=.returned (.bool (p x))∧zG W w'):
  Calls Tryz.prog 130 #[v,.func (.func fn) #[] lb] w fun e w'=>∃v',e=.returned v'∧Mk w1 w' v' (l.filter fun x=>!p x):=by
 rcases Nat.eq_zero_or_pos l.length with hl0 | hl0
 ·have hnil:=List.eq_nil_of_length_eq_zero hl0;subst hnil;obtain ⟨A,c,rfl,_⟩:=hM.slice;have hI:=zh (zc7 fn lb p w hM.ints (by simp) eg (fun x hx=>by cases hx));have HM:=zh hM;clear hM hp
  go_enter Tryz.func130,Tryz.ntmps130
  go_wp2_with fail
  refine hI.out.mono ?_;rintro e w2 ⟨r,rfl,hr,hr1,hd⟩
  have hr2:r=-1:=by
   have:¬ 0≤r:=fun h=>by have:=hr.1 h;simp at this
   omega
  subst hr2;have hE:Ext w w2:=hd.below _;clear hd hr
  go_wp2_with fail
  go_ret;exact ⟨_,rfl,HM.out.more hE⟩
 ·letI:Inhabited (InR R):=⟨⟨0,h0⟩⟩
  obtain ⟨l',rfl⟩:∃l':List (InR R),l'.map (·.1)=l:=⟨l.attachWith R hR,by simp⟩;obtain ⟨g,cap,rfl,hg,hlt⟩:=World.ownsRow.form hM.own hl0;have hcap:=zbv hM.own;have hll:(l'.map (·.1)).length=l'.toArray.size:=by simp
  have hc:=AnyE.slices_DeleteFunc dfIA (fun x:InR R=>Value.int .i64 x.1) (fun _=>rfl) (fun x=>p x.1) fn lb eg ⟨0,h0⟩ Tryz.zeroValue3 g 0 cap l'.toArray w
   (fun W x hb=>by
    refine Calls.mono (hp x.1 x.2 W (fun b hb' hlt'=>hb.block b hlt')) ?_;rintro e w' ⟨rfl,q,rfl⟩;exact ⟨rfl,q,rfl⟩)
   (fun n os dk x _=>by
    refine Calls.mono (hp x.1 x.2 _ (sortWorld_same hg hM.ext.size)) ?_;rintro e w' ⟨rfl,q,rfl⟩;exact ⟨rfl,q,rfl⟩)
   (holds_sub hM.own) (by rw [←hll];omega) (by rw [←hll];exact hcap)
  change Calls Tryz.prog 130 _ _ _ at hc;rw [←hll] at hc;refine Calls.mono hc ?_;rintro e w' ⟨rfl,q,rfl⟩;have hfm:(l'.map (·.1)).filter (fun x=>!p x)=(l'.filter fun x=>!p x.1).map (·.1):=by rw [List.filter_map];rfl
  have hfl:(l'.filter fun x=>!p x.1).length≤l'.length:=List.length_filter_le _ _;refine ⟨_,rfl,?_,Lib.below_putRow hM.ext hg⟩
  have ho:w.ownsRow w1.heap.size 3 1 (.slice (some ⟨g,0,none⟩) (l'.map (·.1)).length cap) (l'.map (·.1)).length (l'.map fun x:InR R=>Value.int .i64 x.1):=by
   have:=hM.own;unfold zy at this;rw [List.map_map] at this;exact this
  have:=Lib.ownsRow_putRow (enc:=fun x:InR R=>Value.int .i64 x.1) (q:=q) (k:=(l'.filter fun x=>!p x.1).length) (ys:=(l'.filter fun x=>!p x.1)++List.replicate (l'.length - (l'.filter fun x=>!p x.1).length) ⟨0,h0⟩) ho (by simp;omega) (by simpa using hfl);rw [List.take_left' rfl] at this;rw [hfm];unfold zy;rw [List.map_map,List.length_map];simpa using this
end Go.Proofs.YthbjngbhbbkkgaaGreat
namespace Go.Proofs.YthbjngbhbbkkgaaGreat
open Go.RowKit Go.Shelf
attribute [local go_sem] Oper.semAt_some
attribute [local go_sem ↓] Go.wp_at_zero Go.wp_at_succ
def zaU (m:MZ) (ps:List (List Int)) (us:List Int) (t:Nat):List Int:=
 match (if t+1=ps.length then (ps.getD t []).getLast? else none) with
 | some x=>[x]
 | none=>((m.tasks.getD t ([],[])).1).filter fun n=>!(!ze m t n || decide (n∈us))
theorem sameCell {B:Nat} {w W:World} (hS:zX (fun b=>b<B) w W) {p:Addr} {v:Value} (hc:w.cell? p=some v) (hp:p.block<B):W.cell? p=some v:=
 (World.cell?_of_block (w:=w) (hS p.block hp (zl hc))).trans hc
theorem zaN {ok:Nat→Prop} {v:Value} {l:List Int} (w:World) (h:zf w ok v l) (hl:l.length≤1000000000000):
  Calls Tryz.prog 46 #[v] w fun e w'=>∃v',e=.returned v'∧Mk w w' v' l:=by
 have H:=zh h;have hnil:=nilEq 23 3 Tryz.underlying23;obtain ⟨A,c,rfl,hc,hr⟩:=h;rcases A with _ | a
 ·have hl0:l=[]:=by
   rcases Nat.eq_zero_or_pos l.length with h | h
   ·exact List.eq_nil_of_length_eq_zero h
   ·obtain ⟨b,off,e,_⟩:=hr.2 h;cases e
  subst hl0;clear hr
  go_enter Tryz.func46,Tryz.ntmps46
  go_wp2_with fail
  go_ret;exact ⟨_,rfl,Mk.nil _⟩
 ·clear hr;have hx:=Ext.refl w
  go_enter Tryz.func46,Tryz.ntmps46
  go_wp2_with (at_builtin;refine zaC (ok:=ok) rfl _ _ _ rfl w.heap.size [] l _ _ rfl rfl (zce w w.heap.size (Nat.le_refl _)) (H.out.below ((Ext.refl w).alloc _)) ?d1 ?d2 ?_)
  case d1=>simp
  case d2=>simp;omega
  intro v' w1 ho hg _;have HM:Hid (Mk w w1 v' l):=⟨ho,zT ((Ext.refl w).alloc _) hg (by simp) (fun k hk=>slice_own hk)⟩;clear ho hg
  go_wp2_with fail
  go_ret;exact ⟨_,rfl,HM.out⟩
theorem left11_del {ok:Nat→Prop} {m:MZ} {ch us:List Int} {ps:List (List Int)} {g gu gb b3:Nat} {f u ts vc vp:Value} {w wk w8:World} {v8:Value} {l:List Int} (tn:Nat) (h:zaZ w ok g m ch ps us f u ts vc vp gu) (so:SOk m ch ps) (hE:Ext w wk)
  (hM:Mk wk w8 v8 l) (hcb:wk.cell? ⟨gb,0,none⟩=some (.pointer (some ⟨g,0,none⟩))) (hc3:wk.cell? ⟨b3,0,none⟩=some (.int .i64 (tn:Int))) (htn:tn<m.tasks.length) (hl:l.length≤1000000000000) (hr:∀x∈l,0≤x∧x<m.n):
  Calls Tryz.prog 130 #[v8,.func (.func 131) #[] #[.pointer (some ⟨gb,0,none⟩),.pointer (some ⟨b3,0,none⟩)]] w8 fun e w'=>∃v',e=.returned v'∧Mk wk w' v' (l.filter fun n=>!(!ze m tn n || decide (n∈us))):=by
 have hfl:tn<m.free.length:=by have:=so.good.fl;omega
 refine deleteFuncI_calls hM (fun x=>0≤x∧x<m.n) hr ⟨by omega,by have:=so.good.n1;unfold MZ.n;omega⟩ hl _ _ (fun x=>!ze m tn x || decide (x∈us)) (zad (P:=Tryz.prog) Tryz.func131 (by kernel_rfl) (by kernel_rfl)) ?_;intro x hx W hS;have h1:zaZ W (fun b=>ok b∧b<w.heap.size) g m ch ps us f u ts vc vp gu:=h.bound.keep (fun b hb hlt=>(hS b (Nat.lt_of_lt_of_le hb.2 hE.size) (Nat.lt_of_lt_of_le hb.2 (hE.trans hM.ext).size)).trans ((hE.trans hM.ext).block b hb.2));exact left11_calls tn x W h1 so.good.fn hfl (sameCell hS (hM.ext.cell hcb) (zl hcb)) (sameCell hS (hM.ext.cell hc3) (zl hc3)) hx.1 hx.2
theorem left1_next {m:MZ} {ps:List (List Int)} {w W wr w5:World} {J:Nat→World→Prop} {k tn t0 b3:Nat} (htn:Hid (tn=t0+k)) (hk:k≤m.tasks.length+1 - ps.length) (hlt:tn<m.tasks.length) (h6:m.tasks.length≤1000000) (ht0:ps.length=t0+1)
  (HJ:Hid (∀(k:Nat) (A B:World),J k A→Below W.heap.size A B→J k B)) (HC:Hid (wr.cell? ⟨b3,0,none⟩=some (.int .i64 (tn:Int)))) (hE5:Ext w w5) (hJ5:Hid (J (k+1) w5)) (hz5:W.heap.size≤w5.heap.size):
  (∃k tn_1 b3,Value.pointer (some ⟨w5.heap.size,0,none⟩)=Value.pointer (some ⟨b3,0,none⟩)∧Hid (tn_1=t0+k)∧k≤m.tasks.length+1 - ps.length∧Hid (W.heap.size≤b3)∧
   Hid ((w5.alloc (Obj.cells #[Value.int IntKind.i64 (wrap64 ((tn:Int)+1))] 3)).cell? ⟨b3,0,none⟩=some (Value.int IntKind.i64 (tn_1:Int))∧(w5.alloc (Obj.cells #[Value.int IntKind.i64 (wrap64 ((tn:Int)+1))] 3)).frozen? ⟨b3,0,none⟩=false)∧
   Hid (Ext w (w5.alloc (Obj.cells #[Value.int IntKind.i64 (wrap64 ((tn:Int)+1))] 3)))∧Hid (J k (w5.alloc (Obj.cells #[Value.int IntKind.i64 (wrap64 ((tn:Int)+1))] 3)))∧
   Hid (W.heap.size≤(w5.alloc (Obj.cells #[Value.int IntKind.i64 (wrap64 ((tn:Int)+1))] 3)).heap.size))∧
  (match Value.pointer (some ⟨w5.heap.size,0,none⟩) with
   | Value.pointer (some a)=>(match (w5.alloc (Obj.cells #[Value.int IntKind.i64 (wrap64 ((tn:Int)+1))] 3)).cell? a with | some (Value.int k i)=>m.tasks.length - i.toNat | x=>0)
   | x=>0)<
  (match Value.pointer (some ⟨b3,0,none⟩) with
   | Value.pointer (some a)=>(match wr.cell? a with | some (Value.int k i)=>m.tasks.length - i.toNat | x=>0)
   | x=>0):=by
 have h1:=htn.out;have hw:wrap64 ((tn:Int)+1)=((tn+1:Nat):Int):=by rw [IntWalk.wrap64_in _ (by omega)];omega
 rw [hw];refine ⟨⟨k+1,tn+1,w5.heap.size,rfl,(by omega:tn+1=t0+(k+1)),by omega,hz5,⟨zm _ _ _ rfl,World.frozen?_alloc_at _ _ _ _ rfl⟩,hE5.alloc _,HJ.out _ _ _ hJ5.out ((Below.refl _ w5).alloc hz5 _),Nat.le_trans hz5 (by simp)⟩,?_⟩;simp only [zm _ _ _ rfl,HC.out];omega
theorem left1_gives {ok:Nat→Prop} {m:MZ} {ch us:List Int} {ps:List (List Int)} {g gu gb:Nat} {f u ts vc vp:Value} (w:World) (h:zaZ w ok g m ch ps us f u ts vc vp gu) (so:SOk m ch ps) (hc:w.cell? ⟨gb,0,none⟩=some (.pointer (some ⟨g,0,none⟩))) (hp:cmpB m ps=false) (n:Nat) (hn:1≤n):
  GivesB n Tryz.prog 129 #[.pointer (some ⟨gb,0,none⟩)] (fun x:Int×Value=>#[.int .i64 x.1,x.2]) (fun k x W=>x.1=((ps.length - 1+k:Nat):Int)∧zf W (fun _=>True) x.2 (zaU m ps us (ps.length - 1+k))) (m.tasks.length+1 - ps.length) w:=by
 intro l J Jx W hW hwl hl hJ hJx hY h0;have HS:=zh h.bound;clear h;have HY:=zh hY;clear hY;have HJ:=zh hJ;clear hJ;have HJX:=zh hJx;clear hJx;have H0:=zh h0;clear h0;have hps6:ps.length≤6:=Nat.le_trans so.pl so.good.tk;obtain ⟨r0,r1,r2,r3,r4,r5,r6,r7,r8⟩:=HS.out.rules;have rb:=Ext.rule hc;have SO:=zh so
 have hps0:0<ps.length:=by
  by_cases h0:m.tasks.length=0
  ·unfold cmpB at hp;rw [decide_eq_true h0] at hp;cases hp
  ·exact so.pn (by omega)
 have hpl:=so.pl;have hmz:=HS.out.maze;obtain ⟨fr',up',ts',hee,_,_,hts⟩:=hmz;injection hee with hee;injection hee with hee;simp only [List.cons.injEq,and_true,true_and] at hee;obtain ⟨rfl,rfl,rfl⟩:=hee;have HTS:=zh hts;obtain ⟨vst,⟨At,ct,rfl,hct,_⟩,_⟩:=hts;clear hc so;refine callsIn_of_wp Tryz.func129 rfl trivial ?_ rfl;simp only [Tryz.ntmps129,List.size_toArray,List.length_cons,List.length_nil,Nat.reduceAdd,Nat.reduceSub,Array.replicate_succ,Array.replicate_zero,List.push_toArray,List.append_toArray,List.nil_append,List.cons_append]
 gi_wp2_with (refine ⟨trivial,?_⟩;gi_at_call 64;refine (callsIn_wide.2 (zb8 _ (HS.out.ext hW) SO.out)).mono ?_;rintro e wA ⟨rfl,hdA⟩;rw [hp];have hxA:Ext W wA:=hdA.below _;have hA:Ext w wA:=hW.trans hxA)
 refine ⟨trivial,?_⟩;refine (callsIn_wide.2 (zaB _ (HS.out.ext hA) (by omega))).mono ?_;rintro e wB ⟨he,hBA⟩;subst hBA;obtain ⟨t0,ht0⟩:∃t0,ps.length=t0+1:=⟨ps.length - 1,by omega⟩;have hki:(ps.length:Int) - 1=(t0:Int):=by omega
 rw [hki] at he;subst he;clear hki hdA
 gi_wp2
 gi_loopw [3] (fun v wr=>∃k tn b3,v=.pointer (some ⟨b3,0,none⟩)∧Hid (tn=t0+k)∧k≤m.tasks.length+1 - ps.length∧Hid (W.heap.size≤b3)∧Hid (wr.cell? ⟨b3,0,none⟩=some (.int .i64 (tn:Int))∧wr.frozen? ⟨b3,0,none⟩=false)∧Hid (Ext w wr)∧Hid (J k wr)∧Hid (W.heap.size≤wr.heap.size)) (fun v wr=>match v with | .pointer (some a)=>(match wr.cell? a with | some (.int _ i)=>m.tasks.length - i.toNat | _=>0) | _=>0)
 case atStart=>
  have hz:=hxA.size;exact ⟨0,t0,wA.heap.size,rfl,rfl,by omega,hz,⟨zm _ _ _ rfl,World.frozen?_alloc_at _ _ _ _ rfl⟩,hA.alloc _,HJ.out _ _ _ H0.out ((hxA).alloc _),Nat.le_trans hz (by simp)⟩
 case round=>
  obtain ⟨k,tn,b3,rfl,htn,hk,hb3,hcf,hE,hJk,hsz⟩:=hrel;have hEo:=hE.out;obtain ⟨hcb3,hfb3⟩:=hcf.out;have HCBR:=zh hcb3
  gi_wp2
  refine wpIn_wide.2 ?_;go_quiet (fail)
  generalize hw2:wr.drewN nq=w2;have hd2:zG wr w2:=⟨nq,hw2.symm⟩;have hx2:Ext wr w2:=hd2.below _;clear hw2 hd2;have hE2:Ext w w2:=hEo.trans hx2;have hcb2:=hx2.cell hcb3;have hf2:w2.frozen? ⟨b3,0,none⟩=false:=(Below.frozen hx2 (p:=⟨b3,0,none⟩) (zl hcb3)).trans hfb3;have hJ2:=zh (HJ.out _ _ _ hJk.out (hx2.mono hsz.out));have hz2:W.heap.size≤w2.heap.size:=Nat.le_trans hsz.out hx2.size;clear hcb3 hfb3 hcf hJk hE hEo hx2;by_cases hlt:tn<m.tasks.length
  ·have ht0p:t0<ps.length:=by omega
   obtain ⟨vs,⟨Ap,cp,rfl,hcp,hrp⟩,hep⟩:=HS.out.ps;obtain ⟨b,off,up,rfl,_,hcp0,hup⟩:=zP hrp hep ht0p ht0p;have hlp:=SO.out.pp _ (List.getElem_mem ht0p);have q0:=Ext.rule hcp0;have ht1:(t0:Int)<(ps.length:Int):=by omega
   have ht00:(0:Int)≤(t0:Int):=by omega
   obtain ⟨p,hpp⟩:∃p,p=ps[t0]:=⟨_,rfl⟩;rw [←hpp] at hup hlp;have HPP:=zh hpp;clear hpp;have HUP:=zh hup;obtain ⟨Aq,cq,rfl,hcq,hrq⟩:=hup;clear hrp hep hcp0 hrq;have hk0i:(k=0)∨(k≠0):=by omega
   rcases hk0i with hk0 | hk0
   ·have htt:Hid (tn=t0):=(by have:=htn.out;omega:tn=t0);have hd:((tn:Int)==(t0:Int))=true:=by rw [beq_iff_eq,htt.out]
    have hmin:min (tn:Int) (t0:Int)=(t0:Int):=by rw [htt.out];omega
    clear hk0
    gi_wp2
    refine wpIn_wide.2 ?_;go_quiet ((go_at_call 103;refine (zaB _ (HS.out.ext (hE2.drewN _)) (by omega)).mono ?_;rintro e w9 ⟨he9,rfl⟩;rw [show (ps.length:Int) - 1=(t0:Int) from by omega] at he9;exact ⟨he9,⟨_,rfl⟩⟩))
    generalize hw3:w2.drewN nq=w3;have hd3:zG w2 w3:=⟨nq,hw3.symm⟩;have hx3:Ext w2 w3:=hd3.below _;clear hw3 hd3;have hE3:Ext w w3:=hE2.trans hx3;have hcb3:=hx3.cell hcb2;have hf3:w3.frozen? ⟨b3,0,none⟩=false:=(Below.frozen hx3 (p:=⟨b3,0,none⟩) (zl hcb2)).trans hf2;have hJ3:=zh (HJ.out _ _ _ hJ2.out (hx3.mono hz2));have hz3:W.heap.size≤w3.heap.size:=Nat.le_trans hz2 hx3.size;clear hcb2 hf2 hJ2 hE2 hx3 hz2;rcases List.eq_nil_or_concat p with rfl | ⟨q,x,rfl⟩
    ·have HFR:Hid (zaU m ps us tn=((m.tasks.getD tn ([],[])).1).filter fun n=>!(!ze m tn n || decide (n∈us))):=by
      show zaU m ps us tn=_;unfold zaU;rw [if_pos (by have:=htt.out;omega),htt.out,List.getD_eq_getElem?_getD,List.getElem?_eq_getElem ht0p,Option.getD_some,←HPP.out]
      all_goals rfl
     gi_wp2
     refine wpIn_wide.2 ?_;go_quiet ((go_at_call 103;refine (zaB _ (HS.out.ext (hE3.drewN _)) (by omega)).mono ?_;rintro e w9 ⟨he9,rfl⟩;rw [show (ps.length:Int) - 1=(t0:Int) from by omega] at he9;exact ⟨he9,⟨_,rfl⟩⟩))
     gi_wp2
     refine wpIn_wide.2 ?_;generalize hw6:w3.drewN nq=w6;have hd6:zG w3 w6:=⟨nq,hw6.symm⟩;have hx6:Ext w3 w6:=hd6.below _;have hx6c:=hx6;clear hw6 hd6;have hE6:Ext w w6:=hE3.trans hx6;have hcb6:=hx6.cell hcb3;have hJ6:=zh (HJ.out _ _ _ hJ3.out (hx6.mono hz3));have hz6:W.heap.size≤w6.heap.size:=Nat.le_trans hz3 hx6.size;clear hJ3 hE3 hx6 hz3;have HCB6:=zh hcb6;have HFZ:=zh ((Below.frozen hx6c (p:=⟨b3,0,none⟩) (zl hcb3)).trans hf3);clear hf3 hcb3 hx6c;have hlt':tn<m.tasks.length:=hlt;obtain ⟨bt,offt,sn,u1,u2,rfl,_,hk0',hk1,hk2,hi1,hi2⟩:=zam HTS.out hlt';have hlf:=(SO.out.lens.tl _ (List.getElem_mem hlt')).1;have htnR:=SO.out.good.tn _ (List.getElem_mem hlt');have HFR':Hid (zaU m ps us tn=((m.tasks[tn]).1).filter fun n=>!(!ze m tn n || decide (n∈us))):=HFR.out.trans (by rw [List.getD_eq_getElem?_getD,List.getElem?_eq_getElem hlt',Option.getD_some]);obtain ⟨tk,htk⟩:∃tk,tk=m.tasks[tn]:=⟨_,rfl⟩;rw [←htk] at hi1 hlf htnR HFR';clear htk hi2 hk0' hk2;have HF:=zh hi1;obtain ⟨A5,c5,rfl,hc5,_⟩:=hi1;have HTN:=zh htnR;clear htnR;have q1:=Ext.rule hk1;have rb3:=Ext.rule hcb6;have hx66:=Ext.refl w6;have htl:(tn:Int)<(m.tasks.length:Int):=by omega
     have htl0:(0:Int)≤(tn:Int):=by omega
     have hfrl:tn<m.free.length:=by have:=SO.out.good.fl;omega
     clear hk1 hcb6;have hR0:(0:Int)≤0∧(0:Int)<m.n:=by have:=SO.out.good.n1;unfold MZ.n;omega
     have q3:=rb3
     go_region_held3 (fun W'=>Ext w W'∧Ext w6 W')
      (first | (exact ⟨hE6.drew,hx66.drew⟩) | (exact ⟨hE6.drew.trans hM9.ext,hx66.drew.trans hM9.ext⟩) | (exact ⟨hE6.drew.trans hM8.ext,hx66.drew.trans hM8.ext⟩) | assumption)
      (first | ((go_at_call 46;refine (zaN _ (HF.out.below hE6.drew) (by omega)).mono ?_;rintro e w8 ⟨v8,rfl,hM8⟩)) | ((go_at_call 130;refine (left11_del tn HS.out SO.out hE6.drew hM8 (rb _ hE6.drew) (q3 _ hx66.drew) hlt' (by omega) (fun x hx=>HTN.out x (.inl hx))).mono ?_;rintro e w9 ⟨v9,rfl,hM9⟩)))
     all_goals
      have hE4:Ext w w9:=hE6.drew.trans hM9.ext;have hx64:Ext w6 w9:=hx66.drew.trans hM9.ext
      have HV4:Hid (zf w9 (fun _=>True) v9 (zaU m ps us tn)):=by
       have h1:=hM9.ints;rw [←HFR'.out] at h1;exact h1.weaken fun _ _=>trivial
      have hcb4:=hx64.cell HCB6.out;have hf4:w9.frozen? ⟨b3,0,none⟩=false:=(Below.frozen hx64 (p:=⟨b3,0,none⟩) (zl HCB6.out)).trans HFZ.out;have hJ4:=zh (HJ.out _ _ _ hJ6.out (hx64.mono hz6));have hz4:W.heap.size≤w9.heap.size:=Nat.le_trans hz6 hx64.size;have HTN':=htn.out;clear hM9 hM8 hx64 q3 rb3 hx66 q1 hE6 hJ6 hz6 HCB6 HFZ;obtain ⟨fn,tmps,assign,body,hy,hR⟩:=HY.out k ((tn:Int),v9) w9 (by omega) hJ4.out ⟨by simp;omega,by have:=HV4.out;rwa [show ps.length - 1+k=tn from by omega]⟩;have HR:=zh hR;clear hR HTN';dsimp only at hy
      gi_wp2
      refine HR.out.mono ?_;rintro e w5 (⟨rfl,hJ5,hg5⟩ | ⟨rfl,hJx5⟩)
      ·have hb3l:b3≠l:=by have:=hb3.out;omega
       have hE5:Ext w w5:=za4 hE4 hg5 (Nat.le_trans hW.size hz4) hwl;have hcb5:w5.cell? ⟨b3,0,none⟩=some (.int .i64 (tn:Int)):=World.grownBy.cell hg5 hcb4 (fun e=>hb3l (by injection e));have hz5:W.heap.size≤w5.heap.size:=Nat.le_trans hz4 hg5.size;have HJ5:=zh hJ5;clear hJ5 hg5 hy
       gi_wp2
       exact left1_next htn hk hlt' (by have:=SO.out.good.tk;omega) ht0 HJ HCBR hE5 HJ5 hz5
      ·gi_wp2
       refine bodyPost_ret (results_none rfl _ _ _) rfl ?_;exact ⟨⟨_,rfl⟩,.inr hJx5⟩
    ·rw [List.concat_eq_append] at*
     have HFR':Hid (zaU m ps us tn=[x]):=by
      show zaU m ps us tn=_;unfold zaU;rw [if_pos (by have:=htt.out;omega),htt.out,List.getD_eq_getElem?_getD,List.getElem?_eq_getElem ht0p,Option.getD_some,←HPP.out];simp
     obtain ⟨N,hN⟩:∃N,N=(q++[x]).length:=⟨_,rfl⟩;have hNq:N=q.length+1:=by rw [hN];simp
     have hup2:=HUP.out;obtain ⟨A',c',hAA,hcc,hrr⟩:=hup2;obtain ⟨b5,o5,hA5,hb5,hcc5⟩:=hrr.2 (by simp);injection hAA with hAA hAA2 hAA3;subst hAA hAA3 hA5;have hx5:w.cell? ⟨b5,o5+q.length,none⟩=some (.int .i64 x):=hcc5 q.length _ (by simp);have HX5:=zh hx5;have hok5:b5<w.heap.size:=hb5.2;clear hcc5 hx5 hrr hAA2 hcc HPP HUP hb5;rw [←hN] at q0 hcq hlp;have hNl:(0:Int)<(N:Int):=by omega
     have hNd:decide ((0:Int)<(N:Int))=true:=decide_eq_true hNl;have hqw:IntKind.i64.wrap ((N:Int) - 1)=(q.length:Int):=by rw [IntKind.wrap_i64];omega
     have hqw2:wrap64 ((N:Int) - 1)=(q.length:Int):=by rw [IntWalk.wrap64_in _ (by omega)];omega
     have hql:(0:Int)≤(q.length:Int)∧(q.length:Int)≤(N:Int):=by omega
     rw [←hN];clear hN
     gi_wp2
     refine wpIn_wide.2 ?_;go_quiet ((go_at_call 103;refine (zaB _ (HS.out.ext (hE3.drewN _)) (by omega)).mono ?_;rintro e w9 ⟨he9,rfl⟩;rw [show (ps.length:Int) - 1=(t0:Int) from by omega] at he9;exact ⟨he9,⟨_,rfl⟩⟩))
     generalize hw6:w3.drewN nq=w9;have hd6:zG w3 w9:=⟨nq,hw6.symm⟩;have hx6:Ext w3 w9:=hd6.below _;clear hw6 hd6;have hE4:Ext w w9:=hE3.trans hx6;have hcb4:=hx6.cell hcb3;have hf4:w9.frozen? ⟨b3,0,none⟩=false:=(Below.frozen hx6 (p:=⟨b3,0,none⟩) (zl hcb3)).trans hf3;have hJ4:=zh (HJ.out _ _ _ hJ3.out (hx6.mono hz3));have hz4:W.heap.size≤w9.heap.size:=Nat.le_trans hz3 hx6.size;clear hJ3 hE3 hx6 hz3 hcb3 hf3;have hlt':tn<m.tasks.length:=hlt;have HTN':=htn.out
     have HV4:Hid (zf w9 (fun _=>True) (.slice (some ⟨b5,o5+q.length,none⟩) 1 (cq - q.length)) (zaU m ps us tn)):=by
      show zf w9 _ _ (zaU m ps us tn);rw [HFR'.out];refine ⟨_,_,rfl,by simp;omega,by simp,fun _=>⟨b5,o5+q.length,rfl,trivial,?_⟩⟩;intro i u hi
      match i,hi with
      | 0,hi=>
       injection hi with hi;rw [←hi];exact hE4.cell HX5.out
     obtain ⟨fn,tmps,assign,body,hy,hR⟩:=HY.out k ((tn:Int),(.slice (some ⟨b5,o5+q.length,none⟩) 1 (cq - q.length))) w9 (by omega) hJ4.out ⟨by simp;omega,by have:=HV4.out;rwa [show ps.length - 1+k=tn from by omega]⟩;have HR:=zh hR;clear hR HTN';dsimp only at hy
     gi_wp2
     refine HR.out.mono ?_;rintro e w5 (⟨rfl,hJ5,hg5⟩ | ⟨rfl,hJx5⟩)
     ·have hb3l:b3≠l:=by have:=hb3.out;omega
      have hE5:Ext w w5:=za4 hE4 hg5 (Nat.le_trans hW.size hz4) hwl;have hcb5:w5.cell? ⟨b3,0,none⟩=some (.int .i64 (tn:Int)):=World.grownBy.cell hg5 hcb4 (fun e=>hb3l (by injection e));have hz5:W.heap.size≤w5.heap.size:=Nat.le_trans hz4 hg5.size;have HJ5:=zh hJ5;clear hJ5 hg5 hy
      gi_wp2
      exact left1_next htn hk hlt' (by have:=SO.out.good.tk;omega) ht0 HJ HCBR hE5 HJ5 hz5
     ·gi_wp2
      refine bodyPost_ret (results_none rfl _ _ _) rfl ?_;exact ⟨⟨_,rfl⟩,.inr hJx5⟩
   ·have hlt0:(t0:Int)<(tn:Int):=by have:=htn.out;omega
    have hd:((tn:Int)==(t0:Int))=false:=by rw [beq_eq_false_iff_ne];omega
    have hmin:min (tn:Int) (t0:Int)=(t0:Int):=by omega
    clear hk0
    gi_wp2
    refine wpIn_wide.2 ?_;go_quiet ((go_at_call 103;refine (zaB _ (HS.out.ext (hE2.drewN _)) (by omega)).mono ?_;rintro e w9 ⟨he9,rfl⟩;rw [show (ps.length:Int) - 1=(t0:Int) from by omega] at he9;exact ⟨he9,⟨_,rfl⟩⟩))
    generalize hw3:w2.drewN nq=w3;have hd3:zG w2 w3:=⟨nq,hw3.symm⟩;have hx3:Ext w2 w3:=hd3.below _;clear hw3 hd3;have hE3:Ext w w3:=hE2.trans hx3;have hcb3:=hx3.cell hcb2;have hf3:w3.frozen? ⟨b3,0,none⟩=false:=(Below.frozen hx3 (p:=⟨b3,0,none⟩) (zl hcb2)).trans hf2;have hJ3:=zh (HJ.out _ _ _ hJ2.out (hx3.mono hz2));have hz3:W.heap.size≤w3.heap.size:=Nat.le_trans hz2 hx3.size;clear hcb2 hf2 hJ2 hE2 hx3 hz2
    have HFR:Hid (zaU m ps us tn=((m.tasks.getD tn ([],[])).1).filter fun n=>!(!ze m tn n || decide (n∈us))):=by
     show zaU m ps us tn=_;unfold zaU;rw [if_neg (by omega)]
    gi_wp2
    refine wpIn_wide.2 ?_;go_quiet ((go_at_call 103;refine (zaB _ (HS.out.ext (hE3.drewN _)) (by omega)).mono ?_;rintro e w9 ⟨he9,rfl⟩;rw [show (ps.length:Int) - 1=(t0:Int) from by omega] at he9;exact ⟨he9,⟨_,rfl⟩⟩))
    gi_wp2
    refine wpIn_wide.2 ?_;generalize hw6:w3.drewN nq=w6;have hd6:zG w3 w6:=⟨nq,hw6.symm⟩;have hx6:Ext w3 w6:=hd6.below _;have hx6c:=hx6;clear hw6 hd6;have hE6:Ext w w6:=hE3.trans hx6;have hcb6:=hx6.cell hcb3;have hJ6:=zh (HJ.out _ _ _ hJ3.out (hx6.mono hz3));have hz6:W.heap.size≤w6.heap.size:=Nat.le_trans hz3 hx6.size;clear hJ3 hE3 hx6 hz3;have HCB6:=zh hcb6;have HFZ:=zh ((Below.frozen hx6c (p:=⟨b3,0,none⟩) (zl hcb3)).trans hf3);clear hf3 hcb3 hx6c;have hlt':tn<m.tasks.length:=hlt;obtain ⟨bt,offt,sn,u1,u2,rfl,_,hk0',hk1,hk2,hi1,hi2⟩:=zam HTS.out hlt';have hlf:=(SO.out.lens.tl _ (List.getElem_mem hlt')).1;have htnR:=SO.out.good.tn _ (List.getElem_mem hlt');have HFR':Hid (zaU m ps us tn=((m.tasks[tn]).1).filter fun n=>!(!ze m tn n || decide (n∈us))):=HFR.out.trans (by rw [List.getD_eq_getElem?_getD,List.getElem?_eq_getElem hlt',Option.getD_some]);obtain ⟨tk,htk⟩:∃tk,tk=m.tasks[tn]:=⟨_,rfl⟩;rw [←htk] at hi1 hlf htnR HFR';clear htk hi2 hk0' hk2;have HF:=zh hi1;obtain ⟨A5,c5,rfl,hc5,_⟩:=hi1;have HTN:=zh htnR;clear htnR;have q1:=Ext.rule hk1;have rb3:=Ext.rule hcb6;have hx66:=Ext.refl w6;have htl:(tn:Int)<(m.tasks.length:Int):=by omega
    have htl0:(0:Int)≤(tn:Int):=by omega
    have hfrl:tn<m.free.length:=by have:=SO.out.good.fl;omega
    clear hk1 hcb6;have hR0:(0:Int)≤0∧(0:Int)<m.n:=by have:=SO.out.good.n1;unfold MZ.n;omega
    have q3:=rb3
    go_region_held3 (fun W'=>Ext w W'∧Ext w6 W')
     (first | (exact ⟨hE6.drew,hx66.drew⟩) | (exact ⟨hE6.drew.trans hM9.ext,hx66.drew.trans hM9.ext⟩) | (exact ⟨hE6.drew.trans hM8.ext,hx66.drew.trans hM8.ext⟩) | assumption)
     (first | ((go_at_call 46;refine (zaN _ (HF.out.below hE6.drew) (by omega)).mono ?_;rintro e w8 ⟨v8,rfl,hM8⟩)) | ((go_at_call 130;refine (left11_del tn HS.out SO.out hE6.drew hM8 (rb _ hE6.drew) (q3 _ hx66.drew) hlt' (by omega) (fun x hx=>HTN.out x (.inl hx))).mono ?_;rintro e w9 ⟨v9,rfl,hM9⟩)))
    all_goals
     have hE4:Ext w w9:=hE6.drew.trans hM9.ext;have hx64:Ext w6 w9:=hx66.drew.trans hM9.ext
     have HV4:Hid (zf w9 (fun _=>True) v9 (zaU m ps us tn)):=by
      have h1:=hM9.ints;rw [←HFR'.out] at h1;exact h1.weaken fun _ _=>trivial
     have hcb4:=hx64.cell HCB6.out;have hf4:w9.frozen? ⟨b3,0,none⟩=false:=(Below.frozen hx64 (p:=⟨b3,0,none⟩) (zl HCB6.out)).trans HFZ.out;have hJ4:=zh (HJ.out _ _ _ hJ6.out (hx64.mono hz6));have hz4:W.heap.size≤w9.heap.size:=Nat.le_trans hz6 hx64.size;have HTN':=htn.out;clear hM9 hM8 hx64 q3 rb3 hx66 q1 hE6 hJ6 hz6 HCB6 HFZ;obtain ⟨fn,tmps,assign,body,hy,hR⟩:=HY.out k ((tn:Int),v9) w9 (by omega) hJ4.out ⟨by simp;omega,by have:=HV4.out;rwa [show ps.length - 1+k=tn from by omega]⟩;have HR:=zh hR;clear hR HTN';dsimp only at hy
     gi_wp2
     refine HR.out.mono ?_;rintro e w5 (⟨rfl,hJ5,hg5⟩ | ⟨rfl,hJx5⟩)
     ·have hb3l:b3≠l:=by have:=hb3.out;omega
      have hE5:Ext w w5:=za4 hE4 hg5 (Nat.le_trans hW.size hz4) hwl;have hcb5:w5.cell? ⟨b3,0,none⟩=some (.int .i64 (tn:Int)):=World.grownBy.cell hg5 hcb4 (fun e=>hb3l (by injection e));have hz5:W.heap.size≤w5.heap.size:=Nat.le_trans hz4 hg5.size;have HJ5:=zh hJ5;clear hJ5 hg5 hy
      gi_wp2
      exact left1_next htn hk hlt' (by have:=SO.out.good.tk;omega) ht0 HJ HCBR hE5 HJ5 hz5
     ·gi_wp2
      refine bodyPost_ret (results_none rfl _ _ _) rfl ?_;exact ⟨⟨_,rfl⟩,.inr hJx5⟩
  ·gi_wp2
   go_end0
   have hkN:k=m.tasks.length+1 - ps.length:=by have:=htn.out;omega
   exact ⟨⟨_,rfl⟩,.inl (by rw [←hkN];exact hJ2.out)⟩
end Go.Proofs.YthbjngbhbbkkgaaGreat
