/- RtCz RtLx RtSs -/
import Derived.Test.YthbjngbhbbkkgaaGreatHUx
import Derived.Laws.EntriesVeiled
set_option linter.unusedVariables false
set_option linter.unusedSimpArgs false
set_option maxRecDepth 100000
set_option maxHeartbeats 16000000
namespace Go.Proofs.YthbjngbhbbkkgaaGreat
open Go.RowKit
attribute [local go_sem ↓] Go.wp_at_zero Go.wp_at_succ
attribute [local go_sem] Oper.semAt_some
structure Ctx (lb B gy gl gc:Nat) (Az:Option Addr) (cz:Nat) (zs:List Int) (W:World):Prop where
 y:W.cell? ⟨gy,0,none⟩=some (.func (.yield lb) #[] #[])
 z:W.cell? ⟨gl,0,none⟩=some (.slice Az zs.length cz)
 c:W.cell? ⟨gc,0,none⟩=some (.func (.func 73) #[] #[.pointer (some ⟨gy,0,none⟩),.pointer (some ⟨gl,0,none⟩),.pointer (some ⟨gc,0,none⟩)])
 zc:∀j (hj:j<zs.length),∃b off,Az=some ⟨b,off,none⟩∧b<B∧b≠lb∧W.cell? ⟨b,off+j,none⟩=some (.int .i64 zs[j])
 lt:gy<B∧gl<B∧gc<B∧lb<B
 ne:gy≠lb∧gl≠lb∧gc≠lb
 sz:B≤W.heap.size
theorem rc_cell {lb B j b off:Nat} {W W':World} {u:Value} (hR:RC lb B j W W') (hb:b<B) (hne:b≠lb) (h:W.cell? ⟨b,off,none⟩=some u):W'.cell? ⟨b,off,none⟩=some u:=
 (World.cell?_of_block (w:=W) (a:=⟨b,off,none⟩) (hR.keep b hb (zl h) hne)).trans h
theorem Ctx.rc {lb B gy gl gc cz j:Nat} {Az:Option Addr} {zs:List Int} {W W':World} (h:Ctx lb B gy gl gc Az cz zs W) (hR:RC lb B j W W'):Ctx lb B gy gl gc Az cz zs W':=
 ⟨rc_cell hR h.lt.1 h.ne.1 h.y,rc_cell hR h.lt.2.1 h.ne.2.1 h.z,rc_cell hR h.lt.2.2.1 h.ne.2.2 h.c,fun j hj=>by
  obtain ⟨b,off,e,hb,hne,hc⟩:=h.zc j hj;exact ⟨b,off,e,hb,hne,rc_cell hR hb hne hc⟩,h.lt,h.ne,Nat.le_trans h.sz hR.size⟩
theorem zcG:∀(k:Nat) (l:List Int),l.length<k→zD k l=[]
 | 0,l,h=>by omega
 | k+1,[],_=>rfl
 | k+1,x :: l,h=>by
  unfold zD;rw [zcG k l (by simp at h;omega),zcG (k+1) l (by simp at h;omega)]
  all_goals rfl
theorem combos_drop {k i:Nat} {l:List Int} (hi:i<l.length):zD (k+1) (l.drop i)=(zD k (l.drop (i+1))).map (l[i] :: ·)++zD (k+1) (l.drop (i+1)):=by
 rw [List.drop_eq_getElem_cons hi]
 conv=>lhs;unfold zD
def OutAt (all:List (List Int)) (k:Nat) (set:List Int) (L:List (List Int)):Prop:=∀(i:Nat) c,L[i]?=some c→all[k+i]?=some (set++c)
theorem OutAt.left {all:List (List Int)} {k:Nat} {set:List Int} {x:Int} {L M:List (List Int)} (h:OutAt all k set (L.map (x :: ·)++M)):OutAt all k (set++[x]) L:=fun i c hc=>by
 have:=h i (x :: c) (by rw [List.getElem?_append_left (by rw [List.length_map];exact (List.getElem?_eq_some_iff.1 hc).1),List.getElem?_map,hc];rfl);rw [this,List.append_assoc];rfl
theorem OutAt.right {all:List (List Int)} {k:Nat} {set:List Int} {L M:List (List Int)} (h:OutAt all k set (L++M)):OutAt all (k+L.length) set M:=fun i c hc=>by
 have:=h (L.length+i) c (by rw [List.getElem?_append_right (by omega),Nat.add_sub_cancel_left];exact hc);rw [←this];congr 1;omega
def ChPost (lb B:Nat) (J:Nat→World→Prop) (Jx:World→Prop) (k j:Nat) (W:World) (e:Ending) (W':World):Prop:=
 ∃b,e=.returned (.bool b)∧(b=true→RC lb B j W W'∧J k W')∧(b=false→Jx W')
theorem choose_zero {lb B gy gl gc cz k:Nat} {Az:Option Addr} {zs:List Int} {v:Value} {set:List Int} {J:Nat→World→Prop} {Jx:World→Prop} (frm:Nat) (W:World) (hC:Ctx lb B gy gl gc Az cz zs W) (hp:Pref W B v set) (hl:set.length≤1000)
  (hJ:∀W',Ext W W'→J k W')
  (hY:∀u W1,J k W1→zf W1 (fun b=>W.heap.size≤b) u set→YieldAt Fence.wide 5 Tryz.prog lb #[u] W1 fun e W'=>∃b,e=.returned (.bool b)∧(b=true→J (k+1) W'∧W1.grownBy W' (some lb))∧(b=false→Jx W')):
  Calls Tryz.prog 73 #[v,.int .i64 frm,.int .i64 0,.pointer (some ⟨gy,0,none⟩),.pointer (some ⟨gl,0,none⟩),.pointer (some ⟨gc,0,none⟩)] W (ChPost lb B J Jx (k+1) set.length W):=by
 refine (callsIn_wide (n:=6)).1 ?_;refine callsIn_of_wp Tryz.func73 rfl trivial ?_ rfl;simp only [Tryz.ntmps73,List.size_toArray,List.length_cons,List.length_nil,Nat.reduceAdd,Nat.reduceSub,Array.replicate_succ,Array.replicate_zero,List.push_toArray,List.append_toArray,List.nil_append,List.cons_append];have HP:=zh hp.ints;have HPF:=zh hp;have HY:=zh hY;have HJ:=zh hJ;have HC:=zh hC;have ry:=Ext.rule hC.y;have hd0:Ext W W.drew:=(Ext.refl W).drew;obtain ⟨Av,cv,rfl,-,-⟩:=hp.ints;clear hp hY hJ hC;have hmix:=zS
 gi_wp2
 gi_region_with_o (first
  | (refine ⟨trivial,?_⟩;refine (callsIn_wide.2 (zaN W.drew (zf.below HP.out (Ext.refl W).drew) (by omega))).mono ?_;rintro e w1 ⟨u,rfl,hM⟩;have hE1:Ext W w1:=(Ext.refl W).drew.trans hM.ext;obtain ⟨fn,tmps,assign,body,hyr,hR⟩:=HY.out u w1 (HJ.out w1 hE1) (hM.ints.weaken (fun b hb=>hb));obtain ⟨Au,cu,rfl,-,-⟩:=hM.ints;have HR:=zh hR;have HE1:=zh hE1;clear hM hR)
  | (refine HR.out.mono ?_;rintro e W3 ⟨b,rfl,h1,h2⟩;have H1:=zh h1;have H2:=zh h2;clear h1 h2))
 all_goals (gi_wp2;go_ret)
 all_goals exact ⟨b,rfl,fun hb=>⟨(RC.ext HE1.out).trans (RC.yield (H1.out hb).2 HC.out.lt.2.2.2),(H1.out hb).1⟩,fun hb=>H2.out hb⟩
theorem choose_calls {lb B gy gl gc cz N:Nat} {Az:Option Addr} {zs:List Int} {all:List (List Int)} {J:Nat→World→Prop} {Jx:World→Prop} (hz:zs.length≤1000) (hJ:∀k A A',J k A→Below B A A'→J k A')
  (hY:∀k u W1,k<N→J k W1→zf W1 (fun b=>B≤b) u (all.getD k [])→YieldAt Fence.wide 5 Tryz.prog lb #[u] W1 fun e W'=>∃b,e=.returned (.bool b)∧(b=true→J (k+1) W'∧W1.grownBy W' (some lb))∧(b=false→Jx W')):
  ∀(more:Nat) (set:List Int) (frm:Nat) (v:Value) (k:Nat) (W:World),Ctx lb B gy gl gc Az cz zs W→Pref W B v set→set.length+more≤1000→frm≤zs.length→OutAt all k set (zD more (zs.drop frm))→k+(zD more (zs.drop frm)).length≤N→J k W→
  Calls Tryz.prog 73 #[v,.int .i64 frm,.int .i64 more,.pointer (some ⟨gy,0,none⟩),.pointer (some ⟨gl,0,none⟩),.pointer (some ⟨gc,0,none⟩)] W (ChPost lb B J Jx (k+(zD more (zs.drop frm)).length) set.length W)
 | 0,set,frm,v,k,W,hC,hp,hs,hf,hO,hN,hj=>by
  have hall:all.getD k []=set:=by
   have:=hO 0 [] (by simp [zD]);rw [Nat.add_zero,List.append_nil] at this;rw [List.getD_eq_getElem?_getD,this];rfl
  have hkN:k<N:=by simp [zD] at hN;omega
  have h1:(zD 0 (zs.drop frm)).length=1:=by simp [zD]
  rw [h1];refine choose_zero frm W hC hp (by omega) (fun W' hE=>hJ k W W' hj (Below.mono hE hC.sz)) (fun u W1 hj1 hu=>?_);refine hY k u W1 hkN hj1 ?_;rw [hall];exact hu.weaken fun b hb=>by have:=hC.sz;omega
 | more+1,set,frm,v,k,W,hC,hp,hs,hf,hO,hN,hj=>by
  have IH:=zh (choose_calls (gy:=gy) (gl:=gl) (gc:=gc) (cz:=cz) (Az:=Az) hz hJ hY more);have HJ:=zh hJ;have HC:=zh hC;have HP:=zh hp;have HO:=zh hO;have HJ0:=zh hj;obtain ⟨K,hK⟩:∃K,K=k+(zD (more+1) (zs.drop frm)).length:=⟨_,rfl⟩;rw [←hK];have HN:Hid (K≤N∧k+(zD (more+1) (zs.drop frm)).length=K):=⟨by omega,hK.symm⟩;obtain ⟨Av,cv,rfl,-,-⟩:=hp.ints;clear hJ hY hC hp hO hN hj hK;have hne:(((more+1:Nat):Int)==0)=false:=by rw [beq_eq_false_iff_ne];omega
  obtain ⟨mo,hmo⟩:∃mo:Int,mo=((more+1:Nat):Int):=⟨_,rfl⟩;rw [←hmo] at hne⊢;have HM:=zh hmo;clear hmo
  go_enter Tryz.func73,Tryz.ntmps73
  go_wp2_with fail
  go_loopw [10] (fun i wr=>∃j kk:Nat,j≤zs.length∧i=.int .i64 (j:Nat)∧Hid (RC lb B set.length W wr)∧Hid (J kk wr)∧Hid (OutAt all kk set (zD (more+1) (zs.drop j)))∧Hid (kk+(zD (more+1) (zs.drop j)).length=K)) (fun i _=>zs.length - (intOf i).toNat)
  case atStart=>exact ⟨frm,k,hf,rfl,RC.refl _ _ _ _,HJ0.out,HO.out,HN.out.2⟩
  case round=>
   obtain ⟨j,kk,hjl,rfl,hR,hJk,hOk,hKk⟩:=hrel;obtain ⟨wk,rfl⟩:∃wk:World,wk=wr:=⟨_,rfl⟩;have hCk:=zh (HC.out.rc hR.out);have hcz:=hCk.out.z;have hmo:=HM.out;have hw0:IntKind.i64.wrap ((j:Int)+mo)=(j:Int)+mo:=by rw [IntKind.wrap_i64];omega
   by_cases hle:j+(more+1)≤zs.length
   ·have hle':(j:Int)+mo≤(zs.length:Int):=by omega
    have hjz:j<zs.length:=by omega
    have HCD:=zh (combos_drop (k:=more) hjz);obtain ⟨bx,offx,rfl,-⟩:=hCk.out.zc j hjz;obtain ⟨x,hx⟩:∃x,x=zs[j]:=⟨_,rfl⟩;rw [←hx] at HCD
    have kx:∀W',Ctx lb B gy gl gc (some ⟨bx,offx,none⟩) cz zs W'→W'.cell? ⟨bx,offx+j,none⟩=some (.int .i64 x):=fun W' h=>by
     obtain ⟨b,off,e,-,-,hc⟩:=h.zc j hjz;injection e with e;injection e with e1 e2;subst e1 e2;rw [hx];exact hc
    have HKX:=zh kx;clear kx hx;have hw1:IntKind.i64.wrap ((j:Int)+1)=(j:Int)+1:=by rw [IntKind.wrap_i64];omega
    have hw2:IntKind.i64.wrap (mo - 1)=(more:Int):=by rw [IntKind.wrap_i64];omega
    have hjz1:(j:Int)<(zs.length:Int):=by omega
    have hjz0:(0:Int)≤(j:Int):=by omega
    have hOl:Hid (OutAt all kk (set++[x]) (zD more (zs.drop (j+1)))):=OutAt.left (by have:=hOk.out;rwa [HCD.out] at this)
    have hOr:Hid (OutAt all (kk+(zD more (zs.drop (j+1))).length) set (zD (more+1) (zs.drop (j+1)))):=by
     have:=hOk.out;rw [HCD.out] at this;have h2:=this.right
     rwa [List.length_map] at h2
    have hKr:Hid ((kk+(zD more (zs.drop (j+1))).length)+(zD (more+1) (zs.drop (j+1))).length=K):=by
     have:=hKk.out;rw [HCD.out,List.length_append,List.length_map] at this;show _=_;omega
    have hNl:Hid (kk+(zD more (zs.drop (j+1))).length≤N):=by
     have h1:=hKr.out;have h2:=HN.out.1;show _≤_;omega
    have IHC:Hid (∀v' W',Ctx lb B gy gl gc (some ⟨bx,offx,none⟩) cz zs W'→Pref W' B v' (set++[x])→J kk W'→Calls Tryz.prog 73 #[v',.int .i64 ((j:Int)+1),.int .i64 (more:Int),.pointer (some ⟨gy,0,none⟩),.pointer (some ⟨gl,0,none⟩),.pointer (some ⟨gc,0,none⟩)] W' (ChPost lb B J Jx (kk+(zD more (zs.drop (j+1))).length) (set++[x]).length W')):=fun v' W' h1 h2 h3=>by
     have h4:=IH.out (set++[x]) (j+1) v' kk W' h1 h2 (by rw [List.length_append,List.length_singleton];omega) (by omega) hOl.out hNl.out h3;rw [show ((j+1:Nat):Int)=(j:Int)+1 from by omega] at h4;exact h4
    clear hmo;go_upto_region 6 with fail;go_cut [39] (fun v wx=>∃b:Bool,v=.bool (!b)∧Hid ((b=true→RC lb B set.length wk wx∧J (kk+(zD more (zs.drop (j+1))).length) wx)∧(b=false→Jx wx)))
    case first=>
     refine wp_region_held_drew (S:=(fun _=>True)) zS (trivial) (fun zH=>?_);have hEd:Ext wk wk.drew:=(Ext.refl wk).drew;have hCd:=hCk.out.rc (RC.ext (j:=set.length) hEd);have hRd:RC lb B set.length wk wk.drew:=RC.ext hEd;have hPd:=(RC.trans hR.out hRd).pre _ _ HP.out (Nat.le_refl _);have hJd:=HJ.out _ _ _ hJk.out (Below.mono hEd hCk.out.sz);generalize wk.drew=wd at zH hEd hCd hRd hPd hJd⊢;refine rtT 1 zH ?_;simp only [za,Act.put];refine rtT 3 zH ?_;simp only [za,Act.put];refine rtT 8 zH ?_;simp only [za,Act.put];refine rtT 9 zH ?_;simp only [za,Act.put];refine rtT 10 zH ?_;simp only [za,Act.put];refine rtT 11 zH ?_;simp only [za,Act.put];refine rdA [0,2] ?_;refine AllReadyH.cons rfl (fun K hK=>?_) ?_
     ·have hcc1:=hCd.c;go_simp;refine hK.out _ _ (trivial) (fun zH=>?_);clear hK K;try simp only [za,Act.put]
      refine rtR 2 (fun K hK=>?_);have hcz2:=hCd.z;go_simp;refine hK.out _ _ (trivial) (fun zH=>?_);clear hK K;try simp only [za,Act.put]
      refine rtR 4 (fun K hK=>?_);go_simp;refine hK.out _ _ (trivial) (fun zH=>?_);clear hK K;try simp only [za,Act.put]
      refine rtR 5 (fun K hK=>?_);have hcx4:=HKX.out _ hCd;go_simp;refine hK.out _ _ (trivial) (fun zH=>?_);clear hK K;try simp only [za,Act.put]
      refine rtR 6 (fun K hK=>?_);go_simp;have hEa:Ext wd (wd.alloc (.cells #[.int .i64 x] 3)):=(Ext.refl wd).alloc _;have hna:=zm wd (.int .i64 x) 3 (g:=wd.heap.size) rfl;generalize wd.alloc (.cells #[.int .i64 x] 3)=wa at hEa hna⊢;generalize wd.heap.size=ga at hna⊢;have hCa:=hCd.rc (RC.ext (j:=set.length) hEa);have hRa:=hRd.trans (RC.ext (j:=set.length) hEa);have hPa:=(RC.ext (lb:=lb) (j:=set.length) hEa).pre _ _ hPd (Nat.le_refl _);have hJa:=HJ.out _ _ _ hJd (Below.mono hEa hCd.sz);refine hK.out _ _ (trivial) (fun zH=>?_);clear hK K;try simp only [za,Act.put]
      refine rtR 7 (fun K hK=>?_);rw [if_pos (by simp [Region.wanted])];refine zcg (.tmp 27) (.tmp 32) rfl wa set x B ga 1 lb _ rfl rfl hPa hna hCa.sz (by omega) hCa.lt.2.2.2 ?_;intro v' wb hPb hRb0 hBb;have hCb:=hCa.rc hRb0;have hRb:=hRa.trans hRb0;have hJb:=HJ.out _ _ _ hJa hBb;refine hK.out _ _ (trivial) (fun zH=>?_);clear hK K;try simp only [za,Act.put]
      refine rtR 12 (fun K hK=>?_);go_simp;go_at_call 73;refine (IHC.out v' wb hCb hPb hJb).mono ?_;rintro e wc ⟨b,rfl,hb1,hb2⟩;refine hK.out _ _ (trivial) (fun zH=>?_);clear hK K;try simp only [za,Act.put]
      refine rtR 13 (fun K hK=>?_);go_simp;refine hK.out _ _ (trivial) (fun zH=>?_);clear hK K;try simp only [za,Act.put]
      refine wpAnyH_done (by kernel_rfl) ?_ _;go_wp2;go_meet;exact ⟨b,rfl,fun hb=>⟨hRb.trans ((hb1 hb).1.mono (by rw [List.length_append];omega)),(hb1 hb).2⟩,hb2⟩
     refine AllReadyH.cons rfl (fun K hK=>?_) .nil;have hcz9:=hCd.z;go_simp;refine hK.out _ _ (trivial) (fun zH=>?_);clear hK K;try simp only [za,Act.put]
     refine rdA [0,4] ?_;refine AllReadyH.cons rfl (fun K hK=>?_) ?_
     ·have hcc10:=hCd.c;go_simp;refine hK.out _ _ (trivial) (fun zH=>?_);clear hK K;try simp only [za,Act.put]
      refine rtR 4 (fun K hK=>?_);go_simp;refine hK.out _ _ (trivial) (fun zH=>?_);clear hK K;try simp only [za,Act.put]
      refine rtR 5 (fun K hK=>?_);have hcx12:=HKX.out _ hCd;go_simp;refine hK.out _ _ (trivial) (fun zH=>?_);clear hK K;try simp only [za,Act.put]
      refine rtR 6 (fun K hK=>?_);go_simp;have hEa:Ext wd (wd.alloc (.cells #[.int .i64 x] 3)):=(Ext.refl wd).alloc _;have hna:=zm wd (.int .i64 x) 3 (g:=wd.heap.size) rfl;generalize wd.alloc (.cells #[.int .i64 x] 3)=wa at hEa hna⊢;generalize wd.heap.size=ga at hna⊢;have hCa:=hCd.rc (RC.ext (j:=set.length) hEa);have hRa:=hRd.trans (RC.ext (j:=set.length) hEa);have hPa:=(RC.ext (lb:=lb) (j:=set.length) hEa).pre _ _ hPd (Nat.le_refl _);have hJa:=HJ.out _ _ _ hJd (Below.mono hEa hCd.sz);refine hK.out _ _ (trivial) (fun zH=>?_);clear hK K;try simp only [za,Act.put]
      refine rtR 7 (fun K hK=>?_);rw [if_pos (by simp [Region.wanted])];refine zcg (.tmp 27) (.tmp 32) rfl wa set x B ga 1 lb _ rfl rfl hPa hna hCa.sz (by omega) hCa.lt.2.2.2 ?_;intro v' wb hPb hRb0 hBb;have hCb:=hCa.rc hRb0;have hRb:=hRa.trans hRb0;have hJb:=HJ.out _ _ _ hJa hBb;refine hK.out _ _ (trivial) (fun zH=>?_);clear hK K;try simp only [za,Act.put]
      refine rtR 12 (fun K hK=>?_);go_simp;go_at_call 73;refine (IHC.out v' wb hCb hPb hJb).mono ?_;rintro e wc ⟨b,rfl,hb1,hb2⟩;refine hK.out _ _ (trivial) (fun zH=>?_);clear hK K;try simp only [za,Act.put]
      refine rtR 13 (fun K hK=>?_);go_simp;refine hK.out _ _ (trivial) (fun zH=>?_);clear hK K;try simp only [za,Act.put]
      refine wpAnyH_done (by kernel_rfl) ?_ _;go_wp2;go_meet;exact ⟨b,rfl,fun hb=>⟨hRb.trans ((hb1 hb).1.mono (by rw [List.length_append];omega)),(hb1 hb).2⟩,hb2⟩
     refine AllReadyH.cons rfl (fun K hK=>?_) .nil;go_simp;refine hK.out _ _ (trivial) (fun zH=>?_);clear hK K;try simp only [za,Act.put]
     refine rdA [0,5] ?_;refine AllReadyH.cons rfl (fun K hK=>?_) ?_
     ·have hcc18:=hCd.c;go_simp;refine hK.out _ _ (trivial) (fun zH=>?_);clear hK K;try simp only [za,Act.put]
      refine rtR 5 (fun K hK=>?_);have hcx19:=HKX.out _ hCd;go_simp;refine hK.out _ _ (trivial) (fun zH=>?_);clear hK K;try simp only [za,Act.put]
      refine rtR 6 (fun K hK=>?_);go_simp;have hEa:Ext wd (wd.alloc (.cells #[.int .i64 x] 3)):=(Ext.refl wd).alloc _;have hna:=zm wd (.int .i64 x) 3 (g:=wd.heap.size) rfl;generalize wd.alloc (.cells #[.int .i64 x] 3)=wa at hEa hna⊢;generalize wd.heap.size=ga at hna⊢;have hCa:=hCd.rc (RC.ext (j:=set.length) hEa);have hRa:=hRd.trans (RC.ext (j:=set.length) hEa);have hPa:=(RC.ext (lb:=lb) (j:=set.length) hEa).pre _ _ hPd (Nat.le_refl _);have hJa:=HJ.out _ _ _ hJd (Below.mono hEa hCd.sz);refine hK.out _ _ (trivial) (fun zH=>?_);clear hK K;try simp only [za,Act.put]
      refine rtR 7 (fun K hK=>?_);rw [if_pos (by simp [Region.wanted])];refine zcg (.tmp 27) (.tmp 32) rfl wa set x B ga 1 lb _ rfl rfl hPa hna hCa.sz (by omega) hCa.lt.2.2.2 ?_;intro v' wb hPb hRb0 hBb;have hCb:=hCa.rc hRb0;have hRb:=hRa.trans hRb0;have hJb:=HJ.out _ _ _ hJa hBb;refine hK.out _ _ (trivial) (fun zH=>?_);clear hK K;try simp only [za,Act.put]
      refine rtR 12 (fun K hK=>?_);go_simp;go_at_call 73;refine (IHC.out v' wb hCb hPb hJb).mono ?_;rintro e wc ⟨b,rfl,hb1,hb2⟩;refine hK.out _ _ (trivial) (fun zH=>?_);clear hK K;try simp only [za,Act.put]
      refine rtR 13 (fun K hK=>?_);go_simp;refine hK.out _ _ (trivial) (fun zH=>?_);clear hK K;try simp only [za,Act.put]
      refine wpAnyH_done (by kernel_rfl) ?_ _;go_wp2;go_meet;exact ⟨b,rfl,fun hb=>⟨hRb.trans ((hb1 hb).1.mono (by rw [List.length_append];omega)),(hb1 hb).2⟩,hb2⟩
     refine AllReadyH.cons rfl (fun K hK=>?_) .nil;have hcx24:=HKX.out _ hCd;go_simp;refine hK.out _ _ (trivial) (fun zH=>?_);clear hK K;try simp only [za,Act.put]
     refine rdA [0,6] ?_;refine AllReadyH.cons rfl (fun K hK=>?_) ?_
     ·have hcc25:=hCd.c;go_simp;refine hK.out _ _ (trivial) (fun zH=>?_);clear hK K;try simp only [za,Act.put]
      refine rtR 6 (fun K hK=>?_);go_simp;have hEa:Ext wd (wd.alloc (.cells #[.int .i64 x] 3)):=(Ext.refl wd).alloc _;have hna:=zm wd (.int .i64 x) 3 (g:=wd.heap.size) rfl;generalize wd.alloc (.cells #[.int .i64 x] 3)=wa at hEa hna⊢;generalize wd.heap.size=ga at hna⊢;have hCa:=hCd.rc (RC.ext (j:=set.length) hEa);have hRa:=hRd.trans (RC.ext (j:=set.length) hEa);have hPa:=(RC.ext (lb:=lb) (j:=set.length) hEa).pre _ _ hPd (Nat.le_refl _);have hJa:=HJ.out _ _ _ hJd (Below.mono hEa hCd.sz);refine hK.out _ _ (trivial) (fun zH=>?_);clear hK K;try simp only [za,Act.put]
      refine rtR 7 (fun K hK=>?_);rw [if_pos (by simp [Region.wanted])];refine zcg (.tmp 27) (.tmp 32) rfl wa set x B ga 1 lb _ rfl rfl hPa hna hCa.sz (by omega) hCa.lt.2.2.2 ?_;intro v' wb hPb hRb0 hBb;have hCb:=hCa.rc hRb0;have hRb:=hRa.trans hRb0;have hJb:=HJ.out _ _ _ hJa hBb;refine hK.out _ _ (trivial) (fun zH=>?_);clear hK K;try simp only [za,Act.put]
      refine rtR 12 (fun K hK=>?_);go_simp;go_at_call 73;refine (IHC.out v' wb hCb hPb hJb).mono ?_;rintro e wc ⟨b,rfl,hb1,hb2⟩;refine hK.out _ _ (trivial) (fun zH=>?_);clear hK K;try simp only [za,Act.put]
      refine rtR 13 (fun K hK=>?_);go_simp;refine hK.out _ _ (trivial) (fun zH=>?_);clear hK K;try simp only [za,Act.put]
      refine wpAnyH_done (by kernel_rfl) ?_ _;go_wp2;go_meet;exact ⟨b,rfl,fun hb=>⟨hRb.trans ((hb1 hb).1.mono (by rw [List.length_append];omega)),(hb1 hb).2⟩,hb2⟩
     refine AllReadyH.cons rfl (fun K hK=>?_) .nil;go_simp;have hEa:Ext wd (wd.alloc (.cells #[.int .i64 x] 3)):=(Ext.refl wd).alloc _;have hna:=zm wd (.int .i64 x) 3 (g:=wd.heap.size) rfl;generalize wd.alloc (.cells #[.int .i64 x] 3)=wa at hEa hna⊢;generalize wd.heap.size=ga at hna⊢;have hCa:=hCd.rc (RC.ext (j:=set.length) hEa);have hRa:=hRd.trans (RC.ext (j:=set.length) hEa);have hPa:=(RC.ext (lb:=lb) (j:=set.length) hEa).pre _ _ hPd (Nat.le_refl _);have hJa:=HJ.out _ _ _ hJd (Below.mono hEa hCd.sz);refine hK.out _ _ (trivial) (fun zH=>?_);clear hK K;try simp only [za,Act.put]
     refine rdA [0,7] ?_;refine AllReadyH.cons rfl (fun K hK=>?_) ?_
     ·have hcc31:=hCa.c;go_simp;refine hK.out _ _ (trivial) (fun zH=>?_);clear hK K;try simp only [za,Act.put]
      refine rtR 7 (fun K hK=>?_);rw [if_pos (by simp [Region.wanted])];refine zcg (.tmp 27) (.tmp 32) rfl wa set x B ga 1 lb _ rfl rfl hPa hna hCa.sz (by omega) hCa.lt.2.2.2 ?_;intro v' wb hPb hRb0 hBb;have hCb:=hCa.rc hRb0;have hRb:=hRa.trans hRb0;have hJb:=HJ.out _ _ _ hJa hBb;refine hK.out _ _ (trivial) (fun zH=>?_);clear hK K;try simp only [za,Act.put]
      refine rtR 12 (fun K hK=>?_);go_simp;go_at_call 73;refine (IHC.out v' wb hCb hPb hJb).mono ?_;rintro e wc ⟨b,rfl,hb1,hb2⟩;refine hK.out _ _ (trivial) (fun zH=>?_);clear hK K;try simp only [za,Act.put]
      refine rtR 13 (fun K hK=>?_);go_simp;refine hK.out _ _ (trivial) (fun zH=>?_);clear hK K;try simp only [za,Act.put]
      refine wpAnyH_done (by kernel_rfl) ?_ _;go_wp2;go_meet;exact ⟨b,rfl,fun hb=>⟨hRb.trans ((hb1 hb).1.mono (by rw [List.length_append];omega)),(hb1 hb).2⟩,hb2⟩
     refine AllReadyH.cons rfl (fun K hK=>?_) .nil;rw [if_pos (by simp [Region.wanted])];refine zcg (.tmp 27) (.tmp 32) rfl wa set x B ga 1 lb _ rfl rfl hPa hna hCa.sz (by omega) hCa.lt.2.2.2 ?_;intro v' wb hPb hRb0 hBb;have hCb:=hCa.rc hRb0;have hRb:=hRa.trans hRb0;have hJb:=HJ.out _ _ _ hJa hBb;refine hK.out _ _ (trivial) (fun zH=>?_);clear hK K;try simp only [za,Act.put]
     refine rtR 0 (fun K hK=>?_);have hcc36:=hCb.c;go_simp;refine hK.out _ _ (trivial) (fun zH=>?_);clear hK K;try simp only [za,Act.put]
     refine rtR 12 (fun K hK=>?_);go_simp;go_at_call 73;refine (IHC.out v' wb hCb hPb hJb).mono ?_;rintro e wc ⟨b,rfl,hb1,hb2⟩;refine hK.out _ _ (trivial) (fun zH=>?_);clear hK K;try simp only [za,Act.put]
     refine rtR 13 (fun K hK=>?_);go_simp;refine hK.out _ _ (trivial) (fun zH=>?_);clear hK K;try simp only [za,Act.put]
     refine wpAnyH_done (by kernel_rfl) ?_ _;go_wp2;go_meet;exact ⟨b,rfl,fun hb=>⟨hRb.trans ((hb1 hb).1.mono (by rw [List.length_append];omega)),(hb1 hb).2⟩,hb2⟩
    case rest=>
     obtain ⟨b,rfl,hbb⟩:=hcut
     cases b with
     | false=>
      have HJX:=zh (hbb.out.2 rfl);go_wp2;go_ret;exact ⟨false,rfl,fun h=>(by cases h),fun _=>HJX.out⟩
     | true=>
      obtain ⟨h1,h2⟩:=hbb.out.1 rfl;have HR2:=zh (hR.out.trans h1);have HJ2:=zh h2;clear h1 h2 hbb;go_wp2;go_roundw
      case rel=>exact ⟨j+1,kk+(zD more (zs.drop (j+1))).length,by omega,by go_num,HR2,HJ2,hOr,hKr⟩
      case measure=>simp [intOf];omega
   ·have hle':¬ ((j:Int)+mo≤(zs.length:Int)):=by omega
    have hnil:zD (more+1) (zs.drop j)=[]:=zcG _ _ (by rw [List.length_drop];omega);have HK0:Hid (kk=K):=by show _=_;have:=hKk.out;rw [hnil] at this;simpa using this
    clear hnil hmo;go_wp2;go_ret;exact ⟨true,rfl,fun _=>⟨hR.out,by rw [←HK0.out];exact hJk.out⟩,fun h=>(by cases h)⟩
end Go.Proofs.YthbjngbhbbkkgaaGreat
namespace Go.Proofs.YthbjngbhbbkkgaaGreat
open Go.RowKit
def GivesX {α:Type} (n:Nat) (P:Program) (g:Nat) (lb:Array Value) (encs:α→Array Value) (G:Nat→α→World→Prop) (N:Nat) (w:World):Prop:=
 ∀(l:Nat) (J:Nat→World→Prop) (Jx:World→Prop) (W:World),Ext w W→w.heap.size≤l→l<W.heap.size→(∀k A B,J k A→Below W.heap.size A B→J k B)→
  (∀k x W1,k<N→J k W1→G k x W1→YieldAt Fence.wide (n - 1) P l (encs x) W1 fun e W'=>(e=.returned (.bool true)∧J (k+1) W'∧W1.grownBy W' (some l))∨(e=.returned (.bool false)∧Jx W'))→
  J 0 W→
  CallsIn Fence.wide n P g (#[.func (.yield l) #[] #[]]++lb) W fun e W'=>(∃v,e=.returned v)∧(J N W'∨Jx W')
theorem wpIn_loopX {P:Program} {n:Nat} {α:Type} {g:Operand} {ps:Array Tmp} {assign body:Code} {Q:Exit→Act→World→Prop} {a:Act} {w:World}
  {gf:Nat} {lb:Array Value} (hg:a.eval g=.func (.func gf) #[] lb) (eg:∀args w,(callFunc gf args).run P w=.ok (.enter gf args) w)
  {encs:α→Array Value} {G:Nat→α→World→Prop} {N:Nat} {w0:World} (hseq:GivesX (n - 1) P gf lb encs G N w0) (hb0:Ext w0 w) (hps:∀x,(encs x).size=ps.size)
  (I:Nat→World→Prop) (Ix:Code→World→Prop) (hI:∀k A B,I k A→Below w.heap.size A B→I k B) (hIx:∀c A B,Ix c A→A.grownBy B (some (w.heap.size+1))→Ix c B)
  (hG:∀k x A l,G k x A→w.heap.size<l→l<A.heap.size→(∃r,A.heap[l]?=some (.loop r))→∀o,G k x (A.putObj l o)) (h0:I 0 w) (a₁:α→Act)
  (hassign:∀(l:Nat) (x:α) (W:World) (K:Act→World→Prop),K (a₁ x) W→
   assign.wpIn (Fence.wide.inRound l) (n - 1 - 1) P (Exit.then K (fun _ _ _=>False)) { tmps:=(ps.zip (encs x)).foldl (fun t (p,v)=>t.setIfInBounds p v) a.tmps,defers:=[] } W)
  (hbody:∀(l k:Nat) (x:α) (W:World),k<N→I k W→G k x W→w.heap.size<W.heap.size→(∃r,W.heap[w.heap.size+1]?=some (.loop r))→body.wpIn (Fence.wide.inRound l) (n - 1 - 1) P (postB w.heap.size k I Ix W) (a₁ x) W)
  (hdone:∀(D:Nat) (W:World),w.heap.size≤D→I N W→W.heap[D]?=some (.deferred (some []))→Q .normal { a with defers:={ target:=.collected D,args:=#[] } :: a.defers } W)
  (hstop:∀(D:Nat) (c:Code) (W:World),w.heap.size≤D→Ix c W→W.heap[D]?=some (.deferred (some []))→c.wpIn Fence.wide n P Q { a with defers:={ target:=.collected D,args:=#[] } :: a.defers } W):
  (Code.rangeFunc g ps assign body).wpIn Fence.wide n P Q a w:=by
 refine wpIn_rangeFunc ?_;intro fn hfn;obtain ⟨rec,hrec⟩:∃rec:LoopState→Option Code→Loop,rec=fun st pe=>{ state:=st,pending:=pe,fn,tmps:=a.tmps,params:=ps,assign,body,defers:=w.heap.size }:=⟨_,rfl⟩
 obtain ⟨W1,hW1⟩:∃W1,(w.alloc (.deferred (some []))).alloc (.loop (rec .ready none))=W1:=⟨_,rfl⟩;have hz1:W1.heap.size=w.heap.size+2:=by rw [←hW1];simp
 have hL1:W1.heap[w.heap.size+1]?=some (.loop (rec .ready none)):=by
  rw [←hW1];have:=World.alloc_heap_new (w.alloc (.deferred (some []))) (.loop (rec .ready none))
  rwa [World.size_alloc] at this
 have hD1:W1.heap[w.heap.size]?=some (.deferred (some [])):=by
  rw [←hW1];exact (Below.heap_alloc _ _ _ (by simp)).trans (World.alloc_heap_new w _)
 have hE1:Ext w W1:=by rw [←hW1];exact ((Ext.refl w).alloc _).alloc _
 refine ⟨w.heap.size+1,[{ target:=.collected w.heap.size,args:=#[] }],W1,{ target:=.fn (.func gf) lb,args:=#[.func (.yield (w.heap.size+1)) #[] #[]] },W1,gf,
  #[.func (.yield (w.heap.size+1)) #[] #[]]++lb,W1,?_,?_,fun _ _=>trivial,?_,fun h=>absurd h (by simp [Fence.wide]),?_⟩
 ·rw [←hW1,hrec];exact run_enterLoop_outer _ _ _ _ _
 ·simp only [resolve,hg];simp [go_sem]
 ·simp [invoke,go_sem,eg]
 ·refine (hseq (w.heap.size+1)
   (fun k W=>I k W∧W.heap[w.heap.size+1]?=some (.loop (rec .ready none))∧W.heap[w.heap.size]?=some (.deferred (some []))∧w.heap.size+1<W.heap.size)
   (fun W=>∃c,Ix c W∧W.heap[w.heap.size+1]?=some (.loop (rec .done (some c)))∧W.heap[w.heap.size]?=some (.deferred (some [])))
   W1 (hb0.trans hE1) (by have:=hb0.size;omega) (by omega) ?_ ?_ ⟨hI _ _ _ h0 hE1,hL1,hD1,by omega⟩).mono ?_
  ·rintro k A B ⟨h1,h2,h3,h4⟩ hAB;exact ⟨hI _ _ _ h1 (hAB.mono (by omega)),(hAB.block _ (by omega)).trans h2,(hAB.block _ (by omega)).trans h3,Nat.lt_of_lt_of_le h4 hAB.size⟩
  ·-- one round
   rintro k x W hkN ⟨hi,hl,hD,hlt⟩ hgx;have hy:=run_yield (P:=P) (args:=encs x) hl (by rw [hrec];exact hps x);rw [hrec] at hy;refine ⟨fn,_,assign,body,hy,roundIn_of_wpIn hfn (hassign _ x W _ ⟨_,run_beginRound hl (by rw [hrec]),?_⟩)⟩;have hl2:(W.putObj (w.heap.size+1) (.loop { rec .ready none with state:=.busy })).heap[w.heap.size+1]?=some (.loop { rec .ready none with state:=.busy }):=World.putObj_heap_same hlt;have hD2:(W.putObj (w.heap.size+1) (.loop { rec .ready none with state:=.busy })).heap[w.heap.size]?=some (.deferred (some [])):=(World.putObj_heap_other (by omega)).trans hD;have hlt2:w.heap.size+1<(W.putObj (w.heap.size+1) (.loop { rec .ready none with state:=.busy })).heap.size:=(Array.getElem?_eq_some_iff.1 hl2).1;have hg2:W.grownBy (W.putObj (w.heap.size+1) (.loop { rec .ready none with state:=.busy })) (some (w.heap.size+1)):=grownBy_putObj' _ _ _;refine wpIn_mono (hbody _ k x _ hkN (hI _ _ _ hi (zB _ (by omega) hlt)) (hG _ _ _ _ hgx (by omega) hlt ⟨_,hl⟩ _) (Nat.lt_trans (Nat.lt_succ_self _) hlt2) ⟨_,hl2⟩) ?_;generalize W.putObj (w.heap.size+1) (.loop { rec .ready none with state:=.busy })=W2 at*
   have fin:∀(jump:Option Code) (W3:World),W3.heap[w.heap.size+1]?=some (.loop { rec .ready none with state:=.busy })→
     (Instr.endRound (w.heap.size+1) jump).run P W3=.ok (.bool jump.isNone) (W3.putObj (w.heap.size+1) (.loop (rec (if jump.isNone then .ready else .done) jump))):=fun jump W3 hl3=>by
    have:=run_endRound (P:=P) jump hl3;rw [hrec] at this⊢;exact this
   rintro e a3 W3 hp
   cases e with
   | normal=>
    obtain ⟨hE3,hi3⟩:=hp;have hl3:=(hE3.block _ hlt2).trans hl2;have hlt3:=(Array.getElem?_eq_some_iff.1 hl3).1;have hD3:=(hE3.block _ (by omega)).trans hD2;refine ⟨_,_,fin none W3 hl3,.inl ⟨rfl,⟨hI _ _ _ hi3 (zB _ (by omega) hlt3),World.putObj_heap_same hlt3,(World.putObj_heap_other (by omega)).trans hD3,?_⟩,?_⟩⟩
    ·exact (Array.getElem?_eq_some_iff.1 (World.putObj_heap_same hlt3)).1
    ·exact (hg2.trans ⟨hE3.os,hE3.tape,hE3.output,hE3.size,fun i hi _=>hE3.block i hi⟩).trans (grownBy_putObj' _ _ _)
   | ret=>
    obtain ⟨hk3,hi3⟩:=hp;have hl3:=(hk3 _ (by omega) hlt2).trans hl2;have hlt3:=(Array.getElem?_eq_some_iff.1 hl3).1;have hD3:=(hk3 _ (Nat.le_refl _) (by omega)).trans hD2;exact ⟨_,_,fin (some .ret) W3 hl3,.inr ⟨rfl,.ret,hIx _ _ _ hi3 (grownBy_putObj' _ _ _),World.putObj_heap_same hlt3,(World.putObj_heap_other (by omega)).trans hD3⟩⟩
   | exit id=>
    obtain ⟨hk3,hi3⟩:=hp;have hl3:=(hk3 _ (by omega) hlt2).trans hl2;have hlt3:=(Array.getElem?_eq_some_iff.1 hl3).1;have hD3:=(hk3 _ (Nat.le_refl _) (by omega)).trans hD2;exact ⟨_,_,fin (some (.exit id)) W3 hl3,.inr ⟨rfl,.exit id,hIx _ _ _ hi3 (grownBy_putObj' _ _ _),World.putObj_heap_same hlt3,(World.putObj_heap_other (by omega)).trans hD3⟩⟩
   | goto t=>
    obtain ⟨hk3,hi3⟩:=hp;have hl3:=(hk3 _ (by omega) hlt2).trans hl2;have hlt3:=(Array.getElem?_eq_some_iff.1 hl3).1;have hD3:=(hk3 _ (Nat.le_refl _) (by omega)).trans hD2;exact ⟨_,_,fin (some (.goto t)) W3 hl3,.inr ⟨rfl,.goto t,hIx _ _ _ hi3 (grownBy_putObj' _ _ _),World.putObj_heap_same hlt3,(World.putObj_heap_other (by omega)).trans hD3⟩⟩
   | panic ch=>exact hp.elim
   | outgrown=>exact hp.elim
  ·-- behind the iterator
   rintro e W2 ⟨⟨v,rfl⟩,(⟨hi,hl,hD,hlt⟩ | ⟨c,hi,hl,hD⟩)⟩
   ·exact ⟨none,_,by have:=run_endLoop (P:=P) hl (by rw [hrec];simp);rw [hrec] at this;exact this,hdone _ _ (Nat.le_refl _) (hI _ _ _ hi (zB _ (by omega) hlt)) ((World.putObj_heap_other (by omega)).trans hD)⟩
   ·have hlt:=(Array.getElem?_eq_some_iff.1 hl).1;exact ⟨some c,_,by have:=run_endLoop (P:=P) hl (by rw [hrec];simp);rw [hrec] at this;exact this,hstop _ c _ (Nat.le_refl _) (hIx _ _ _ hi (grownBy_putObj' _ _ _)) ((World.putObj_heap_other (by omega)).trans hD)⟩
end Go.Proofs.YthbjngbhbbkkgaaGreat
namespace Go.Proofs.YthbjngbhbbkkgaaGreat
open Go.RowKit
attribute [local go_sem ↓] Go.wp_at_zero Go.wp_at_succ
attribute [local go_sem] Oper.semAt_some
theorem yieldAt_wide {m:Nat} (m':Nat) {P:Program} {l:Nat} {args:Array Value} {W:World} {R:Ending→World→Prop} (h:YieldAt Fence.wide m P l args W R):YieldAt Fence.wide m' P l args W R:=by
 obtain ⟨fn,tmps,assign,body,hy,hR⟩:=h;exact ⟨fn,tmps,assign,body,hy,hR.1,fun c cs _=>hR.2 c cs (room_wide _)⟩
def offK (zs:List Int) (s:Nat):Nat:=((List.range s).flatMap fun k=>zD k zs).length
theorem offK_succ (zs:List Int) (s:Nat):offK zs (s+1)=offK zs s+(zD s zs).length:=by
 unfold offK;rw [List.range_succ,List.flatMap_append,List.length_append];simp
theorem subs_split (zs:List Int) {s:Nat} (hs:s≤zs.length):∃R,zav zs=((List.range s).flatMap fun k=>zD k zs)++(zD s zs++R):=by
 refine ⟨((List.range (zs.length - s)).map (s+1+·)).flatMap fun k=>zD k zs,?_⟩;unfold zav
 have h:List.range (zs.length+1)=List.range s++([s]++(List.range (zs.length - s)).map (s+1+·)):=by
  have h1:zs.length+1=(s+1)+(zs.length - s):=by omega
  rw [h1,List.range_add,List.range_succ,List.append_assoc]
 rw [h,List.flatMap_append,List.flatMap_append];simp
theorem subs_out (zs:List Int) {s:Nat} (hs:s≤zs.length):OutAt (zav zs) (offK zs s) [] (zD s zs):=fun i c hc=>by
 obtain ⟨R,hR⟩:=subs_split zs hs;have hi:i<(zD s zs).length:=(List.getElem?_eq_some_iff.1 hc).1;rw [hR,List.getElem?_append_right (by unfold offK;omega)];rw [show offK zs s+i - ((List.range s).flatMap fun k=>zD k zs).length=i from by unfold offK;omega,List.getElem?_append_left hi,hc]
 all_goals rfl
theorem subs_len (zs:List Int) {s:Nat} (hs:s≤zs.length):offK zs s+(zD s zs).length≤(zav zs).length:=by
 obtain ⟨R,hR⟩:=subs_split zs hs;rw [hR];simp only [List.length_append];unfold offK;omega
theorem offK_all (zs:List Int):offK zs (zs.length+1)=(zav zs).length:=rfl
theorem subs_gives {gl:Nat} {v:Value} {zs:List Int} (w:World) (h:zf w (fun _=>True) v zs) (hl:w.cell? ⟨gl,0,none⟩=some v) (hz:zs.length≤900) (n:Nat):
  GivesX n Tryz.prog 72 #[.pointer (some ⟨gl,0,none⟩)] (fun x:Value=>#[x]) (fun k x W=>zf W (fun b=>w.heap.size≤b) x ((zav zs).getD k [])) (zav zs).length w:=by
 intro l J Jx W hW hwl hlW hJ hY h0;refine callsIn_wide.2 ?_
 have hYc:∀(B:Nat),w.heap.size≤B→∀k u W1,k<(zav zs).length→J k W1→zf W1 (fun b=>B≤b) u ((zav zs).getD k [])→YieldAt Fence.wide 5 Tryz.prog l #[u] W1 fun e W'=>∃b,e=.returned (.bool b)∧(b=true→J (k+1) W'∧W1.grownBy W' (some l))∧(b=false→Jx W'):=fun B hB k u W1 hk hj hu=>by
  have h1:=hY k u W1 hk hj (hu.weaken fun b hb=>Nat.le_trans hB hb);refine (yieldAt_wide 5 h1).mono ?_;rintro e W' (⟨rfl,h2,h3⟩ | ⟨rfl,h2⟩)
  ·exact ⟨true,rfl,fun _=>⟨h2,h3⟩,fun h=>(by cases h)⟩
  ·exact ⟨false,rfl,fun h=>(by cases h),fun _=>h2⟩
 have HY:=zh hYc;have HJ:=zh hJ;have HJ0:=zh h0;have HI:=zh (h.bound.keep (zX.of_below hW));have hlt:gl<w.heap.size:=zl hl;have HB:Hid (w.heap.size≤l∧l<W.heap.size∧w.heap.size≤W.heap.size∧gl<w.heap.size):=⟨hwl,hlW,hW.size,hlt⟩;have hcl:=hW.cell hl;obtain ⟨Av,cv,rfl,hcv,-⟩:=h;clear hY hJ h0 hwl hlW hW hYc hl hlt;have HCL:=zh hcl;have rcl:=Ext.rule hcl;clear hcl
 go_enter Tryz.func72,Tryz.ntmps72
 go_wp2;obtain ⟨B,hB⟩:∃B,B=W.heap.size+2:=⟨_,rfl⟩;obtain ⟨W1,hW1⟩:∃W1,(W.alloc (.cells #[.func (.yield l) #[] #[]] 114)).alloc (.cells #[.func (.func 73) #[] #[.pointer (some ⟨W.heap.size,0,none⟩),.pointer (some ⟨gl,0,none⟩),.pointer (some ⟨W.heap.size+1,0,none⟩)]] 115)=W1:=⟨_,rfl⟩;rw [hW1];have hE1:Ext W W1:=by rw [←hW1];exact ((Ext.refl W).alloc _).alloc _
 have hz1:W1.heap.size=B:=by rw [←hW1,hB];simp
 have HCX:Hid (Ctx l B W.heap.size gl (W.heap.size+1) Av cv zs W1):=by
  obtain ⟨b1,b2,b3,b4⟩:=HB.out;refine ⟨?_,hE1.cell HCL.out,?_,fun j hj=>?_,⟨by omega,by omega,by omega,by omega⟩,⟨by omega,by omega,by omega⟩,by omega⟩
  ·rw [←hW1];exact ((Ext.refl _).alloc _).cell (zm W _ _ rfl)
  ·rw [←hW1];exact zm _ _ _ (by simp)
  ·obtain ⟨A,c,e,hc,hr⟩:=HI.out;injection e with e1 e2 e3;subst e1;obtain ⟨b,off,e,⟨-,hb⟩,hcell⟩:=hr.2 (by omega);refine ⟨b,off,e,by omega,by omega,hE1.cell (hcell j _ (by rw [List.getElem?_map,List.getElem?_eq_getElem hj];rfl))⟩
 have HJ1:Hid (J 0 W1):=HJ.out _ _ _ HJ0.out hE1;have HJB:Hid (∀k A A',J k A→Below B A A'→J k A'):=fun k A A' h hb=>HJ.out k A A' h (hb.mono (by omega))
 have hgc:W.heap.size+1<B:=by omega
 have HBW:Hid (w.heap.size≤B):=by (show _≤_);have:=HB.out;omega
 obtain ⟨gy,hgy⟩:∃gy,W.heap.size=gy:=⟨_,rfl⟩;obtain ⟨gc,hgc2⟩:∃gc,gy+1=gc:=⟨_,rfl⟩;rw [hgy] at HCX⊢;rw [hgc2] at HCX⊢;clear hW1 hz1 HJ hE1 hB HB HCL rcl HI HJ0 hgc hgy hgc2;go_loopw [4] (fun i wr=>∃s:Nat,s≤zs.length+1∧i=.int .i64 (s:Nat)∧Hid (Ctx l B gy gl gc Av cv zs wr)∧Hid (J (offK zs s) wr)) (fun i _=>zs.length+1 - (intOf i).toNat)
 case atStart=>exact ⟨0,by omega,rfl,HCX,HJ1⟩
 case round=>
  obtain ⟨s,hs,rfl,hC,hJs⟩:=hrel;have hcl:=hC.out.z;by_cases hle:s≤zs.length
  ·have hle':(s:Int)≤(zs.length:Int):=by omega
   have hw1:IntKind.i64.wrap ((s:Int)+1)=(s:Int)+1:=by rw [IntKind.wrap_i64];omega
   have HO:Hid (OutAt (zav zs) (offK zs s) [] (zD s (zs.drop 0))):=by rw [List.drop_zero];exact subs_out zs hle
   have HL:Hid (offK zs s+(zD s (zs.drop 0)).length≤(zav zs).length):=by rw [List.drop_zero];exact subs_len zs hle
   have HS:Hid (offK zs s+(zD s (zs.drop 0)).length=offK zs (s+1)):=by rw [List.drop_zero];exact (offK_succ zs s).symm
   have hcc:=hC.out.c;have rcc:=Ext.rule hC.out.c
   go_wp2_with fail
   refine (choose_calls (by omega) HJB.out (HY.out B HBW.out) s [] 0 _ (offK zs s) wr hC.out (Pref.nil _ _) (by simp;omega) (by omega) HO.out HL.out hJs.out).mono ?_;rintro e wc ⟨b,rfl,hb1,hb2⟩;rw [HS.out] at hb1
   cases b with
   | false=>
    have HX:=zh (hb2 rfl);clear hb1 hb2;go_wp2;refine bodyPost_ret (results_none rfl _ _ _) rfl ?_;exact ⟨⟨_,rfl⟩,.inr HX.out⟩
   | true=>
    obtain ⟨hR,hJ2⟩:=hb1 rfl;have HC2:=zh (hC.out.rc hR);have HJ2:=zh hJ2;clear hb1 hb2 hR hJ2 rcc hcc hcl;go_wp2;go_roundw
    case rel=>exact ⟨s+1,by omega,by go_num,HC2,HJ2⟩
    case measure=>simp [intOf];omega
  ·have hle':¬ ((s:Int)≤(zs.length:Int)):=by omega
   have hse:s=zs.length+1:=by omega
   have HF:Hid (J (zav zs).length wr):=by have:=hJs.out;rw [hse,offK_all] at this;exact this
   clear hse
   go_wp2_with fail
   refine bodyPost_end (results_none rfl _ _ _) rfl ?_;exact ⟨⟨_,rfl⟩,.inl HF.out⟩
theorem subsets_calls {v:Value} {zs:List Int} (w:World) (h:zf w (fun _=>True) v zs) (hz:zs.length≤900):
  Calls Tryz.prog 38 #[v] w fun e w'=>∃gl,e=.returned (.func (.func 72) #[] #[.pointer (some ⟨gl,0,none⟩)])∧Ext w w'∧∀W,Ext w' W→∀n,GivesX n Tryz.prog 72 #[.pointer (some ⟨gl,0,none⟩)] (fun x:Value=>#[x]) (fun k x W'=>zf W' (fun b=>W.heap.size≤b) x ((zav zs).getD k [])) (zav zs).length W:=by
 have H:=zh h;obtain ⟨A,c,rfl,hc,-⟩:=h
 go_enter Tryz.func38,Tryz.ntmps38
 go_wp2;go_ret;refine ⟨_,rfl,(Ext.refl w).alloc _,fun W hW n=>?_⟩;exact subs_gives W ((H.out.below ((Ext.refl w).alloc _)).below hW) (hW.cell (zm w _ _ rfl)) hz n
end Go.Proofs.YthbjngbhbbkkgaaGreat
