/- RtT RtY RtR RtL RtV -/
import Derived.Test.YthbjngbhbbkkgaaGreatHUa
import Derived.Test.YthbjngbhbbkkgaaGreatHUb
import Derived.Test.YthbjngbhbbkkgaaGreatHUc
import Derived.Lib.SliceRun
import Derived.RangeFuncNested
import Derived.RangeFuncBound
import Derived.RangeFuncCalls
import Derived.RangeFuncLeaves
import Derived.RangeFuncBox
import Derived.Shelf.Abstract
import Derived.Maps.AppendAt
import Derived.RangeFuncWrites
import Derived.Shelf.RegionOpen
import Derived.OwnWalkIn
import Derived.TacticsInMore
import Derived.LoopNIn
import Derived.LoopIn
import Derived.Deep.RegionHeld
import Derived.CallsIn
import Derived.OrdersIn
set_option linter.unusedVariables false
set_option linter.unusedSimpArgs false
set_option maxRecDepth 100000
set_option maxHeartbeats 16000000
namespace Go.Proofs.YthbjngbhbbkkgaaGreat
open Go.RowKit
attribute [local go_sem ↓] Go.wp_at_zero Go.wp_at_succ
theorem Tryz.infoInts:(Tryz.prog.info? 23).map (fun i=>(i.zero,i.size,i.bytes))=some (some (.slice none 0 0),1,24):=by kernel_rfl
def zbj (w:World) (B:Nat) (v:Value) (vs:List Value):Prop:=w.ownsRow B 23 1 v vs.length vs
theorem zcL {w:World} {ok:Nat→Prop} {v:Value} {l:List Int} (h:zf w ok v l):v.oneCell'=true:=by
 obtain ⟨A,c,rfl,_⟩:=h;rfl
theorem za1 {ok:Nat→Prop} {ops:Array Oper} {rest:List Oper} {o:Oper} {a:Act} {Q:Exit→Act→World→Prop} (hgd:o.guard=none) (W:World) (s x:Operand)
  (ho:o.op=.call { callee:=.builtin .append,args:=#[s,x],argTypes:=#[22,22] }) (base:Nat) (l l2:List Value) (v u:Value) (hs:a.eval s=v) (hx:a.eval x=u)
  (hown:zbj W base v l) (hu:Row W ok 1 u l2.length l2) (h1:∀u∈l2,u.oneCell'=true) (hbase:base≤W.heap.size) (hl:l.length+l2.length≤1000000000000)
  (h:∀v' w',zbj w' base v' (l++l2)→Hid (W.grownBy w' v.ownBlock)→Hid (v'.ownBlock=v.ownBlock∨v'.ownBlock=some W.heap.size)→wpList Tryz.prog ops Q rest (a.put o.dst v') w'):wpList Tryz.prog ops Q (o :: rest) a W:=by
 refine wpList_plain hgd fun K hK=>?_
 obtain ⟨i0,hi,hz0,hz1,hz2⟩:=info_parts Tryz.infoInts;obtain ⟨v',w',hr,h2,h3,h5⟩:=zdi (ok:=ok) W base 22 o.type 23 i0 (.slice none 0 0) 24 Tryz.underlying22 hi hz0 hz1 hz2 rfl v _ _ hown u _ _ hu h1 (by unfold maxLen;omega) (by omega) hbase;unfold Oper.wp execOp;simp only [ho,resolve,invoke,builtin,Sem.run_bind,Sem.run_pure,Result.andThen_ok,List.map_toArray,List.map_cons,List.map_nil,hs,hx,hr];refine hK _ _ (h v' w' ?_ h3 h5);unfold zbj;rw [List.length_append];exact h2
theorem slice_own {g n c k:Nat} (h:(Value.slice (some ⟨g,0,none⟩) n c).ownBlock=some k):g≤k:=by
 have h:some g=some k:=h;injection h with h;omega
theorem own_emptyL (W:World) (B:Nat) (hB:B≤W.heap.size):zbj (W.alloc (.cells #[] 23)) B (.slice (some ⟨W.heap.size,0,none⟩) 0 0) []:=
 ⟨rfl,.inr ⟨W.heap.size,0,#[],rfl,hB,heap_alloc_new W _,Nat.le_refl _,by decide,rfl,rfl⟩⟩
theorem nilEq (t e:TypeId) (ht:Tryz.prog.underlying t=some (.slice e)):∀(w:World) (a:Option Addr) (n c n' c':Nat),(binOp .eql t (.slice a n c) (.slice none n' c')).run Tryz.prog w=.ok (.bool a.isNone) w:=fun w a n c n' c'=>Lib.run_eql_slice_nil w _ _ a n c n' c' ht
theorem zcF {ok:Nat→Prop} {v:Value} {l:List Int} (w:World) (h:zf w ok v l) (hl:l.length≤100000000000):
  Calls Tryz.prog 46 #[v] w fun e w'=>∃v',e=.returned v'∧Mk w w' v' l:=by
 have H:=zh h;have hnil:=nilEq 23 3 Tryz.underlying23;obtain ⟨A,c,rfl,hc,hr⟩:=h;rcases A with _ | a
 ·have hl0:l=[]:=by
   rcases Nat.eq_zero_or_pos l.length with h | h
   ·exact List.eq_nil_of_length_eq_zero h
   ·obtain ⟨b,off,e,_⟩:=hr.2 h;cases e
  subst hl0;clear hr
  go_enter Tryz.func46,Tryz.ntmps46
  go_wp2_with fail
  go_ret;exact ⟨_,rfl,Mk.nil _⟩
 ·clear hr;have hx:=Ext.refl w
  go_enter Tryz.func46,Tryz.ntmps46
  go_wp2_with (at_builtin;refine zaC (ok:=ok) rfl _ _ _ rfl w.heap.size [] l _ _ rfl rfl (zce w w.heap.size (Nat.le_refl _)) (H.out.below ((Ext.refl w).alloc _)) ?d1 ?d2 ?_)
  case d1=>simp
  case d2=>simp;omega
  intro v' w1 ho hg _;have HM:Hid (Mk w w1 v' l):=⟨ho,zT ((Ext.refl w).alloc _) hg (by simp) (fun k hk=>slice_own hk)⟩;clear ho hg
  go_wp2_with fail
  go_ret;exact ⟨_,rfl,HM.out⟩
theorem cloneL_calls {ok:Nat→Prop} {v:Value} {vs:List Value} (w:World) (h:Row w ok 1 v vs.length vs) (h1:∀u∈vs,u.oneCell'=true) (hl:vs.length≤100000000000):
  Calls Tryz.prog 108 #[v] w fun e w'=>∃v',e=.returned v'∧Ext w w'∧zbj w' w.heap.size v' vs:=by
 have H:=zh h;have H1:=zh h1;clear h1;have hnil:=nilEq 22 23 Tryz.underlying22;obtain ⟨A,c,rfl,hc,hr⟩:=h;rcases A with _ | a
 ·have hl0:vs=[]:=by
   rcases Nat.eq_zero_or_pos vs.length with h | h
   ·exact List.eq_nil_of_length_eq_zero h
   ·obtain ⟨b,off,e,_⟩:=hr.2 h;cases e
  subst hl0;clear hr
  go_enter Tryz.func108,Tryz.ntmps108
  go_wp2_with fail
  go_ret;exact ⟨_,rfl,Ext.refl _,World.ownsRow_nil _ _ _ _⟩
 ·clear hr;have hx:=Ext.refl w
  go_enter Tryz.func108,Tryz.ntmps108
  go_wp2_with (at_builtin;refine za1 (ok:=ok) rfl _ _ _ rfl w.heap.size [] vs _ _ rfl rfl (own_emptyL w w.heap.size (Nat.le_refl _)) (H.out.below ((Ext.refl w).alloc _)) H1.out ?d1 ?d2 ?_)
  case d1=>simp
  case d2=>simp;omega
  intro v' w1 ho hg _;have hE:Ext w w1:=zT ((Ext.refl w).alloc _) hg (by simp) (fun k hk=>slice_own hk);have HO:=zh ho;clear ho hg
  go_wp2_with fail
  go_ret;exact ⟨_,rfl,hE,HO.out⟩
def ps0 (m:MZ):List (List Int):=if m.tasks.length=0 then [] else [[]]
theorem Blk.set {w:World} {g k:Nat} {t:TypeId} {cs:Array Value} (h:Blk w g t cs) (v:Value):Blk (w.setCell ⟨g,k,none⟩ v) g t (cs.setIfInBounds k v):=by
 unfold Blk at h⊢;simp [World.setCell,Array.getElem?_modify,h]
theorem Blk.setOther {w:World} {g:Nat} {t:TypeId} {cs:Array Value} (h:Blk w g t cs) {a:Addr} (ha:g≠a.block) (v:Value):Blk (w.setCell a v) g t cs:=
 (Below.heap_setCell w a v g ha).trans h
theorem Blk.ext {w w':World} {g:Nat} {t:TypeId} {cs:Array Value} (h:Blk w g t cs) (hb:Ext w w'):Blk w' g t cs:=(hb.block g (zb h)).trans h
theorem Blk.cell {w:World} {g k:Nat} {t:TypeId} {cs:Array Value} {v:Value} (h:Blk w g t cs) (hk:cs[k]?=some v):w.cell? ⟨g,k,none⟩=some v:=by
 unfold Blk at h;unfold World.cell?;simp only [h];exact hk
theorem Blk.frozen {w:World} {g:Nat} {t:TypeId} {cs:Array Value} (h:Blk w g t cs) (k:Nat):w.frozen? ⟨g,k,none⟩=false:=by
 unfold Blk at h;unfold World.frozen?;simp [h]
theorem Blk.new (w:World) (cs:Array Value) (t:TypeId) {g:Nat} (hg:g=w.heap.size):Blk (w.alloc (.cells cs t)) g t cs:=by
 subst hg;exact heap_alloc_new _ _
theorem zaZ.make {ok ok':Nat→Prop} {w W:World} {g gu:Nat} {m:MZ} {ch us:List Int} {ps:List (List Int)} {f u t vc vp:Value} (hE:Ext w W) (hm:zr w ok (.agg #[.int .i64 m.w,.int .i64 m.h,.int .i64 m.l,f,u,t]) m)
  (hk:∀b,ok b→ok' b) (hb:Blk W g 100 (stCells m f u t vc vp gu)) (hg:ok' g) (hch:zf W ok' vc ch) (hps:zo W ok' vp ps) (hgu:ok' gu) (hus:zA W gu us):zaZ W ok' g m ch ps us f u t vc vp gu:=
 ⟨hb,hg,(hm.below hE).weaken hk,hch,hps,hgu,hus⟩
theorem zo.nil (w:World) (ok:Nat→Prop):zo w ok (.slice none 0 0) []:=⟨[],⟨none,0,rfl,Nat.le_refl _,zY.nil _ _ _ _⟩,by simp⟩
theorem zY.block {w:World} {ok:Nat→Prop} {g:Nat} {t:TypeId} {cs:Array Value} (h:Blk w g t cs) (hg:ok g) {n:Nat} (hn:cs.size=n):zY w ok 1 (some ⟨g,0,none⟩) n cs.toList:=
 ⟨by simp [hn],fun _=>⟨g,0,rfl,hg,fun j u hu=>by rw [Nat.zero_add];exact h.cell (by simpa using hu)⟩⟩
theorem begin_calls {ok:Nat→Prop} {v:Value} {m:MZ} (w:World) (hm:zr w ok v m) (hl:m.tasks.length≤100000):
  Calls Tryz.prog 83 #[v] w fun e w'=>∃v',e=.returned v'∧Ext w w'∧StateV w' (fun b=>ok b∨w.heap.size≤b) v' m [] (ps0 m) []:=by
 have hmz:=hm;obtain ⟨vfr,vup,vts,rfl,_,_,hts⟩:=hm;obtain ⟨vst,⟨At,ct,rfl,hct,_⟩,_⟩:=hts;have hmm:=@run_makeMap Tryz.prog;by_cases h0:m.tasks.length=0
 ·have hps0:ps0 m=[]:=by unfold ps0;rw [if_pos h0]
  rw [h0] at hmz;have HMZ:=zh hmz;clear hmz;have HP:=zh hps0;clear hps0
  go_enter Tryz.func83,Tryz.ntmps83
  go_wp2_with fail
  go_ret;rw [HP.out];have hE1:Ext w (w.alloc (.cells #[.int .i64 m.w,.int .i64 m.h,.int .i64 m.l,vfr,vup,.slice At 0 ct] 32)):=(Ext.refl w).alloc _;refine ⟨_,rfl,(hE1.alloc _).alloc _,w.heap.size+2,_,_,_,_,_,w.heap.size+1,rfl,zaZ.make ((hE1.alloc _).alloc _) HMZ.out (fun _ h=>.inl h) (Blk.new _ _ _ (by simp)) (.inr (by omega)) (zf.nil _ _) (zo.nil _ _) (.inr (by omega)) ?_⟩
  have h1:zA ((w.alloc (.cells #[.int .i64 m.w,.int .i64 m.h,.int .i64 m.l,vfr,vup,.slice At 0 ct] 32)).alloc (.map #[] 0)) (w.heap.size+1) []:=by
   have:=zA.new (w.alloc (.cells #[.int .i64 m.w,.int .i64 m.h,.int .i64 m.l,vfr,vup,.slice At 0 ct] 32));simpa using this
  exact h1.below ((Ext.refl _).alloc _)
 ·have hps0:ps0 m=[[]]:=by unfold ps0;rw [if_neg h0]
  have HMZ:=zh hmz;clear hmz;have HP:=zh hps0;clear hps0
  go_enter Tryz.func83,Tryz.ntmps83
  go_wp2_with fail
  go_ret;rw [HP.out];generalize hw1:w.alloc (.cells #[.int .i64 m.w,.int .i64 m.h,.int .i64 m.l,vfr,vup,.slice At m.tasks.length ct] 32)=w1;have hE1:Ext w w1:=by rw [←hw1];exact (Ext.refl w).alloc _
  have hz1:w1.heap.size=w.heap.size+1:=by rw [←hw1];simp
  have h1:zA (w1.alloc (.map #[] 0)) (w.heap.size+1) []:=by rw [←hz1];exact zA.new w1
  have hEa:Ext w (w1.alloc (.map #[] 0)):=hE1.alloc _;generalize hw2:w1.alloc (.map #[] 0)=w2 at*;have hz2:w2.heap.size=w.heap.size+2:=by rw [←hw2];simp [hz1]
  generalize hw3:w2.alloc (.cells #[.int .i64 m.w,.int .i64 m.h,.int .i64 m.l,vfr,vup,.slice At m.tasks.length ct,.slice none 0 0,.slice (some ⟨w.heap.size+1+1+1,0,none⟩) 1 1,.map (some (w.heap.size+1))] 100)=w3;have hb3:Blk w3 (w.heap.size+2) 100 (stCells m vfr vup (.slice At m.tasks.length ct) (.slice none 0 0) (.slice (some ⟨w.heap.size+3,0,none⟩) 1 1) (w.heap.size+1)):=by rw [←hw3];exact Blk.new _ _ _ (by omega)
  have hz3:w3.heap.size=w.heap.size+3:=by rw [←hw3];simp [hz2]
  have hE3:Ext w2 w3:=by rw [←hw3];exact (Ext.refl _).alloc _
  have hE4:=hE3.alloc (.cells #[.slice none 0 0] 23);have hE5:=hEa.trans hE4;have hb4:=hb3.alloc (.cells #[.slice none 0 0] 23);have hb5:Blk (w3.alloc (.cells #[.slice none 0 0] 23)) (w.heap.size+3) 23 #[.slice none 0 0]:=Blk.new _ _ _ (by omega);refine ⟨_,rfl,hE5,w.heap.size+2,_,_,_,_,_,w.heap.size+1,rfl,zaZ.make hE5 HMZ.out (fun _ h=>.inl h) hb4 (.inr (by omega)) (zf.nil _ _) ?_ (.inr (by omega)) (h1.below hE4)⟩
  ·exact ⟨[.slice none 0 0],⟨some ⟨w.heap.size+3,0,none⟩,1,rfl,Nat.le_refl _,zY.block hb5 (.inr (by omega)) rfl⟩,fun i x hx=>by
    match i,hx with
    | 0,hx=>
     have:x=[]:=by simpa using hx.symm
     subst this;exact ⟨_,rfl,zf.nil _ _⟩⟩
end Go.Proofs.YthbjngbhbbkkgaaGreat
namespace Go.Proofs.YthbjngbhbbkkgaaGreat
open Go.RowKit Go.Shelf
attribute [local go_sem] Oper.semAt_some
theorem values1_in (F:Fence) (n:Nat) (h7:F.fn 128) (hro:F.round=none) (hn:1≤n) (l Bs n₀:Nat) (A:Option Addr) (cap:Nat) (zs:List Int) (hlen:zs.length≤1000000000000) (J Jx:List Int→World→Prop)
  (hY:∀pre x W,J pre W→pre.length<zs.length→YieldAt F (n - 1) Tryz.prog l #[.int .i64 x] W fun e W'=>
   (e=.returned (.bool true)∧J (pre++[x]) W'∧Below n₀ W W')∨(e=.returned (.bool false)∧Jx (pre++[x]) W'))
  (W:World) (hBs:W.cell? ⟨Bs,0,none⟩=some (.slice A zs.length cap)) (hc:∀(j:Nat) (hj:j<zs.length),∃b off,A=some ⟨b,off,none⟩∧b<n₀∧W.cell? ⟨b,off+j,none⟩=some (.int .i64 (zs[j]))) (h0:J [] W):
  CallsIn F n Tryz.prog 128 #[.func (.yield l) #[] #[],.pointer (some ⟨Bs,0,none⟩)] W fun e W'=>(∃v,e=.returned v)∧
   ((∃ys,ys=zs∧J ys W')∨(∃pre,pre <+: zs∧Jx pre W')):=by
 have HC:=zh hc;clear hc;refine callsIn_of_wp Tryz.func128 rfl h7 ?_ hro;simp only [Tryz.ntmps128,List.size_toArray,List.length_cons,List.length_nil,Nat.reduceAdd,Nat.reduceSub,Array.replicate_succ,Array.replicate_zero,List.push_toArray,List.append_toArray,List.nil_append,List.cons_append]
 gi_wp2
 gi_loopw [7] (fun i wr=>∃k:Nat,k≤zs.length∧i=.int .i64 k∧Hid (J (zs.take k) wr)∧Hid (Below n₀ W wr))
  (fun i _=>zs.length - (intOf i).toNat)
 case atStart=>exact ⟨0,Nat.zero_le _,rfl,h0,Below.refl _ _⟩
 case round=>
  obtain ⟨k,hk,rfl,hJs,hnx⟩:=hrel;by_cases hlt:k<zs.length
  ·obtain ⟨b,off,rfl,hb,hcx0⟩:=HC.out k hlt;have hcx:wr.cell? ⟨b,off+k,none⟩=some (.int .i64 (zs[k])):=(hnx.out.cell (p:=⟨b,off+k,none⟩) hb).trans hcx0;clear hcx0;have hts:=zh (List.take_succ_eq_append_getElem hlt);obtain ⟨x,hx⟩:∃x,x=zs[k]:=⟨_,rfl⟩;rw [←hx] at hcx hts;clear hx;obtain ⟨fn,tmps,assign,body,hy,hR⟩:=hY _ x wr hJs.out (by simp;omega);have HR:=zh hR;clear hR
   gi_wp2
   refine HR.out.mono ?_;rintro e W3 (⟨rfl,hJ3,hk3⟩ | ⟨rfl,hJx3⟩)
   ·have HJ3:=zh hJ3;clear hJ3;have HK3:=zh hk3;clear hk3
    gi_wp2
    go_roundw
    case rel=>exact ⟨k+1,by omega,by go_num,by rw [hts.out];exact HJ3,hnx.out.trans HK3.out⟩
    case measure=>simp [intOf];omega
   ·have HJ3:=zh hJx3;clear hJx3
    gi_wp2
    refine bodyPost_ret (results_none rfl _ _ _) rfl ?_;exact ⟨⟨_,rfl⟩,.inr ⟨_,List.take_prefix (k+1) zs,by rw [hts.out];exact HJ3.out⟩⟩
  ·obtain rfl:k=zs.length:=by omega
   gi_wp2
   go_end0
   exact ⟨⟨_,rfl⟩,.inl ⟨_,rfl,by have:=hJs.out;rwa [List.take_length] at this⟩⟩
theorem values_stops {ok:Nat→Prop} {v:Value} {l:List Int} (Bs n₀ n:Nat) (hn:1≤n) (w:World) (hBs:Bs<w.heap.size) (hn₀:n₀≤w.heap.size) (hc:w.cell? ⟨Bs,0,none⟩=some v) (h:zf w ok v l) (hok:∀b,ok b→b<w.heap.size→b<n₀) (hlen:l.length≤1000000000000):
  SeqStopsK Fence.wide n Tryz.prog 128 #[.pointer (some ⟨Bs,0,none⟩)] (fun x:Int=>#[Value.int .i64 x]) (Below n₀) (fun ys=>ys=l) (fun pre=>pre <+: l) l.length w:=fun lb J Jx W hW _ _ hY h0=>by
 obtain ⟨A,cap,rfl,hcap,hr⟩:=h;refine values1_in Fence.wide n trivial rfl hn lb Bs n₀ A cap l hlen J Jx hY W ((hW.cell (p:=⟨Bs,0,none⟩) hBs).trans hc) (fun j hj=>?_) h0;obtain ⟨b,off,e,hb,hcell⟩:=zt hr hj hj;have hlt:=zl hcell;exact ⟨b,off,e,hok b hb hlt,(hW.cell (p:=⟨b,off+j,none⟩) hlt).trans hcell⟩
theorem zf.bound {w:World} {ok:Nat→Prop} {v:Value} {l:List Int} (h:zf w ok v l):zf w (fun b=>ok b∧b<w.heap.size) v l:=by
 obtain ⟨A,c,e,hc,hl,hcell⟩:=h;refine ⟨A,c,e,hc,hl,fun hn=>?_⟩;obtain ⟨b,off,e',hb,hcc⟩:=hcell hn;have h0:0<(l.map (Value.int .i64)).length:=by simpa using hn
 exact ⟨b,off,e',⟨hb,zl (hcc 0 _ (List.getElem?_eq_getElem h0))⟩,hcc⟩
theorem appendSeq_calls {ok:Nat→Prop} {v:Value} {l:List Int} (Bs:Nat) (w:World) (hc:w.cell? ⟨Bs,0,none⟩=some v) (h:zf w ok v l) (hlen:l.length≤1000000000000):
  Calls Tryz.prog 133 #[.slice none 0 0,.func (.func 128) #[] #[.pointer (some ⟨Bs,0,none⟩)]] w fun e w'=>∃v',e=.returned v'∧Mk w w' v' l:=by
 refine (callsIn_wide (n:=6)).1 ?_;obtain ⟨i0,hi,hz0,hz1,hz2⟩:=info_parts Tryz.infoInt;have HI:=zh h;clear h;have hBs:=zl hc;refine callsIn_of_wp_marks Tryz.func133 rfl trivial ?_ rfl;simp only [Tryz.ntmps133,List.size_toArray,List.length_cons,List.length_nil,Nat.reduceAdd,Nat.reduceSub,Array.replicate_succ,Array.replicate_zero,List.push_toArray,List.append_toArray,List.nil_append,List.cons_append]
 gi_wp2
 have bO:=Boxed.new w 23 (.slice none 0 0);have hB0:Below w.heap.size w (w.alloc (.cells #[.slice none 0 0] 23)):=(Below.refl _ w).alloc (Nat.le_refl _) _
 refine wpIn_rangeFunc_ownG (F:=Fence.wide) rfl (by omega) (gf:=128) (lb:=#[.pointer (some ⟨Bs,0,none⟩)]) rfl trivial (enters_of Tryz.func128 (by kernel_rfl) rfl)
  (values_stops (ok:=fun b=>ok b∧b<w.heap.size) Bs w.heap.size _ (by omega) _ (by simp;omega) (by simp) ((Ext.refl w).alloc _ |>.cell hc) (HI.out.bound.below hB0) (fun b hb _=>hb.2) hlen) belowK_t (belowK_b (by simp)) (Below.refl _ _) (fun _=>rfl)
  (fun pre W=>(∃v,Boxed W w.heap.size 23 v∧W.ownsRow w.heap.size 3 1 v pre.length (pre.map (Value.int .i64))∧True)∧Below w.heap.size w W)
  (fun _ _ _=>False)
  (OwnFrom.and (Own.from (holdsRow_own w.heap.size w.heap.size 23 3 1 (fun pre:List Int=>pre.length) (fun pre:List Int=>pre.map (Value.int .i64)) (fun pre v=>True)) _) (ownFrom_below (Nat.le_refl _) (by simp)))
  (fun _ _ _ _ _ hs _ _=>hs)
  ⟨⟨_,bO,World.ownsRow_nil _ _ _ _,trivial⟩,hB0⟩
  (fun x=>{ tmps:=#[.slice none 0 0,.func (.func 128) #[] #[.pointer (some ⟨Bs,0,none⟩)],.pointer (some ⟨w.heap.size,0,none⟩),undef,.slice none 0 0,.int .i64 x,.func (.func 128) #[] #[.pointer (some ⟨Bs,0,none⟩)],.int .i64 x,undef,undef,undef,undef,undef],defers:=[] }) ?assign ?body ?done ?stop
 case assign=>
  intro l x W K hK
  gi_wp2
  exact hK
 case body=>
  rintro lb pre x W ⟨⟨v,hv,hrow,_⟩,hB⟩ hlt;have hc:=hv.cell
  gi_wp2_with (gi_at_builtin;refine wpListIn_append_own _ rfl _ _ 23 rfl w.heap.size 3 i0 (.int .i64 0) 1 8 Tryz.underlying23 hi hz0 hz1 hz2 rfl (by decide) _ _ _ rfl (hrow.alloc _) ⟨W.heap.size,0,none⟩ 1 1 [.int .i64 x] rfl rfl (cell_one_new _ _ _) (by simp [Value.oneCell']) (by unfold maxLen;omega) (by omega) (by have:=hB.size;simp;omega) ?_;intro v' w1 hown' hgrow _;obtain ⟨g',cap',rfl⟩:=ownsRow_succ hown';obtain ⟨hv1,hv2,hr2,hk2,hb2⟩:=hv.appended (by decide) hrow hB.size (Nat.le_refl _) hown' hgrow;have hc1:=hv1.cell;have hf1:=hv1.frozen)
  exact ⟨hk2.from _,hb2,⟨_,hv2,by simpa using hr2,trivial⟩,hB.trans hb2⟩
 case done=>
  rintro D ys W hD rfl ⟨⟨v,hv,hrow,_⟩,hB⟩ hK;have hc:=hv.cell
  gi_wp2
  refine ⟨by simp,.inl ⟨_,_,rfl,run_takeDeferred hK,?_⟩⟩;exact ⟨_,results_tmp rfl _ _ _,v,rfl,ownsRow_putObj hrow _ hK rfl,hB.trans (belowK_b (w:=w) (Nat.le_refl _) W D _ _ (by simp at hD;omega) hK rfl rfl)⟩
 case stop=>
  rintro D c pre W _ _ h _;exact h.elim
end Go.Proofs.YthbjngbhbbkkgaaGreat
namespace Go.Proofs.YthbjngbhbbkkgaaGreat
open Go.RowKit
section
variable {P:Program} {ops:Array Oper} {Q:Exit→Act→World→Prop} {md:Region.Mode} {S:World→Prop}
def zbp (ops:Array Oper) (j:Nat):Option Tmp:=(ops[j]?).bind (·.dst)
def zK (ops:Array Oper) (v:Nat→Value):List Nat→Act→Act
 | [],a=>a
 | j :: js,a=>zK ops v js (a.put (zbp ops j) (v j))
def upd {α:Type} (f:Nat→α) (j:Nat) (x:α):Nat→α:=fun k=>if k=j then x else f k
theorem zaX {α:Type} (f:Nat→α) (j:Nat) (x:α):upd f j x j=x:=by simp [upd]
theorem zaa {α:Type} (f:Nat→α) {j k:Nat} (x:α) (h:k≠j):upd f j x k=f k:=by simp [upd,h]
theorem put_put (a:Act) (d:Option Tmp) (x y:Value):(a.put d x).put d y=a.put d y:=by
 cases d with
 | none=>rfl
 | some d=>simp [Act.put]
theorem put_comm (a:Act) {d d':Option Tmp} (x y:Value) (h:d=d'→d=none):(a.put d x).put d' y=(a.put d' y).put d x:=by
 cases d with
 | none=>rfl
 | some d=>
  cases d' with
  | none=>rfl
  | some d'=>
   have hne:d≠d':=fun e=>by subst e;exact absurd (h rfl) (by simp)
   simp only [Act.put];rw [Array.setIfInBounds_comm _ _ hne]
theorem putAll_put (v:Nat→Value) (d:Option Tmp) (x:Value):∀(js:List Nat) (a:Act),(∀k∈js,zbp ops k=d→d=none)→(zK ops v js a).put d x=zK ops v js (a.put d x)
 | [],_,_=>rfl
 | k :: js,a,h=>by
  simp only [zK];rw [putAll_put v d x js _ (fun k' hk'=>h k' (List.mem_cons_of_mem _ hk')),put_comm a _ _ (fun e=>by rw [e];exact h k (List.mem_cons_self ..) e)]
theorem putAll_upd (v:Nat→Value) (j:Nat) (x:Value):∀(js:List Nat) (a:Act),j∉js→zK ops (upd v j x) js a=zK ops v js a
 | [],_,_=>rfl
 | k :: js,a,h=>by
  simp only [zK];rw [zaa v x (fun e=>h (by simp [e])),putAll_upd v j x js _ (fun h'=>h (List.mem_cons_of_mem _ h'))]
def Dist (ops:Array Oper) (js:List Nat):Prop:=∀j∈js,∀k∈js,j≠k→zbp ops j=zbp ops k→zbp ops k=none
theorem putAll_set (v:Nat→Value) (j:Nat) (x:Value):∀(js:List Nat) (a:Act),js.Nodup→Dist ops js→j∈js→(zK ops v js a).put (zbp ops j) x=zK ops (upd v j x) js a
 | [],_,_,_,h=>by cases h
 | k :: js,a,hn,hd,h=>by
  obtain ⟨hk,hn'⟩:=List.nodup_cons.1 hn;simp only [zK];by_cases e:j=k
  ·subst e;rw [zaX,putAll_upd v j x js _ hk,putAll_put v _ x js _ (fun k' hk' he=>hd k' (List.mem_cons_of_mem _ hk') j (List.mem_cons_self ..) (fun e=>hk (e ▸ hk')) he),put_put]
  ·have hj:j∈js:=by
    rcases List.mem_cons.1 h with h | h
    ·exact absurd h e
    ·exact h
   rw [zaa v x (fun h=>e h.symm)];exact putAll_set v j x js _ hn' (fun a ha b hb=>hd a (List.mem_cons_of_mem _ ha) b (List.mem_cons_of_mem _ hb)) hj
theorem put_self (a:Act) (d:Option Tmp):∃x,a.put d x=a:=by
 cases d with
 | none=>exact ⟨undef,rfl⟩
 | some d=>
  refine ⟨a.tmps.getD d undef,?_⟩;obtain ⟨t,ds⟩:=a;simp only [Act.put,Act.mk.injEq,and_true];apply Array.ext_getElem?;intro i;rw [Array.getElem?_setIfInBounds]
  split
  ·rename_i h
   subst h
   split
   ·rename_i h;simp [Array.getD,h]
   ·rename_i h;rw [Array.getElem?_eq_none (by omega)]
  ·rfl
theorem zde (a:Act):∀(js:List Nat),js.Nodup→∃v,zK ops v js a=a
 | [],_=>⟨fun _=>undef,rfl⟩
 | j :: js,h=>by
  obtain ⟨hj,hn⟩:=List.nodup_cons.1 h;obtain ⟨v,hv⟩:=zde a js hn;obtain ⟨x,hx⟩:=put_self a (zbp ops j);refine ⟨upd v j x,?_⟩;simp only [zK];rw [zaX,putAll_upd v j x js _ hj,hx,hv]
def zbN (md:Region.Mode) (ops:Array Oper) (js:List Nat):Bool:=
 ((List.range ops.size).all fun j=>match ops[j]? with | none=>false | some o=>o.after.toList.all fun e=>!Region.binds md e || decide (e.on<j)) &&
 decide js.Nodup && (js.all fun j=>decide (j<ops.size)) && (js.all fun j=>js.all fun k=>decide (j=k) || !(decide (zbp ops j=zbp ops k)) || decide (zbp ops k=none))
def leftB (ops:Array Oper) (listed:Array Bool) (js:List Nat):Bool:=decide (listed.size=ops.size) && (List.range listed.size).all fun k=>listed.getD k true || decide (k∈js)
def StepTo (ops:Array Oper) (S:World→Prop) (J:(Nat→Bool)→(Nat→Value)→World→Prop) (js:List Nat) (a0:Act) (j:Nat) (e:Nat→Bool) (v:Nat→Value) (K:Act→World→Prop):Prop:=
 ∀a' x w',(zK ops v js a0).put (zbp ops j) x=a'→S w'→J (upd e j true) (upd v j x) w'→K a' w'
theorem wpAnyH_inv {js:List Nat} {a0:Act} {J:(Nat→Bool)→(Nat→Value)→World→Prop} (hB:zbN md ops js=true)
  (step:∀j∈js,∀e v w,J e v w→S w→e j=false→(∀o,ops[j]?=some o→∀d∈o.after,Region.binds md d=true→e d.on=true)→∀o,ops[j]?=some o→∀K:Act→World→Prop,Hid (StepTo ops S J js a0 j e v K)→
   if Region.wanted o (yielded ops (zK ops v js a0).tmps)=true then Oper.wp P o (zK ops v js a0) w K Q else K ((zK ops v js a0).put o.dst undef) w)
  (fin:∀v w,J (fun _=>true) v w→S w→Q .normal (zK ops v js a0) w):
  ∀(fuel:Nat) (listed:Array Bool) (v:Nat→Value) (w:World),listed.size=ops.size→(∀k,listed.getD k true=false→k∈js)→(js.filter fun k=>!listed.getD k true).length≤fuel→S w→J (fun k=>listed.getD k true) v w→
   wpAnyH P md ops Q S fuel listed (zK ops v js a0) w:=by
 unfold zbN at hB;simp only [Bool.and_eq_true,List.all_eq_true,decide_eq_true_eq,Bool.or_eq_true,Bool.not_eq_true',decide_eq_false_iff_not] at hB;obtain ⟨⟨⟨h1,h2⟩,h3⟩,h4⟩:=hB
 have hD:Dist ops js:=fun j hj k hk hne he=>by
  rcases h4 j hj k hk with (h | h) | h
  ·exact absurd h hne
  ·exact absurd he h
  ·exact h
 have hall:∀listed:Array Bool,(∀k,listed.getD k true=true)→(fun k=>listed.getD k true)=fun _=>true:=fun listed h=>funext h
 have hready:∀listed:Array Bool,listed.size=ops.size→(∀k,listed.getD k true=false→k∈js)→Region.ready md ops listed=[]→∀k,listed.getD k true=true:=by
  intro listed hsz hjs hr
  have hk:∀n k,k<n→listed.getD k true=true:=by
   intro n
   induction n with
   | zero=>intro k h;omega
   | succ n ih=>
    intro k hkn
    cases hv:listed.getD k true with
    | true=>rfl
    | false=>
     exfalso
     have hlt:=h3 k (hjs k hv)
     have hmem:k∈Region.ready md ops listed:=mem_ready.2 ⟨hv,ops[k],Array.getElem?_eq_getElem hlt,fun e he hb=>by
      have:=h1 k (List.mem_range.2 hlt);rw [Array.getElem?_eq_getElem hlt] at this;have h5:=(List.all_eq_true.1 this) e (by simpa using he);simp only [Bool.or_eq_true,Bool.not_eq_true',decide_eq_true_eq] at h5
      have h6:e.on<k:=by
       rcases h5 with h5 | h5
       ·rw [hb] at h5;cases h5
       ·exact h5
      have h7:=ih e.on (by omega);have h8:e.on<listed.size:=by omega
      simp only [Array.getD,h8,dif_pos] at h7⊢;exact h7⟩
     rw [hr] at hmem;cases hmem
  exact fun k=>hk (k+1) k (by omega)
 intro fuel
 induction fuel with
 | zero=>
  intro listed v w hsz hjs hc hS hJ
  have hf:∀k,listed.getD k true=true:=fun k=>by
   cases hv:listed.getD k true with
   | true=>rfl
   | false=>
    exfalso
    have:k∈js.filter fun k=>!listed.getD k true:=List.mem_filter.2 ⟨hjs k hv,by rw [hv];rfl⟩
    rw [List.eq_nil_of_length_eq_zero (Nat.le_zero.1 hc)] at this;cases this
  refine ⟨?_,fin v w (by rw [←hall listed hf];exact hJ) hS⟩;apply List.eq_nil_iff_forall_not_mem.2;intro j hj;have:=(mem_ready.1 hj).1;rw [hf j] at this;cases this
 | succ fuel ih=>
  intro listed v w hsz hjs hc hS hJ;refine ⟨fun hr=>fin v w (by rw [←hall listed (hready listed hsz hjs hr)];exact hJ) hS,fun i hi=>?_⟩;obtain ⟨hun,o,ho,hdeps⟩:=mem_ready.1 hi;have hij:=hjs i hun;refine wpOp_step ho fun K' hK=>?_
  have hlt:i<listed.size:=by have:=h3 i hij;omega
  refine step i hij (fun k=>listed.getD k true) v w hJ hS hun (fun o' ho' d hd hb=>?_) o ho K' (fun a' x w' ha hS' hJ'=>?_)
  ·rw [ho] at ho';injection ho' with ho';subst ho';have h9:=hdeps d hd hb;by_cases h10:d.on<listed.size
   ·simp only [Array.getD,h10,dif_pos] at h9⊢;exact h9
   ·simp only [Array.getD,h10,dif_neg,not_false_eq_true] at h9;cases h9
  ·refine hK _ _ ⟨hS',?_⟩
   have hupd:upd (fun k=>listed.getD k true) i true=fun k=>(listed.setIfInBounds i true).getD k true:=by
    funext k;by_cases hk:k=i
    ·subst hk;rw [zaX];simp [Array.getD,hlt]
    ·rw [zaa _ _ hk];simp only [Array.getD,Array.size_setIfInBounds]
     split
     ·rename_i h
      show listed[k]=(listed.setIfInBounds i true)[k]'(by simpa using h);rw [Array.getElem_setIfInBounds,if_neg (Ne.symm hk)]
     ·rfl
   rw [hupd] at hJ';rw [←ha,putAll_set v i x js a0 h2 hD hij];refine ih (listed.setIfInBounds i true) (upd v i x) w' (by simpa using hsz) (fun k hk=>?_) ?_ hS' hJ'
   ·by_cases hki:k=i
    ·rw [hki];exact hij
    ·have:=congrFun hupd k;rw [zaa _ _ hki] at this;exact hjs k (this.trans hk)
   ·have hfl:(js.filter fun k=>!(listed.setIfInBounds i true).getD k true)=(js.filter fun k=>!listed.getD k true).erase i:=by
     rw [List.Nodup.erase_eq_filter (h2.filter _),List.filter_filter];apply List.filter_congr;intro k hk;have:=congrFun hupd k;rw [←this];by_cases hki:k=i
     ·subst hki;simp [zaX]
     ·rw [zaa _ _ hki];simp [hki]
    rw [hfl,List.length_erase_of_mem (List.mem_filter.2 ⟨hij,by show (!listed.getD i true)=true;rw [hun];rfl⟩)];omega
theorem wpAnyH_by_inv (js:List Nat) (J:(Nat→Bool)→(Nat→Value)→World→Prop) {fuel:Nat} {listed:Array Bool} {a0:Act} {w:World} (hB:zbN md ops js=true) (hL:leftB ops listed js=true) (hf:js.length≤fuel) (hS:S w)
  (init:∀e v,(∀j∈js,e j=false)→J e v w)
  (hun:(js.all fun j=>!listed.getD j true)=true)
  (step:∀j∈js,∀e v w,J e v w→S w→e j=false→(∀o,ops[j]?=some o→∀d∈o.after,Region.binds md d=true→e d.on=true)→∀o,ops[j]?=some o→∀K:Act→World→Prop,Hid (StepTo ops S J js a0 j e v K)→
   if Region.wanted o (yielded ops (zK ops v js a0).tmps)=true then Oper.wp P o (zK ops v js a0) w K Q else K ((zK ops v js a0).put o.dst undef) w)
  (fin:∀v w,J (fun _=>true) v w→S w→Q .normal (zK ops v js a0) w):wpAnyH P md ops Q S fuel listed a0 w:=by
 unfold leftB at hL;simp only [Bool.and_eq_true,List.all_eq_true,decide_eq_true_eq,Bool.or_eq_true] at hL
 have hn:js.Nodup:=by
  unfold zbN at hB;simp only [Bool.and_eq_true,decide_eq_true_eq] at hB;exact hB.1.1.2
 obtain ⟨v,hv⟩:=zde (ops:=ops) a0 js hn
 have h:=wpAnyH_inv hB step fin fuel listed v w hL.1 (fun k hk=>by
  by_cases hlt:k<listed.size
  ·rcases hL.2 k (List.mem_range.2 hlt) with h | h
   ·rw [hk] at h;cases h
   ·exact h
  ·simp [Array.getD,hlt] at hk) (Nat.le_trans (List.length_filter_le _ _) hf) hS (init _ _ (fun j hj=>by
   have:=List.all_eq_true.1 hun j hj;simpa using this))
 rwa [hv] at h
end
def noDeferB (ops:Array Oper):Bool:=ops.toList.all fun o=>match o.op with | .defer _=>false | _=>true
theorem operIn_of {P:Program} {o:Oper} {a:Act} {w:World} {K:Act→World→Prop} {Q:Exit→Act→World→Prop} (l n:Nat) (hd:∀c,o.op≠.defer c) (h:o.wp P a w K Q):o.wpIn (Fence.wide.inRound l) n P a w K Q:=by
 have hdep:(Fence.wide.inRound l).depth.isSome=true→1≤n:=fun h=>absurd h (by simp [Fence.wide])
 refine ⟨fun f _=>trivial,?_⟩;rw [Oper.semAt_eq _ _ _ hd];unfold Oper.wp at h;generalize (execOp a.eval o).run P w=r at*
 cases r with
 | ok x w'=>
  cases x with
  | enter f args=>exact ⟨hdep,(CallsIn.inRound l (callsIn_wide.2 h)).mono (fun e w'' he=>by cases e <;> exact he)⟩
  | row row args=>exact ⟨hdep,fun c cs _=>let ⟨v,w'',r,s⟩:=h c cs;⟨v,w'',r,stepsIn_wide.2 s⟩⟩
  | _=>first | exact h | exact (h:False).elim
 | halt x w'=>cases x <;> exact h
section
variable {P:Program} {ops:Array Oper} {Q:Exit→Act→World→Prop} {md:Region.Mode} {S:World→Prop}
theorem wpOpIn_step (l n:Nat) (hND:noDeferB ops=true) {i:Nat} {o:Oper} {K:Act→World→Prop} {a:Act} {w:World} (ho:ops[i]?=some o)
  (h:∀K':Act→World→Prop,(∀a w,K a w→K' a w)→if Region.wanted o (yielded ops a.tmps)=true then Oper.wp P o a w K' Q else K' (a.put o.dst undef) w):wpOpIn (Fence.wide.inRound l) n P ops Q i K a w:=by
 have h1:=h K (fun _ _ h=>h);unfold wpOpIn;rw [ho]
 have hd:∀c,o.op≠.defer c:=by
  intro c e;have:=List.all_eq_true.1 hND o (by simpa using Array.mem_of_getElem? ho);rw [e] at this;cases this
 by_cases hw:Region.wanted o (yielded ops a.tmps)=true
 ·rw [if_pos hw] at h1;simp only [hw,if_true];exact operIn_of l n hd h1
 ·rw [if_neg hw] at h1;simp only [hw];exact ⟨fun f _=>trivial,h1⟩
theorem wpAnyIn_inv (l n:Nat) (hND:noDeferB ops=true) {js:List Nat} {a0:Act} {J:(Nat→Bool)→(Nat→Value)→World→Prop} (hB:zbN md ops js=true)
  (step:∀j∈js,∀e v w,J e v w→e j=false→(∀o,ops[j]?=some o→∀d∈o.after,Region.binds md d=true→e d.on=true)→∀o,ops[j]?=some o→∀K:Act→World→Prop,Hid (StepTo ops (fun _=>True) J js a0 j e v K)→
   if Region.wanted o (yielded ops (zK ops v js a0).tmps)=true then Oper.wp P o (zK ops v js a0) w K Q else K ((zK ops v js a0).put o.dst undef) w)
  (fin:∀v w,J (fun _=>true) v w→Q .normal (zK ops v js a0) w):
  ∀(fuel:Nat) (listed:Array Bool) (v:Nat→Value) (w:World),listed.size=ops.size→(∀k,listed.getD k true=false→k∈js)→(js.filter fun k=>!listed.getD k true).length≤fuel→J (fun k=>listed.getD k true) v w→
   wpAnyIn (Fence.wide.inRound l) n P md ops Q fuel listed (zK ops v js a0) w:=by
 unfold zbN at hB;simp only [Bool.and_eq_true,List.all_eq_true,decide_eq_true_eq,Bool.or_eq_true,Bool.not_eq_true',decide_eq_false_iff_not] at hB;obtain ⟨⟨⟨h1,h2⟩,h3⟩,h4⟩:=hB
 have hD:Dist ops js:=fun j hj k hk hne he=>by
  rcases h4 j hj k hk with (h | h) | h
  ·exact absurd h hne
  ·exact absurd he h
  ·exact h
 have hall:∀listed:Array Bool,(∀k,listed.getD k true=true)→(fun k=>listed.getD k true)=fun _=>true:=fun listed h=>funext h
 have hready:∀listed:Array Bool,listed.size=ops.size→(∀k,listed.getD k true=false→k∈js)→Region.ready md ops listed=[]→∀k,listed.getD k true=true:=by
  intro listed hsz hjs hr
  have hk:∀n k,k<n→listed.getD k true=true:=by
   intro n
   induction n with
   | zero=>intro k h;omega
   | succ n ih=>
    intro k hkn
    cases hv:listed.getD k true with
    | true=>rfl
    | false=>
     exfalso
     have hlt:=h3 k (hjs k hv)
     have hmem:k∈Region.ready md ops listed:=mem_ready.2 ⟨hv,ops[k],Array.getElem?_eq_getElem hlt,fun e he hb=>by
      have:=h1 k (List.mem_range.2 hlt);rw [Array.getElem?_eq_getElem hlt] at this;have h5:=(List.all_eq_true.1 this) e (by simpa using he);simp only [Bool.or_eq_true,Bool.not_eq_true',decide_eq_true_eq] at h5
      have h6:e.on<k:=by
       rcases h5 with h5 | h5
       ·rw [hb] at h5;cases h5
       ·exact h5
      have h7:=ih e.on (by omega);have h8:e.on<listed.size:=by omega
      simp only [Array.getD,h8,dif_pos] at h7⊢;exact h7⟩
     rw [hr] at hmem;cases hmem
  exact fun k=>hk (k+1) k (by omega)
 intro fuel
 induction fuel with
 | zero=>
  intro listed v w hsz hjs hc hJ
  have hf:∀k,listed.getD k true=true:=fun k=>by
   cases hv:listed.getD k true with
   | true=>rfl
   | false=>
    exfalso
    have:k∈js.filter fun k=>!listed.getD k true:=List.mem_filter.2 ⟨hjs k hv,by rw [hv];rfl⟩
    rw [List.eq_nil_of_length_eq_zero (Nat.le_zero.1 hc)] at this;cases this
  refine ⟨?_,fin v w (by rw [←hall listed hf];exact hJ)⟩;apply List.eq_nil_iff_forall_not_mem.2;intro j hj;have:=(mem_ready.1 hj).1;rw [hf j] at this;cases this
 | succ fuel ih=>
  intro listed v w hsz hjs hc hJ;refine ⟨fun hr=>fin v w (by rw [←hall listed (hready listed hsz hjs hr)];exact hJ),fun i hi=>?_⟩;obtain ⟨hun,o,ho,hdeps⟩:=mem_ready.1 hi;have hij:=hjs i hun;refine wpOpIn_step l n hND ho fun K' hK=>?_
  have hlt:i<listed.size:=by have:=h3 i hij;omega
  refine step i hij (fun k=>listed.getD k true) v w hJ hun (fun o' ho' d hd hb=>?_) o ho K' (fun a' x w' ha hS' hJ'=>?_)
  ·rw [ho] at ho';injection ho' with ho';subst ho';have h9:=hdeps d hd hb;by_cases h10:d.on<listed.size
   ·simp only [Array.getD,h10,dif_pos] at h9⊢;exact h9
   ·simp only [Array.getD,h10,dif_neg,not_false_eq_true] at h9;cases h9
  ·refine hK _ _ ?_
   have hupd:upd (fun k=>listed.getD k true) i true=fun k=>(listed.setIfInBounds i true).getD k true:=by
    funext k;by_cases hk:k=i
    ·subst hk;rw [zaX];simp [Array.getD,hlt]
    ·rw [zaa _ _ hk];simp only [Array.getD,Array.size_setIfInBounds]
     split
     ·rename_i h
      show listed[k]=(listed.setIfInBounds i true)[k]'(by simpa using h);rw [Array.getElem_setIfInBounds,if_neg (Ne.symm hk)]
     ·rfl
   rw [hupd] at hJ';rw [←ha,putAll_set v i x js a0 h2 hD hij];refine ih (listed.setIfInBounds i true) (upd v i x) w' (by simpa using hsz) (fun k hk=>?_) ?_ hJ'
   ·by_cases hki:k=i
    ·rw [hki];exact hij
    ·have:=congrFun hupd k;rw [zaa _ _ hki] at this;exact hjs k (this.trans hk)
   ·have hfl:(js.filter fun k=>!(listed.setIfInBounds i true).getD k true)=(js.filter fun k=>!listed.getD k true).erase i:=by
     rw [List.Nodup.erase_eq_filter (h2.filter _),List.filter_filter];apply List.filter_congr;intro k hk;have:=congrFun hupd k;rw [←this];by_cases hki:k=i
     ·subst hki;simp [zaX]
     ·rw [zaa _ _ hki];simp [hki]
    rw [hfl,List.length_erase_of_mem (List.mem_filter.2 ⟨hij,by show (!listed.getD i true)=true;rw [hun];rfl⟩)];omega
theorem wpAnyIn_by_inv (l n:Nat) (hND:noDeferB ops=true) (js:List Nat) (J:(Nat→Bool)→(Nat→Value)→World→Prop) {fuel:Nat} {listed:Array Bool} {a0:Act} {w:World} (hB:zbN md ops js=true) (hL:leftB ops listed js=true) (hf:js.length≤fuel)
  (init:∀e v,(∀j∈js,e j=false)→J e v w)
  (hun:(js.all fun j=>!listed.getD j true)=true)
  (step:∀j∈js,∀e v w,J e v w→e j=false→(∀o,ops[j]?=some o→∀d∈o.after,Region.binds md d=true→e d.on=true)→∀o,ops[j]?=some o→∀K:Act→World→Prop,Hid (StepTo ops (fun _=>True) J js a0 j e v K)→
   if Region.wanted o (yielded ops (zK ops v js a0).tmps)=true then Oper.wp P o (zK ops v js a0) w K Q else K ((zK ops v js a0).put o.dst undef) w)
  (fin:∀v w,J (fun _=>true) v w→Q .normal (zK ops v js a0) w):wpAnyIn (Fence.wide.inRound l) n P md ops Q fuel listed a0 w:=by
 unfold leftB at hL;simp only [Bool.and_eq_true,List.all_eq_true,decide_eq_true_eq,Bool.or_eq_true] at hL
 have hn:js.Nodup:=by
  unfold zbN at hB;simp only [Bool.and_eq_true,decide_eq_true_eq] at hB;exact hB.1.1.2
 obtain ⟨v,hv⟩:=zde (ops:=ops) a0 js hn
 have h:=wpAnyIn_inv l n hND hB step fin fuel listed v w hL.1 (fun k hk=>by
  by_cases hlt:k<listed.size
  ·rcases hL.2 k (List.mem_range.2 hlt) with h | h
   ·rw [hk] at h;cases h
   ·exact h
  ·simp [Array.getD,hlt] at hk) (Nat.le_trans (List.length_filter_le _ _) hf) (init _ _ (fun j hj=>by
   have:=List.all_eq_true.1 hun j hj;simpa using this))
 rwa [hv] at h
end
section
variable {P:Program} {ops:Array Oper} {Q:Exit→Act→World→Prop} {md:Region.Mode} {S:World→Prop}
def StepToF (F:(Nat→Value)→Act) (d:Option Tmp) (S:World→Prop) (J:(Nat→Bool)→(Nat→Value)→World→Prop) (j:Nat) (e:Nat→Bool) (v:Nat→Value) (K:Act→World→Prop):Prop:=
 ∀a' x w',(F v).put d x=a'→S w'→J (upd e j true) (upd v j x) w'→K a' w'
def zg (P:Program) (ops:Array Oper) (Q:Exit→Act→World→Prop) (md:Region.Mode) (F:(Nat→Value)→Act) (S:World→Prop) (J:(Nat→Bool)→(Nat→Value)→World→Prop) (js:List Nat):Prop:=
 ∀j∈js,∀e v w,J e v w→S w→e j=false→∀o,ops[j]?=some o→(∀d∈o.after,Region.binds md d=true→e d.on=true)→∀K:Act→World→Prop,Hid (StepToF F o.dst S J j e v K)→
   if Region.wanted o (yielded ops (F v).tmps)=true then Oper.wp P o (F v) w K Q else K ((F v).put o.dst undef) w
theorem zg.nil {F:(Nat→Value)→Act} {J:(Nat→Bool)→(Nat→Value)→World→Prop}:zg P ops Q md F S J []:=fun _ h=>by cases h
theorem zg.cons {F:(Nat→Value)→Act} {J:(Nat→Bool)→(Nat→Value)→World→Prop} {j:Nat} {js:List Nat} {o:Oper} (ho:ops[j]?=some o)
  (h:∀e v w (K:Act→World→Prop),J e v w→S w→e j=false→(∀d∈o.after,Region.binds md d=true→e d.on=true)→Hid (StepToF F o.dst S J j e v K)→
   if Region.wanted o (yielded ops (F v).tmps)=true then Oper.wp P o (F v) w K Q else K ((F v).put o.dst undef) w)
  (hs:zg P ops Q md F S J js):zg P ops Q md F S J (j :: js):=by
 intro k hk;rcases List.mem_cons.1 hk with rfl | hk
 ·intro e v w hJ hS he o' ho' hd K hK;rw [ho] at ho';injection ho' with ho';subst ho';exact h e v w K hJ hS he hd hK
 ·exact hs k hk
theorem zaY (js:List Nat) (J:(Nat→Bool)→(Nat→Value)→World→Prop) {F:(Nat→Value)→Act} {fuel:Nat} {listed:Array Bool} {a0:Act} {w:World} (hB:zbN md ops js=true) (hL:leftB ops listed js=true) (hf:js.length≤fuel) (hS:S w)
  (hF:∀v,zK ops v js a0=F v) (init:∀e v,(∀j∈js,e j=false)→J e v w) (hun:(js.all fun j=>!listed.getD j true)=true) (step:zg P ops Q md F S J js)
  (fin:∀v w,J (fun _=>true) v w→S w→Q .normal (F v) w):wpAnyH P md ops Q S fuel listed a0 w:=by
 refine wpAnyH_by_inv js J hB hL hf hS init hun (fun j hj e v w hJ hS he hd o ho K hK=>?_) (fun v w hJ hS=>by rw [hF v];exact fin v w hJ hS);have hdst:zbp ops j=o.dst:=by unfold zbp;rw [ho];rfl
 have h:=step j hj e v w hJ hS he o ho (hd o ho) K (fun a' x w' ha hS' hJ'=>hK.out a' x w' (by rw [hF v,hdst];exact ha) hS' hJ');rw [hF v];exact h
theorem wpAnyIn_by_invF (l n:Nat) (hND:noDeferB ops=true) (js:List Nat) (J:(Nat→Bool)→(Nat→Value)→World→Prop) {F:(Nat→Value)→Act} {fuel:Nat} {listed:Array Bool} {a0:Act} {w:World} (hB:zbN md ops js=true) (hL:leftB ops listed js=true) (hf:js.length≤fuel)
  (hF:∀v,zK ops v js a0=F v) (init:∀e v,(∀j∈js,e j=false)→J e v w) (hun:(js.all fun j=>!listed.getD j true)=true) (step:zg P ops Q md F (fun _=>True) J js)
  (fin:∀v w,J (fun _=>true) v w→Q .normal (F v) w):wpAnyIn (Fence.wide.inRound l) n P md ops Q fuel listed a0 w:=by
 refine wpAnyIn_by_inv l n hND js J hB hL hf init hun (fun j hj e v w hJ he hd o ho K hK=>?_) (fun v w hJ=>by rw [hF v];exact fin v w hJ);have hdst:zbp ops j=o.dst:=by unfold zbp;rw [ho];rfl
 have h:=step j hj e v w hJ trivial he o ho (hd o ho) K (fun a' x w' ha hS' hJ'=>hK.out a' x w' (by rw [hF v,hdst];exact ha) hS' hJ');rw [hF v];exact h
end
def GivesB {α:Type} (n:Nat) (P:Program) (g:Nat) (lb:Array Value) (encs:α→Array Value) (G:Nat→α→World→Prop) (N:Nat) (w:World):Prop:=
 ∀(l:Nat) (J:Nat→World→Prop) (Jx:World→Prop) (W:World),Ext w W→w.heap.size≤l→l<W.heap.size→(∀k A B,J k A→Below W.heap.size A B→J k B)→(∀A B,Jx A→Below W.heap.size A B→Jx B)→
  (∀k x W1,k<N→J k W1→G k x W1→YieldAt Fence.wide (n - 1) P l (encs x) W1 fun e W'=>(e=.returned (.bool true)∧J (k+1) W'∧W1.grownBy W' (some l))∨(e=.returned (.bool false)∧Jx W'))→
  J 0 W→
  CallsIn Fence.wide n P g (#[.func (.yield l) #[] #[]]++lb) W fun e W'=>(∃v,e=.returned v)∧(J N W'∨Jx W')
def postB (B k:Nat) (I:Nat→World→Prop) (Ix:Code→World→Prop) (W:World):Exit→Act→World→Prop
 | .normal,_,W'=>Ext W W'∧I (k+1) W'
 | .ret,_,W'=>(∀b,B≤b→b<W.heap.size→W'.heap[b]?=W.heap[b]?)∧Ix .ret W'
 | .exit id,_,W'=>(∀b,B≤b→b<W.heap.size→W'.heap[b]?=W.heap[b]?)∧Ix (.exit id) W'
 | .goto t,_,W'=>(∀b,B≤b→b<W.heap.size→W'.heap[b]?=W.heap[b]?)∧Ix (.goto t) W'
 | .panic _,_,_=>False
 | .outgrown,_,_=>False
theorem zB {B l:Nat} {W:World} (o:Obj) (h:B≤l) (hl:l<W.heap.size):Below B W (W.putObj l o):=
 (Below.refl B W).grown (grownBy_putObj' W l o) (by omega) (fun k e=>by cases e;exact h)
theorem wpIn_loopB {P:Program} {n:Nat} {α:Type} {g:Operand} {ps:Array Tmp} {assign body:Code} {Q:Exit→Act→World→Prop} {a:Act} {w:World}
  {gf:Nat} {lb:Array Value} (hg:a.eval g=.func (.func gf) #[] lb) (eg:∀args w,(callFunc gf args).run P w=.ok (.enter gf args) w)
  {encs:α→Array Value} {G:Nat→α→World→Prop} {N:Nat} {w0:World} (hseq:GivesB (n - 1) P gf lb encs G N w0) (hb0:Ext w0 w) (hps:∀x,(encs x).size=ps.size)
  (I:Nat→World→Prop) (Ix:Code→World→Prop) (hI:∀k A B,I k A→Below w.heap.size A B→I k B) (hIx:∀c A B,Ix c A→Below w.heap.size A B→Ix c B)
  (hG:∀k x A l,G k x A→w.heap.size<l→l<A.heap.size→(∃r,A.heap[l]?=some (.loop r))→∀o,G k x (A.putObj l o)) (h0:I 0 w) (a₁:α→Act)
  (hassign:∀(l:Nat) (x:α) (W:World) (K:Act→World→Prop),K (a₁ x) W→
   assign.wpIn (Fence.wide.inRound l) (n - 1 - 1) P (Exit.then K (fun _ _ _=>False)) { tmps:=(ps.zip (encs x)).foldl (fun t (p,v)=>t.setIfInBounds p v) a.tmps,defers:=[] } W)
  (hbody:∀(l k:Nat) (x:α) (W:World),k<N→I k W→G k x W→w.heap.size<W.heap.size→body.wpIn (Fence.wide.inRound l) (n - 1 - 1) P (postB w.heap.size k I Ix W) (a₁ x) W)
  (hdone:∀(D:Nat) (W:World),w.heap.size≤D→I N W→W.heap[D]?=some (.deferred (some []))→Q .normal { a with defers:={ target:=.collected D,args:=#[] } :: a.defers } W)
  (hstop:∀(D:Nat) (c:Code) (W:World),w.heap.size≤D→Ix c W→W.heap[D]?=some (.deferred (some []))→c.wpIn Fence.wide n P Q { a with defers:={ target:=.collected D,args:=#[] } :: a.defers } W):
  (Code.rangeFunc g ps assign body).wpIn Fence.wide n P Q a w:=by
 refine wpIn_rangeFunc ?_;intro fn hfn;obtain ⟨rec,hrec⟩:∃rec:LoopState→Option Code→Loop,rec=fun st pe=>{ state:=st,pending:=pe,fn,tmps:=a.tmps,params:=ps,assign,body,defers:=w.heap.size }:=⟨_,rfl⟩
 obtain ⟨W1,hW1⟩:∃W1,(w.alloc (.deferred (some []))).alloc (.loop (rec .ready none))=W1:=⟨_,rfl⟩;have hz1:W1.heap.size=w.heap.size+2:=by rw [←hW1];simp
 have hL1:W1.heap[w.heap.size+1]?=some (.loop (rec .ready none)):=by
  rw [←hW1];have:=World.alloc_heap_new (w.alloc (.deferred (some []))) (.loop (rec .ready none))
  rwa [World.size_alloc] at this
 have hD1:W1.heap[w.heap.size]?=some (.deferred (some [])):=by
  rw [←hW1];exact (Below.heap_alloc _ _ _ (by simp)).trans (World.alloc_heap_new w _)
 have hE1:Ext w W1:=by rw [←hW1];exact ((Ext.refl w).alloc _).alloc _
 refine ⟨w.heap.size+1,[{ target:=.collected w.heap.size,args:=#[] }],W1,{ target:=.fn (.func gf) lb,args:=#[.func (.yield (w.heap.size+1)) #[] #[]] },W1,gf,
  #[.func (.yield (w.heap.size+1)) #[] #[]]++lb,W1,?_,?_,fun _ _=>trivial,?_,fun h=>absurd h (by simp [Fence.wide]),?_⟩
 ·rw [←hW1,hrec];exact run_enterLoop_outer _ _ _ _ _
 ·simp only [resolve,hg];simp [go_sem]
 ·simp [invoke,go_sem,eg]
 ·refine (hseq (w.heap.size+1)
   (fun k W=>I k W∧W.heap[w.heap.size+1]?=some (.loop (rec .ready none))∧W.heap[w.heap.size]?=some (.deferred (some []))∧w.heap.size+1<W.heap.size)
   (fun W=>∃c,Ix c W∧W.heap[w.heap.size+1]?=some (.loop (rec .done (some c)))∧W.heap[w.heap.size]?=some (.deferred (some [])))
   W1 (hb0.trans hE1) (by have:=hb0.size;omega) (by omega) ?_ ?_ ?_ ⟨hI _ _ _ h0 hE1,hL1,hD1,by omega⟩).mono ?_
  ·rintro k A B ⟨h1,h2,h3,h4⟩ hAB;exact ⟨hI _ _ _ h1 (hAB.mono (by omega)),(hAB.block _ (by omega)).trans h2,(hAB.block _ (by omega)).trans h3,Nat.lt_of_lt_of_le h4 hAB.size⟩
  ·rintro A B ⟨c,h1,h2,h3⟩ hAB;exact ⟨c,hIx _ _ _ h1 (hAB.mono (by omega)),(hAB.block _ (by omega)).trans h2,(hAB.block _ (by omega)).trans h3⟩
  ·-- one round
   rintro k x W hkN ⟨hi,hl,hD,hlt⟩ hgx;have hy:=run_yield (P:=P) (args:=encs x) hl (by rw [hrec];exact hps x);rw [hrec] at hy;refine ⟨fn,_,assign,body,hy,roundIn_of_wpIn hfn (hassign _ x W _ ⟨_,run_beginRound hl (by rw [hrec]),?_⟩)⟩;have hl2:(W.putObj (w.heap.size+1) (.loop { rec .ready none with state:=.busy })).heap[w.heap.size+1]?=some (.loop { rec .ready none with state:=.busy }):=World.putObj_heap_same hlt;have hD2:(W.putObj (w.heap.size+1) (.loop { rec .ready none with state:=.busy })).heap[w.heap.size]?=some (.deferred (some [])):=(World.putObj_heap_other (by omega)).trans hD;have hlt2:w.heap.size+1<(W.putObj (w.heap.size+1) (.loop { rec .ready none with state:=.busy })).heap.size:=(Array.getElem?_eq_some_iff.1 hl2).1;have hg2:W.grownBy (W.putObj (w.heap.size+1) (.loop { rec .ready none with state:=.busy })) (some (w.heap.size+1)):=grownBy_putObj' _ _ _;refine wpIn_mono (hbody _ k x _ hkN (hI _ _ _ hi (zB _ (by omega) hlt)) (hG _ _ _ _ hgx (by omega) hlt ⟨_,hl⟩ _) (Nat.lt_trans (Nat.lt_succ_self _) hlt2)) ?_;generalize W.putObj (w.heap.size+1) (.loop { rec .ready none with state:=.busy })=W2 at*
   have fin:∀(jump:Option Code) (W3:World),W3.heap[w.heap.size+1]?=some (.loop { rec .ready none with state:=.busy })→
     (Instr.endRound (w.heap.size+1) jump).run P W3=.ok (.bool jump.isNone) (W3.putObj (w.heap.size+1) (.loop (rec (if jump.isNone then .ready else .done) jump))):=fun jump W3 hl3=>by
    have:=run_endRound (P:=P) jump hl3;rw [hrec] at this⊢;exact this
   rintro e a3 W3 hp
   cases e with
   | normal=>
    obtain ⟨hE3,hi3⟩:=hp;have hl3:=(hE3.block _ hlt2).trans hl2;have hlt3:=(Array.getElem?_eq_some_iff.1 hl3).1;have hD3:=(hE3.block _ (by omega)).trans hD2;refine ⟨_,_,fin none W3 hl3,.inl ⟨rfl,⟨hI _ _ _ hi3 (zB _ (by omega) hlt3),World.putObj_heap_same hlt3,(World.putObj_heap_other (by omega)).trans hD3,?_⟩,?_⟩⟩
    ·exact (Array.getElem?_eq_some_iff.1 (World.putObj_heap_same hlt3)).1
    ·exact (hg2.trans ⟨hE3.os,hE3.tape,hE3.output,hE3.size,fun i hi _=>hE3.block i hi⟩).trans (grownBy_putObj' _ _ _)
   | ret=>
    obtain ⟨hk3,hi3⟩:=hp;have hl3:=(hk3 _ (by omega) hlt2).trans hl2;have hlt3:=(Array.getElem?_eq_some_iff.1 hl3).1;have hD3:=(hk3 _ (Nat.le_refl _) (by omega)).trans hD2;exact ⟨_,_,fin (some .ret) W3 hl3,.inr ⟨rfl,.ret,hIx _ _ _ hi3 (zB _ (by omega) hlt3),World.putObj_heap_same hlt3,(World.putObj_heap_other (by omega)).trans hD3⟩⟩
   | exit id=>
    obtain ⟨hk3,hi3⟩:=hp;have hl3:=(hk3 _ (by omega) hlt2).trans hl2;have hlt3:=(Array.getElem?_eq_some_iff.1 hl3).1;have hD3:=(hk3 _ (Nat.le_refl _) (by omega)).trans hD2;exact ⟨_,_,fin (some (.exit id)) W3 hl3,.inr ⟨rfl,.exit id,hIx _ _ _ hi3 (zB _ (by omega) hlt3),World.putObj_heap_same hlt3,(World.putObj_heap_other (by omega)).trans hD3⟩⟩
   | goto t=>
    obtain ⟨hk3,hi3⟩:=hp;have hl3:=(hk3 _ (by omega) hlt2).trans hl2;have hlt3:=(Array.getElem?_eq_some_iff.1 hl3).1;have hD3:=(hk3 _ (Nat.le_refl _) (by omega)).trans hD2;exact ⟨_,_,fin (some (.goto t)) W3 hl3,.inr ⟨rfl,.goto t,hIx _ _ _ hi3 (zB _ (by omega) hlt3),World.putObj_heap_same hlt3,(World.putObj_heap_other (by omega)).trans hD3⟩⟩
   | panic ch=>exact hp.elim
   | outgrown=>exact hp.elim
  ·-- behind the iterator
   rintro e W2 ⟨⟨v,rfl⟩,(⟨hi,hl,hD,hlt⟩ | ⟨c,hi,hl,hD⟩)⟩
   ·exact ⟨none,_,by have:=run_endLoop (P:=P) hl (by rw [hrec];simp);rw [hrec] at this;exact this,hdone _ _ (Nat.le_refl _) (hI _ _ _ hi (zB _ (by omega) hlt)) ((World.putObj_heap_other (by omega)).trans hD)⟩
   ·have hlt:=(Array.getElem?_eq_some_iff.1 hl).1;exact ⟨some c,_,by have:=run_endLoop (P:=P) hl (by rw [hrec];simp);rw [hrec] at this;exact this,hstop _ c _ (Nat.le_refl _) (hIx _ _ _ hi (zB _ (by omega) hlt)) ((World.putObj_heap_other (by omega)).trans hD)⟩
end Go.Proofs.YthbjngbhbbkkgaaGreat
namespace Go.Proofs.YthbjngbhbbkkgaaGreat
open Go.RowKit
attribute [local go_sem ↓] Go.wp_at_zero Go.wp_at_succ
theorem zaZ.freeCell {w:World} {ok:Nat→Prop} {g gu t:Nat} {m:MZ} {ch us:List Int} {ps:List (List Int)} {f u ts vc vp:Value} (h:zaZ w ok g m ch ps us f u ts vc vp gu) (hfn:∀f∈m.free,(f.length:Int)=m.n) (ht:t<m.free.length) {n:Int} (h0:0≤n) (h1:n<m.n):
  ∃b off c b' off' l c',f=.slice (some ⟨b,off,none⟩) m.free.length c∧w.cell? ⟨b,off+t,none⟩=some (.slice (some ⟨b',off',none⟩) l c')∧n<(l:Int)∧l≤c'∧m.free.length≤c∧w.cell? ⟨b',off'+n.toNat,none⟩=some (.bool (ze m t n)):=by
 obtain ⟨fr',up',ts',he,hfr,_,_⟩:=h.maze;injection he with he;injection he with he;simp only [List.cons.injEq,and_true,true_and] at he;obtain ⟨rfl,rfl,rfl⟩:=he;obtain ⟨vsf,⟨Af,cf,rfl,hcf,hrf⟩,hef⟩:=hfr;obtain ⟨bf,off3,uf,rfl,_,hcf1,hbf⟩:=zP hrf hef ht ht;have hflen:=hfn _ (List.getElem_mem ht);obtain ⟨A4,c4,rfl,hc4,hr4⟩:=hbf;have hyl:n.toNat<(m.free[t]).length:=by omega
 obtain ⟨b4,off4,rfl,_,hcf2⟩:=zbn hr4 hyl hyl;have hfr:(m.free[t])[n.toNat]=ze m t n:=by simp [ze,ht,hyl]
 rw [hfr] at hcf2;exact ⟨bf,off3,cf,b4,off4,_,c4,rfl,hcf1,by omega,hc4,hcf,hcf2⟩
theorem cand1_calls {ok:Nat→Prop} {m:MZ} {ch us:List Int} {ps:List (List Int)} {g gu g1 g2:Nat} {f u ts vc vp:Value} (t:Nat) (n:Int) (w:World) (h:zaZ w ok g m ch ps us f u ts vc vp gu) (hfn:∀f∈m.free,(f.length:Int)=m.n) (ht:t<m.free.length)
  (hc1:w.cell? ⟨g1,0,none⟩=some (.pointer (some ⟨g,0,none⟩))) (hc2:w.cell? ⟨g2,0,none⟩=some (.int .i64 t)) (h0:0≤n) (h1:n<m.n):
  Calls Tryz.prog 104 #[.int .i64 n,.pointer (some ⟨g1,0,none⟩),.pointer (some ⟨g2,0,none⟩)] w fun e w'=>e=.returned (.bool (ze m t n && !decide (n∈us)))∧zG w w':=by
 obtain ⟨r0,r1,r2,r3,r4,r5,r6,r7,r8⟩:=h.rules;obtain ⟨b,off,c,b',off',l,c',rfl,hcl1,hl,hlc,hfc,hcl2⟩:=h.freeCell hfn ht h0 h1;have hus:=h.us;clear h hfn;have hx:=Ext.refl w;have ht1:(t:Int)<(m.free.length:Int):=by omega
 have ht0:(0:Int)≤(t:Int):=by omega
 obtain ⟨fb,hfb⟩:∃fb,fb=ze m t n:=⟨_,rfl⟩;rw [←hfb] at hcl2⊢;clear hfb h1;by_cases hu:n∈us
 ·have hlk:=fun q=>look_t (hus.below ((Ext.refl w).drewN q)) hu
  have HU:=zh hu;clear hu;have hgoal:Hid ((fb && !decide (n∈us))=false):=by show _=false;rw [decide_eq_true HU.out];cases fb <;> rfl
  cases fb with
  | false=>
   go_enter Tryz.func104,Tryz.ntmps104
   go_wp2_with fail
   go_quiet (fail)
   go_wp2;go_ret;exact ⟨zd hgoal.out.symm,(zG.refl w).more _⟩
  | true=>
   go_enter Tryz.func104,Tryz.ntmps104
   go_wp2_with fail
   go_quiet (fail)
   go_wp2;go_ret;exact ⟨zd hgoal.out.symm,(zG.refl w).more _⟩
 ·have hlk:=fun q=>look_f (hus.below ((Ext.refl w).drewN q)) hu
  have HU:=zh hu;clear hu;have hgoal:Hid ((fb && !decide (n∈us))=fb):=by show _=fb;rw [decide_eq_false HU.out];cases fb <;> rfl
  cases fb with
  | false=>
   go_enter Tryz.func104,Tryz.ntmps104
   go_wp2_with fail
   go_quiet (fail)
   go_wp2;go_ret;exact ⟨zd hgoal.out.symm,(zG.refl w).more _⟩
  | true=>
   go_enter Tryz.func104,Tryz.ntmps104
   go_wp2_with fail
   go_quiet (fail)
   go_wp2;go_ret;exact ⟨zd hgoal.out.symm,(zG.refl w).more _⟩
theorem left11_calls {ok:Nat→Prop} {m:MZ} {ch us:List Int} {ps:List (List Int)} {g gu g1 g2:Nat} {f u ts vc vp:Value} (t:Nat) (n:Int) (w:World) (h:zaZ w ok g m ch ps us f u ts vc vp gu) (hfn:∀f∈m.free,(f.length:Int)=m.n) (ht:t<m.free.length)
  (hc1:w.cell? ⟨g1,0,none⟩=some (.pointer (some ⟨g,0,none⟩))) (hc2:w.cell? ⟨g2,0,none⟩=some (.int .i64 t)) (h0:0≤n) (h1:n<m.n):
  Calls Tryz.prog 131 #[.int .i64 n,.pointer (some ⟨g1,0,none⟩),.pointer (some ⟨g2,0,none⟩)] w fun e w'=>e=.returned (.bool (!ze m t n || decide (n∈us)))∧zG w w':=by
 obtain ⟨r0,r1,r2,r3,r4,r5,r6,r7,r8⟩:=h.rules;obtain ⟨b,off,c,b',off',l,c',rfl,hcl1,hl,hlc,hfc,hcl2⟩:=h.freeCell hfn ht h0 h1;have hus:=h.us;clear h hfn;have hx:=Ext.refl w;have ht1:(t:Int)<(m.free.length:Int):=by omega
 have ht0:(0:Int)≤(t:Int):=by omega
 obtain ⟨fb,hfb⟩:∃fb,fb=ze m t n:=⟨_,rfl⟩;rw [←hfb] at hcl2⊢;clear hfb h1;by_cases hu:n∈us
 ·have hlk:=fun q=>look_t (hus.below ((Ext.refl w).drewN q)) hu
  have HU:=zh hu;clear hu;have hgoal:Hid ((!fb || decide (n∈us))=true):=by show _=true;rw [decide_eq_true HU.out];cases fb <;> rfl
  cases fb with
  | false=>
   go_enter Tryz.func131,Tryz.ntmps131
   go_wp2_with fail
   go_quiet (fail)
   go_wp2;go_ret;exact ⟨zd hgoal.out.symm,(zG.refl w).more _⟩
  | true=>
   go_enter Tryz.func131,Tryz.ntmps131
   go_wp2_with fail
   go_quiet (fail)
   go_wp2;go_ret;exact ⟨zd hgoal.out.symm,(zG.refl w).more _⟩
 ·have hlk:=fun q=>look_f (hus.below ((Ext.refl w).drewN q)) hu
  have HU:=zh hu;clear hu;have hgoal:Hid ((!fb || decide (n∈us))=!fb):=by show _=!fb;rw [decide_eq_false HU.out];cases fb <;> rfl
  cases fb with
  | false=>
   go_enter Tryz.func131,Tryz.ntmps131
   go_wp2_with fail
   go_quiet (fail)
   go_wp2;go_ret;exact ⟨zd hgoal.out.symm,(zG.refl w).more _⟩
  | true=>
   go_enter Tryz.func131,Tryz.ntmps131
   go_wp2_with fail
   go_quiet (fail)
   go_wp2;go_ret;exact ⟨zd hgoal.out.symm,(zG.refl w).more _⟩
theorem open1_calls {gs g5:Nat} {s:List Int} (n:Int) (w:World) (hs:zA w gs s) (hc:w.cell? ⟨g5,0,none⟩=some (.map (some gs))):
  Calls Tryz.prog 110 #[.int .i64 n,.pointer (some ⟨g5,0,none⟩)] w fun e w'=>e=.returned (.bool (decide (n∈s)))∧w=w':=by
 by_cases h:n∈s
 ·have hlk:=look_t hs h;rw [decide_eq_true h];clear h hs
  go_enter Tryz.func110,Tryz.ntmps110
  go_wp2;go_ret;exact ⟨rfl,rfl⟩
 ·have hlk:=look_f hs h;rw [decide_eq_false h];clear h hs
  go_enter Tryz.func110,Tryz.ntmps110
  go_wp2;go_ret;exact ⟨rfl,rfl⟩
end Go.Proofs.YthbjngbhbbkkgaaGreat
