/- RtSh RtZ RtMb -/
import Derived.Test.YthbjngbhbbkkgaaGreatHUa
import Derived.Test.YthbjngbhbbkkgaaGreatHUb
import Derived.Test.YthbjngbhbbkkgaaGreatHUc
import Derived.Test.YthbjngbhbbkkgaaGreatHUd
import Derived.Shelf.SlGeneric
import Derived.Shelf.SortM.Plain
import Derived.Shelf.SortM.SortNone
import Derived.Shelf.SlicesG.CompactI
import Derived.Shelf.SlicesE.DeleteFunc
import Derived.Ground.SlgmProg
import Derived.Ground.SlgnProg
import Derived.Test.YthbjngbhbbkkgaaGreatRows
import Derived.Lib.OwnBridge
import Derived.Sort.OwnSortedInts
import Derived.Laws.IdiomRangeMap
set_option linter.unusedVariables false
set_option linter.unusedSimpArgs false
set_option maxRecDepth 100000
set_option maxHeartbeats 16000000
namespace Go.Proofs.YthbjngbhbbkkgaaGreat
open Go.Shelf
def sortA_ren:Go.Shelf.Ren:=⟨fun | 5=>127 | 8=>135 | 7=>134 | 19=>145 | 20=>146 | 10=>136 | 11=>137 | 12=>138 | 13=>139 | 14=>140 | 15=>141 | 16=>142 | 17=>143 | 18=>144 | 30=>147 | 31=>148 | 32=>149 | 33=>150 | 34=>151 | 35=>152 | 40=>153 | n=>n,fun | 23=>23 | 25=>3 | 3=>3 | 32=>163 | 22=>23 | 0=>0 | 44=>171 | 46=>173 | 4=>4 | 36=>166 | 35=>165 | 41=>84 | 5=>5 | 9=>9 | 53=>174 | 57=>178 | 63=>180 | 64=>181 | n=>n,fun | n=>n⟩
theorem sortA:Go.Proofs.SlLaysM.n5 Tryz.prog sortA_ren:={
 mixed:=by kernel_rfl
 f5:=⟨Tryz.f127.name,by decide,Tryz.func127.trans (congrArg some (by kernel_rfl))⟩
 f7:=⟨Tryz.f134.name,by decide,Tryz.func134.trans (congrArg some (by kernel_rfl))⟩
 f8:=Tryz.func135.trans (congrArg some (by kernel_rfl))
 f10:=⟨Tryz.f136.name,by decide,Tryz.func136.trans (congrArg some (by kernel_rfl))⟩
 f11:=⟨Tryz.f137.name,by decide,Tryz.func137.trans (congrArg some (by kernel_rfl))⟩
 f12:=⟨Tryz.f138.name,by decide,Tryz.func138.trans (congrArg some (by kernel_rfl))⟩
 f13:=⟨Tryz.f139.name,by decide,Tryz.func139.trans (congrArg some (by kernel_rfl))⟩
 f14:=⟨Tryz.f140.name,by decide,Tryz.func140.trans (congrArg some (by kernel_rfl))⟩
 f15:=⟨Tryz.f141.name,by decide,Tryz.func141.trans (congrArg some (by kernel_rfl))⟩
 f16:=⟨Tryz.f142.name,by decide,Tryz.func142.trans (congrArg some (by kernel_rfl))⟩
 f17:=⟨Tryz.f143.name,by decide,Tryz.func143.trans (congrArg some (by kernel_rfl))⟩
 f18:=⟨Tryz.f144.name,by decide,Tryz.func144.trans (congrArg some (by kernel_rfl))⟩
 f19:=Tryz.func145.trans (congrArg some (by kernel_rfl))
 f20:=Tryz.func146.trans (congrArg some (by kernel_rfl))
 f30:=⟨Tryz.f147.name,by decide,Tryz.func147.trans (congrArg some (by kernel_rfl))⟩
 f31:=Tryz.func148.trans (congrArg some (by kernel_rfl))
 f32:=Tryz.func149.trans (congrArg some (by kernel_rfl))
 f33:=⟨Tryz.f150.name,by decide,Tryz.func150.trans (congrArg some (by kernel_rfl))⟩
 f34:=⟨Tryz.f151.name,by decide,Tryz.func151.trans (congrArg some (by kernel_rfl))⟩
 f35:=⟨Tryz.f152.name,by decide,Tryz.func152.trans (congrArg some (by kernel_rfl))⟩
 f40:=⟨Tryz.f153.name,by decide,Tryz.func153.trans (congrArg some (by kernel_rfl))⟩
 t0:=Tryz.underlying0
 a0:=Tryz.isAgg0
 z0:=Tryz.sizeOf0
 v0:=Tryz.zeroValue0
 t3:=Tryz.underlying3
 a3:=Tryz.isAgg3
 z3:=Tryz.sizeOf3
 v3:=Tryz.zeroValue3
 t4:=Tryz.underlying4
 a4:=Tryz.isAgg4
 z4:=Tryz.sizeOf4
 v4:=Tryz.zeroValue4
 t5:=Tryz.underlying5
 a5:=Tryz.isAgg5
 z5:=Tryz.sizeOf5
 v5:=Tryz.zeroValue5
 t9:=Tryz.underlying9
 a9:=Tryz.isAgg9
 z9:=Tryz.sizeOf9
 v9:=Tryz.zeroValue9
 t22:=Tryz.underlying23
 a22:=Tryz.isAgg23
 z22:=Tryz.sizeOf23
 v22:=Tryz.zeroValue23
 t23:=Tryz.underlying23
 a23:=Tryz.isAgg23
 z23:=Tryz.sizeOf23
 v23:=Tryz.zeroValue23
 t25:=Tryz.underlying3
 a25:=Tryz.isAgg3
 z25:=Tryz.sizeOf3
 v25:=Tryz.zeroValue3
 t32:=Tryz.underlying163
 a32:=Tryz.isAgg163
 z32:=Tryz.sizeOf163
 v32:=Tryz.zeroValue163
 t35:=Tryz.underlying165
 a35:=Tryz.isAgg165
 z35:=Tryz.sizeOf165
 v35:=Tryz.zeroValue165
 t36:=Tryz.underlying166
 a36:=Tryz.isAgg166
 z36:=Tryz.sizeOf166
 v36:=Tryz.zeroValue166
 t41:=Tryz.underlying84
 a41:=Tryz.isAgg84
 z41:=Tryz.sizeOf84
 v41:=Tryz.zeroValue84
 t44:=Tryz.underlying171
 a44:=Tryz.isAgg171
 z44:=Tryz.sizeOf171
 v44:=Tryz.zeroValue171
 t46:=Tryz.underlying173
 a46:=Tryz.isAgg173
 z46:=Tryz.sizeOf173
 v46:=Tryz.zeroValue173
 t53:=Tryz.underlying174
 a53:=Tryz.isAgg174
 z53:=Tryz.sizeOf174
 v53:=Tryz.zeroValue174
 t57:=Tryz.underlying178
 a57:=Tryz.isAgg178
 z57:=Tryz.sizeOf178
 v57:=Tryz.zeroValue178
 t63:=Tryz.underlying180
 a63:=Tryz.isAgg180
 z63:=Tryz.sizeOf180
 v63:=Tryz.zeroValue180
 t64:=Tryz.underlying181
 a64:=Tryz.isAgg181
 z64:=Tryz.sizeOf181
 v64:=Tryz.zeroValue181 }
def compactA_ren:Go.Shelf.Ren:=⟨fun | 43=>105 | n=>n,fun | 22=>23 | 23=>3 | 3=>3 | 4=>4 | 0=>0 | n=>n,fun | n=>n⟩
theorem compactA:Go.Proofs.SlLaysN.n43 Tryz.prog compactA_ren:={
 mixed:=by kernel_rfl
 f43:=⟨Tryz.f105.name,by decide,Tryz.func105.trans (congrArg some (by kernel_rfl))⟩
 t0:=Tryz.underlying0
 a0:=Tryz.isAgg0
 z0:=Tryz.sizeOf0
 v0:=Tryz.zeroValue0
 t3:=Tryz.underlying3
 a3:=Tryz.isAgg3
 z3:=Tryz.sizeOf3
 v3:=Tryz.zeroValue3
 t4:=Tryz.underlying4
 a4:=Tryz.isAgg4
 z4:=Tryz.sizeOf4
 v4:=Tryz.zeroValue4
 t22:=Tryz.underlying23
 a22:=Tryz.isAgg23
 z22:=Tryz.sizeOf23
 v22:=Tryz.zeroValue23
 t23:=Tryz.underlying3
 a23:=Tryz.isAgg3
 z23:=Tryz.sizeOf3
 v23:=Tryz.zeroValue3
 i23:=by kernel_rfl }
def dfIA_ren:Go.Shelf.Ren:=⟨fun | 10=>130 | 6=>82 | n=>n,fun | 22=>23 | 23=>3 | 25=>62 | 3=>3 | 4=>4 | 0=>0 | n=>n,fun | n=>n⟩
theorem dfIA:Go.Proofs.SlLaysH.n10 Tryz.prog dfIA_ren:={
 mixed:=by kernel_rfl
 f6:=⟨Tryz.f82.name,by decide,Tryz.func82.trans (congrArg some (by kernel_rfl))⟩
 f10:=⟨Tryz.f130.name,by decide,Tryz.func130.trans (congrArg some (by kernel_rfl))⟩
 t0:=Tryz.underlying0
 a0:=Tryz.isAgg0
 z0:=Tryz.sizeOf0
 v0:=Tryz.zeroValue0
 t3:=Tryz.underlying3
 a3:=Tryz.isAgg3
 z3:=Tryz.sizeOf3
 v3:=Tryz.zeroValue3
 t4:=Tryz.underlying4
 a4:=Tryz.isAgg4
 z4:=Tryz.sizeOf4
 v4:=Tryz.zeroValue4
 t22:=Tryz.underlying23
 a22:=Tryz.isAgg23
 z22:=Tryz.sizeOf23
 v22:=Tryz.zeroValue23
 a23:=Tryz.isAgg3
 z23:=Tryz.sizeOf3
 t25:=Tryz.underlying62
 a25:=Tryz.isAgg62
 z25:=Tryz.sizeOf62
 v25:=Tryz.zeroValue62 }
end Go.Proofs.YthbjngbhbbkkgaaGreat
namespace Go.Proofs.YthbjngbhbbkkgaaGreat
open Go.RowKit Go.Sort Go.Shelf
theorem holds_own {w:World} {B g cap:Nat} {l:List Int} (h:zy w B (.slice (some ⟨g,0,none⟩) l.length cap) l):Holds (Value.int .i64) w g 0 l.toArray:=by
 intro j hj;have hj':j<l.length:=by simpa using hj
 refine ⟨?_,by have:=World.ownsRow.frozenAt h j;simpa using this⟩;have:=World.ownsRow.cellAt h j (by omega);rw [Nat.zero_add,this];simp [getElem!_pos,hj']
def zaW (l:List Int):List Int:=l.mergeSort fun x y=>decide (x≤y)
theorem sort_calls {w1 w:World} {v:Value} {l:List Int} (h:Mk w1 w v l) (hl:l.length≤1000000000000):Calls Tryz.prog 127 #[v] w fun e w'=>e=.returned (.tuple #[])∧Mk w1 w' v (zaW l):=by
 have hlen:(zaW l).length=l.length:=by unfold zaW;rw [List.length_mergeSort]
 rcases Nat.eq_zero_or_pos l.length with h0 | h0
 ·have hnil:=List.eq_nil_of_length_eq_zero h0;subst hnil;obtain ⟨A,c,rfl,_⟩:=h.slice;have hc:=AnyM.slices_Sort_int_none sortA A c w;change Calls Tryz.prog 127 _ _ _ at hc;refine Calls.mono hc ?_;rintro e w' ⟨rfl,rfl⟩;exact ⟨rfl,h.cast (by simp [zaW])⟩
 ·obtain ⟨g,cap,rfl,hg,hlt⟩:=World.ownsRow.form h.own h0;have hc:=AnyM.slices_Sort_int sortA g 0 cap l w (holds_own h.own) hlt (by omega);change Calls Tryz.prog 127 _ _ _ at hc;refine Calls.mono hc ?_;rintro e w' ⟨rfl,n,os,rfl⟩;refine ⟨rfl,?_,?_⟩
  ·obtain ⟨_,⟨e0,_⟩ | ⟨g',cap',cur,e0,hb,hgb,hn,hm,hs,ht⟩⟩:=h.own
   ·cases e0
   ·injection e0 with e1 _ e3;injection e1 with e1;injection e1 with e1;subst e1;subst e3;have:=ownsRow_sortedI (n:=n) (os:=os) (w:=w) (ss:=l) (ts:=zaW l) hlen hb hgb hn hm hs;unfold zy;rw [hlen];exact this
  ·exact Below.grown h.ext (grownBy_sortedI _) h.ext.size (fun k hk=>by injection hk with hk;omega)
theorem compact_calls {w1 w:World} {v:Value} {l:List Int} (h:Mk w1 w v l) (hl:l.length≤1000000000000):Calls Tryz.prog 105 #[v] w fun e w'=>∃v',e=.returned v'∧Mk w1 w' v' (Lib.compact l):=by
 rcases Nat.eq_zero_or_pos l.length with h0 | h0
 ·have hnil:=List.eq_nil_of_length_eq_zero h0;subst hnil;obtain ⟨A,c,rfl,_⟩:=h.slice;have hc:=AnyG.slices_Compact_int_empty compactA A c w;change Calls Tryz.prog 105 _ _ _ at hc;refine Calls.mono hc ?_;rintro e w' ⟨rfl,rfl⟩;exact ⟨_,rfl,h⟩
 ·obtain ⟨g,cap,rfl,hg,hlt⟩:=World.ownsRow.form h.own h0;have hcap:=zbv h.own;have hc:=AnyG.slices_Compact_int compactA g 0 cap l w (holds_own h.own) (by omega) hcap;change Calls Tryz.prog 105 _ _ _ at hc;refine Calls.mono hc ?_;rintro e w' ⟨rfl,q,rfl⟩
  have hcl:(Lib.compact l).length≤l.length:=by
   unfold Lib.compact Lib.compactUpTo;rw [List.length_map];exact Nat.le_trans (List.length_filter_le _ _) (by simp)
  refine ⟨_,rfl,?_,?_⟩
  ·have:=Lib.ownsRow_putRow (enc:=Value.int .i64) (q:=q) (k:=(Lib.compact l).length) (ys:=Lib.compact l++List.replicate (l.length - (Lib.compact l).length) 0) h.own (by simp;omega) hcl;rw [List.take_left'] at this
   ·exact this
   ·rfl
  ·exact Lib.below_putRow h.ext hg
theorem values_calls (A:Option Addr) (n c:Nat) (w:World):Calls Tryz.prog 107 #[.slice A n c] w fun e w'=>e=.returned (.func (.func 128) #[] #[.pointer (some ⟨w.heap.size,0,none⟩)])∧w'=w.alloc (.cells #[.slice A n c] 23):=by
 go_enter Tryz.func107,Tryz.ntmps107
 go_wp2_with fail
 go_ret;exact ⟨rfl,rfl⟩
theorem collect_calls {ok:Nat→Prop} {v:Value} {l:List Int} (Bs:Nat) (w:World) (hc:w.cell? ⟨Bs,0,none⟩=some v) (h:zf w ok v l) (hlen:l.length≤1000000000000):
  Calls Tryz.prog 126 #[.func (.func 128) #[] #[.pointer (some ⟨Bs,0,none⟩)]] w fun e w'=>∃v',e=.returned v'∧Mk w w' v' l:=by
 have H:=zh (appendSeq_calls Bs w hc h hlen);clear h hc
 go_enter Tryz.func126,Tryz.ntmps126
 go_wp2_with fail
 refine H.out.mono ?_;rintro e w' ⟨v',rfl,hM⟩;have HM:=zh hM;clear hM
 go_wp2_with fail
 go_ret;exact ⟨_,rfl,HM.out⟩
theorem sorted_calls {ok:Nat→Prop} {v:Value} {l:List Int} (Bs:Nat) (w:World) (hc:w.cell? ⟨Bs,0,none⟩=some v) (h:zf w ok v l) (hlen:l.length≤1000000000000):
  Calls Tryz.prog 106 #[.func (.func 128) #[] #[.pointer (some ⟨Bs,0,none⟩)]] w fun e w'=>∃v',e=.returned v'∧Mk w w' v' (zaW l):=by
 have H:=zh (collect_calls Bs w hc h hlen);clear h hc
 go_enter Tryz.func106,Tryz.ntmps106
 go_wp2_with fail
 refine H.out.mono ?_;rintro e w' ⟨v',rfl,hM⟩;have HS:=zh (sort_calls hM hlen);clear hM
 go_wp2_with fail
 refine HS.out.mono ?_;rintro e w2 ⟨rfl,hM2⟩;have HM:=zh hM2;clear hM2
 go_wp2_with fail
 go_ret;exact ⟨_,rfl,HM.out⟩
end Go.Proofs.YthbjngbhbbkkgaaGreat
namespace Go.Proofs.YthbjngbhbbkkgaaGreat
open Go.RowKit
open Go.ChangeMaps (setBlock)
def IterIs (w:World) (r g since:Nat) (seen:Array Nat) (c0:Nat):Prop:=w.heap[r]?=some (.mapIter (some g) since seen c0)
theorem run_next_at {P:Program} (w:World) (ty:TypeId) (bm r since c0:Nat) (seen:Array Nat) (es:Array MapEntry) (clock:Nat) (hr:IterIs w r bm since seen c0) (hb:w.heap[bm]?=some (.map es clock)) (hold:∀x∈es.toList,x.born<since) (hsc:since≤c0):
  ((leftOf es seen).size=0∧(Instr.next (.pointer (some ⟨r,0,none⟩)) false ty).run P w=.ok (.tuple #[.bool false]) w)∨
  ∃e∈(leftOf es seen).toList,∃w1:World,(w1=w∨w1=w.drew)∧(Instr.next (.pointer (some ⟨r,0,none⟩)) false ty).run P w=.ok (.tuple #[.bool true,e.key,e.val]) (setBlock w1 r (.mapIter (some bm) since (seen.push e.born) clock)):=by
 unfold IterIs at hr;simp only [Instr.next,getObj,Sem.run_bind,Sem.run,hr,hb,Result.andThen,next_test_false seen es since c0 hold hsc,Bool.false_eq_true,if_false];unfold leftOf;have hmem:∀x∈(Array.filter (fun e=>!seen.contains e.born) es).toList,x.born<since:=fun x hx=>hold x (by simp at hx⊢;exact hx.1)
 generalize Array.filter (fun e=>!seen.contains e.born) es=L at hmem⊢;have e1:L.filter (fun x=>decide (x.born<since))=L:=Array.filter_eq_self.2 (fun x hx=>by simpa using hmem x (by simpa using hx))
 have e2:L.filter (fun x=>decide (x.born≥since))=#[]:=by
  rw [Array.filter_eq_empty_iff];intro x hx;have:=hmem x (by simpa using hx);simp;omega
 simp only [e1,e2,Array.append_empty];by_cases h0:L.size=0
 ·left
  have:L=#[]:=Array.eq_empty_of_size_eq_zero h0;subst this;refine ⟨rfl,?_⟩;simp [choose,Sem.run,Question.forced]
 ·right
  have hne:L.isEmpty=false:=by simp [Array.isEmpty,h0]
  simp only [hne,Bool.false_eq_true,if_false,Array.empty_append,Array.size_map]
  have hch:∃(j:Nat) (w1:World),j<L.size∧(w1=w∨w1=w.drew)∧(choose (Question.mapNext L.size)).run P w=.ok j w1:=by
   by_cases hf:L.size≤1
   ·exact ⟨0,w,by omega,.inl rfl,by simp [choose,Sem.run,Question.forced,hf]⟩
   ·exact ⟨_,w.drew,Nat.mod_lt _ (by omega),.inr rfl,by
     simp only [choose,Sem.run,Question.forced,decide_eq_true_eq,hf,if_false,Question.cut];rfl⟩
  obtain ⟨j,w1,hj,hal,hrun⟩:=hch;refine ⟨L[j],by simp,w1,hal,?_⟩
  have hr1:w1.heap[r]?=some (.mapIter (some bm) since seen c0):=by
   rcases hal with rfl | rfl <;> exact hr
  have hset:∀(o':Obj),(setObj r o').run P w1=.ok () (setBlock w1 r o'):=fun o'=>by
   simp only [setObj,Sem.run,hr1];rfl
  simp only [hrun,Array.getElem?_map,Array.getElem?_eq_getElem hj,Option.map_some,Sem.run_bind,hset,Result.andThen];rfl
theorem run_entry_at {P:Program} (w:World) (bm r since:Nat) (seen:Array Nat) (es:Array MapEntry) (clock:Nat) (e:MapEntry) (hr:w.heap[r]?=some (.mapIter (some bm) since (seen.push e.born) clock)) (hb:w.heap[bm]?=some (.map es clock)) (he:e∈es.toList) (hn:(es.toList.map (·.born)).Nodup):
  (Instr.entry (.pointer (some ⟨r,0,none⟩))).run P w=.ok (.tuple #[e.key,e.val]) w:=by
 have hf:es.find? (·.born==e.born)=some e:=by rw [←Array.find?_toList];exact find_born e es.toList hn he
 simp only [Instr.entry,getObj,Sem.run_bind,Sem.run,hr,hb,Result.andThen,Array.back?_push,bne_self_eq_false,Bool.false_eq_true,if_false,hf];rfl
theorem zcI:∀(l:List Int) (b:Nat),(zF l b).map (·.born)=List.range' b l.length
 | [],_=>rfl
 | _ :: l,b=>by simp [zF,zcI l (b+1),List.range'_succ]
theorem setBlock_same {w:World} {g:Nat} (o:Obj) (h:g<w.heap.size):(setBlock w g o).heap[g]?=some o:=by simp [setBlock,h]
def leftN (n:Nat) (seen:Array Nat):Nat:=((List.range n).filter fun i=>!seen.contains i).length
theorem leftN_step {n i:Nat} {seen:Array Nat} (hi:i<n) (hs:seen.contains i=false):leftN n (seen.push i)<leftN n seen:=by
 unfold leftN;refine filter_lt (fun j=>!seen.contains j) (fun j=>!(seen.push i).contains j) (fun x hx=>?_) i (by simp only [hs];rfl) (by simp) _ (List.mem_range.2 hi);simp at hx⊢;exact hx.1
theorem set_next {P:Program} {w:World} {g r c0:Nat} {l:List Int} {seen:Array Nat} (hs:zA w g l) (hi:IterIs w r g l.length seen c0) (hc:l.length≤c0):
  ((∀i,i<l.length→seen.contains i=true)∧∀ty,(Instr.next (.pointer (some ⟨r,0,none⟩)) false ty).run P w=.ok (.tuple #[.bool false]) w)∨
  ∃i,∃(h:i<l.length),seen.contains i=false∧∃w1:World,(w1=w∨w1=w.drew)∧(∀ty,(Instr.next (.pointer (some ⟨r,0,none⟩)) false ty).run P w=.ok (.tuple #[.bool true,.int .i64 l[i],.bool true]) (setBlock w1 r (.mapIter (some g) l.length (seen.push i) l.length)))∧
   ((Instr.entry (.pointer (some ⟨r,0,none⟩))).run P (setBlock w1 r (.mapIter (some g) l.length (seen.push i) l.length))=.ok (.tuple #[.int .i64 l[i],.bool true]) (setBlock w1 r (.mapIter (some g) l.length (seen.push i) l.length))):=by
 have hborn:∀x∈(zF l 0).toArray.toList,x.born<l.length:=by
  intro x hx;have h1:x.born∈(zF l 0).map (·.born):=List.mem_map.2 ⟨x,by simpa using hx,rfl⟩;rw [zcI] at h1;have:=List.mem_range'_1.1 h1;omega
 have hget:∀x∈(zF l 0),∃(h:x.born<l.length),x.key=.int .i64 (l[x.born])∧x.val=.bool true:=by
  intro x hx;obtain ⟨k,hk,rfl⟩:=List.getElem_of_mem hx;have h1:=zbT l 0 k;rw [List.getElem?_eq_getElem hk] at h1;rw [zck] at hk;rw [List.getElem?_eq_getElem hk] at h1;simp only [Option.map_some,Option.some.injEq,Nat.zero_add] at h1;rw [h1];exact ⟨hk,rfl,rfl⟩
 have hgr:g≠r:=by
  rintro rfl;unfold IterIs at hi;unfold zA mapObj at hs;rw [hs] at hi;cases hi
 have hrl:r<w.heap.size:=zb hi;have hlaw:∀ty,_:=fun ty=>run_next_at (P:=P) w ty g r l.length c0 seen (zF l 0).toArray l.length hi hs hborn hc
 by_cases hz:(leftOf (zF l 0).toArray seen).size=0
 ·refine .inl ⟨fun i hi'=>?_,fun ty=>?_⟩
  ·cases hv:seen.contains i with
   | true=>rfl
   | false=>
    exfalso
    have hk:i<(zF l 0).length:=by rw [zck];exact hi'
    have hb:(zF l 0)[i].born=i:=by
     have h1:=zbT l 0 i;rw [List.getElem?_eq_getElem hk,List.getElem?_eq_getElem hi'] at h1;simp only [Option.map_some,Option.some.injEq,Nat.zero_add] at h1;rw [h1]
    have hm:(zF l 0)[i]∈(leftOf (zF l 0).toArray seen):=by
     unfold leftOf;rw [Array.mem_filter];exact ⟨by simp,by rw [hb,hv];rfl⟩
    rw [Array.eq_empty_of_size_eq_zero hz] at hm;simp at hm
  ·rcases hlaw ty with ⟨_,h⟩ | ⟨e,he,_⟩
   ·exact h
   ·rw [Array.eq_empty_of_size_eq_zero hz] at he;simp at he
 ·rcases hlaw 0 with ⟨h0,_⟩ | ⟨e,he,w1,hal,hrun⟩
  ·exact absurd h0 hz
  ·have hel:e∈zF l 0:=by
    have:=(mem_left he).1;simpa using this
   obtain ⟨hlt,hk,hv⟩:=hget e hel
   have hns:seen.contains e.born=false:=by
    have h1:e∈(zF l 0).toArray.filter (fun e=>!seen.contains e.born):=by simpa [leftOf] using he
    rw [Array.mem_filter] at h1;simpa using h1.2
   rw [hk,hv] at hrun;refine .inr ⟨e.born,hlt,hns,w1,hal,fun ty=>hrun,?_⟩;have h1:w1.heap=w.heap:=by rcases hal with rfl | rfl <;> rfl
   have hsz:r<w1.heap.size:=by rw [h1];exact hrl
   have:=run_entry_at (P:=P) (setBlock w1 r (.mapIter (some g) l.length (seen.push e.born) l.length)) g r l.length seen (zF l 0).toArray l.length e (setBlock_same _ hsz) (by rw [zcb _ hgr,h1];exact hs) (by simpa using hel) (by
    show ((zF l 0).map (·.born)).Nodup;rw [zcI];exact List.nodup_range')
   rw [hk,hv] at this;exact this
end Go.Proofs.YthbjngbhbbkkgaaGreat
