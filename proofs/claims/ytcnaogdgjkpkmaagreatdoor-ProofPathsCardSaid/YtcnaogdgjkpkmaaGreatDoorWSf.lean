import Derived.Test.YtcnaogdgjkpkmaaGreatDoorWSe
import Derived.Shelf.SlGeneric
import Derived.Shelf.SortM.Plain
import Derived.Shelf.SortM.SortNone
import Derived.Shelf.SlicesG.CompactI
import Derived.Shelf.SlicesE.DeleteFunc
import Derived.Ground.SlgmProg
import Derived.Ground.SlgnProg
import Derived.Test.YtcnaogdgjkpkmaaGreatDoorRows
import Derived.Lib.OwnBridge
import Derived.Sort.OwnSortedInts
import Derived.Laws.IdiomRangeMap
set_option linter.unusedVariables false
set_option linter.unusedSimpArgs false
set_option maxRecDepth 100000
set_option maxHeartbeats 16000000
namespace Go.Proofs.YtcnaogdgjkpkmaaGreatDoor
variable {seen:Array Nat} {l:List Int} {g:Nat} {ok:Nat->Prop} {P:Program} {v:Value} {w w1:World}
section
open Go.Shelf
def sortA_ren:Go.Shelf.Ren:=⟨fun | 5=>141 | 8=>156 | 7=>155 | 19=>177 | 20=>158 | 10=>168 | 11=>169 | 12=>170 | 13=>171 | 14=>172 | 15=>173 | 16=>174 | 17=>175 | 18=>176 | 30=>187 | 31=>188 | 32=>189 | 33=>190 | 34=>191 | 35=>192 | 40=>197 | n=>n,fun | 23=>24 | 25=>3 | 3=>3 | 32=>188 | 22=>24 | 0=>0 | 44=>191 | 46=>177 | 4=>4 | 36=>202 | 35=>201 | 41=>154 | 5=>5 | 9=>9 | 53=>215 | 57=>219 | 63=>230 | 64=>231 | n=>n,fun | n=>n⟩
theorem sortA:Go.Proofs.SlLaysM.n5 Tryz.prog sortA_ren:=by
 constructor
 all_goals try first | kernel_rfl | (intro _;kernel_rfl)
 exact ⟨Tryz.f141.name,by decide,by kernel_rfl⟩;exact ⟨Tryz.f155.name,by decide,by kernel_rfl⟩;exact ⟨Tryz.f168.name,by decide,by kernel_rfl⟩;exact ⟨Tryz.f169.name,by decide,by kernel_rfl⟩;exact ⟨Tryz.f170.name,by decide,by kernel_rfl⟩;exact ⟨Tryz.f171.name,by decide,by kernel_rfl⟩;exact ⟨Tryz.f172.name,by decide,by kernel_rfl⟩;exact ⟨Tryz.f173.name,by decide,by kernel_rfl⟩;exact ⟨Tryz.f174.name,by decide,by kernel_rfl⟩;exact ⟨Tryz.f175.name,by decide,by kernel_rfl⟩;exact ⟨Tryz.f176.name,by decide,by kernel_rfl⟩;exact ⟨Tryz.f187.name,by decide,by kernel_rfl⟩;exact ⟨Tryz.f190.name,by decide,by kernel_rfl⟩;exact ⟨Tryz.f191.name,by decide,by kernel_rfl⟩;exact ⟨Tryz.f192.name,by decide,by kernel_rfl⟩;exact ⟨Tryz.f197.name,by decide,by kernel_rfl⟩
def compactA_ren:Go.Shelf.Ren:=⟨fun | 43=>128 | n=>n,fun | 22=>24 | 23=>3 | 3=>3 | 4=>4 | 0=>0 | n=>n,fun | n=>n⟩
theorem compactA:Go.Proofs.SlLaysN.n43 Tryz.prog compactA_ren:=by
 constructor
 all_goals try first | kernel_rfl | (intro _;kernel_rfl)
 exact ⟨Tryz.f128.name,by decide,by kernel_rfl⟩
def dfIA_ren:Go.Shelf.Ren:=⟨fun | 10=>144 | 6=>104 | n=>n,fun | 22=>24 | 23=>3 | 25=>59 | 3=>3 | 4=>4 | 0=>0 | n=>n,fun | n=>n⟩
theorem dfIA:Go.Proofs.SlLaysH.n10 Tryz.prog dfIA_ren:=by
 constructor
 all_goals try first | kernel_rfl | (intro _;kernel_rfl)
 exact ⟨Tryz.f104.name,by decide,by kernel_rfl⟩;exact ⟨Tryz.f144.name,by decide,by kernel_rfl⟩
end
section
open Go.RowKit Go.Sort Go.Shelf
theorem holds_own {B cap:Nat} (h:zF w B (.slice (some ⟨g,0,none⟩) l.length cap) l):Holds (Value.int .i64) w g 0 l.toArray:=by
 intro j o;have d:j<l.length:=by simpa using o
 refine ⟨?_,by have:=World.ownsRow.frozenAt h j;simpa using this⟩;have:=World.ownsRow.cellAt h j (by omega);rw [Nat.zero_add,this];simp [getElem!_pos,d]
def Cd (l:List Int):List Int:=l.mergeSort fun x y=>decide (x<=y)
theorem sort_calls (h:Mk w1 w v l) (L:l.length<=1000000000000):Calls Tryz.prog 141 #[v] w fun e w'=>e=.returned (.tuple #[])/\Mk w1 w' v (Cd l):=by
 have d:(Cd l).length=l.length:=by unfold Cd;rw [List.length_mergeSort]
 rcases Em l.length with h0 | h0
 ·have r:=DU h0;subst r;obtain ⟨A,c,rfl,_⟩:=h.slice;have o:=AnyM.slices_Sort_int_none sortA A c w;change Calls Tryz.prog 141 _ _ _ at o;refine Calls.mono o ?_;rintro e w' ⟨rfl,rfl⟩;exact ⟨rfl,h.cast (by simp [Cd])⟩
 ·obtain ⟨g,cap,rfl,K,D⟩:=World.ownsRow.form h.own h0;have o:=AnyM.slices_Sort_int sortA g 0 cap l w (holds_own h.own) D (by omega);change Calls Tryz.prog 141 _ _ _ at o;refine Calls.mono o ?_;rintro e w' ⟨rfl,n,os,rfl⟩;refine ⟨rfl,?_,?_⟩
  ·obtain ⟨_,⟨e0,_⟩ | ⟨g',cap',cur,e0,G,B,I,hm,J,ht⟩⟩:=h.own
   ·cases e0
   ·injection e0 with e1 _ e3;injection e1 with e1;injection e1 with e1;subst e1;subst e3;have:=ownsRow_sortedI (n:=n) (os:=os) (w:=w) (ss:=l) (ts:=Cd l) d G B I hm J;unfold zF;rw [d];exact this
  ·exact Below.grown h.ext (grownBy_sortedI _) h.ext.size (fun k E=>by injection E with E;omega)
theorem compact_calls (h:Mk w1 w v l) (G:l.length<=1000000000000):Calls Tryz.prog 128 #[v] w fun e w'=>∃v',e=.returned v'/\Mk w1 w' v' (Lib.compact l):=by
 rcases Em l.length with h0 | h0
 ·have r:=DU h0;subst r;obtain ⟨A,c,rfl,_⟩:=h.slice;have d:=AnyG.slices_Compact_int_empty compactA A c w;change Calls Tryz.prog 128 _ _ _ at d;refine Calls.mono d ?_;rintro e w' ⟨rfl,rfl⟩;exact ⟨_,rfl,h⟩
 ·obtain ⟨g,cap,rfl,D,E⟩:=World.ownsRow.form h.own h0;have o:=AN h.own;have d:=AnyG.slices_Compact_int compactA g 0 cap l w (holds_own h.own) (by omega) o;change Calls Tryz.prog 128 _ _ _ at d;refine Calls.mono d ?_;rintro e w' ⟨rfl,q,rfl⟩
  have B:(Lib.compact l).length<=l.length:=by
   unfold Lib.compact Lib.compactUpTo;rw [El];exact DE (Ef _ _) (by simp)
  refine ⟨_,rfl,?_,?_⟩
  ·have:=Lib.ownsRow_putRow (enc:=Value.int .i64) (q:=q) (k:=(Lib.compact l).length) (ys:=Lib.compact l++List.replicate (l.length - (Lib.compact l).length) 0) h.own (by simp;omega) B;rw [List.take_left'] at this
   ·exact this
   ·rfl
  ·exact Lib.below_putRow h.ext D
theorem values_calls (A:Option Addr) (n c:Nat) (w:World):Calls Tryz.prog 130 #[.slice A n c] w fun e w'=>e=.returned (.func (.func 142) #[] #[.pointer (some ⟨w.heap.size,0,none⟩)])/\w'=w.alloc (.cells #[.slice A n c] 24):=by
 go_enter Tryz.func130,Tryz.ntmps130
 go_wp2_with fail
 go_ret;exact ⟨rfl,rfl⟩
theorem collect_calls (Bs:Nat) (w:World) (r:w.cell? ⟨Bs,0,none⟩=some v) (h:zn w ok v l) (d:l.length<=1000000000000):
  Calls Tryz.prog 140 #[.func (.func 142) #[] #[.pointer (some ⟨Bs,0,none⟩)]] w fun e w'=>∃v',e=.returned v'/\Mk w w' v' l:=by
 have H:=zh (appendSeq_calls Bs w r h d);clear h r
 go_enter Tryz.func140,Tryz.ntmps140
 go_wp2_with fail
 refine H.out.mono ?_;rintro e w' ⟨v',rfl,o⟩;have B:=zh o;clear o
 go_wp2_with fail
 go_ret;exact ⟨_,rfl,B.out⟩
theorem sorted_calls (Bs:Nat) (w:World) (B:w.cell? ⟨Bs,0,none⟩=some v) (h:zn w ok v l) (d:l.length<=1000000000000):
  Calls Tryz.prog 129 #[.func (.func 142) #[] #[.pointer (some ⟨Bs,0,none⟩)]] w fun e w'=>∃v',e=.returned v'/\Mk w w' v' (Cd l):=by
 have H:=zh (collect_calls Bs w B h d);clear h B
 go_enter Tryz.func129,Tryz.ntmps129
 go_wp2_with fail
 refine H.out.mono ?_;rintro e w' ⟨v',rfl,r⟩;have E:=zh (sort_calls r d);clear r
 go_wp2_with fail
 refine E.out.mono ?_;rintro e w2 ⟨rfl,o⟩;have D:=zh o;clear o
 go_wp2_with fail
 go_ret;exact ⟨_,rfl,D.out⟩
end
section
open Go.RowKit
open Go.ChangeMaps (setBlock)
def IterIs (w:World) (r g since:Nat) (seen:Array Nat) (c0:Nat):Prop:=w.heap[r]?=some (.mapIter (some g) since seen c0)
theorem run_next_at (w:World) (ty:TypeId) (bm r since c0:Nat) (seen:Array Nat) (es:Array MapEntry) (clock:Nat) (J:IterIs w r bm since seen c0) (O:w.heap[bm]?=some (.map es clock)) (o:∀x∈es.toList,x.born<since) (M:since<=c0):
  ((leftOf es seen).size=0/\(Instr.next (.pointer (some ⟨r,0,none⟩)) false ty).run P w=.ok (.tuple #[.bool false]) w)\/
  ∃e∈(leftOf es seen).toList,∃w1:World,(w1=w\/w1=w.drew)/\(Instr.next (.pointer (some ⟨r,0,none⟩)) false ty).run P w=.ok (.tuple #[.bool true,e.key,e.val]) (setBlock w1 r (.mapIter (some bm) since (seen.push e.born) clock)):=by
 unfold IterIs at J;simp only [Instr.next,getObj,Sem.run_bind,Sem.run,J,O,Result.andThen,next_test_false seen es since c0 o M,Bool.false_eq_true,if_false];unfold leftOf;have d:∀x∈(Array.filter (fun e=>!seen.contains e.born) es).toList,x.born<since:=fun x B=>o x (by simp at B⊢;exact B.1)
 generalize Array.filter (fun e=>!seen.contains e.born) es=L at d⊢;have e1:L.filter (fun x=>decide (x.born<since))=L:=Array.filter_eq_self.2 (fun x B=>by simpa using d x (by simpa using B))
 have e2:L.filter (fun x=>decide (x.born≥since))=#[]:=by
  rw [Array.filter_eq_empty_iff];intro x B;have:=d x (by simpa using B);simp;omega
 simp only [e1,e2,Array.append_empty];by_cases h0:L.size=0
 ·left
  have:L=#[]:=Array.eq_empty_of_size_eq_zero h0;subst this;refine ⟨rfl,?_⟩;simp [choose,Sem.run,Question.forced]
 ·right
  have I:L.isEmpty=false:=by simp [Array.isEmpty,h0]
  simp only [I,Bool.false_eq_true,if_false,Array.empty_append,Array.size_map]
  have G:∃(j:Nat) (w1:World),j<L.size/\(w1=w\/w1=w.drew)/\(choose (Question.mapNext L.size)).run P w=.ok j w1:=by
   by_cases hf:L.size<=1
   ·exact ⟨0,w,by omega,.inl rfl,by simp [choose,Sem.run,Question.forced,hf]⟩
   ·exact ⟨_,w.drew,Nat.mod_lt _ (by omega),.inr rfl,by
     simp only [choose,Sem.run,Question.forced,DM,hf,if_false,Question.cut];rfl⟩
  obtain ⟨j,w1,Q,D,E⟩:=G;refine ⟨L[j],by simp,w1,D,?_⟩
  have K:w1.heap[r]?=some (.mapIter (some bm) since seen c0):=by
   rcases D with rfl | rfl <;> exact J
  have AT:∀(o':Obj),(setObj r o').run P w1=.ok () (setBlock w1 r o'):=fun o'=>by
   simp only [setObj,Sem.run,K];rfl
  simp only [E,Array.getElem?_map,Array.getElem?_eq_getElem Q,Option.map_some,Sem.run_bind,AT,Result.andThen];rfl
theorem run_entry_at (w:World) (bm r since:Nat) (seen:Array Nat) (es:Array MapEntry) (clock:Nat) (e:MapEntry) (B:w.heap[r]?=some (.mapIter (some bm) since (seen.push e.born) clock)) (d:w.heap[bm]?=some (.map es clock)) (he:e∈es.toList) (o:(es.toList.map (·.born)).Nodup):
  (Instr.entry (.pointer (some ⟨r,0,none⟩))).run P w=.ok (.tuple #[e.key,e.val]) w:=by
 have hf:es.find? (·.born==e.born)=some e:=by rw [<-Array.find?_toList];exact find_born e es.toList o he
 simp only [Instr.entry,getObj,Sem.run_bind,Sem.run,B,d,Result.andThen,Array.back?_push,bne_self_eq_false,Bool.false_eq_true,if_false,hf];rfl
theorem CY:∀(l:List Int) (b:Nat),(zx l b).map (·.born)=List.range' b l.length
 | [],_=>rfl
 | _ :: l,b=>by simp [zx,CY l (b+1),List.range'_succ]
theorem setBlock_same (o:Obj) (h:g<w.heap.size):(setBlock w g o).heap[g]?=some o:=by simp [setBlock,h]
def leftN (n:Nat) (seen:Array Nat):Nat:=((List.range n).filter fun i=>!seen.contains i).length
theorem leftN_step {n i:Nat} (o:i<n) (r:seen.contains i=false):leftN n (seen.push i)<leftN n seen:=by
 unfold leftN;refine filter_lt (fun j=>!seen.contains j) (fun j=>!(seen.push i).contains j) (fun x d=>?_) i (by simp only [r];rfl) (by simp) _ (Ez.2 o);simp at d⊢;exact d.1
theorem set_next {r c0:Nat} (L:zB w g l) (J:IterIs w r g l.length seen c0) (hc:l.length<=c0):
  ((∀i,i<l.length->seen.contains i=true)/\∀ty,(Instr.next (.pointer (some ⟨r,0,none⟩)) false ty).run P w=.ok (.tuple #[.bool false]) w)\/
  ∃i,∃(h:i<l.length),seen.contains i=false/\∃w1:World,(w1=w\/w1=w.drew)/\(∀ty,(Instr.next (.pointer (some ⟨r,0,none⟩)) false ty).run P w=.ok (.tuple #[.bool true,.int .i64 l[i],.bool true]) (setBlock w1 r (.mapIter (some g) l.length (seen.push i) l.length)))/\
   ((Instr.entry (.pointer (some ⟨r,0,none⟩))).run P (setBlock w1 r (.mapIter (some g) l.length (seen.push i) l.length))=.ok (.tuple #[.int .i64 l[i],.bool true]) (setBlock w1 r (.mapIter (some g) l.length (seen.push i) l.length))):=by
 have D:∀x∈(zx l 0).toArray.toList,x.born<l.length:=by
  intro x hx;have h1:x.born∈(zx l 0).map (·.born):=Ey.2 ⟨x,by simpa using hx,rfl⟩;rw [CY] at h1;have:=List.mem_range'_1.1 h1;omega
 have I:∀x∈(zx l 0),∃(h:x.born<l.length),x.key=.int .i64 (l[x.born])/\x.val=.bool true:=by
  intro x hx;obtain ⟨k,d,rfl⟩:=Ei hx;have h1:=Ca l 0 k;rw [DA d] at h1;rw [Cs] at d;rw [DA d] at h1;simp only [Option.map_some,Option.some.injEq,Nat.zero_add] at h1;rw [h1];exact ⟨d,rfl,rfl⟩
 have O:g≠r:=by
  rintro rfl;unfold IterIs at J;unfold zB mapObj at L;rw [L] at J;cases J
 have V:r<w.heap.size:=zb J;have o:∀ty,_:=fun ty=>run_next_at (P:=P) w ty g r l.length c0 seen (zx l 0).toArray l.length J L D hc
 by_cases hz:(leftOf (zx l 0).toArray seen).size=0
 ·refine .inl ⟨fun i K=>?_,fun ty=>?_⟩
  ·cases M:seen.contains i with
   | true=>rfl
   | false=>
    exfalso
    have d:i<(zx l 0).length:=by rw [Cs];exact K
    have hb:(zx l 0)[i].born=i:=by
     have h1:=Ca l 0 i;rw [DA d,DA K] at h1;simp only [Option.map_some,Option.some.injEq,Nat.zero_add] at h1;rw [h1]
    have hm:(zx l 0)[i]∈(leftOf (zx l 0).toArray seen):=by
     unfold leftOf;rw [Array.mem_filter];exact ⟨by simp,by rw [hb,M];rfl⟩
    rw [Array.eq_empty_of_size_eq_zero hz] at hm;simp at hm
  ·rcases o ty with ⟨_,h⟩ | ⟨e,he,_⟩
   ·exact h
   ·rw [Array.eq_empty_of_size_eq_zero hz] at he;simp at he
 ·rcases o 0 with ⟨h0,_⟩ | ⟨e,he,w1,E,B⟩
  ·exact absurd h0 hz
  ·have G:e∈zx l 0:=by
    have:=(mem_left he).1;simpa using this
   obtain ⟨Q,d,M⟩:=I e G
   have U:seen.contains e.born=false:=by
    have h1:e∈(zx l 0).toArray.filter (fun e=>!seen.contains e.born):=by simpa [leftOf] using he
    rw [Array.mem_filter] at h1;simpa using h1.2
   rw [d,M] at B;refine .inr ⟨e.born,Q,U,w1,E,fun ty=>B,?_⟩;have h1:w1.heap=w.heap:=by rcases E with rfl | rfl <;> rfl
   have a0:r<w1.heap.size:=by rw [h1];exact V
   have:=run_entry_at (P:=P) (setBlock w1 r (.mapIter (some g) l.length (seen.push e.born) l.length)) g r l.length seen (zx l 0).toArray l.length e (setBlock_same _ a0) (by rw [Dd _ O,h1];exact L) (by simpa using G) (by
    show ((zx l 0).map (·.born)).Nodup;rw [CY];exact List.nodup_range')
   rw [d,M] at this;exact this
end
end Go.Proofs.YtcnaogdgjkpkmaaGreatDoor
