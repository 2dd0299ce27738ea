import Derived.Test.YthbjngbhbbkkgaaGreatHRa
import Derived.Laws.IdiomRangeMap
set_option linter.unusedVariables false
set_option linter.unusedSimpArgs false
set_option maxRecDepth 100000
set_option maxHeartbeats 16000000
namespace Go.Proofs.YthbjngbhbbkkgaaGreat
variable {seen:Array Nat} {g:Nat} {P:Program} {w:World}
section
open Go.RowKit
open Go.ChangeMaps (setBlock)
def IterIs (w:World) (r g since:Nat) (seen:Array Nat) (c0:Nat):Prop:=w.heap[r]?=some (.mapIter (some g) since seen c0)
theorem run_next_at (w:World) (ty:TypeId) (bm r since c0:Nat) (seen:Array Nat) (es:Array MapEntry) (clock:Nat) (M:IterIs w r bm since seen c0) (U:w.heap[bm]?=some (.map es clock)) (z:∀x∈es.toList,x.born<since) (Q:since<=c0):
  ((leftOf es seen).size=0/\(Instr.next (.pointer (some ⟨r,0,none⟩)) false ty).run P w=.ok (.tuple #[.bool false]) w)\/
  ∃e∈(leftOf es seen).toList,∃w1:World,(w1=w\/w1=w.drew)/\(Instr.next (.pointer (some ⟨r,0,none⟩)) false ty).run P w=.ok (.tuple #[.bool true,e.key,e.val]) (setBlock w1 r (.mapIter (some bm) since (seen.push e.born) clock)):=by
 unfold IterIs at M;simp only [Instr.next,getObj,Sem.run_bind,Sem.run,M,U,Result.andThen,next_test_false seen es since c0 z Q,Bool.false_eq_true,if_false];unfold leftOf;have o:∀x∈(Array.filter (fun e=>!seen.contains e.born) es).toList,x.born<since:=fun x B=>z x (by simp at B⊢;exact B.1)
 generalize Array.filter (fun e=>!seen.contains e.born) es=L at o⊢;have e1:L.filter (fun x=>decide (x.born<since))=L:=Array.filter_eq_self.2 (fun x B=>by simpa using o x (by simpa using B))
 have e2:L.filter (fun x=>decide (x.born≥since))=#[]:=by
  rw [Array.filter_eq_empty_iff];intro x B;have:=o x (by simpa using B);simp;omega
 simp only [e1,e2,Array.append_empty];by_cases h0:L.size=0
 ·left
  have:L=#[]:=Array.eq_empty_of_size_eq_zero h0;subst this;refine ⟨rfl,?_⟩;simp [choose,Sem.run,Question.forced]
 ·right
  have J:L.isEmpty=false:=by simp [Array.isEmpty,h0]
  simp only [J,Bool.false_eq_true,if_false,Array.empty_append,Array.size_map]
  have I:∃(j:Nat) (w1:World),j<L.size/\(w1=w\/w1=w.drew)/\(choose (Question.mapNext L.size)).run P w=.ok j w1:=by
   by_cases T:L.size<=1
   ·exact ⟨0,w,by omega,.inl rfl,by simp [choose,Sem.run,Question.forced,T]⟩
   ·exact ⟨_,w.drew,Nat.mod_lt _ (by omega),.inr rfl,by
     simp only [choose,Sem.run,Question.forced,EQ,T,if_false,Question.cut];rfl⟩
  obtain ⟨j,w1,V,D,E⟩:=I;refine ⟨L[j],by simp,w1,D,?_⟩
  have O:w1.heap[r]?=some (.mapIter (some bm) since seen c0):=by
   rcases D with rfl | rfl <;> exact M
  have G:∀(o':Obj),(setObj r o').run P w1=.ok () (setBlock w1 r o'):=fun o'=>by
   simp only [setObj,Sem.run,O];rfl
  simp only [E,Array.getElem?_map,Array.getElem?_eq_getElem V,Option.map_some,Sem.run_bind,G,Result.andThen];rfl
theorem run_entry_at (w:World) (bm r since:Nat) (seen:Array Nat) (es:Array MapEntry) (clock:Nat) (e:MapEntry) (D:w.heap[r]?=some (.mapIter (some bm) since (seen.push e.born) clock)) (o:w.heap[bm]?=some (.map es clock)) (he:e∈es.toList) (B:(es.toList.map (·.born)).Nodup):
  (Instr.entry (.pointer (some ⟨r,0,none⟩))).run P w=.ok (.tuple #[e.key,e.val]) w:=by
 have z:es.find? (·.born==e.born)=some e:=by rw [<-Array.find?_toList];exact find_born e es.toList B he
 simp only [Instr.entry,getObj,Sem.run_bind,Sem.run,D,o,Result.andThen,Array.back?_push,bne_self_eq_false,Bool.false_eq_true,if_false,z];rfl
theorem DT:∀(l:List Int) (b:Nat),(zJ l b).map (·.born)=List.range' b l.length
 | [],_=>rfl
 | _ :: l,b=>by simp [zJ,DT l (b+1),List.range'_succ]
theorem setBlock_same (o:Obj) (h:g<w.heap.size):(setBlock w g o).heap[g]?=some o:=by simp [setBlock,h]
def leftN (n:Nat) (seen:Array Nat):Nat:=((List.range n).filter fun i=>!seen.contains i).length
theorem leftN_step {n i:Nat} (z:i<n) (B:seen.contains i=false):leftN n (seen.push i)<leftN n seen:=by
 unfold leftN;refine filter_lt (fun j=>!seen.contains j) (fun j=>!(seen.push i).contains j) (fun x o=>?_) i (by simp only [B];rfl) (by simp) _ (FI.2 z);simp at o⊢;exact o.1
theorem set_next {r c0:Nat} {l:List Int} (M:zF w g l) (J:IterIs w r g l.length seen c0) (hc:l.length<=c0):
  ((∀i,i<l.length->seen.contains i=true)/\∀ty,(Instr.next (.pointer (some ⟨r,0,none⟩)) false ty).run P w=.ok (.tuple #[.bool false]) w)\/
  ∃i,∃(h:i<l.length),seen.contains i=false/\∃w1:World,(w1=w\/w1=w.drew)/\(∀ty,(Instr.next (.pointer (some ⟨r,0,none⟩)) false ty).run P w=.ok (.tuple #[.bool true,.int .i64 l[i],.bool true]) (setBlock w1 r (.mapIter (some g) l.length (seen.push i) l.length)))/\
   ((Instr.entry (.pointer (some ⟨r,0,none⟩))).run P (setBlock w1 r (.mapIter (some g) l.length (seen.push i) l.length))=.ok (.tuple #[.int .i64 l[i],.bool true]) (setBlock w1 r (.mapIter (some g) l.length (seen.push i) l.length))):=by
 have D:∀x∈(zJ l 0).toArray.toList,x.born<l.length:=by
  intro x hx;have h1:x.born∈(zJ l 0).map (·.born):=FH.2 ⟨x,by simpa using hx,rfl⟩;rw [DT] at h1;have:=List.mem_range'_1.1 h1;omega
 have I:∀x∈(zJ l 0),∃(h:x.born<l.length),x.key=.int .i64 (l[x.born])/\x.val=.bool true:=by
  intro x hx;obtain ⟨k,o,rfl⟩:=Fm hx;have h1:=CV l 0 k;rw [EE o] at h1;rw [Dn] at o;rw [EE o] at h1;simp only [Option.map_some,Option.some.injEq,Nat.zero_add] at h1;rw [h1];exact ⟨o,rfl,rfl⟩
 have Q:g≠r:=by
  rintro rfl;unfold IterIs at J;unfold zF mapObj at M;rw [M] at J;cases J
 have V:r<w.heap.size:=zd J;have z:∀ty,_:=fun ty=>run_next_at (P:=P) w ty g r l.length c0 seen (zJ l 0).toArray l.length J M D hc
 by_cases hz:(leftOf (zJ l 0).toArray seen).size=0
 ·refine .inl ⟨fun i L=>?_,fun ty=>?_⟩
  ·cases O:seen.contains i with
   | true=>rfl
   | false=>
    exfalso
    have o:i<(zJ l 0).length:=by rw [Dn];exact L
    have hb:(zJ l 0)[i].born=i:=by
     have h1:=CV l 0 i;rw [EE o,EE L] at h1;simp only [Option.map_some,Option.some.injEq,Nat.zero_add] at h1;rw [h1]
    have hm:(zJ l 0)[i]∈(leftOf (zJ l 0).toArray seen):=by
     unfold leftOf;rw [Array.mem_filter];exact ⟨by simp,by rw [hb,O];rfl⟩
    rw [Array.eq_empty_of_size_eq_zero hz] at hm;simp at hm
  ·rcases z ty with ⟨_,h⟩ | ⟨e,he,_⟩
   ·exact h
   ·rw [Array.eq_empty_of_size_eq_zero hz] at he;simp at he
 ·rcases z 0 with ⟨h0,_⟩ | ⟨e,he,w1,E,B⟩
  ·exact absurd h0 hz
  ·have G:e∈zJ l 0:=by
    have:=(mem_left he).1;simpa using this
   obtain ⟨T,o,O⟩:=I e G
   have U:seen.contains e.born=false:=by
    have h1:e∈(zJ l 0).toArray.filter (fun e=>!seen.contains e.born):=by simpa [leftOf] using he
    rw [Array.mem_filter] at h1;simpa using h1.2
   rw [o,O] at B;refine .inr ⟨e.born,T,U,w1,E,fun ty=>B,?_⟩;have h1:w1.heap=w.heap:=by rcases E with rfl | rfl <;> rfl
   have a0:r<w1.heap.size:=by rw [h1];exact V
   have:=run_entry_at (P:=P) (setBlock w1 r (.mapIter (some g) l.length (seen.push e.born) l.length)) g r l.length seen (zJ l 0).toArray l.length e (setBlock_same _ a0) (by rw [Dc _ Q,h1];exact M) (by simpa using G) (by
    show ((zJ l 0).map (·.born)).Nodup;rw [DT];exact List.nodup_range')
   rw [o,O] at this;exact this
end
end Go.Proofs.YthbjngbhbbkkgaaGreat
