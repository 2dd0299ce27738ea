import Derived.Test.YtcnaogdgjkpkmaaGreatDoorWCc
import Derived.Shelf.SlGeneric
import Derived.Shelf.SortM.Plain
import Derived.Shelf.SortM.SortNone
import Derived.Shelf.SlicesG.CompactI
import Derived.Ground.SlgmProg
import Derived.Ground.SlgnProg
import Derived.Lib.OwnBridge
import Derived.Sort.OwnSortedInts
import Derived.Laws.IdiomRangeMap
import Derived.Deep.LoopGhost
import Derived.Deep.DeepCutAuto
set_option linter.unusedVariables false
set_option linter.unusedSimpArgs false
set_option maxRecDepth 100000
set_option maxHeartbeats 16000000
namespace Go.Proofs.YtcnaogdgjkpkmaaGreatDoor
variable {seen:Array Nat} {cs:Array Value} {b:Bool} {ps:List (List Int)} {l:List Int} {vs xs:List Value} {c c0 g gu i r since:Nat} {ok ok2:Nat->Prop} {o:Obj} {P:Program} {vc vp x:Value} {w1:World}
section
open Go.RowKit Go.Sort Go.Shelf
theorem holds_own {w:World} {B cap:Nat} (h:zT w B (.slice (some ⟨g,0,none⟩) l.length cap) l):Holds (Value.int .i64) w g 0 l.toArray:=by
 intro j z;have d:j<l.length:=by simpa using z
 refine ⟨?_,by have:=World.ownsRow.frozenAt h j;simpa using this⟩;have:=World.ownsRow.cellAt h j (by omega);rw [Nat.zero_add,this];simp [getElem!_pos,d]
def BA (l:List Int):List Int:=l.mergeSort fun x y=>decide (x<=y)
theorem sort_calls {w:World} {v:Value} (h:Mk w1 w v l) (O:l.length<=1000000000000):Calls Tryz.prog 141 #[v] w fun e w'=>e=.returned (.tuple #[])/\Mk w1 w' v (BA l):=by
 have d:(BA l).length=l.length:=by unfold BA;rw [List.length_mergeSort]
 rcases DG l.length with h0 | h0
 ·have D:=Dq h0;subst D;obtain ⟨A,c,rfl,_⟩:=h.slice;have z:=AnyM.slices_Sort_int_none sortA A c w;change Calls Tryz.prog 141 _ _ _ at z;refine Calls.mono z ?_;rintro e w' ⟨rfl,rfl⟩;exact ⟨rfl,h.cast (by simp [BA])⟩
 ·obtain ⟨g,cap,rfl,M,G⟩:=World.ownsRow.form h.own h0;have z:=AnyM.slices_Sort_int sortA g 0 cap l w (holds_own h.own) G (by omega);change Calls Tryz.prog 141 _ _ _ at z;refine Calls.mono z ?_;rintro e w' ⟨rfl,n,os,rfl⟩;refine ⟨rfl,?_,?_⟩
  ·obtain ⟨_,⟨e0,_⟩ | ⟨g',cap',cur,e0,J,E,K,hm,L,ht⟩⟩:=h.own
   ·cases e0
   ·injection e0 with e1 _ e3;injection e1 with e1;injection e1 with e1;subst e1;subst e3;have:=ownsRow_sortedI (n:=n) (os:=os) (w:=w) (ss:=l) (ts:=BA l) d J E K hm L;unfold zT;rw [d];exact this
  ·exact Below.grown h.ext (grownBy_sortedI _) h.ext.size (fun k I=>by injection I with I;omega)
theorem compact_calls {w:World} {v:Value} (h:Mk w1 w v l) (J:l.length<=1000000000000):Calls Tryz.prog 128 #[v] w fun e w'=>∃v',e=.returned v'/\Mk w1 w' v' (Lib.compact l):=by
 rcases DG l.length with h0 | h0
 ·have D:=Dq h0;subst D;obtain ⟨A,c,rfl,_⟩:=h.slice;have d:=AnyG.slices_Compact_int_empty compactA A c w;change Calls Tryz.prog 128 _ _ _ at d;refine Calls.mono d ?_;rintro e w' ⟨rfl,rfl⟩;exact ⟨_,rfl,h⟩
 ·obtain ⟨g,cap,rfl,G,I⟩:=World.ownsRow.form h.own h0;have z:=own_cap h.own;have d:=AnyG.slices_Compact_int compactA g 0 cap l w (holds_own h.own) (by omega) z;change Calls Tryz.prog 128 _ _ _ at d;refine Calls.mono d ?_;rintro e w' ⟨rfl,q,rfl⟩
  have E:(Lib.compact l).length<=l.length:=by
   unfold Lib.compact Lib.compactUpTo;rw [DF];exact Da (DA _ _) (by simp)
  refine ⟨_,rfl,?_,?_⟩
  ·have:=Lib.ownsRow_putRow (enc:=Value.int .i64) (q:=q) (k:=(Lib.compact l).length) (ys:=Lib.compact l++List.replicate (l.length - (Lib.compact l).length) 0) h.own (by simp;omega) E;rw [List.take_left'] at this
   ·exact this
   ·rfl
  ·exact Lib.below_putRow h.ext G
theorem values_calls (A:Option Addr) (n c:Nat) (w:World):Calls Tryz.prog 130 #[.slice A n c] w fun e w'=>e=.returned (.func (.func 142) #[] #[.pointer (some ⟨w.heap.size,0,none⟩)])/\w'=w.alloc (.cells #[.slice A n c] 24):=by
 go_enter Tryz.func130,Tryz.ntmps130
 go_wp2_with fail
 go_ret;exact ⟨rfl,rfl⟩
theorem collect_calls {v:Value} (Bs:Nat) (w:World) (D:w.cell? ⟨Bs,0,none⟩=some v) (h:zk w ok v l) (d:l.length<=1000000000000):
  Calls Tryz.prog 140 #[.func (.func 142) #[] #[.pointer (some ⟨Bs,0,none⟩)]] w fun e w'=>∃v',e=.returned v'/\Mk w w' v' l:=by
 have H:=zh (appendSeq_calls Bs w D h d);clear h D
 go_enter Tryz.func140,Tryz.ntmps140
 go_wp2_with fail
 refine H.out.mono ?_;rintro e w' ⟨v',rfl,z⟩;have E:=zh z;clear z
 go_wp2_with fail
 go_ret;exact ⟨_,rfl,E.out⟩
theorem sorted_calls {v:Value} (Bs:Nat) (w:World) (E:w.cell? ⟨Bs,0,none⟩=some v) (h:zk w ok v l) (d:l.length<=1000000000000):
  Calls Tryz.prog 129 #[.func (.func 142) #[] #[.pointer (some ⟨Bs,0,none⟩)]] w fun e w'=>∃v',e=.returned v'/\Mk w w' v' (BA l):=by
 have H:=zh (collect_calls Bs w E h d);clear h E
 go_enter Tryz.func129,Tryz.ntmps129
 go_wp2_with fail
 refine H.out.mono ?_;rintro e w' ⟨v',rfl,D⟩;have I:=zh (sort_calls D d);clear D
 go_wp2_with fail
 refine I.out.mono ?_;rintro e w2 ⟨rfl,z⟩;have G:=zh z;clear z
 go_wp2_with fail
 go_ret;exact ⟨_,rfl,G.out⟩
end
section
open Go.RowKit
open Go.ChangeMaps (setBlock)
def IterIs (w:World) (r g since:Nat) (seen:Array Nat) (c0:Nat):Prop:=w.heap[r]?=some (.mapIter (some g) since seen c0)
theorem run_next_at (w:World) (ty:TypeId) (bm r since c0:Nat) (seen:Array Nat) (es:Array MapEntry) (clock:Nat) (K:IterIs w r bm since seen c0) (Q:w.heap[bm]?=some (.map es clock)) (z:∀x∈es.toList,x.born<since) (O:since<=c0):
  ((leftOf es seen).size=0/\(Instr.next (.pointer (some ⟨r,0,none⟩)) false ty).run P w=.ok (.tuple #[.bool false]) w)\/
  ∃e∈(leftOf es seen).toList,∃w1:World,(w1=w\/w1=w.drew)/\(Instr.next (.pointer (some ⟨r,0,none⟩)) false ty).run P w=.ok (.tuple #[.bool true,e.key,e.val]) (setBlock w1 r (.mapIter (some bm) since (seen.push e.born) clock)):=by
 unfold IterIs at K;simp only [Instr.next,getObj,Sem.run_bind,Sem.run,K,Q,Result.andThen,next_test_false seen es since c0 z O,Bool.false_eq_true,if_false];unfold leftOf;have d:∀x∈(Array.filter (fun e=>!seen.contains e.born) es).toList,x.born<since:=fun x D=>z x (by simp at D⊢;exact D.1)
 generalize Array.filter (fun e=>!seen.contains e.born) es=L at d⊢;have e1:L.filter (fun x=>decide (x.born<since))=L:=Array.filter_eq_self.2 (fun x D=>by simpa using d x (by simpa using D))
 have e2:L.filter (fun x=>decide (x.born≥since))=#[]:=by
  rw [Array.filter_eq_empty_iff];intro x D;have:=d x (by simpa using D);simp;omega
 simp only [e1,e2,Array.append_empty];by_cases h0:L.size=0
 ·left
  have:L=#[]:=Array.eq_empty_of_size_eq_zero h0;subst this;refine ⟨rfl,?_⟩;simp [choose,Sem.run,Question.forced]
 ·right
  have J:L.isEmpty=false:=by simp [Array.isEmpty,h0]
  simp only [J,Bool.false_eq_true,if_false,Array.empty_append,Array.size_map]
  have I:∃(j:Nat) (w1:World),j<L.size/\(w1=w\/w1=w.drew)/\(choose (Question.mapNext L.size)).run P w=.ok j w1:=by
   by_cases hf:L.size<=1
   ·exact ⟨0,w,by omega,.inl rfl,by simp [choose,Sem.run,Question.forced,hf]⟩
   ·exact ⟨_,w.drew,Nat.mod_lt _ (by omega),.inr rfl,by
     simp only [choose,Sem.run,Question.forced,Dj,hf,if_false,Question.cut];rfl⟩
  obtain ⟨j,w1,U,E,G⟩:=I;refine ⟨L[j],by simp,w1,E,?_⟩
  have M:w1.heap[r]?=some (.mapIter (some bm) since seen c0):=by
   rcases E with rfl | rfl <;> exact K
  have hset:∀(o':Obj),(setObj r o').run P w1=.ok () (setBlock w1 r o'):=fun o'=>by
   simp only [setObj,Sem.run,M];rfl
  simp only [G,Array.getElem?_map,Array.getElem?_eq_getElem U,Option.map_some,Sem.run_bind,hset,Result.andThen];rfl
theorem run_entry_at (w:World) (bm r since:Nat) (seen:Array Nat) (es:Array MapEntry) (clock:Nat) (e:MapEntry) (D:w.heap[r]?=some (.mapIter (some bm) since (seen.push e.born) clock)) (d:w.heap[bm]?=some (.map es clock)) (he:e∈es.toList) (z:(es.toList.map (·.born)).Nodup):
  (Instr.entry (.pointer (some ⟨r,0,none⟩))).run P w=.ok (.tuple #[e.key,e.val]) w:=by
 have hf:es.find? (·.born==e.born)=some e:=by rw [<-Array.find?_toList];exact find_born e es.toList z he
 simp only [Instr.entry,getObj,Sem.run_bind,Sem.run,D,d,Result.andThen,Array.back?_push,bne_self_eq_false,Bool.false_eq_true,if_false,hf];rfl
theorem Cs:∀(l:List Int) (b:Nat),(zq l b).map (·.born)=List.range' b l.length
 | [],_=>rfl
 | _ :: l,b=>by simp [zq,Cs l (b+1),List.range'_succ]
theorem setBlock_same {w:World} (o:Obj) (h:g<w.heap.size):(setBlock w g o).heap[g]?=some o:=by simp [setBlock,h]
def leftN (n:Nat) (seen:Array Nat):Nat:=((List.range n).filter fun i=>!seen.contains i).length
theorem leftN_step {n:Nat} (z:i<n) (D:seen.contains i=false):leftN n (seen.push i)<leftN n seen:=by
 unfold leftN;refine filter_lt (fun j=>!seen.contains j) (fun j=>!(seen.push i).contains j) (fun x d=>?_) i (by simp only [D];rfl) (by simp) _ (DR.2 z);simp at d⊢;exact d.1
theorem set_next {w:World} (M:zv w g l) (K:IterIs w r g l.length seen c0) (hc:l.length<=c0):
  ((∀i,i<l.length->seen.contains i=true)/\∀ty,(Instr.next (.pointer (some ⟨r,0,none⟩)) false ty).run P w=.ok (.tuple #[.bool false]) w)\/
  ∃i,∃(h:i<l.length),seen.contains i=false/\∃w1:World,(w1=w\/w1=w.drew)/\(∀ty,(Instr.next (.pointer (some ⟨r,0,none⟩)) false ty).run P w=.ok (.tuple #[.bool true,.int .i64 l[i],.bool true]) (setBlock w1 r (.mapIter (some g) l.length (seen.push i) l.length)))/\
   ((Instr.entry (.pointer (some ⟨r,0,none⟩))).run P (setBlock w1 r (.mapIter (some g) l.length (seen.push i) l.length))=.ok (.tuple #[.int .i64 l[i],.bool true]) (setBlock w1 r (.mapIter (some g) l.length (seen.push i) l.length))):=by
 have E:∀x∈(zq l 0).toArray.toList,x.born<l.length:=by
  intro x hx;have h1:x.born∈(zq l 0).map (·.born):=DQ.2 ⟨x,by simpa using hx,rfl⟩;rw [Cs] at h1;have:=List.mem_range'_1.1 h1;omega
 have J:∀x∈(zq l 0),∃(h:x.born<l.length),x.key=.int .i64 (l[x.born])/\x.val=.bool true:=by
  intro x hx;obtain ⟨k,d,rfl⟩:=DC hx;have h1:=Bx l 0 k;rw [CW d] at h1;rw [BS] at d;rw [CW d] at h1;simp only [Option.map_some,Option.some.injEq,Nat.zero_add] at h1;rw [h1];exact ⟨d,rfl,rfl⟩
 have Q:g≠r:=by
  rintro rfl;unfold IterIs at K;unfold zv mapObj at M;rw [M] at K;cases K
 have a0:r<w.heap.size:=zb K;have z:∀ty,_:=fun ty=>run_next_at (P:=P) w ty g r l.length c0 seen (zq l 0).toArray l.length K M E hc
 by_cases hz:(leftOf (zq l 0).toArray seen).size=0
 ·refine .inl ⟨fun i L=>?_,fun ty=>?_⟩
  ·cases O:seen.contains i with
   | true=>rfl
   | false=>
    exfalso
    have d:i<(zq l 0).length:=by rw [BS];exact L
    have hb:(zq l 0)[i].born=i:=by
     have h1:=Bx l 0 i;rw [CW d,CW L] at h1;simp only [Option.map_some,Option.some.injEq,Nat.zero_add] at h1;rw [h1]
    have hm:(zq l 0)[i]∈(leftOf (zq l 0).toArray seen):=by
     unfold leftOf;rw [Array.mem_filter];exact ⟨by simp,by rw [hb,O];rfl⟩
    rw [Array.eq_empty_of_size_eq_zero hz] at hm;simp at hm
  ·rcases z ty with ⟨_,h⟩ | ⟨e,he,_⟩
   ·exact h
   ·rw [Array.eq_empty_of_size_eq_zero hz] at he;simp at he
 ·rcases z 0 with ⟨h0,_⟩ | ⟨e,he,w1,G,D⟩
  ·exact absurd h0 hz
  ·have I:e∈zq l 0:=by
    have:=(mem_left he).1;simpa using this
   obtain ⟨U,d,O⟩:=J e I
   have V:seen.contains e.born=false:=by
    have h1:e∈(zq l 0).toArray.filter (fun e=>!seen.contains e.born):=by simpa [leftOf] using he
    rw [Array.mem_filter] at h1;simpa using h1.2
   rw [d,O] at D;refine .inr ⟨e.born,U,V,w1,G,fun ty=>D,?_⟩;have h1:w1.heap=w.heap:=by rcases G with rfl | rfl <;> rfl
   have a1:r<w1.heap.size:=by rw [h1];exact a0
   have:=run_entry_at (P:=P) (setBlock w1 r (.mapIter (some g) l.length (seen.push e.born) l.length)) g r l.length seen (zq l 0).toArray l.length e (setBlock_same _ a1) (by rw [CB _ Q,h1];exact M) (by simpa using I) (by
    show ((zq l 0).map (·.born)).Nodup;rw [Cs];exact List.nodup_range')
   rw [d,O] at this;exact this
end
section
open Go.RowKit
open Go.ChangeMaps (setBlock)
attribute [local go_sem ↓] Go.wp_at_zero Go.wp_at_succ
theorem Ah {md:Region.Mode} {es:Array Edge} {e:Nat->Bool} (E:∀d∈es,Region.binds md d=true->e d.on=true) (ks:List Nat) (h:(ks.all fun k=>es.toList.any fun d=>Region.binds md d && decide (d.on=k))=true):∀k∈ks,e k=true:=by
 intro k G;obtain ⟨d,D,z⟩:=DS.1 (DT.1 h k G);simp only [Dm,Dj] at z;rw [<-z.2];exact E d (by simpa using D) z.1
section
variable {W W':World} {B:Nat}
theorem zT.ext {v:Value} (h:zT W B v l) (d:za W W'):zT W' B v l:=h.kept (row:=none) ⟨d.os,d.tape,d.output,d.size,fun i z _=>d.block i z⟩ (by cases h:v.ownBlock <;> simp)
theorem OwnL.ext {v:Value} (h:OwnL W B v vs) (d:za W W'):OwnL W' B v vs:=World.ownsRow.kept h (row:=none) ⟨d.os,d.tape,d.output,d.size,fun i z _=>d.block i z⟩ (by cases h:v.ownBlock <;> simp)
theorem own_ne {e e':TypeId} {v v':Value} {n n':Nat} {xs':List Value} {B':Nat} (h:W.ownsRow B e 1 v n xs) (D:W.ownsRow B' e' 1 v' n' xs') (z:e≠e'):v.ownBlock=none\/v.ownBlock≠v'.ownBlock:=by
 rcases h.2 with ⟨rfl,_⟩ | ⟨g,cap,cur,rfl,_,E,_⟩
 ·exact .inl rfl
 ·refine .inr fun e=>?_
  rcases D.2 with ⟨rfl,_⟩ | ⟨g',cap',cur',rfl,_,d,_⟩
  ·cases e
  ·have e:some g=some g':=e;injection e with e;subst e;rw [E] at d;injection d with d;injection d with _ ht;exact z ht
theorem Av {e:TypeId} {v:Value} {n:Nat} (h:W.ownsRow B e 1 v n xs) (d:zv W g l):v.ownBlock=none\/v.ownBlock≠some g:=by
 rcases h.2 with ⟨rfl,_⟩ | ⟨g',cap,cur,rfl,_,z,_⟩
 ·exact .inl rfl
 ·refine .inr fun e=>?_
  have e:some g'=some g:=e;injection e with e;subst e;unfold zv at d;rw [z] at d;injection d with d;cases d
end
theorem ints_one {W:World} {x:Int} (h:W.cell? ⟨g,0,none⟩=some (.int .i64 x)):zk W (fun _=>True) (.slice (some ⟨g,0,none⟩) 1 1) [x]:=
 ⟨some ⟨g,0,none⟩,1,rfl,CY _,rfl,fun _=>⟨g,0,rfl,trivial,fun j u d=>by
  match j,d with
  | 0,d=>
   have:u=.int .i64 x:=by simpa using d.symm
   subst this;exact h⟩⟩
structure JW (w:World) (ch:List Int) (n:Int) (vsp:List Value) (m:MZ) (f u t:Value) (e:Nat->Bool) (v:Nat->Value) (W:World):Prop where
 ext:za w W
 c1:e 8=true->e 11=false->zT W w.heap.size (v 8) ch
 b:e 10=true->e 11=false->∃g,v 10=.slice (some ⟨g,0,none⟩) 1 1/\W.cell? ⟨g,0,none⟩=some (.int .i64 n)
 ap:e 11=true->zT W w.heap.size (v 11) (ch++[n])
 c2:e 16=true->OwnL W w.heap.size (v 16) vsp
 mm:e 17=true->∃gu,v 17=.map (some gu)/\w.heap.size<=gu/\zv W gu (if e 19 then [n] else [])
 mv:e 20=true->v 20=v 17
 bd:e 21=true->v 21=.agg #[.int .i64 m.w,.int .i64 m.h,.int .i64 m.l,f,u,t,v 11,v 16,v 20]
 bx:e 22=true->∃gs,v 22=.pointer (some ⟨gs,0,none⟩)/\w.heap.size<=gs/\ze W gs 97 #[.int .i64 m.w,.int .i64 m.h,.int .i64 m.l,f,u,t,v 11,v 16,v 20]
 fin:e 23=true->v 23=v 22
 d11:e 11=true->e 8=true
 d19:e 19=true->e 17=true
 d20:e 20=true->e 19=true
 d21:e 21=true->e 11=true/\e 16=true/\e 20=true
 d22:e 22=true->e 21=true
 d23:e 23=true->e 22=true
theorem ff {C:Prop} (h:b=false) (a:b=true):C:=by rw [h] at a;cases a
section
variable {w W W':World} {ch:List Int} {n:Int} {vsp:List Value} {m:MZ} {f u t:Value} {e:Nat->Bool} {v:Nat->Value}
theorem JW.keep (h:JW w ch n vsp m f u t e v W) (d:za W W'):JW w ch n vsp m f u t e v W':=
 ⟨h.ext.trans d,fun a b=>(h.c1 a b).ext d,fun a b=>by obtain ⟨g,h1,h2⟩:=h.b a b;exact ⟨g,h1,d.cell h2⟩,fun a=>(h.ap a).ext d,fun a=>(h.c2 a).ext d,
  fun a=>by obtain ⟨g,h1,h2,z⟩:=h.mm a;exact ⟨g,h1,h2,z.below d⟩,h.mv,h.bd,fun a=>by obtain ⟨g,h1,h2,z⟩:=h.bx a;exact ⟨g,h1,h2,z.ext d⟩,h.fin,h.d11,h.d19,h.d20,h.d21,h.d22,h.d23⟩
theorem JW.s8 (h:JW w ch n vsp m f u t e v W) (d:e 11=false) (z:zT W w.heap.size x ch):JW w ch n vsp m f u t (Ba e 8 true) (Ba v 8 x) W:=by
 exact ⟨h.ext,fun _ _=>z,h.b,h.ap,h.c2,h.mm,h.mv,h.bd,h.bx,h.fin,fun _=>rfl,h.d19,h.d20,h.d21,h.d22,h.d23⟩
theorem JW.s10 (h:JW w ch n vsp m f u t e v W) (d:W.cell? ⟨g,0,none⟩=some (.int .i64 n)):JW w ch n vsp m f u t (Ba e 10 true) (Ba v 10 (.slice (some ⟨g,0,none⟩) 1 1)) W:=by
 exact ⟨h.ext,h.c1,fun _ _=>⟨g,rfl,d⟩,h.ap,h.c2,h.mm,h.mv,h.bd,h.bx,h.fin,h.d11,h.d19,h.d20,h.d21,h.d22,h.d23⟩
theorem JW.s11 (h:JW w ch n vsp m f u t e v W) (J:e 8=true) (d:e 11=false) (z:e 21=false) (D:e 22=false) (L:zT W' w.heap.size x (ch++[n])) (G:Hid (W.grownBy W' (v 8).ownBlock)):JW w ch n vsp m f u t (Ba e 11 true) (Ba v 11 x) W':=by
 have I:=h.c1 J d;refine ⟨?_,?_,?_,?_,?_,?_,?_,?_,?_,?_,fun _=>J,h.d19,h.d20,fun a=>⟨rfl,(h.d21 a).2⟩,h.d22,h.d23⟩
 ·exact AM h.ext G h.ext.size (fun k K=>Cm I K)
 ·exact fun _ h=>by cases h
 ·exact fun _ h=>by cases h
 ·exact fun _=>L
 ·exact fun a=>World.ownsRow.kept (h.c2 a) G.out (own_ne (h.c2 a) I (by decide))
 ·intro a;obtain ⟨gu,h1,h2,E⟩:=h.mm a;refine ⟨gu,h1,h2,(G.out.block gu (zb E) (fun e=>?_)).trans E⟩;rcases Av I E with h4 | h4
  ·rw [h4] at e;cases e
  ·exact h4 e.symm
 ·exact h.mv
 ·exact fun a=>ff z a
 ·exact fun a=>ff D a
 ·exact h.fin
theorem JW.s16 (h:JW w ch n vsp m f u t e v W) (d:e 21=false) (z:e 22=false) (D:OwnL W w.heap.size x vsp):JW w ch n vsp m f u t (Ba e 16 true) (Ba v 16 x) W:=by
 exact ⟨h.ext,h.c1,h.b,h.ap,fun _=>D,h.mm,h.mv,fun a=>ff d a,fun a=>ff z a,h.fin,h.d11,h.d19,h.d20,fun a=>⟨(h.d21 a).1,rfl,(h.d21 a).2.2⟩,h.d22,h.d23⟩
theorem JW.s17 (h:JW w ch n vsp m f u t e v W) (d:e 19=false) (z:e 20=false) (D:w.heap.size<=g) (E:zv W g []):JW w ch n vsp m f u t (Ba e 17 true) (Ba v 17 (.map (some g))) W:=by
 exact ⟨h.ext,h.c1,h.b,h.ap,h.c2,fun _=>⟨g,rfl,D,by show zv _ _ (if e 19=true then [n] else []);rw [d];exact E⟩,fun a=>ff z a,h.bd,h.bx,h.fin,h.d11,fun _=>rfl,h.d20,h.d21,h.d22,h.d23⟩
theorem JW.s19 (h:JW w ch n vsp m f u t e v W) (E:e 17=true) (I:v 17=.map (some gu)) (D:zv W gu []) (G:e 22=false) (J:zv W' gu [n]) (d:W.grownBy W' (some gu)) (z:w.heap.size<=gu):JW w ch n vsp m f u t (Ba e 19 true) (Ba v 19 x) W':=by
 refine ⟨?_,?_,?_,?_,?_,?_,?_,?_,?_,?_,h.d11,fun _=>E,fun _=>rfl,h.d21,h.d22,h.d23⟩
 ·exact AG h.ext d h.ext.size z
 ·exact fun a b=>World.ownsRow.kept (h.c1 a b) d (Av (h.c1 a b) D)
 ·intro a b;obtain ⟨g,h1,h2⟩:=h.b a b;refine ⟨g,h1,(World.grownBy.cell d h2 (fun e=>?_))⟩;injection e with e;have:g=gu:=e;subst this;unfold zv at D;unfold World.cell? at h2;simp [D,mapObj] at h2
 ·exact fun a=>World.ownsRow.kept (h.ap a) d (Av (h.ap a) D)
 ·exact fun a=>World.ownsRow.kept (h.c2 a) d (Av (h.c2 a) D)
 ·exact fun _=>⟨gu,I,z,J⟩
 ·exact h.mv
 ·exact h.bd
 ·exact fun a=>ff G a
 ·exact h.fin
theorem JW.s20 (h:JW w ch n vsp m f u t e v W) (d:e 19=true) (z:e 21=false) (D:e 22=false):JW w ch n vsp m f u t (Ba e 20 true) (Ba v 20 (v 17)) W:=by
 exact ⟨h.ext,h.c1,h.b,h.ap,h.c2,h.mm,fun _=>rfl,fun a=>ff z a,fun a=>ff D a,h.fin,h.d11,h.d19,fun _=>d,fun a=>⟨(h.d21 a).1,(h.d21 a).2.1,rfl⟩,h.d22,h.d23⟩
theorem JW.s21 (h:JW w ch n vsp m f u t e v W) (d:e 11=true/\e 16=true/\e 20=true) (z:x=.agg #[.int .i64 m.w,.int .i64 m.h,.int .i64 m.l,f,u,t,v 11,v 16,v 20]):JW w ch n vsp m f u t (Ba e 21 true) (Ba v 21 x) W:=by
 exact ⟨h.ext,h.c1,h.b,h.ap,h.c2,h.mm,h.mv,fun _=>z,h.bx,h.fin,h.d11,h.d19,h.d20,fun _=>d,fun _=>rfl,h.d23⟩
theorem JW.s22 {gs:Nat} (h:JW w ch n vsp m f u t e v W) (d:e 21=true) (z:e 23=false) (E:w.heap.size<=gs) (D:ze W gs 97 #[.int .i64 m.w,.int .i64 m.h,.int .i64 m.l,f,u,t,v 11,v 16,v 20]):JW w ch n vsp m f u t (Ba e 22 true) (Ba v 22 (.pointer (some ⟨gs,0,none⟩))) W:=by
 exact ⟨h.ext,h.c1,h.b,h.ap,h.c2,h.mm,h.mv,h.bd,fun _=>⟨gs,rfl,E,D⟩,fun a=>ff z a,h.d11,h.d19,h.d20,h.d21,fun _=>d,fun _=>rfl⟩
theorem JW.s23 (h:JW w ch n vsp m f u t e v W) (d:e 22=true):JW w ch n vsp m f u t (Ba e 23 true) (Ba v 23 (v 22)) W:=by
 exact ⟨h.ext,h.c1,h.b,h.ap,h.c2,h.mm,h.mv,h.bd,h.bx,fun _=>rfl,h.d11,h.d19,h.d20,h.d21,h.d22,fun _=>d⟩
theorem JW.init {w:World} {ch:List Int} {n:Int} {vsp:List Value} {m:MZ} {f u t:Value} {e:Nat->Bool} {v:Nat->Value} (he:∀j∈[8,10,11,16,17,19,20,21,22,23],e j=false):JW w ch n vsp m f u t e v w.drew:=
 ⟨Cu,fun a=>ff (he 8 (by simp)) a,fun a=>ff (he 10 (by simp)) a,fun a=>ff (he 11 (by simp)) a,fun a=>ff (he 16 (by simp)) a,fun a=>ff (he 17 (by simp)) a,fun a=>ff (he 20 (by simp)) a,fun a=>ff (he 21 (by simp)) a,
  fun a=>ff (he 22 (by simp)) a,fun a=>ff (he 23 (by simp)) a,fun a=>ff (he 11 (by simp)) a,fun a=>ff (he 19 (by simp)) a,fun a=>ff (he 20 (by simp)) a,fun a=>ff (he 21 (by simp)) a,fun a=>ff (he 22 (by simp)) a,fun a=>ff (he 23 (by simp)) a⟩
theorem notT {c:Bool} (h:b=true->c=true) (d:c=false):b=false:=by
 cases b with
 | false=>rfl
 | true=>exact absurd (h rfl) (by rw [d];simp)
theorem JW.n11 (h:JW w ch n vsp m f u t e v W) (d:e 8=false):e 11=false:=notT h.d11 d
theorem JW.n21 (h:JW w ch n vsp m f u t e v W) (d:e 11=false):e 21=false:=notT (fun a=>(h.d21 a).1) d
theorem JW.n21' (h:JW w ch n vsp m f u t e v W) (d:e 16=false):e 21=false:=notT (fun a=>(h.d21 a).2.1) d
theorem JW.n21'' (h:JW w ch n vsp m f u t e v W) (d:e 20=false):e 21=false:=notT (fun a=>(h.d21 a).2.2) d
theorem JW.n22 (h:JW w ch n vsp m f u t e v W) (d:e 21=false):e 22=false:=notT h.d22 d
theorem JW.n23 (h:JW w ch n vsp m f u t e v W) (d:e 22=false):e 23=false:=notT h.d23 d
theorem JW.n20 (h:JW w ch n vsp m f u t e v W) (d:e 19=false):e 20=false:=notT h.d20 d
theorem JW.n19 (h:JW w ch n vsp m f u t e v W) (d:e 17=false):e 19=false:=notT h.d19 d
end
structure WO (w W:World) (m:MZ) (ch:List Int) (vsp:List Value) (f u t:Value) (gs gm:Nat) (v1 v2:Value) (us:List Int):Prop where
 ext:za w W
 hs:w.heap.size<=gs
 hm:w.heap.size<=gm
 blk:ze W gs 97 (stCells m f u t v1 v2 gm)
 ch:zT W w.heap.size v1 ch
 ps:OwnL W w.heap.size v2 vsp
 set:zv W gm us
section
variable {w W W':World} {m:MZ} {ch us us':List Int} {vsp:List Value} {f u t v1 v2:Value} {gs gm:Nat}
theorem WO.keep (h:WO w W m ch vsp f u t gs gm v1 v2 us) (d:za W W'):WO w W' m ch vsp f u t gs gm v1 v2 us:=
 ⟨h.ext.trans d,h.hs,h.hm,h.blk.ext d,h.ch.ext d,h.ps.ext d,h.set.below d⟩
theorem blk_set_ne {W:World} {g':Nat} {t:TypeId} (h:ze W g t cs) (d:zv W g' l):g≠g':=by
 rintro rfl;unfold ze at h;unfold zv mapObj at d;rw [h] at d
 cases d
theorem WO.add (h:WO w W m ch vsp f u t gs gm v1 v2 us) (z:zv W' gm us') (d:W.grownBy W' (some gm)):WO w W' m ch vsp f u t gs gm v1 v2 us':=
 ⟨AG h.ext d h.ext.size h.hm,h.hs,h.hm,(d.block gs (zb h.blk) (fun e=>by injection e with e;exact blk_set_ne h.blk h.set e)).trans h.blk,
  World.ownsRow.kept h.ch d (Av h.ch h.set),World.ownsRow.kept h.ps d (Av h.ps h.set),z⟩
theorem grown_iter {W:World} (h:w1=W\/w1=W.drew):W.grownBy (setBlock w1 r o) (some r):=by
 have h1:w1.heap=W.heap/\w1.os=W.os/\w1.tape=W.tape/\w1.output=W.output:=by rcases h with rfl | rfl <;> exact ⟨rfl,rfl,rfl,rfl⟩
 refine ⟨h1.2.1,h1.2.2.1,h1.2.2.2,by simp [setBlock,h1.1],fun k _ d=>?_⟩;rw [CB _ (fun e=>d (by rw [e])),h1.1]
theorem iter_ne {W:World} {k:Nat} (h:IterIs W r g since seen c0) (z:W.heap[k]?=some o) (D:∀a b c d,o≠.mapIter a b c d):k≠r:=by
 rintro rfl;unfold IterIs at h;rw [z] at h;injection h with h;exact D _ _ _ _ h
theorem own_iter_ne {W:World} {B:Nat} {e:TypeId} {v:Value} {n:Nat} (h:W.ownsRow B e 1 v n xs) (z:IterIs W r g since seen c0):v.ownBlock=none\/v.ownBlock≠some r:=by
 rcases h.2 with ⟨rfl,_⟩ | ⟨g',cap,cur,rfl,_,d,_⟩
 ·exact .inl rfl
 ·refine .inr fun e=>?_
  have e:some g'=some r:=e;injection e with e;exact iter_ne z d (fun _ _ _ _ h=>by cases h) e
theorem own_capL {w:World} {B:Nat} (h:OwnL w B (.slice (some ⟨g,0,none⟩) vs.length c) vs):vs.length<=c:=own_cap h
theorem WO.st {ch0 us0:List Int} (h0:AQ w ok g m ch0 ps us0 f u t vc vp gu) (d:∀(i:Nat) (x:List Int),ps[i]?=some x->∃u,vsp[i]?=some u/\zk w ok u x) (h:WO w W m ch vsp f u t gs gm v1 v2 us)
  (z:vsp.length=ps.length):AQ W (fun b=>ok b\/w.heap.size<=b) gs m ch ps us f u t v1 v2 gm:=
 AQ.make h.ext h0.maze (fun _ h=>.inl h) h.blk (.inr h.hs) ((Ay.of_own h.ch).weaken (fun _ h=>.inr h)) ⟨vsp,by rw [<-z];exact (Ay.of_own h.ps).weaken (fun _ h=>.inr h),fun i x G=>by
  obtain ⟨u,E,D⟩:=d i x G;exact ⟨u,E,(D.below h.ext).weaken (fun _ h=>.inl h)⟩⟩ (.inr h.hm) h.set
theorem mem_step {us:List Int} {n x:Int} (z:i<us.length):((x=n\/∃j,us[j]?=some x/\seen.contains j=true)\/x=us[i])↔(x=n\/∃j,us[j]?=some x/\(seen.push i).contains j=true):=by
 have d:∀j,(seen.push i).contains j=true↔seen.contains j=true\/j=i:=by
  intro j;simp
 constructor
 ·rintro ((h | ⟨j,h1,h2⟩) | h)
  ·exact .inl h
  ·exact .inr ⟨j,h1,(d j).2 (.inl h2)⟩
  ·exact .inr ⟨i,by rw [CW z,h],(d i).2 (.inr rfl)⟩
 ·rintro (h | ⟨j,h1,h2⟩)
  ·exact .inl (.inl h)
  ·rcases (d j).1 h2 with D | rfl
   ·exact .inl (.inr ⟨j,h1,D⟩)
   ·rw [CW z] at h1;injection h1 with h1;exact .inr h1.symm
theorem mem_all {us:List Int} {n x:Int} (h:∀i,i<us.length->seen.contains i=true):(x=n\/∃j,us[j]?=some x/\seen.contains j=true)↔(x=n\/x∈us):=by
 constructor
 ·rintro (h1 | ⟨j,h1,_⟩)
  ·exact .inl h1
  ·exact .inr (List.mem_of_getElem? h1)
 ·rintro (h1 | h1)
  ·exact .inl h1
  ·obtain ⟨j,d,rfl⟩:=DC h1;exact .inr ⟨j,CW d,h j d⟩
structure RW (w W:World) (m:MZ) (ch:List Int) (vsp:List Value) (f u t:Value) (gs gm:Nat) (v1 v2:Value) (us2:List Int) (r gu:Nat) (us:List Int) (n:Int) (seen:Array Nat) (c0:Nat):Prop where
 wo:WO w W m ch vsp f u t gs gm v1 v2 us2
 it:IterIs W r gu us.length seen c0
 hr:w.heap.size<=r
 hc:us.length<=c0
 old:zv W gu us
 mem:∀x,x∈us2↔x=n\/∃i,us[i]?=some x/\seen.contains i=true
theorem RW.step {w W:World} {m:MZ} {ch us us2:List Int} {vsp:List Value} {f u t v1 v2:Value} {gs gm:Nat} {n:Int} (h:RW w W m ch vsp f u t gs gm v1 v2 us2 r gu us n seen c0) (G:gu<w.heap.size) (E:w1=W\/w1=W.drew):
  WO w (setBlock w1 r (.mapIter (some gu) us.length (seen.push i) us.length)) m ch vsp f u t gs gm v1 v2 us2/\IterIs (setBlock w1 r (.mapIter (some gu) us.length (seen.push i) us.length)) r gu us.length (seen.push i) us.length/\zv (setBlock w1 r (.mapIter (some gu) us.length (seen.push i) us.length)) gu us:=by
 have D:W.grownBy (setBlock w1 r (.mapIter (some gu) us.length (seen.push i) us.length)) (some r):=grown_iter E;have h1:w1.heap=W.heap:=by rcases E with rfl | rfl <;> rfl
 have z:∀(k:Nat) (o:Obj),W.heap[k]?=some o->(∀a b c d,o≠.mapIter a b c d)->k≠r:=fun k o I J=>iter_ne h.it I J
 refine ⟨⟨AG h.wo.ext D h.wo.ext.size h.hr,h.wo.hs,h.wo.hm,?_,World.ownsRow.kept h.wo.ch D (own_iter_ne h.wo.ch h.it),World.ownsRow.kept h.wo.ps D (own_iter_ne h.wo.ps h.it),?_⟩,?_,?_⟩
 ·exact (D.block gs (zb h.wo.blk) (fun e=>by injection e with e;exact z _ _ h.wo.blk (fun _ _ _ _ h=>by cases h) e)).trans h.wo.blk
 ·exact (D.block gm (zb h.wo.set) (fun e=>by injection e with e;exact z _ _ h.wo.set (fun _ _ _ _ h=>by cases h) e)).trans h.wo.set
 ·exact setBlock_same _ (by rw [h1];exact zb h.it)
 ·exact (D.block gu (zb h.old) (fun e=>by injection e with e;exact z _ _ h.old (fun _ _ _ _ h=>by cases h) e)).trans h.old
end
theorem paths_app {W W3:World} (z:∀(i:Nat) (x:List Int),ps[i]?=some x->∃u,vs[i]?=some u/\zk W ok2 u x) (E:vs.length=ps.length) (D:zK ok2 W W3):
  ∀(i:Nat) (x:List Int),(ps++[[]])[i]?=some x->∃u,(vs++[.slice none 0 0])[i]?=some u/\zk W3 ok2 u x:=by
 intro i x d;by_cases h:i<ps.length
 ·rw [Dd h] at d;obtain ⟨u,I,G⟩:=z i x d;exact ⟨u,by rw [Dd (by omega)];exact I,G.keep D⟩
 ·rw [De (by omega)] at d
  have h0:i - ps.length=0:=by
   rcases DG (i - ps.length) with h | h
   ·exact h
   ·rw [Dr (by simp;omega)] at d;cases d
  rw [h0] at d;have:x=[]:=by simpa using d.symm
  subst this;exact ⟨_,by rw [De (by omega),E,h0];rfl,zk.nil _ _⟩
theorem row_nil1 {W:World} (h:W.cell? ⟨g,0,none⟩=some (.slice none 0 0)) (z:ok g):Ay W ok 1 (.slice (some ⟨g,0,none⟩) 1 1) [Value.slice none 0 0].length [.slice none 0 0]:=
 ⟨some ⟨g,0,none⟩,1,rfl,CY _,rfl,fun _=>⟨g,0,rfl,z,fun j u d=>by
  match j,d with
  | 0,d=>
   have:u=.slice none 0 0:=by simpa using d.symm
   subst this;exact h⟩⟩
theorem Bl {W:World} {t e:TypeId} {B:Nat} {v:Value} {n:Nat} (h:ze W g t cs) (z:W.ownsRow B e 1 v n xs) (d:e≠t):v.ownBlock≠some g:=AY z h d
theorem WO.app {w W W2:World} {m:MZ} {ch us:List Int} {vs':List Value} {f u t v1 v2 v2':Value} {gs gm:Nat} (h:WO w W m ch vs f u t gs gm v1 v2 us) (I:OwnL W2 w.heap.size v2' vs') (z:W.grownBy W2 v2.ownBlock):
  WO w (W2.setCell ⟨gs,7,none⟩ v2') m ch vs' f u t gs gm v1 v2' us:=by
 have D:gs<W.heap.size:=zb h.blk;have E:some gs≠v2.ownBlock:=fun e=>Bl h.blk h.ps (by decide) e.symm
 have d:ze W2 gs 97 (stCells m f u t v1 v2 gm):=(z.block gs D E).trans h.blk;have G:zT W2 w.heap.size v1 ch:=World.ownsRow.kept h.ch z (own_ne h.ch h.ps (by decide))
 have J:zv W2 gm us:=(z.block gm (zb h.set) (fun e=>by
  rcases Av h.ps h.set with h | h
  ·rw [h] at e;cases e
  ·exact h e.symm)).trans h.set
 exact ⟨(h.ext.grown z h.ext.size (fun k K=>(World.ownsRow.lt h.ps k K).1)).setCell h.hs _,h.hs,h.hm,d.set v2',ownsRow_setCell_other G (Bl d G (by decide)) _,ownsRow_setCell_other I (Bl d I (by decide)) _,
  (Di W2 _ _ gm (fun e=>blk_set_ne d J e.symm)).trans J⟩
theorem WO.st2 {w W:World} {m:MZ} {ch us:List Int} {f u t v1 v2:Value} {gs gm:Nat} (hm:zL w ok (.agg #[.int .i64 m.w,.int .i64 m.h,.int .i64 m.l,f,u,t]) m) (h:WO w W m ch vs f u t gs gm v1 v2 us) (D:vs.length=ps.length)
  (d:∀(i:Nat) (x:List Int),ps[i]?=some x->∃u,vs[i]?=some u/\zk W ok2 u x) (z:∀b,ok2 b->ok b\/w.heap.size<=b):AQ W (fun b=>ok b\/w.heap.size<=b) gs m ch ps us f u t v1 v2 gm:=
 AQ.make h.ext hm (fun _ h=>.inl h) h.blk (.inr h.hs) ((Ay.of_own h.ch).weaken (fun _ h=>.inr h)) ⟨vs,by rw [<-D];exact (Ay.of_own h.ps).weaken (fun _ h=>.inr h),fun i x I=>by
  obtain ⟨u,G,E⟩:=d i x I;exact ⟨u,G,E.weaken z⟩⟩ (.inr h.hm) h.set
def addN (ps:List (List Int)) (n:Int):List (List Int):=ps.set (ps.length - 1) (ps.getD (ps.length - 1) []++[n])
def AK (m:MZ) (ps:List (List Int)) (n:Int):List (List Int):=if finB m (addN ps n)=true/\ps.length<m.tasks.length then addN ps n++[[]] else addN ps n
theorem ints_setCell {W:World} {v:Value} {b k:Nat} (h:zk W ok v l) (d:¬ ok b):zk (W.setCell ⟨b,k,none⟩ x) ok v l:=
 h.keep (fun g z _=>Di W ⟨b,k,none⟩ x g (fun e=>d (by rw [<-show g=b from e];exact z)))
theorem paths_set {w wt W9:World} {m:MZ} {ch us:List Int} {f u t v1 x15:Value} {gs gm b2 k:Nat} {q:List Int}
  (K:∀(i:Nat) (x:List Int),ps[i]?=some x->∃u,vs[i]?=some u/\zk w ok u x) (hl:vs.length=ps.length) (I:WO w wt m ch vs f u t gs gm v1 (.slice (some ⟨b2,0,none⟩) vs.length c) us) (V:za wt W9) (a0:w.heap.size<=b2) (J:b2<wt.heap.size) (hk:k<vs.length)
  (hx:zk W9 (fun b=>wt.heap.size<=b) x15 q):
  ∀(i:Nat) (x:List Int),(ps.set k q)[i]?=some x->∃u,(vs.set k x15)[i]?=some u/\zk (W9.setCell ⟨b2,k,none⟩ x15) (fun b=>(ok b/\b<w.heap.size)\/wt.heap.size<=b) u x:=by
 intro i x D;by_cases z:k=i
 ·subst z;rw [List.getElem?_set_self (by omega)] at D;injection D with D;subst D;refine ⟨x15,by rw [List.getElem?_set_self hk],(ints_setCell hx (by omega)).weaken (fun b E=>.inr E)⟩
 ·rw [List.getElem?_set_ne z] at D;obtain ⟨u',Q,hr⟩:=K i x D;refine ⟨u',by rw [List.getElem?_set_ne z];exact Q,?_⟩
  have O:zk w (fun b=>ok b/\b<w.heap.size) u' x:=by
   obtain ⟨A,c',e,hc,L,d⟩:=hr;refine ⟨A,c',e,hc,L,fun U=>?_⟩;obtain ⟨b,off,e',E,G⟩:=d U
   have M:b<w.heap.size:=by
    have h0:0<(x.map (Value.int .i64)).length:=by simpa using U
    exact zA (G 0 _ (CW h0))
   exact ⟨b,off,e',⟨E,M⟩,G⟩
  exact ((ints_setCell (O.below (I.ext.trans V)) (by omega)).weaken (fun b E=>.inl E))
structure J7 (wk:World) (b2 k:Nat) (p:List Int) (n:Int) (up:Value) (e:Nat->Bool) (v:Nat->Value) (W:World):Prop where
 ext:e 17=false->za wk W
 l:e 11=true->v 11=up
 c:e 12=true->e 15=false->zT W wk.heap.size (v 12) p
 b:e 14=true->e 15=false->∃g,v 14=.slice (some ⟨g,0,none⟩) 1 1/\W.cell? ⟨g,0,none⟩=some (.int .i64 n)
 ap:e 15=true->e 17=false->zT W wk.heap.size (v 15) (p++[n])
 ix:e 16=true->v 16=.pointer (some ⟨b2,k,none⟩)
 st:e 17=true->∃W9,za wk W9/\zT W9 wk.heap.size (v 15) (p++[n])/\W=W9.setCell ⟨b2,k,none⟩ (v 15)
 d12:e 12=true->e 11=true
 d15:e 15=true->e 12=true/\e 14=true
 d17:e 17=true->e 15=true/\e 16=true
section
variable {wk W W':World} {b2 k:Nat} {p:List Int} {n:Int} {up:Value} {e:Nat->Bool} {v:Nat->Value}
theorem J7.init (he:∀j∈[11,12,14,15,16,17],e j=false):J7 wk b2 k p n up e v wk.drew:=
 ⟨fun _=>Cu,fun a=>ff (he 11 (by simp)) a,fun a=>ff (he 12 (by simp)) a,fun a=>ff (he 14 (by simp)) a,fun a=>ff (he 15 (by simp)) a,fun a=>ff (he 16 (by simp)) a,fun a=>ff (he 17 (by simp)) a,fun a=>ff (he 12 (by simp)) a,fun a=>ff (he 15 (by simp)) a,fun a=>ff (he 17 (by simp)) a⟩
theorem J7.n15 (h:J7 wk b2 k p n up e v W) (d:e 12=false):e 15=false:=notT (fun a=>(h.d15 a).1) d
theorem J7.n15' (h:J7 wk b2 k p n up e v W) (d:e 14=false):e 15=false:=notT (fun a=>(h.d15 a).2) d
theorem J7.n12 (h:J7 wk b2 k p n up e v W) (d:e 11=false):e 12=false:=notT h.d12 d
theorem J7.n17 (h:J7 wk b2 k p n up e v W) (d:e 15=false):e 17=false:=notT (fun a=>(h.d17 a).1) d
theorem J7.s11 (h:J7 wk b2 k p n up e v W):J7 wk b2 k p n up (Ba e 11 true) (Ba v 11 up) W:=
 ⟨h.ext,fun _=>rfl,h.c,h.b,h.ap,h.ix,h.st,fun _=>rfl,h.d15,h.d17⟩
theorem J7.s12 (h:J7 wk b2 k p n up e v W) (D:e 17=false) (d:e 15=false) (z:e 11=true) (E:za W W') (G:zT W' wk.heap.size x p):J7 wk b2 k p n up (Ba e 12 true) (Ba v 12 x) W':=
 ⟨fun a=>(h.ext a).trans E,h.l,fun _ _=>G,fun a b=>(by obtain ⟨g,h1,h2⟩:=h.b a b;exact ⟨g,h1,E.cell h2⟩),fun a=>ff d a,h.ix,fun a=>ff D a,fun _=>z,fun a=>ff d a,h.d17⟩
theorem J7.s14 (h:J7 wk b2 k p n up e v W) (z:e 17=false) (d:e 15=false) (D:za W W') (E:W'.cell? ⟨g,0,none⟩=some (.int .i64 n)):J7 wk b2 k p n up (Ba e 14 true) (Ba v 14 (.slice (some ⟨g,0,none⟩) 1 1)) W':=
 ⟨fun a=>(h.ext a).trans D,h.l,fun a b=>(h.c a b).ext D,fun _ _=>⟨g,rfl,E⟩,fun a=>ff d a,h.ix,fun a=>ff z a,h.d12,fun a=>ff d a,h.d17⟩
theorem J7.s15 (h:J7 wk b2 k p n up e v W) (D:e 17=false) (d:e 12=true) (z:e 14=true) (E:za wk W') (G:zT W' wk.heap.size x (p++[n])):J7 wk b2 k p n up (Ba e 15 true) (Ba v 15 x) W':=
 ⟨fun _=>E,h.l,fun _ a=>(by cases a),fun _ a=>(by cases a),fun _ _=>G,h.ix,fun a=>ff D a,h.d12,fun _=>⟨d,z⟩,fun a=>⟨rfl,(h.d17 a).2⟩⟩
theorem J7.s16 (h:J7 wk b2 k p n up e v W):J7 wk b2 k p n up (Ba e 16 true) (Ba v 16 (.pointer (some ⟨b2,k,none⟩))) W:=
 ⟨h.ext,h.l,h.c,h.b,h.ap,fun _=>rfl,h.st,h.d12,h.d15,fun a=>⟨(h.d17 a).1,rfl⟩⟩
theorem J7.s17 (h:J7 wk b2 k p n up e v W) (z:e 17=false) (d:e 15=true) (D:e 16=true) (hW:W'=W.setCell ⟨b2,k,none⟩ (v 15)):J7 wk b2 k p n up (Ba e 17 true) (Ba v 17 x) W':=
 ⟨fun a=>(by cases a),h.l,fun _ a=>ff (b:=e 15) a d,fun _ a=>ff (b:=e 15) a d,fun _ a=>(by cases a),h.ix,fun _=>⟨W,h.ext z,h.ap d z,hW⟩,h.d12,h.d15,fun _=>⟨d,D⟩⟩
theorem WO.store {w:World} {m:MZ} {ch us:List Int} {vsp:List Value} {f u t v1:Value} {gs gm:Nat} (h:WO w W m ch vsp f u t gs gm v1 (.slice (some ⟨b2,0,none⟩) vsp.length c) us) (z:w.heap.size<=b2):
  WO w (W.setCell ⟨b2,k,none⟩ x) m ch (vsp.set k x) f u t gs gm v1 (.slice (some ⟨b2,0,none⟩) vsp.length c) us:=by
 have h2:OwnL (W.setCell ⟨b2,k,none⟩ x) w.heap.size (.slice (some ⟨b2,0,none⟩) vsp.length c) (vsp.set k x):=by
  have:=(World.ownsRow.stored h.ps k x).1;unfold OwnL;rw [List.length_set];exact this
 have d:=(World.ownsRow.stored h.ps k x).2;have D:v1.ownBlock=none\/v1.ownBlock≠some b2:=own_ne h.ch h.ps (by decide);have E:b2≠gs:=fun e=>Bl h.blk h.ps (by decide) (by rw [<-e];rfl)
 have G:b2≠gm:=fun e=>by
  rcases Av h.ps h.set with h | h
  ·cases h
  ·exact h (by rw [<-e];rfl)
 exact ⟨AG h.ext d h.ext.size z,h.hs,h.hm,(d.block gs (zb h.blk) (fun e=>by injection e with e;exact E e.symm)).trans h.blk,World.ownsRow.kept h.ch d D,h2,(d.block gm (zb h.set) (fun e=>by injection e with e;exact G e.symm)).trans h.set⟩
end
theorem with_calls {m:MZ} {ch us:List Int} {f u ts:Value} (n:Int) (w:World) (h:AQ w ok g m ch ps us f u ts vc vp gu) (so:SOk m ch ps) (so1:SOk m (ch++[n]) (addN ps n)) (hp:0<ps.length):
  Calls Tryz.prog 92 #[.pointer (some ⟨g,0,none⟩),.int .i64 n] w fun e w'=>∃v',e=.returned v'/\za w w'/\∃us',(∀x,x∈us'↔x=n\/x∈us)/\BO w' (fun b=>ok b\/w.heap.size<=b) v' m (ch++[n]) (AK m ps n) us':=by
 obtain ⟨r0,r1,r2,r3,r4,r5,r6,r7,r8⟩:=h.rules;have n1:=h.ps;have o9:=h.ch;have m8:=h.maze;obtain ⟨fr',up',ts',a9,_,_,n4⟩:=m8;injection a9 with a9;injection a9 with a9;simp only [List.cons.injEq,and_true,true_and] at a9;obtain ⟨rfl,rfl,rfl⟩:=a9;obtain ⟨vst,⟨At,ct,rfl,p3,_⟩,_⟩:=n4;have SO1:=zh so1;clear so1;have HS:=zh h;clear h;have so_pl:ps.length<=6:=Da so.pl so.good.tk;have SO:=zh so;clear so;obtain ⟨vs,a7,g8⟩:=n1
 have i1:vs.length=ps.length:=by
  obtain ⟨_,_,_,_,hr⟩:=a7;have:=hr.1;omega
 have h1:∀u∈vs,u.oneCell'=true:=by
  intro u hu;obtain ⟨i,hi,rfl⟩:=DC hu;obtain ⟨u',e8,n2⟩:=g8 i _ (CW (by omega:i<ps.length));rw [CW hi] at e8;injection e8 with e8;rw [e8];exact ints_oneCell n2
 rw [<-i1] at a7;have o4:vs.length<=6:=by have:=so_pl;omega
 have H1:=zh h1;clear h1;have U:=zh i1;clear i1;have i5:=zh a7;clear a7;have f7:=zh g8;clear g8;have p6:=@run_makeMap Tryz.prog;have hx:=za.refl w
 go_enter Tryz.func92,Tryz.ntmps92
 go_wp2_with fail
 refine Dp (S:=(fun w'=>za w w')) (by kernel_rfl) (Cu) fun zH=>?_;refine zj 0 zH ?_;refine zj 1 zH ?_;simp only [zc,CV];refine zj 2 zH ?_;refine zj 3 zH ?_;simp only [zc,CV];refine zj 4 zH ?_;refine zj 5 zH ?_;simp only [zc,CV];refine zj 6 zH ?_;refine zj 7 zH ?_;simp only [zc,CV];refine zj 9 zH ?_;refine zj 12 zH ?_;simp only [zc,CV];refine zj 13 zH ?_;refine zj 14 zH ?_;simp only [zc,CV];refine zj 15 zH ?_;refine zj 18 zH ?_;simp only [zc,CV];refine Bg [8,10,11,16,17,19,20,21,22,23] (fun e v W=>JW w ch n vs m f u (.slice At m.tasks.length ct) e v W) (F:=?F1) (by kernel_rfl) (by kernel_rfl) (by decide) zH (fun v=>?hF1) ?init1 (by kernel_rfl) ?steps1 ?fin1
 case hF1=>(simp only [zN,Bw,List.getElem?_toArray,List.getElem?_cons_succ,List.getElem?_cons_zero,Option.bind,Act.put,List.setIfInBounds_toArray,List.set_cons_succ,List.set_cons_zero];rfl)
 case init1=>
  intro e v he;exact JW.init he
 case steps1=>
  refine zp.cons rfl (fun e v W K d hW he D z=>?_) ?_
  ·simp only [zc] at D z⊢;go_simp;go_at_call 55;refine (cloneI_calls _ (HS.out.ext hW).ch (by have:=SO.out.cl;omega)).mono ?_;rintro e9 w9 ⟨v9,rfl,hM⟩;exact z.out _ v9 _ (by rfl) (hW.trans hM.ext) ((d.keep hM.ext).s8 (d.n11 he) (hM.own.mono hW.size))
  refine zp.cons rfl (fun e v W K d hW he D z=>?_) ?_
  ·simp only [zc] at D z⊢;go_simp;exact z.out _ _ _ (by rfl) (hW.alloc _) ((d.keep ((za.refl W).alloc _)).s10 (zU _ _ _ rfl))
  refine zp.cons rfl (fun e v W K d hW he D z=>?_) ?_
  ·simp only [zc] at D z⊢;have h8:e 8=true:=Ah D [8] (by kernel_rfl) 8 (by simp);have l8:e 10=true:=Ah D [10] (by kernel_rfl) 10 (by simp);obtain ⟨gb,k5,j2⟩:=d.b l8 he;rw [if_pos (by rfl)];refine Bh (ok:=fun _=>True) W _ _ (by rfl) w.heap.size ch [n] (v 8) (v 10) (by rfl) (by rfl) (d.c1 h8 he) (by rw [k5];exact ints_one j2) hW.size (by have:=SO.out.cl;simp;omega) ?_;intro v9 w9 ho hg _;exact z.out _ v9 _ (by rfl) (AM hW hg hW.size (fun k hk=>Cm (d.c1 h8 he) hk)) (d.s11 h8 he (d.n21 he) (d.n22 (d.n21 he)) ho hg)
  refine zp.cons rfl (fun e v W K d hW he D z=>?_) ?_
  ·simp only [zc] at D z⊢;go_simp;go_at_call 107;refine (cloneL_calls _ (i5.out.below hW) H1.out (by omega)).mono ?_;rintro e9 w9 ⟨v9,rfl,V,hO⟩;exact z.out _ v9 _ (by rfl) (hW.trans V) ((d.keep V).s16 (d.n21' he) (d.n22 (d.n21' he)) (hO.mono hW.size))
  refine zp.cons rfl (fun e v W K d hW he D z=>?_) ?_
  ·simp only [zc] at D z⊢;go_simp;exact z.out _ _ _ (by rfl) (hW.alloc _) ((d.keep ((za.refl W).alloc _)).s17 (d.n19 he) (d.n20 (d.n19 he)) hW.size (zv.new _))
  refine zp.cons rfl (fun e v W K d hW he D z=>?_) ?_
  ·simp only [zc] at D z⊢;have J:e 17=true:=Ah D [17] (by kernel_rfl) 17 (by simp);obtain ⟨gm,G,g9,hset⟩:=d.mm J;rw [he] at hset;obtain ⟨w9,f6,d6,b0⟩:=run_add hset n 95 Tryz.underlying95;have n3:(Instr.mapUpdate 95 (v 17) (.int .i64 n) (.bool true)).run Tryz.prog W=.ok () w9:=by rw [G];exact f6
   have HJ:=zh (d.s19 (x:=undef) J G hset (d.n22 (d.n21'' (d.n20 he))) (by have:=d6;rwa [ins_new (by simp)] at this) b0 g9);clear f6 d6 hset G;go_simp;exact z.out _ undef _ (by rfl) HJ.out.ext HJ.out
  refine zp.cons rfl (fun e v W K d hW he D z=>?_) ?_
  ·simp only [zc] at D z⊢;have l9:e 19=true:=Ah D [19] (by kernel_rfl) 19 (by simp);go_simp;exact z.out _ (v 17) _ (by rfl) hW (d.s20 l9 (d.n21'' he) (d.n22 (d.n21'' he)))
  refine zp.cons rfl (fun e v W K d hW he D z=>?_) ?_
  ·simp only [zc] at D z⊢;have b5:e 11=true:=Ah D [11] (by kernel_rfl) 11 (by simp);have b6:e 16=true:=Ah D [16] (by kernel_rfl) 16 (by simp);have g1:e 20=true:=Ah D [20] (by kernel_rfl) 20 (by simp);obtain ⟨A1,c1,d7,_⟩:=Az (d.ap b5);obtain ⟨A2,c2,d9,_⟩:=Ay.of_own (d.c2 b6);have J:=d.d19 (d.d20 g1);obtain ⟨gm,G,_,_⟩:=d.mm J;have a8:=(d.mv g1).trans G;clear G;go_simp;exact z.out _ (.agg #[.int .i64 m.w,.int .i64 m.h,.int .i64 m.l,f,u,.slice At m.tasks.length ct,v 11,v 16,v 20]) _ (by simp [Act.put,d7,d9,a8]) hW (d.s21 ⟨b5,b6,g1⟩ rfl)
  refine zp.cons rfl (fun e v W K d hW he D z=>?_) ?_
  ·simp only [zc] at D z⊢;have i7:e 21=true:=Ah D [21] (by kernel_rfl) 21 (by simp);have k7:=d.bd i7;go_simp;exact z.out _ _ _ (by simp [Act.put,k7]) (hW.alloc _) ((d.keep ((za.refl W).alloc _)).s22 i7 (d.n23 he) hW.size (ze.new _ _ _ rfl))
  refine zp.cons rfl (fun e v W K d hW he D z=>?_) ?_
  ·simp only [zc] at D z⊢;have m0:e 22=true:=Ah D [22] (by kernel_rfl) 22 (by simp);go_simp;exact z.out _ (v 22) _ (by rfl) hW (d.s23 m0)
  exact zp.nil
 case fin1=>
  intro v W d hW;have e1:=d.fin rfl;obtain ⟨gs,e0,m6,d4⟩:=d.bx rfl;obtain ⟨gm,G,g9,hset⟩:=d.mm rfl;have a8:=(d.mv rfl).trans G;have e2:=e1.trans e0;rw [a8] at d4;have E:Hid (WO w W m (ch++[n]) vs f u (.slice At m.tasks.length ct) gs gm (v 11) (v 16) [n]):=⟨d.ext,m6,g9,d4,d.ap rfl,d.c2 rfl,by simpa using hset⟩;generalize v 11=v1 at*;generalize v 16=v2 at*;rw [e2,e0];clear d d4 hset a8 G e0 e1 e2;have q3:=run_range_map (P:=Tryz.prog) W 95 3 4 gu _ us.length Tryz.underlying95 ((HS.out.ext hW).us);have j0:Hid (RW w (W.alloc (.mapIter (some gu) us.length #[] us.length)) m (ch++[n]) vs f u (.slice At m.tasks.length ct) gs gm v1 v2 [n] W.heap.size gu us n #[] us.length):=⟨E.out.keep ((za.refl W).alloc _),DI _ _,hW.size,CY _,((HS.out.ext hW).us).below ((za.refl W).alloc _),fun x=>by simp⟩;have m7:gu<w.heap.size:=zb HS.out.us;have p9:=r8 W hW
  go_wp2_with fail
  generalize W.heap.size=r at*
  go_loopg [6] (leftN us.length #[]) (fun gk s6 wr=>∃us2 seen c0,gk=leftN us.length seen/\Hid (RW w wr m (ch++[n]) vs f u (.slice At m.tasks.length ct) gs gm v1 v2 us2 r gu us n seen c0))
  case atStart=>exact ⟨[n],#[],us.length,rfl,j0⟩
  clear j0
  case round=>
   obtain ⟨us2,seen,c0,rfl,hR⟩:=hrel;rcases set_next (P:=Tryz.prog) hR.out.old hR.out.it hR.out.hc with ⟨f4,h9⟩ | ⟨i,hi,m9,w1,g5,h9,m5⟩
   ·have d5:Hid (∀x,x∈us2↔x=n\/x∈us):=fun x=>by rw [hR.out.mem];exact mem_all f4
    have E:=zh hR.out.wo;have a1:=zh (WO.st HS.out f7.out hR.out.wo U.out);have b1:=hR.out.wo.ext
    go_wp2_with fail
    clear hR f4 h9;obtain ⟨wk,rfl⟩:∃wk:World,wk=wr:=⟨_,rfl⟩;refine (BZ _ a1.out (by omega)).mono ?_;rintro e wt ⟨O,e4⟩;have e4:za wk wt:=e4 ▸ za.refl _;obtain ⟨k,hk⟩:∃k,ps.length=k+1:=⟨ps.length - 1,by omega⟩;have j8:(ps.length:Int) - 1=(k:Int):=by omega
    rw [j8] at O;subst O;have E:=zh (E.out.keep e4);have b1:=E.out.ext;clear a1 e4 j8;have h6:k<ps.length:=by omega
    obtain ⟨up,k4,h5⟩:=f7.out k _ (CW h6);obtain ⟨p,e7⟩:=DX (ps[k]);rw [<-e7] at h5;have p7:p.length<=1000:=by rw [e7];exact SO.out.pp _ (CZ h6)
    have l5:=zh e7;clear e7;have l6:=zh h5;clear h5;have l0:vs.length=k+1:=by have:=U.out;omega
    obtain ⟨b2,cp2,n5,g6,a2⟩:=World.ownsRow.form E.out.ps (by omega);subst n5;have j4:wt.cell? ⟨b2,k,none⟩=some up:=by rw [World.ownsRow.cellAt E.out.ps k (by omega)];exact k4
    have hfz:wt.frozen? ⟨b2,k,none⟩=false:=World.ownsRow.frozenAt E.out.ps k;have rup:=za.rule j4;have a5:wt.cell? ⟨gs,7,none⟩=some (.slice (some ⟨b2,0,none⟩) vs.length cp2):=E.out.blk.cell rfl;have e6:gs<wt.heap.size:=zb E.out.blk;have j6:gs≠b2:=fun e=>Bl E.out.blk E.out.ps (by decide) (by rw [e];rfl)
    have l7:=zh l0;have o3:(k:Int)<(vs.length:Int):=by omega
    have o2:(0:Int)<=(k:Int):=by omega
    have o0:=own_capL E.out.ps;clear j4 k4 hk l0
    go_wp2_with fail
    refine Dp (S:=(fun W=>za w W/\W.cell? ⟨gs,7,none⟩=some (.slice (some ⟨b2,0,none⟩) vs.length cp2))) (by kernel_rfl) (⟨b1.drew,a5⟩) fun zH=>?_;refine zj 0 zH ?_;refine zj 1 zH ?_;simp only [zc,CV];refine zj 2 zH ?_;refine zj 3 zH ?_;simp only [zc,CV];refine zj 4 zH ?_;refine zj 5 zH ?_;simp only [zc,CV];refine zj 6 zH ?_;refine zj 7 zH ?_;simp only [zc,CV];refine zj 8 zH ?_;refine zj 9 zH ?_;simp only [zc,CV];refine zj 10 zH ?_;refine zj 13 zH ?_;simp only [zc,CV];refine Bg [11,12,14,15,16,17] (fun e v W=>J7 wt b2 k p n up e v W) (F:=?F16) (by kernel_rfl) (by kernel_rfl) (by decide) zH (fun v=>?hF16) ?init16 (by kernel_rfl) ?steps16 ?fin16
    case hF16=>(simp only [zN,Bw,List.getElem?_toArray,List.getElem?_cons_succ,List.getElem?_cons_zero,Option.bind,Act.put,List.setIfInBounds_toArray,List.set_cons_succ,List.set_cons_zero];rfl)
    case init16=>
     intro e v he;exact J7.init he
    case steps16=>
     refine zp.cons rfl (fun e v W K d hW he D z=>?_) ?_
     ·simp only [zc] at D z⊢;have V:=d.ext (d.n17 (d.n15 (d.n12 he)));have m3:=rup W V;go_simp;exact z.out _ up _ (by rfl) hW (d.s11)
     refine zp.cons rfl (fun e v W K d hW he D z=>?_) ?_
     ·simp only [zc] at D z⊢;have b5:e 11=true:=Ah D [11] (by kernel_rfl) 11 (by simp);have M:=d.n15 he;have J:=d.n17 M;have V:=d.ext J;have d7:=d.l b5;go_simp;go_at_call 55;refine (cloneI_calls _ (l6.out.below (b1.trans V)) (by omega)).mono ?_;rintro e9 w9 ⟨v9,rfl,hM⟩;exact z.out _ v9 _ (by simp [Act.put,d7]) ⟨hW.1.trans hM.ext,hM.ext.cell hW.2⟩ (d.s12 J M b5 hM.ext (hM.own.mono V.size))
     refine zp.cons rfl (fun e v W K d hW he D z=>?_) ?_
     ·simp only [zc] at D z⊢;have M:=d.n15' he;have J:=d.n17 M;go_simp;exact z.out _ _ _ (by rfl) ⟨hW.1.alloc _,((za.refl W).alloc _).cell hW.2⟩ (d.s14 J M ((za.refl W).alloc _) (zU _ _ _ rfl))
     refine zp.cons rfl (fun e v W K d hW he D z=>?_) ?_
     ·simp only [zc] at D z⊢;have g0:e 12=true:=Ah D [12] (by kernel_rfl) 12 (by simp);have i6:e 14=true:=Ah D [14] (by kernel_rfl) 14 (by simp);have J:=d.n17 he;obtain ⟨gb,k6,j3⟩:=d.b i6 he;have V:=d.ext J;rw [if_pos (by rfl)];refine Bh (ok:=fun _=>True) W _ _ (by rfl) wt.heap.size p [n] (v 12) (v 14) (by rfl) (by rfl) (d.c g0 he) (by rw [k6];exact ints_one j3) V.size (by simp;omega) ?_;intro v9 w9 ho hg _;have a0:za wt w9:=AM V hg V.size (fun k hk=>Cm (d.c g0 he) hk);exact z.out _ v9 _ (by rfl) ⟨b1.trans a0,a0.cell a5⟩ (d.s15 J g0 i6 a0 ho)
     refine zp.cons rfl (fun e v W K d hW he D z=>?_) ?_
     ·simp only [zc] at D z⊢;go_simp;exact z.out _ _ _ (by rfl) hW d.s16
     refine zp.cons rfl (fun e v W K d hW he D z=>?_) ?_
     ·simp only [zc] at D z⊢;have M:e 15=true:=Ah D [15] (by kernel_rfl) 15 (by simp);have b6:e 16=true:=Ah D [16] (by kernel_rfl) 16 (by simp);have V:=d.ext he;have i8:=d.ap M he;obtain ⟨A9,c9,d8,_⟩:=Az i8;rw [show (p++[n]).length=p.length+1 from by simp] at d8;have d9:=d.ix b6;have m3:=rup W V;have p5:W.frozen? ⟨b2,k,none⟩=false:=(V.frozen (p:=⟨b2,k,none⟩) a2).trans hfz;have HJ:=zh (d.s17 (x:=undef) he M b6 rfl);have HE:=zh (show za w (W.setCell ⟨b2,k,none⟩ (v 15))/\(W.setCell ⟨b2,k,none⟩ (v 15)).cell? ⟨gs,7,none⟩=some (.slice (some ⟨b2,0,none⟩) vs.length cp2) from ⟨(b1.trans V).setCell g6 _,(World.cell?_of_block (w:=W) (Di W _ _ gs (fun e=>j6 e))).trans hW.2⟩);rw [d8] at HJ HE;go_simp;exact z.out _ undef _ (by simp [Act.put,d8,d9]) HE.out HJ.out
     exact zp.nil
    case fin16=>
     intro v W d hW;obtain ⟨W9,a0,i9,g4⟩:=d.st rfl;generalize v 15=x15 at*;have c7:=zh ((E.out.keep a0).store (k:=k) (x:=x15) g6);have b7:Hid (∀(i:Nat) (x:List Int),(ps.set k (p++[n]))[i]?=some x->∃u,(vs.set k x15)[i]?=some u/\zk W (fun b=>(ok b/\b<w.heap.size)\/wt.heap.size<=b) u x):=by rw [g4];exact paths_set f7.out U.out E.out a0 g6 a2 (by omega) (Ay.of_own i9)
     rw [<-g4] at c7;clear d i9 g4 E a5 rup a0;have E:=c7;clear c7;have c8:addN ps n=ps.set k (p++[n]):=by unfold addN;rw [show ps.length - 1=k from by have:=U.out;have:=l7.out;omega,l5.out];simp [h6]
     rw [<-c8] at b7;have n8:=zh c8;clear c8;have e3:Hid ((vs.set k x15).length=(addN ps n).length):=by have:=U.out;show _=_;unfold addN;simp;omega
     have l1:Hid ((vs.set k x15).length=vs.length):=by show _=_;simp
     have g5:Hid ((addN ps n).length=ps.length):=by show _=_;unfold addN;simp
     generalize vs.set k x15=vs1 at*;have f5:Hid (∀b,((ok b/\b<w.heap.size)\/wt.heap.size<=b)->ok b\/w.heap.size<=b):=fun b hb=>by rcases hb with h | h;exact .inl h.1;exact .inr (Da b1.size h)
     have a1:=zh (WO.st2 HS.out.maze E.out e3.out b7.out f5.out);have i2:=E.out.ext;have k9:Hid (b2<wt.heap.size):=a2;have h4:Hid (gs<wt.heap.size):=e6;have f3:0<(addN ps n).length:=by have:=g5.out;omega
     have a5:W.cell? ⟨gs,7,none⟩=some (.slice (some ⟨b2,0,none⟩) vs.length cp2):=E.out.blk.cell rfl;have o1:=r5 W i2;obtain ⟨b,hb⟩:=DX (finB m (addN ps n));have HB:=zh hb;clear hb;have j5:∀q:Nat,Calls Tryz.prog 94 #[.pointer (some ⟨gs,0,none⟩)] (W.drewN q) fun e w'=>e=.returned (.bool b)/\zM (W.drewN q) w':=fun q=>by rw [HB.out];exact CK _ (a1.out.ext ((za.refl W).drewN q)) SO1.out f3
     have f8:=zh j5;clear j5;clear f3
     cases b with
     | false=>
      have Q:AK m ps n=addN ps n:=by unfold AK;rw [if_neg (fun h=>by rw [<-HB.out] at h;cases h.1)]
      have b4:=zh Q;clear Q
      go_wp2_with fail
      go_quiet ((go_at_call 94;refine (f8.out _).mono ?_;rintro e w9 ⟨O,nd,rfl⟩;exact ⟨O,⟨_,World.drewN_drewN _ _ _⟩⟩))
      go_wp2_with fail
      go_ret;exact ⟨_,rfl,i2.drewN _,us2,d5.out,gs,_,_,_,_,_,gm,rfl,by rw [b4.out];exact a1.out.ext ((za.refl W).drewN _)⟩
     | true=>
      by_cases h7:vs.length<m.tasks.length
      ·have Q:AK m ps n=addN ps n++[[]]:=by unfold AK;rw [if_pos ⟨HB.out.symm,by have:=U.out;omega⟩]
       have b4:=zh Q;clear Q;have D:decide ((vs.length:Int)<(m.tasks.length:Int))=true:=Db (by omega)
       go_wp2_with fail
       go_quiet ((go_at_call 94;refine (f8.out _).mono ?_;rintro e w9 ⟨O,nd,rfl⟩;exact ⟨O,⟨_,World.drewN_drewN _ _ _⟩⟩))
       generalize j1:W.drewN nq=W4;have g3:za W W4:=by rw [<-j1];exact (za.refl W).drewN _
       clear j1;have a4:=zh (E.out.keep g3);have I:=zh (a4.out.keep ((za.refl W4).alloc (.cells #[.slice none 0 0] 24)));have q6:=a4.out.ext;have o7:W4.cell? ⟨gs,7,none⟩=some (.slice (some ⟨b2,0,none⟩) vs.length cp2):=a4.out.blk.cell rfl;have n7:w.heap.size<=(W4.alloc (.cells #[.slice none 0 0] 24)).heap.size:=I.out.ext.size;have q5:vs1.length<=6:=by have:=l1.out;omega
       go_wp2_with (at_builtin;refine BF (ok:=fun _=>True) rfl _ _ _ rfl w.heap.size vs1 [.slice none 0 0] _ _ rfl rfl I.out.ps (row_nil1 (g:=W4.heap.size) (zU _ _ _ rfl) trivial) (by simp [Value.oneCell']) n7 (by simp;omega) ?_)
       intro v' w6 i0 e5 _;have b9:=zh (I.out.app i0 e5.out);have g7:ze w6 gs 97 _:=(e5.out.block gs (zb I.out.blk) (fun e=>Bl I.out.blk I.out.ps (by decide) e.symm)).trans I.out.blk;have o8:=g7.cell (k:=7) rfl;have p4:=g7.frozen 7
       have b8:Hid (zK (fun b=>(ok b/\b<w.heap.size)\/wt.heap.size<=b) W (w6.setCell ⟨gs,7,none⟩ v')):=fun b hb h7=>by
        have k3:b≠gs/\b≠b2:=by
         have h1:=E.out.hs;have h2:=h4.out;have h3:=k9.out;rcases hb with h | h <;> omega
        rw [Di w6 ⟨gs,7,none⟩ v' b k3.1,e5.out.block b (Dz h7 (g3.trans ((za.refl W4).alloc _)).size) (fun e=>k3.2 (by have e':some b=some b2:=e;injection e'))];exact (g3.trans ((za.refl W4).alloc (.cells #[.slice none 0 0] 24))).block b h7
       have f0:=zh (paths_app b7.out e3.out b8.out);have f2:=zh (WO.st2 HS.out.maze b9.out (by have:=e3.out;simp;omega) f0.out f5.out);obtain ⟨A6,c6,k8,_⟩:=Ay.of_own i0;subst k8;have j9:(vs1++[Value.slice none 0 0]).length=vs1.length+1:=by simp
       rw [j9] at b9 f2;clear j9;clear i0 e5 g7 b8 f0 I a4 a1
       go_wp2_with fail
       go_ret;exact ⟨_,rfl,b9.out.ext,us2,d5.out,gs,_,_,_,_,_,gm,rfl,by rw [b4.out];exact f2.out⟩
      ·have Q:AK m ps n=addN ps n:=by unfold AK;rw [if_neg (fun h=>by have:=h.2;have:=U.out;omega)]
       have b4:=zh Q;clear Q;have D:decide ((vs.length:Int)<(m.tasks.length:Int))=false:=Dc (by omega)
       go_wp2_with fail
       go_quiet ((go_at_call 94;refine (f8.out _).mono ?_;rintro e w9 ⟨O,nd,rfl⟩;exact ⟨O,⟨_,World.drewN_drewN _ _ _⟩⟩))
       go_wp2_with fail
       go_ret;exact ⟨_,rfl,i2.drewN _,us2,d5.out,gs,_,_,_,_,_,gm,rfl,by rw [b4.out];exact a1.out.ext ((za.refl W).drewN _)⟩
   ·obtain ⟨L,a6,a3⟩:=hR.out.step (i:=i) m7 g5;generalize setBlock w1 r (.mapIter (some gu) us.length (seen.push i) us.length)=W2 at*;have n6:=L.ext;have m4:W2.cell? ⟨gs,8,none⟩=some (.map (some gm)):=L.blk.cell rfl
    go_wp2_with (at_mapUpdate;refine wpSetAdd rfl _ _ _ _ rfl Tryz.underlying95 gm us2 us[i] rfl rfl rfl L.set ?_)
    intro w9 d6 b0;have m2:Hid (RW w w9 m (ch++[n]) vs f u (.slice At m.tasks.length ct) gs gm v1 v2 (ins us2 us[i]) r gu us n (seen.push i) us.length):=⟨L.add d6 b0,(b0.block r (zb a6) (fun e=>by injection e with e;exact iter_ne a6 L.set (fun _ _ _ _ h=>by cases h) e.symm)).trans a6,hR.out.hr,CY _,(b0.block gu (zb a3) (fun e=>by injection e with e;have:=L.hm;omega)).trans a3,fun x=>by rw [mem_ins,hR.out.mem];exact mem_step hi⟩;clear d6 b0 L a6 a3 n6 m4 hR h9 m5
    go_wp2_with fail
    go_roundg (leftN us.length (seen.push i))
    case measure=>exact leftN_step hi m9
    case rel=>exact ⟨_,_,_,rfl,m2⟩
end
end Go.Proofs.YtcnaogdgjkpkmaaGreatDoor
