import Derived.Test.YtjomnbdjajjgfaaGreatDoorWId
import Derived.Shelf.SlGeneric
import Derived.Shelf.SortM.Plain
import Derived.Shelf.SortM.SortNone
import Derived.Shelf.SlicesG.CompactI
import Derived.Shelf.SlicesE.DeleteFunc
import Derived.Ground.SlgmProg
import Derived.Ground.SlgnProg
import Derived.Test.YtjomnbdjajjgfaaGreatDoorRows
import Derived.Lib.OwnBridge
import Derived.Sort.OwnSortedInts
import Derived.Laws.IdiomRangeMap
set_option linter.unusedVariables false
set_option linter.unusedSimpArgs false
set_option maxRecDepth 100000
set_option maxHeartbeats 16000000
namespace Go.Proofs.YtjomnbdjajjgfaaGreatDoor
variable {seen:Array Nat} {ps:List (List Int)} {ch l us:List Int} {m:MZ} {g g1 g2 gu:Nat} {ok:Nat->Prop} {P:Program} {f ts u v vc vp:Value} {w w1:World}
section
open Go.RowKit
attribute [local go_sem ↓] Go.wp_at_zero Go.wp_at_succ
theorem Bd.freeCell {t:Nat} (h:Bd w ok g m ch ps us f u ts vc vp gu) (hfn:∀f∈m.free,(f.length:Int)=m.n) (ht:t<m.free.length) {n:Int} (h0:0<=n) (h1:n<m.n):
  ∃b off c b' off' l c',f=.slice (some ⟨b,off,none⟩) m.free.length c/\w.cell? ⟨b,off+t,none⟩=some (.slice (some ⟨b',off',none⟩) l c')/\n<(l:Int)/\l<=c'/\m.free.length<=c/\w.cell? ⟨b',off'+n.toNat,none⟩=some (.bool (zi m t n)):=by
 obtain ⟨fr',up',ts',he,o,_,_⟩:=h.maze;injection he with he;injection he with he;simp only [List.cons.injEq,and_true,true_and] at he;obtain ⟨rfl,rfl,rfl⟩:=he;obtain ⟨vsf,⟨Af,cf,rfl,I,O⟩,J⟩:=o;obtain ⟨bf,off3,uf,rfl,_,D,E⟩:=AX O J ht ht;have K:=hfn _ (DZ ht);obtain ⟨A4,c4,rfl,G,M⟩:=E;have B:n.toNat<(m.free[t]).length:=by omega
 obtain ⟨b4,off4,rfl,_,d⟩:=Bu M B B;have o:(m.free[t])[n.toNat]=zi m t n:=by simp [zi,ht,B]
 rw [o] at d;exact ⟨bf,off3,cf,b4,off4,_,c4,rfl,D,by omega,G,I,d⟩
theorem cand1_calls (t:Nat) (n:Int) (w:World) (h:Bd w ok g m ch ps us f u ts vc vp gu) (hfn:∀f∈m.free,(f.length:Int)=m.n) (ht:t<m.free.length)
  (K:w.cell? ⟨g1,0,none⟩=some (.pointer (some ⟨g,0,none⟩))) (M:w.cell? ⟨g2,0,none⟩=some (.int .i64 t)) (h0:0<=n) (h1:n<m.n):
  Calls Tryz.prog 200 #[.int .i64 n,.pointer (some ⟨g1,0,none⟩),.pointer (some ⟨g2,0,none⟩)] w fun e w'=>e=.returned (.bool (zi m t n && !decide (n∈us)))/\z8 w w':=by
 obtain ⟨r0,r1,r2,r3,r4,r5,r6,r7,r8⟩:=h.rules;obtain ⟨b,off,c,b',off',l,c',rfl,J,hl,Q,O,B⟩:=h.freeCell hfn ht h0 h1;have E:=h.us;clear h hfn;have hx:=za.refl w;have V:(t:Int)<(m.free.length:Int):=by omega
 have U:(0:Int)<=(t:Int):=by omega
 obtain ⟨fb,D⟩:=Fd (zi m t n);rw [<-D] at B⊢;clear D h1;by_cases o:n∈us
 ·have I:=fun q=>look_t (E.below ((za.refl w).drewN q)) o
  have G:=zh o;clear o;have d:Hid ((fb && !decide (n∈us))=false):=by show _=false;rw [Eb G.out];cases fb <;> rfl
  cases fb with
  | false=>
   go_enter Tryz.func200,Tryz.ntmps200
   go_wp2_with fail
   go_quiet (fail)
   go_wp2;go_ret;exact ⟨zo d.out.symm,(z8.refl w).more _⟩
  | true=>
   go_enter Tryz.func200,Tryz.ntmps200
   go_wp2_with fail
   go_quiet (fail)
   go_wp2;go_ret;exact ⟨zo d.out.symm,(z8.refl w).more _⟩
 ·have I:=fun q=>look_f (E.below ((za.refl w).drewN q)) o
  have G:=zh o;clear o;have d:Hid ((fb && !decide (n∈us))=fb):=by show _=fb;rw [Ec G.out];cases fb <;> rfl
  cases fb with
  | false=>
   go_enter Tryz.func200,Tryz.ntmps200
   go_wp2_with fail
   go_quiet (fail)
   go_wp2;go_ret;exact ⟨zo d.out.symm,(z8.refl w).more _⟩
  | true=>
   go_enter Tryz.func200,Tryz.ntmps200
   go_wp2_with fail
   go_quiet (fail)
   go_wp2;go_ret;exact ⟨zo d.out.symm,(z8.refl w).more _⟩
theorem left11_calls (t:Nat) (n:Int) (w:World) (h:Bd w ok g m ch ps us f u ts vc vp gu) (hfn:∀f∈m.free,(f.length:Int)=m.n) (ht:t<m.free.length)
  (K:w.cell? ⟨g1,0,none⟩=some (.pointer (some ⟨g,0,none⟩))) (M:w.cell? ⟨g2,0,none⟩=some (.int .i64 t)) (h0:0<=n) (h1:n<m.n):
  Calls Tryz.prog 229 #[.int .i64 n,.pointer (some ⟨g1,0,none⟩),.pointer (some ⟨g2,0,none⟩)] w fun e w'=>e=.returned (.bool (!zi m t n || decide (n∈us)))/\z8 w w':=by
 obtain ⟨r0,r1,r2,r3,r4,r5,r6,r7,r8⟩:=h.rules;obtain ⟨b,off,c,b',off',l,c',rfl,J,hl,Q,O,B⟩:=h.freeCell hfn ht h0 h1;have E:=h.us;clear h hfn;have hx:=za.refl w;have V:(t:Int)<(m.free.length:Int):=by omega
 have U:(0:Int)<=(t:Int):=by omega
 obtain ⟨fb,D⟩:=Fd (zi m t n);rw [<-D] at B⊢;clear D h1;by_cases o:n∈us
 ·have I:=fun q=>look_t (E.below ((za.refl w).drewN q)) o
  have G:=zh o;clear o;have d:Hid ((!fb || decide (n∈us))=true):=by show _=true;rw [Eb G.out];cases fb <;> rfl
  cases fb with
  | false=>
   go_enter Tryz.func229,Tryz.ntmps229
   go_wp2_with fail
   go_quiet (fail)
   go_wp2;go_ret;exact ⟨zo d.out.symm,(z8.refl w).more _⟩
  | true=>
   go_enter Tryz.func229,Tryz.ntmps229
   go_wp2_with fail
   go_quiet (fail)
   go_wp2;go_ret;exact ⟨zo d.out.symm,(z8.refl w).more _⟩
 ·have I:=fun q=>look_f (E.below ((za.refl w).drewN q)) o
  have G:=zh o;clear o;have d:Hid ((!fb || decide (n∈us))=!fb):=by show _=!fb;rw [Ec G.out];cases fb <;> rfl
  cases fb with
  | false=>
   go_enter Tryz.func229,Tryz.ntmps229
   go_wp2_with fail
   go_quiet (fail)
   go_wp2;go_ret;exact ⟨zo d.out.symm,(z8.refl w).more _⟩
  | true=>
   go_enter Tryz.func229,Tryz.ntmps229
   go_wp2_with fail
   go_quiet (fail)
   go_wp2;go_ret;exact ⟨zo d.out.symm,(z8.refl w).more _⟩
theorem open1_calls {gs g5:Nat} {s:List Int} (n:Int) (w:World) (d:zF w gs s) (B:w.cell? ⟨g5,0,none⟩=some (.map (some gs))):
  Calls Tryz.prog 207 #[.int .i64 n,.pointer (some ⟨g5,0,none⟩)] w fun e w'=>e=.returned (.bool (decide (n∈s)))/\w=w':=by
 by_cases h:n∈s
 ·have o:=look_t d h;rw [Eb h];clear h d
  go_enter Tryz.func207,Tryz.ntmps207
  go_wp2;go_ret;exact ⟨rfl,rfl⟩
 ·have o:=look_f d h;rw [Ec h];clear h d
  go_enter Tryz.func207,Tryz.ntmps207
  go_wp2;go_ret;exact ⟨rfl,rfl⟩
end
section
open Go.Shelf
def sortA_ren:Go.Shelf.Ren:=⟨fun | 5=>225 | 8=>240 | 7=>239 | 19=>258 | 20=>242 | 10=>249 | 11=>250 | 12=>251 | 13=>252 | 14=>253 | 15=>254 | 16=>255 | 17=>256 | 18=>257 | 30=>267 | 31=>268 | 32=>269 | 33=>270 | 34=>271 | 35=>272 | 40=>279 | n=>n,fun | 23=>23 | 25=>3 | 3=>3 | 32=>226 | 22=>23 | 0=>0 | 44=>268 | 46=>252 | 4=>4 | 36=>273 | 35=>272 | 41=>152 | 5=>5 | 9=>9 | 53=>285 | 57=>289 | 63=>299 | 64=>300 | n=>n,fun | n=>n⟩
theorem sortA:Go.Proofs.SlLaysM.n5 Tryz.prog sortA_ren:=by
 constructor
 all_goals try first | kernel_rfl | (intro _;kernel_rfl)
 exact ⟨Tryz.f225.name,by decide,by kernel_rfl⟩;exact ⟨Tryz.f239.name,by decide,by kernel_rfl⟩;exact ⟨Tryz.f249.name,by decide,by kernel_rfl⟩;exact ⟨Tryz.f250.name,by decide,by kernel_rfl⟩;exact ⟨Tryz.f251.name,by decide,by kernel_rfl⟩;exact ⟨Tryz.f252.name,by decide,by kernel_rfl⟩;exact ⟨Tryz.f253.name,by decide,by kernel_rfl⟩;exact ⟨Tryz.f254.name,by decide,by kernel_rfl⟩;exact ⟨Tryz.f255.name,by decide,by kernel_rfl⟩;exact ⟨Tryz.f256.name,by decide,by kernel_rfl⟩;exact ⟨Tryz.f257.name,by decide,by kernel_rfl⟩;exact ⟨Tryz.f267.name,by decide,by kernel_rfl⟩;exact ⟨Tryz.f270.name,by decide,by kernel_rfl⟩;exact ⟨Tryz.f271.name,by decide,by kernel_rfl⟩;exact ⟨Tryz.f272.name,by decide,by kernel_rfl⟩;exact ⟨Tryz.f279.name,by decide,by kernel_rfl⟩
def compactA_ren:Go.Shelf.Ren:=⟨fun | 43=>201 | n=>n,fun | 22=>23 | 23=>3 | 3=>3 | 4=>4 | 0=>0 | n=>n,fun | n=>n⟩
theorem compactA:Go.Proofs.SlLaysN.n43 Tryz.prog compactA_ren:=by
 constructor
 all_goals try first | kernel_rfl | (intro _;kernel_rfl)
 exact ⟨Tryz.f201.name,by decide,by kernel_rfl⟩
def dfIA_ren:Go.Shelf.Ren:=⟨fun | 10=>228 | 6=>182 | n=>n,fun | 22=>23 | 23=>3 | 25=>141 | 3=>3 | 4=>4 | 0=>0 | n=>n,fun | n=>n⟩
theorem dfIA:Go.Proofs.SlLaysH.n10 Tryz.prog dfIA_ren:=by
 constructor
 all_goals try first | kernel_rfl | (intro _;kernel_rfl)
 exact ⟨Tryz.f182.name,by decide,by kernel_rfl⟩;exact ⟨Tryz.f228.name,by decide,by kernel_rfl⟩
end
section
open Go.RowKit Go.Sort Go.Shelf
theorem holds_own {B cap:Nat} (h:zL w B (.slice (some ⟨g,0,none⟩) l.length cap) l):Holds (Value.int .i64) w g 0 l.toArray:=by
 intro j o;have d:j<l.length:=by simpa using o
 refine ⟨?_,by have:=World.ownsRow.frozenAt h j;simpa using this⟩;have:=World.ownsRow.cellAt h j (by omega);rw [Nat.zero_add,this];simp [getElem!_pos,d]
def Bc (l:List Int):List Int:=l.mergeSort fun x y=>decide (x<=y)
theorem sort_calls (h:Mk w1 w v l) (O:l.length<=1000000000000):Calls Tryz.prog 225 #[v] w fun e w'=>e=.returned (.tuple #[])/\Mk w1 w' v (Bc l):=by
 have d:(Bc l).length=l.length:=by unfold Bc;rw [List.length_mergeSort]
 rcases EJ l.length with h0 | h0
 ·have B:=Ep h0;subst B;obtain ⟨A,c,rfl,_⟩:=h.slice;have o:=AnyM.slices_Sort_int_none sortA A c w;change Calls Tryz.prog 225 _ _ _ at o;refine Calls.mono o ?_;rintro e w' ⟨rfl,rfl⟩;exact ⟨rfl,h.cast (by simp [Bc])⟩
 ·obtain ⟨g,cap,rfl,M,E⟩:=World.ownsRow.form h.own h0;have o:=AnyM.slices_Sort_int sortA g 0 cap l w (holds_own h.own) E (by omega);change Calls Tryz.prog 225 _ _ _ at o;refine Calls.mono o ?_;rintro e w' ⟨rfl,n,os,rfl⟩;refine ⟨rfl,?_,?_⟩
  ·obtain ⟨_,⟨e0,_⟩ | ⟨g',cap',cur,e0,I,D,J,hm,K,ht⟩⟩:=h.own
   ·cases e0
   ·injection e0 with e1 _ e3;injection e1 with e1;injection e1 with e1;subst e1;subst e3;have:=ownsRow_sortedI (n:=n) (os:=os) (w:=w) (ss:=l) (ts:=Bc l) d I D J hm K;unfold zL;rw [d];exact this
  ·exact Below.grown h.ext (grownBy_sortedI _) h.ext.size (fun k G=>by injection G with G;omega)
theorem compact_calls (h:Mk w1 w v l) (I:l.length<=1000000000000):Calls Tryz.prog 201 #[v] w fun e w'=>∃v',e=.returned v'/\Mk w1 w' v' (Lib.compact l):=by
 rcases EJ l.length with h0 | h0
 ·have B:=Ep h0;subst B;obtain ⟨A,c,rfl,_⟩:=h.slice;have d:=AnyG.slices_Compact_int_empty compactA A c w;change Calls Tryz.prog 201 _ _ _ at d;refine Calls.mono d ?_;rintro e w' ⟨rfl,rfl⟩;exact ⟨_,rfl,h⟩
 ·obtain ⟨g,cap,rfl,E,G⟩:=World.ownsRow.form h.own h0;have o:=BE h.own;have d:=AnyG.slices_Compact_int compactA g 0 cap l w (holds_own h.own) (by omega) o;change Calls Tryz.prog 201 _ _ _ at d;refine Calls.mono d ?_;rintro e w' ⟨rfl,q,rfl⟩
  have D:(Lib.compact l).length<=l.length:=by
   unfold Lib.compact Lib.compactUpTo;rw [EI];exact Ea (EB _ _) (by simp)
  refine ⟨_,rfl,?_,?_⟩
  ·have:=Lib.ownsRow_putRow (enc:=Value.int .i64) (q:=q) (k:=(Lib.compact l).length) (ys:=Lib.compact l++List.replicate (l.length - (Lib.compact l).length) 0) h.own (by simp;omega) D;rw [List.take_left'] at this
   ·exact this
   ·rfl
  ·exact Lib.below_putRow h.ext E
theorem values_calls (A:Option Addr) (n c:Nat) (w:World):Calls Tryz.prog 203 #[.slice A n c] w fun e w'=>e=.returned (.func (.func 226) #[] #[.pointer (some ⟨w.heap.size,0,none⟩)])/\w'=w.alloc (.cells #[.slice A n c] 23):=by
 go_enter Tryz.func203,Tryz.ntmps203
 go_wp2_with fail
 go_ret;exact ⟨rfl,rfl⟩
theorem collect_calls (Bs:Nat) (w:World) (B:w.cell? ⟨Bs,0,none⟩=some v) (h:zk w ok v l) (d:l.length<=1000000000000):
  Calls Tryz.prog 224 #[.func (.func 226) #[] #[.pointer (some ⟨Bs,0,none⟩)]] w fun e w'=>∃v',e=.returned v'/\Mk w w' v' l:=by
 have H:=zh (appendSeq_calls Bs w B h d);clear h B
 go_enter Tryz.func224,Tryz.ntmps224
 go_wp2_with fail
 refine H.out.mono ?_;rintro e w' ⟨v',rfl,o⟩;have D:=zh o;clear o
 go_wp2_with fail
 go_ret;exact ⟨_,rfl,D.out⟩
theorem sorted_calls (Bs:Nat) (w:World) (D:w.cell? ⟨Bs,0,none⟩=some v) (h:zk w ok v l) (d:l.length<=1000000000000):
  Calls Tryz.prog 202 #[.func (.func 226) #[] #[.pointer (some ⟨Bs,0,none⟩)]] w fun e w'=>∃v',e=.returned v'/\Mk w w' v' (Bc l):=by
 have H:=zh (collect_calls Bs w D h d);clear h D
 go_enter Tryz.func202,Tryz.ntmps202
 go_wp2_with fail
 refine H.out.mono ?_;rintro e w' ⟨v',rfl,B⟩;have G:=zh (sort_calls B d);clear B
 go_wp2_with fail
 refine G.out.mono ?_;rintro e w2 ⟨rfl,o⟩;have E:=zh o;clear o
 go_wp2_with fail
 go_ret;exact ⟨_,rfl,E.out⟩
end
section
open Go.RowKit
open Go.ChangeMaps (setBlock)
def IterIs (w:World) (r g since:Nat) (seen:Array Nat) (c0:Nat):Prop:=w.heap[r]?=some (.mapIter (some g) since seen c0)
theorem run_next_at (w:World) (ty:TypeId) (bm r since c0:Nat) (seen:Array Nat) (es:Array MapEntry) (clock:Nat) (J:IterIs w r bm since seen c0) (O:w.heap[bm]?=some (.map es clock)) (o:∀x∈es.toList,x.born<since) (M:since<=c0):
  ((leftOf es seen).size=0/\(Instr.next (.pointer (some ⟨r,0,none⟩)) false ty).run P w=.ok (.tuple #[.bool false]) w)\/
  ∃e∈(leftOf es seen).toList,∃w1:World,(w1=w\/w1=w.drew)/\(Instr.next (.pointer (some ⟨r,0,none⟩)) false ty).run P w=.ok (.tuple #[.bool true,e.key,e.val]) (setBlock w1 r (.mapIter (some bm) since (seen.push e.born) clock)):=by
 unfold IterIs at J;simp only [Instr.next,getObj,Sem.run_bind,Sem.run,J,O,Result.andThen,next_test_false seen es since c0 o M,Bool.false_eq_true,if_false];unfold leftOf;have d:∀x∈(Array.filter (fun e=>!seen.contains e.born) es).toList,x.born<since:=fun x B=>o x (by simp at B⊢;exact B.1)
 generalize Array.filter (fun e=>!seen.contains e.born) es=L at d⊢;have e1:L.filter (fun x=>decide (x.born<since))=L:=Array.filter_eq_self.2 (fun x B=>by simpa using d x (by simpa using B))
 have e2:L.filter (fun x=>decide (x.born≥since))=#[]:=by
  rw [Array.filter_eq_empty_iff];intro x B;have:=d x (by simpa using B);simp;omega
 simp only [e1,e2,Array.append_empty];by_cases h0:L.size=0
 ·left
  have:L=#[]:=Array.eq_empty_of_size_eq_zero h0;subst this;refine ⟨rfl,?_⟩;simp [choose,Sem.run,Question.forced]
 ·right
  have I:L.isEmpty=false:=by simp [Array.isEmpty,h0]
  simp only [I,Bool.false_eq_true,if_false,Array.empty_append,Array.size_map]
  have G:∃(j:Nat) (w1:World),j<L.size/\(w1=w\/w1=w.drew)/\(choose (Question.mapNext L.size)).run P w=.ok j w1:=by
   by_cases hf:L.size<=1
   ·exact ⟨0,w,by omega,.inl rfl,by simp [choose,Sem.run,Question.forced,hf]⟩
   ·exact ⟨_,w.drew,Nat.mod_lt _ (by omega),.inr rfl,by
     simp only [choose,Sem.run,Question.forced,Ei,hf,if_false,Question.cut];rfl⟩
  obtain ⟨j,w1,Q,D,E⟩:=G;refine ⟨L[j],by simp,w1,D,?_⟩
  have K:w1.heap[r]?=some (.mapIter (some bm) since seen c0):=by
   rcases D with rfl | rfl <;> exact J
  have hset:∀(o':Obj),(setObj r o').run P w1=.ok () (setBlock w1 r o'):=fun o'=>by
   simp only [setObj,Sem.run,K];rfl
  simp only [E,Array.getElem?_map,Array.getElem?_eq_getElem Q,Option.map_some,Sem.run_bind,hset,Result.andThen];rfl
theorem run_entry_at (w:World) (bm r since:Nat) (seen:Array Nat) (es:Array MapEntry) (clock:Nat) (e:MapEntry) (B:w.heap[r]?=some (.mapIter (some bm) since (seen.push e.born) clock)) (d:w.heap[bm]?=some (.map es clock)) (he:e∈es.toList) (o:(es.toList.map (·.born)).Nodup):
  (Instr.entry (.pointer (some ⟨r,0,none⟩))).run P w=.ok (.tuple #[e.key,e.val]) w:=by
 have hf:es.find? (·.born==e.born)=some e:=by rw [<-Array.find?_toList];exact find_born e es.toList o he
 simp only [Instr.entry,getObj,Sem.run_bind,Sem.run,B,d,Result.andThen,Array.back?_push,bne_self_eq_false,Bool.false_eq_true,if_false,hf];rfl
theorem Ds:∀(l:List Int) (b:Nat),(zy l b).map (·.born)=List.range' b l.length
 | [],_=>rfl
 | _ :: l,b=>by simp [zy,Ds l (b+1),List.range'_succ]
theorem setBlock_same (o:Obj) (h:g<w.heap.size):(setBlock w g o).heap[g]?=some o:=by simp [setBlock,h]
def leftN (n:Nat) (seen:Array Nat):Nat:=((List.range n).filter fun i=>!seen.contains i).length
theorem leftN_step {n i:Nat} (o:i<n) (B:seen.contains i=false):leftN n (seen.push i)<leftN n seen:=by
 unfold leftN;refine filter_lt (fun j=>!seen.contains j) (fun j=>!(seen.push i).contains j) (fun x d=>?_) i (by simp only [B];rfl) (by simp) _ (EW.2 o);simp at d⊢;exact d.1
theorem set_next {r c0:Nat} (M:zF w g l) (J:IterIs w r g l.length seen c0) (hc:l.length<=c0):
  ((∀i,i<l.length->seen.contains i=true)/\∀ty,(Instr.next (.pointer (some ⟨r,0,none⟩)) false ty).run P w=.ok (.tuple #[.bool false]) w)\/
  ∃i,∃(h:i<l.length),seen.contains i=false/\∃w1:World,(w1=w\/w1=w.drew)/\(∀ty,(Instr.next (.pointer (some ⟨r,0,none⟩)) false ty).run P w=.ok (.tuple #[.bool true,.int .i64 l[i],.bool true]) (setBlock w1 r (.mapIter (some g) l.length (seen.push i) l.length)))/\
   ((Instr.entry (.pointer (some ⟨r,0,none⟩))).run P (setBlock w1 r (.mapIter (some g) l.length (seen.push i) l.length))=.ok (.tuple #[.int .i64 l[i],.bool true]) (setBlock w1 r (.mapIter (some g) l.length (seen.push i) l.length))):=by
 have D:∀x∈(zy l 0).toArray.toList,x.born<l.length:=by
  intro x hx;have h1:x.born∈(zy l 0).map (·.born):=List.mem_map.2 ⟨x,by simpa using hx,rfl⟩;rw [Ds] at h1;have:=List.mem_range'_1.1 h1;omega
 have I:∀x∈(zy l 0),∃(h:x.born<l.length),x.key=.int .i64 (l[x.born])/\x.val=.bool true:=by
  intro x hx;obtain ⟨k,d,rfl⟩:=EE hx;have h1:=Cy l 0 k;rw [DW d] at h1;rw [CX] at d;rw [DW d] at h1;simp only [Option.map_some,Option.some.injEq,Nat.zero_add] at h1;rw [h1];exact ⟨d,rfl,rfl⟩
 have Q:g≠r:=by
  rintro rfl;unfold IterIs at J;unfold zF mapObj at M;rw [M] at J;cases J
 have a0:r<w.heap.size:=zc J;have o:∀ty,_:=fun ty=>run_next_at (P:=P) w ty g r l.length c0 seen (zy l 0).toArray l.length J M D hc
 by_cases hz:(leftOf (zy l 0).toArray seen).size=0
 ·refine .inl ⟨fun i K=>?_,fun ty=>?_⟩
  ·cases O:seen.contains i with
   | true=>rfl
   | false=>
    exfalso
    have d:i<(zy l 0).length:=by rw [CX];exact K
    have hb:(zy l 0)[i].born=i:=by
     have h1:=Cy l 0 i;rw [DW d,DW K] at h1;simp only [Option.map_some,Option.some.injEq,Nat.zero_add] at h1;rw [h1]
    have hm:(zy l 0)[i]∈(leftOf (zy l 0).toArray seen):=by
     unfold leftOf;rw [Array.mem_filter];exact ⟨by simp,by rw [hb,O];rfl⟩
    rw [Array.eq_empty_of_size_eq_zero hz] at hm;simp at hm
  ·rcases o ty with ⟨_,h⟩ | ⟨e,he,_⟩
   ·exact h
   ·rw [Array.eq_empty_of_size_eq_zero hz] at he;simp at he
 ·rcases o 0 with ⟨h0,_⟩ | ⟨e,he,w1,E,B⟩
  ·exact absurd h0 hz
  ·have G:e∈zy l 0:=by
    have:=(mem_left he).1;simpa using this
   obtain ⟨U,d,O⟩:=I e G
   have V:seen.contains e.born=false:=by
    have h1:e∈(zy l 0).toArray.filter (fun e=>!seen.contains e.born):=by simpa [leftOf] using he
    rw [Array.mem_filter] at h1;simpa using h1.2
   rw [d,O] at B;refine .inr ⟨e.born,U,V,w1,E,fun ty=>B,?_⟩;have h1:w1.heap=w.heap:=by rcases E with rfl | rfl <;> rfl
   have a1:r<w1.heap.size:=by rw [h1];exact a0
   have:=run_entry_at (P:=P) (setBlock w1 r (.mapIter (some g) l.length (seen.push e.born) l.length)) g r l.length seen (zy l 0).toArray l.length e (setBlock_same _ a1) (by rw [DA _ Q,h1];exact M) (by simpa using G) (by
    show ((zy l 0).map (·.born)).Nodup;rw [Ds];exact List.nodup_range')
   rw [d,O] at this;exact this
end
end Go.Proofs.YtjomnbdjajjgfaaGreatDoor
