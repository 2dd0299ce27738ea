import Derived.Test.YtjomnbdjajjgfaaGreatDoorWKd
import Derived.Shelf.SlGeneric
import Derived.Shelf.SortM.Plain
import Derived.Shelf.SortM.SortNone
import Derived.Shelf.SlicesG.CompactI
import Derived.Shelf.SlicesE.DeleteFunc
import Derived.Ground.SlgmProg
import Derived.Ground.SlgnProg
import Derived.Test.YtjomnbdjajjgfaaGreatDoorRows
import Derived.Lib.OwnBridge
import Derived.Sort.OwnSortedInts
import Derived.Laws.IdiomRangeMap
set_option linter.unusedVariables false
set_option linter.unusedSimpArgs false
set_option maxRecDepth 100000
set_option maxHeartbeats 16000000
namespace Go.Proofs.YtjomnbdjajjgfaaGreatDoor
variable {seen:Array Nat} {ps:List (List Int)} {ch l us:List Int} {m:MZ} {g gu:Nat} {ok:Nat->Prop} {P:Program} {f ts u v vc vp:Value} {w w1:World}
section
open Go.RowKit
attribute [local go_sem ↓] Go.wp_at_zero Go.wp_at_succ
theorem BJ.freeCell {t:Nat} (h:BJ w ok g m ch ps us f u ts vc vp gu) (hfn:∀f∈m.free,(f.length:Int)=m.n) (ht:t<m.free.length) {n:Int} (h0:0<=n) (h1:n<m.n):
  ∃b off c b' off' l c',f=.slice (some ⟨b,off,none⟩) m.free.length c/\w.cell? ⟨b,off+t,none⟩=some (.slice (some ⟨b',off',none⟩) l c')/\n<(l:Int)/\l<=c'/\m.free.length<=c/\w.cell? ⟨b',off'+n.toNat,none⟩=some (.bool (ze m t n)):=by
 obtain ⟨fr',up',ts',he,B,_,_⟩:=h.maze;injection he with he;injection he with he;simp only [List.cons.injEq,and_true,true_and] at he;obtain ⟨rfl,rfl,rfl⟩:=he;obtain ⟨vsf,⟨Af,cf,rfl,J,O⟩,K⟩:=B;obtain ⟨bf,off3,uf,rfl,_,E,G⟩:=Br O K ht ht;have L:=hfn _ (DS ht);obtain ⟨A4,c4,rfl,I,M⟩:=G;have D:n.toNat<(m.free[t]).length:=by omega
 obtain ⟨b4,off4,rfl,_,o⟩:=BP M D D;have B:(m.free[t])[n.toNat]=ze m t n:=by simp [ze,ht,D]
 rw [B] at o;exact ⟨bf,off3,cf,b4,off4,_,c4,rfl,E,by omega,I,J,o⟩
theorem cand1_calls {g1 g2:Nat} (t:Nat) (n:Int) (w:World) (h:BJ w ok g m ch ps us f u ts vc vp gu) (hfn:∀f∈m.free,(f.length:Int)=m.n) (ht:t<m.free.length)
  (L:w.cell? ⟨g1,0,none⟩=some (.pointer (some ⟨g,0,none⟩))) (M:w.cell? ⟨g2,0,none⟩=some (.int .i64 t)) (h0:0<=n) (h1:n<m.n):
  Calls Tryz.prog 200 #[.int .i64 n,.pointer (some ⟨g1,0,none⟩),.pointer (some ⟨g2,0,none⟩)] w fun e w'=>e=.returned (.bool (ze m t n && !decide (n∈us)))/\zZ w w':=by
 obtain ⟨r0,r1,r2,r3,r4,r5,r6,r7,r8⟩:=h.rules;obtain ⟨b,off,c,b',off',l,c',rfl,K,hl,Q,O,D⟩:=h.freeCell hfn ht h0 h1;have G:=h.us;clear h hfn;have hx:=za.refl w;have V:(t:Int)<(m.free.length:Int):=by omega
 have U:(0:Int)<=(t:Int):=by omega
 obtain ⟨fb,E⟩:=EY (ze m t n);rw [<-E] at D⊢;clear E h1;by_cases B:n∈us
 ·have J:=fun q=>look_t (G.below ((za.refl w).drewN q)) B
  have I:=zh B;clear B;have o:Hid ((fb && !decide (n∈us))=false):=by show _=false;rw [DU I.out];cases fb <;> rfl
  cases fb with
  | false=>
   go_enter Tryz.func200,Tryz.ntmps200
   go_wp2_with fail
   go_quiet (fail)
   go_wp2;go_ret;exact ⟨zi o.out.symm,(zZ.refl w).more _⟩
  | true=>
   go_enter Tryz.func200,Tryz.ntmps200
   go_wp2_with fail
   go_quiet (fail)
   go_wp2;go_ret;exact ⟨zi o.out.symm,(zZ.refl w).more _⟩
 ·have J:=fun q=>look_f (G.below ((za.refl w).drewN q)) B
  have I:=zh B;clear B;have o:Hid ((fb && !decide (n∈us))=fb):=by show _=fb;rw [DV I.out];cases fb <;> rfl
  cases fb with
  | false=>
   go_enter Tryz.func200,Tryz.ntmps200
   go_wp2_with fail
   go_quiet (fail)
   go_wp2;go_ret;exact ⟨zi o.out.symm,(zZ.refl w).more _⟩
  | true=>
   go_enter Tryz.func200,Tryz.ntmps200
   go_wp2_with fail
   go_quiet (fail)
   go_wp2;go_ret;exact ⟨zi o.out.symm,(zZ.refl w).more _⟩
end
section
open Go.Shelf
def sortA_ren:Go.Shelf.Ren:=⟨fun | 5=>225 | 8=>240 | 7=>239 | 19=>258 | 20=>242 | 10=>249 | 11=>250 | 12=>251 | 13=>252 | 14=>253 | 15=>254 | 16=>255 | 17=>256 | 18=>257 | 30=>267 | 31=>268 | 32=>269 | 33=>270 | 34=>271 | 35=>272 | 40=>279 | n=>n,fun | 23=>23 | 25=>3 | 3=>3 | 32=>226 | 22=>23 | 0=>0 | 44=>268 | 46=>252 | 4=>4 | 36=>273 | 35=>272 | 41=>152 | 5=>5 | 9=>9 | 53=>285 | 57=>289 | 63=>299 | 64=>300 | n=>n,fun | n=>n⟩
theorem sortA:Go.Proofs.SlLaysM.n5 Tryz.prog sortA_ren:=by
 constructor
 all_goals try first | kernel_rfl | (intro _;kernel_rfl)
 exact ⟨Tryz.f225.name,by decide,by kernel_rfl⟩;exact ⟨Tryz.f239.name,by decide,by kernel_rfl⟩;exact ⟨Tryz.f249.name,by decide,by kernel_rfl⟩;exact ⟨Tryz.f250.name,by decide,by kernel_rfl⟩;exact ⟨Tryz.f251.name,by decide,by kernel_rfl⟩;exact ⟨Tryz.f252.name,by decide,by kernel_rfl⟩;exact ⟨Tryz.f253.name,by decide,by kernel_rfl⟩;exact ⟨Tryz.f254.name,by decide,by kernel_rfl⟩;exact ⟨Tryz.f255.name,by decide,by kernel_rfl⟩;exact ⟨Tryz.f256.name,by decide,by kernel_rfl⟩;exact ⟨Tryz.f257.name,by decide,by kernel_rfl⟩;exact ⟨Tryz.f267.name,by decide,by kernel_rfl⟩;exact ⟨Tryz.f270.name,by decide,by kernel_rfl⟩;exact ⟨Tryz.f271.name,by decide,by kernel_rfl⟩;exact ⟨Tryz.f272.name,by decide,by kernel_rfl⟩;exact ⟨Tryz.f279.name,by decide,by kernel_rfl⟩
def compactA_ren:Go.Shelf.Ren:=⟨fun | 43=>201 | n=>n,fun | 22=>23 | 23=>3 | 3=>3 | 4=>4 | 0=>0 | n=>n,fun | n=>n⟩
theorem compactA:Go.Proofs.SlLaysN.n43 Tryz.prog compactA_ren:=by
 constructor
 all_goals try first | kernel_rfl | (intro _;kernel_rfl)
 exact ⟨Tryz.f201.name,by decide,by kernel_rfl⟩
end
section
open Go.RowKit Go.Sort Go.Shelf
theorem holds_own {B cap:Nat} (h:zB w B (.slice (some ⟨g,0,none⟩) l.length cap) l):Holds (Value.int .i64) w g 0 l.toArray:=by
 intro j D;have o:j<l.length:=by simpa using D
 refine ⟨?_,by have:=World.ownsRow.frozenAt h j;simpa using this⟩;have:=World.ownsRow.cellAt h j (by omega);rw [Nat.zero_add,this];simp [getElem!_pos,o]
def Bc (l:List Int):List Int:=l.mergeSort fun x y=>decide (x<=y)
theorem sort_calls (h:Mk w1 w v l) (O:l.length<=1000000000000):Calls Tryz.prog 225 #[v] w fun e w'=>e=.returned (.tuple #[])/\Mk w1 w' v (Bc l):=by
 have o:(Bc l).length=l.length:=by unfold Bc;rw [List.length_mergeSort]
 rcases EC l.length with h0 | h0
 ·have D:=Ei h0;subst D;obtain ⟨A,c,rfl,_⟩:=h.slice;have B:=AnyM.slices_Sort_int_none sortA A c w;change Calls Tryz.prog 225 _ _ _ at B;refine Calls.mono B ?_;rintro e w' ⟨rfl,rfl⟩;exact ⟨rfl,h.cast (by simp [Bc])⟩
 ·obtain ⟨g,cap,rfl,M,G⟩:=World.ownsRow.form h.own h0;have B:=AnyM.slices_Sort_int sortA g 0 cap l w (holds_own h.own) G (by omega);change Calls Tryz.prog 225 _ _ _ at B;refine Calls.mono B ?_;rintro e w' ⟨rfl,n,os,rfl⟩;refine ⟨rfl,?_,?_⟩
  ·obtain ⟨_,⟨e0,_⟩ | ⟨g',cap',cur,e0,J,E,K,hm,L,ht⟩⟩:=h.own
   ·cases e0
   ·injection e0 with e1 _ e3;injection e1 with e1;injection e1 with e1;subst e1;subst e3;have:=ownsRow_sortedI (n:=n) (os:=os) (w:=w) (ss:=l) (ts:=Bc l) o J E K hm L;unfold zB;rw [o];exact this
  ·exact Below.grown h.ext (grownBy_sortedI _) h.ext.size (fun k I=>by injection I with I;omega)
theorem compact_calls (h:Mk w1 w v l) (J:l.length<=1000000000000):Calls Tryz.prog 201 #[v] w fun e w'=>∃v',e=.returned v'/\Mk w1 w' v' (Lib.compact l):=by
 rcases EC l.length with h0 | h0
 ·have D:=Ei h0;subst D;obtain ⟨A,c,rfl,_⟩:=h.slice;have o:=AnyG.slices_Compact_int_empty compactA A c w;change Calls Tryz.prog 201 _ _ _ at o;refine Calls.mono o ?_;rintro e w' ⟨rfl,rfl⟩;exact ⟨_,rfl,h⟩
 ·obtain ⟨g,cap,rfl,G,I⟩:=World.ownsRow.form h.own h0;have B:=Bx h.own;have o:=AnyG.slices_Compact_int compactA g 0 cap l w (holds_own h.own) (by omega) B;change Calls Tryz.prog 201 _ _ _ at o;refine Calls.mono o ?_;rintro e w' ⟨rfl,q,rfl⟩
  have E:(Lib.compact l).length<=l.length:=by
   unfold Lib.compact Lib.compactUpTo;rw [EB];exact DT (Eu _ _) (by simp)
  refine ⟨_,rfl,?_,?_⟩
  ·have:=Lib.ownsRow_putRow (enc:=Value.int .i64) (q:=q) (k:=(Lib.compact l).length) (ys:=Lib.compact l++List.replicate (l.length - (Lib.compact l).length) 0) h.own (by simp;omega) E;rw [List.take_left'] at this
   ·exact this
   ·rfl
  ·exact Lib.below_putRow h.ext G
theorem values_calls (A:Option Addr) (n c:Nat) (w:World):Calls Tryz.prog 203 #[.slice A n c] w fun e w'=>e=.returned (.func (.func 226) #[] #[.pointer (some ⟨w.heap.size,0,none⟩)])/\w'=w.alloc (.cells #[.slice A n c] 23):=by
 go_enter Tryz.func203,Tryz.ntmps203
 go_wp2_with fail
 go_ret;exact ⟨rfl,rfl⟩
theorem collect_calls (Bs:Nat) (w:World) (D:w.cell? ⟨Bs,0,none⟩=some v) (h:zk w ok v l) (o:l.length<=1000000000000):
  Calls Tryz.prog 224 #[.func (.func 226) #[] #[.pointer (some ⟨Bs,0,none⟩)]] w fun e w'=>∃v',e=.returned v'/\Mk w w' v' l:=by
 have H:=zh (appendSeq_calls Bs w D h o);clear h D
 go_enter Tryz.func224,Tryz.ntmps224
 go_wp2_with fail
 refine H.out.mono ?_;rintro e w' ⟨v',rfl,B⟩;have E:=zh B;clear B
 go_wp2_with fail
 go_ret;exact ⟨_,rfl,E.out⟩
theorem sorted_calls (Bs:Nat) (w:World) (E:w.cell? ⟨Bs,0,none⟩=some v) (h:zk w ok v l) (o:l.length<=1000000000000):
  Calls Tryz.prog 202 #[.func (.func 226) #[] #[.pointer (some ⟨Bs,0,none⟩)]] w fun e w'=>∃v',e=.returned v'/\Mk w w' v' (Bc l):=by
 have H:=zh (collect_calls Bs w E h o);clear h E
 go_enter Tryz.func202,Tryz.ntmps202
 go_wp2_with fail
 refine H.out.mono ?_;rintro e w' ⟨v',rfl,D⟩;have I:=zh (sort_calls D o);clear D
 go_wp2_with fail
 refine I.out.mono ?_;rintro e w2 ⟨rfl,B⟩;have G:=zh B;clear B
 go_wp2_with fail
 go_ret;exact ⟨_,rfl,G.out⟩
end
section
open Go.RowKit
open Go.ChangeMaps (setBlock)
def IterIs (w:World) (r g since:Nat) (seen:Array Nat) (c0:Nat):Prop:=w.heap[r]?=some (.mapIter (some g) since seen c0)
theorem run_next_at (w:World) (ty:TypeId) (bm r since c0:Nat) (seen:Array Nat) (es:Array MapEntry) (clock:Nat) (K:IterIs w r bm since seen c0) (Q:w.heap[bm]?=some (.map es clock)) (B:∀x∈es.toList,x.born<since) (O:since<=c0):
  ((leftOf es seen).size=0/\(Instr.next (.pointer (some ⟨r,0,none⟩)) false ty).run P w=.ok (.tuple #[.bool false]) w)\/
  ∃e∈(leftOf es seen).toList,∃w1:World,(w1=w\/w1=w.drew)/\(Instr.next (.pointer (some ⟨r,0,none⟩)) false ty).run P w=.ok (.tuple #[.bool true,e.key,e.val]) (setBlock w1 r (.mapIter (some bm) since (seen.push e.born) clock)):=by
 unfold IterIs at K;simp only [Instr.next,getObj,Sem.run_bind,Sem.run,K,Q,Result.andThen,next_test_false seen es since c0 B O,Bool.false_eq_true,if_false];unfold leftOf;have o:∀x∈(Array.filter (fun e=>!seen.contains e.born) es).toList,x.born<since:=fun x D=>B x (by simp at D⊢;exact D.1)
 generalize Array.filter (fun e=>!seen.contains e.born) es=L at o⊢;have e1:L.filter (fun x=>decide (x.born<since))=L:=Array.filter_eq_self.2 (fun x D=>by simpa using o x (by simpa using D))
 have e2:L.filter (fun x=>decide (x.born≥since))=#[]:=by
  rw [Array.filter_eq_empty_iff];intro x D;have:=o x (by simpa using D);simp;omega
 simp only [e1,e2,Array.append_empty];by_cases h0:L.size=0
 ·left
  have:L=#[]:=Array.eq_empty_of_size_eq_zero h0;subst this;refine ⟨rfl,?_⟩;simp [choose,Sem.run,Question.forced]
 ·right
  have J:L.isEmpty=false:=by simp [Array.isEmpty,h0]
  simp only [J,Bool.false_eq_true,if_false,Array.empty_append,Array.size_map]
  have I:∃(j:Nat) (w1:World),j<L.size/\(w1=w\/w1=w.drew)/\(choose (Question.mapNext L.size)).run P w=.ok j w1:=by
   by_cases hf:L.size<=1
   ·exact ⟨0,w,by omega,.inl rfl,by simp [choose,Sem.run,Question.forced,hf]⟩
   ·exact ⟨_,w.drew,Nat.mod_lt _ (by omega),.inr rfl,by
     simp only [choose,Sem.run,Question.forced,Eb,hf,if_false,Question.cut];rfl⟩
  obtain ⟨j,w1,U,E,G⟩:=I;refine ⟨L[j],by simp,w1,E,?_⟩
  have M:w1.heap[r]?=some (.mapIter (some bm) since seen c0):=by
   rcases E with rfl | rfl <;> exact K
  have AO:∀(o':Obj),(setObj r o').run P w1=.ok () (setBlock w1 r o'):=fun o'=>by
   simp only [setObj,Sem.run,M];rfl
  simp only [G,Array.getElem?_map,Array.getElem?_eq_getElem U,Option.map_some,Sem.run_bind,AO,Result.andThen];rfl
theorem run_entry_at (w:World) (bm r since:Nat) (seen:Array Nat) (es:Array MapEntry) (clock:Nat) (e:MapEntry) (D:w.heap[r]?=some (.mapIter (some bm) since (seen.push e.born) clock)) (o:w.heap[bm]?=some (.map es clock)) (he:e∈es.toList) (B:(es.toList.map (·.born)).Nodup):
  (Instr.entry (.pointer (some ⟨r,0,none⟩))).run P w=.ok (.tuple #[e.key,e.val]) w:=by
 have hf:es.find? (·.born==e.born)=some e:=by rw [<-Array.find?_toList];exact find_born e es.toList B he
 simp only [Instr.entry,getObj,Sem.run_bind,Sem.run,D,o,Result.andThen,Array.back?_push,bne_self_eq_false,Bool.false_eq_true,if_false,hf];rfl
theorem Dh:∀(l:List Int) (b:Nat),(zx l b).map (·.born)=List.range' b l.length
 | [],_=>rfl
 | _ :: l,b=>by simp [zx,Dh l (b+1),List.range'_succ]
theorem setBlock_same (o:Obj) (h:g<w.heap.size):(setBlock w g o).heap[g]?=some o:=by simp [setBlock,h]
def leftN (n:Nat) (seen:Array Nat):Nat:=((List.range n).filter fun i=>!seen.contains i).length
theorem leftN_step {n i:Nat} (B:i<n) (D:seen.contains i=false):leftN n (seen.push i)<leftN n seen:=by
 unfold leftN;refine filter_lt (fun j=>!seen.contains j) (fun j=>!(seen.push i).contains j) (fun x o=>?_) i (by simp only [D];rfl) (by simp) _ (EQ.2 B);simp at o⊢;exact o.1
theorem set_next {r c0:Nat} (M:zG w g l) (K:IterIs w r g l.length seen c0) (hc:l.length<=c0):
  ((∀i,i<l.length->seen.contains i=true)/\∀ty,(Instr.next (.pointer (some ⟨r,0,none⟩)) false ty).run P w=.ok (.tuple #[.bool false]) w)\/
  ∃i,∃(h:i<l.length),seen.contains i=false/\∃w1:World,(w1=w\/w1=w.drew)/\(∀ty,(Instr.next (.pointer (some ⟨r,0,none⟩)) false ty).run P w=.ok (.tuple #[.bool true,.int .i64 l[i],.bool true]) (setBlock w1 r (.mapIter (some g) l.length (seen.push i) l.length)))/\
   ((Instr.entry (.pointer (some ⟨r,0,none⟩))).run P (setBlock w1 r (.mapIter (some g) l.length (seen.push i) l.length))=.ok (.tuple #[.int .i64 l[i],.bool true]) (setBlock w1 r (.mapIter (some g) l.length (seen.push i) l.length))):=by
 have E:∀x∈(zx l 0).toArray.toList,x.born<l.length:=by
  intro x hx;have h1:x.born∈(zx l 0).map (·.born):=EP.2 ⟨x,by simpa using hx,rfl⟩;rw [Dh] at h1;have:=List.mem_range'_1.1 h1;omega
 have J:∀x∈(zx l 0),∃(h:x.born<l.length),x.key=.int .i64 (l[x.born])/\x.val=.bool true:=by
  intro x hx;obtain ⟨k,o,rfl⟩:=Ex hx;have h1:=Cs l 0 k;rw [DO o] at h1;rw [CH] at o;rw [DO o] at h1;simp only [Option.map_some,Option.some.injEq,Nat.zero_add] at h1;rw [h1];exact ⟨o,rfl,rfl⟩
 have Q:g≠r:=by
  rintro rfl;unfold IterIs at K;unfold zG mapObj at M;rw [M] at K;cases K
 have a0:r<w.heap.size:=zc K;have B:∀ty,_:=fun ty=>run_next_at (P:=P) w ty g r l.length c0 seen (zx l 0).toArray l.length K M E hc
 by_cases hz:(leftOf (zx l 0).toArray seen).size=0
 ·refine .inl ⟨fun i L=>?_,fun ty=>?_⟩
  ·cases O:seen.contains i with
   | true=>rfl
   | false=>
    exfalso
    have o:i<(zx l 0).length:=by rw [CH];exact L
    have hb:(zx l 0)[i].born=i:=by
     have h1:=Cs l 0 i;rw [DO o,DO L] at h1;simp only [Option.map_some,Option.some.injEq,Nat.zero_add] at h1;rw [h1]
    have hm:(zx l 0)[i]∈(leftOf (zx l 0).toArray seen):=by
     unfold leftOf;rw [Array.mem_filter];exact ⟨by simp,by rw [hb,O];rfl⟩
    rw [Array.eq_empty_of_size_eq_zero hz] at hm;simp at hm
  ·rcases B ty with ⟨_,h⟩ | ⟨e,he,_⟩
   ·exact h
   ·rw [Array.eq_empty_of_size_eq_zero hz] at he;simp at he
 ·rcases B 0 with ⟨h0,_⟩ | ⟨e,he,w1,G,D⟩
  ·exact absurd h0 hz
  ·have I:e∈zx l 0:=by
    have:=(mem_left he).1;simpa using this
   obtain ⟨U,o,O⟩:=J e I
   have V:seen.contains e.born=false:=by
    have h1:e∈(zx l 0).toArray.filter (fun e=>!seen.contains e.born):=by simpa [leftOf] using he
    rw [Array.mem_filter] at h1;simpa using h1.2
   rw [o,O] at D;refine .inr ⟨e.born,U,V,w1,G,fun ty=>D,?_⟩;have h1:w1.heap=w.heap:=by rcases G with rfl | rfl <;> rfl
   have a1:r<w1.heap.size:=by rw [h1];exact a0
   have:=run_entry_at (P:=P) (setBlock w1 r (.mapIter (some g) l.length (seen.push e.born) l.length)) g r l.length seen (zx l 0).toArray l.length e (setBlock_same _ a1) (by rw [Dp _ Q,h1];exact M) (by simpa using I) (by
    show ((zx l 0).map (·.born)).Nodup;rw [Dh];exact List.nodup_range')
   rw [o,O] at this;exact this
end
end Go.Proofs.YtjomnbdjajjgfaaGreatDoor
