import Derived.Test.YthbjngbhbbkkgaaGreatHPb
import Derived.Shelf.SlGeneric
import Derived.Shelf.SortM.Plain
import Derived.Shelf.SortM.SortNone
import Derived.Shelf.SlicesG.CompactI
import Derived.Shelf.SlicesE.DeleteFunc
import Derived.Ground.SlgmProg
import Derived.Ground.SlgnProg
import Derived.Test.YthbjngbhbbkkgaaGreatRows
import Derived.Lib.OwnBridge
import Derived.Sort.OwnSortedInts
import Derived.Laws.IdiomRangeMap
import Derived.Deep.LoopGhost
import Derived.Deep.DeepCutAuto
import Derived.Ground.SlgfProg
set_option linter.unusedVariables false
set_option linter.unusedSimpArgs false
set_option maxRecDepth 100000
set_option maxHeartbeats 16000000
namespace Go.Proofs.YthbjngbhbbkkgaaGreat
variable {seen:Array Nat} {cs:Array Value} {b:Bool} {y:Int} {ps:List (List Int)} {l q s:List Int} {vs:List Value} {c c0 cap g g1 g2 gn gu i r since:Nat} {ok2:Nat->Prop} {o:Obj} {P:Program} {ts vc vp x:Value} {w' w1 wr:World}
section
open Go.RowKit
attribute [local go_sem ↓] Go.wp_at_zero Go.wp_at_succ
theorem BM.freeCell {w:World} {ok:Nat->Prop} {t:Nat} {m:MZ} {ch us:List Int} {f u:Value} (h:BM w ok g m ch ps us f u ts vc vp gu) (T:∀f∈m.free,(f.length:Int)=m.n) (I:t<m.free.length) {n:Int} (h0:0<=n) (h1:n<m.n):
  ∃b off c b' off' l c',f=.slice (some ⟨b,off,none⟩) m.free.length c/\w.cell? ⟨b,off+t,none⟩=some (.slice (some ⟨b',off',none⟩) l c')/\n<(l:Int)/\l<=c'/\m.free.length<=c/\w.cell? ⟨b',off'+n.toNat,none⟩=some (.bool (zl m t n)):=by
 obtain ⟨fr',up',ts',he,D,_,_⟩:=h.maze;injection he with he;injection he with he;simp only [List.cons.injEq,and_true,true_and] at he;obtain ⟨rfl,rfl,rfl⟩:=he;obtain ⟨vsf,⟨Af,cf,rfl,M,V⟩,O⟩:=D;obtain ⟨bf,off3,uf,rfl,_,G,J⟩:=zO V O I I;have Q:=T _ (EO I);obtain ⟨A4,c4,rfl,L,U⟩:=J;have E:n.toNat<(m.free[t]).length:=by omega
 obtain ⟨b4,off4,rfl,_,z⟩:=BR U E E;have D:(m.free[t])[n.toNat]=zl m t n:=by simp [zl,I,E]
 rw [D] at z;exact ⟨bf,off3,cf,b4,off4,_,c4,rfl,G,by omega,L,M,z⟩
theorem cand1_calls {ok:Nat->Prop} {m:MZ} {ch us:List Int} {f u:Value} (t:Nat) (n:Int) (w:World) (h:BM w ok g m ch ps us f u ts vc vp gu) (I:∀f∈m.free,(f.length:Int)=m.n) (Z:t<m.free.length)
  (Q:w.cell? ⟨g1,0,none⟩=some (.pointer (some ⟨g,0,none⟩))) (T:w.cell? ⟨g2,0,none⟩=some (.int .i64 t)) (h0:0<=n) (h1:n<m.n):
  Calls Tryz.prog 104 #[.int .i64 n,.pointer (some ⟨g1,0,none⟩),.pointer (some ⟨g2,0,none⟩)] w fun e w'=>e=.returned (.bool (zl m t n && !decide (n∈us)))/\zM w w':=by
 obtain ⟨r0,r1,r2,r3,r4,r5,r6,r7,r8⟩:=h.rules;obtain ⟨b,off,c,b',off',l,c',rfl,O,hl,V,U,E⟩:=h.freeCell I Z h0 h1;have J:=h.us;clear h I;have hx:=zb.refl w;have a1:(t:Int)<(m.free.length:Int):=by omega
 have a0:(0:Int)<=(t:Int):=by omega
 obtain ⟨fb,G⟩:=zak (zl m t n);rw [<-G] at E⊢;clear G h1;by_cases D:n∈us
 ·have M:=fun q=>look_t (J.below ((zb.refl w).drewN q)) D
  have L:=zh D;clear D;have z:Hid ((fb && !decide (n∈us))=false):=by show _=false;rw [EQ L.out];cases fb <;> rfl
  cases fb with
  | false=>
   go_enter Tryz.func104,Tryz.ntmps104
   go_wp2_with fail
   go_quiet (fail)
   go_wp2;go_ret;exact ⟨zf z.out.symm,(zM.refl w).more _⟩
  | true=>
   go_enter Tryz.func104,Tryz.ntmps104
   go_wp2_with fail
   go_quiet (fail)
   go_wp2;go_ret;exact ⟨zf z.out.symm,(zM.refl w).more _⟩
 ·have M:=fun q=>look_f (J.below ((zb.refl w).drewN q)) D
  have L:=zh D;clear D;have z:Hid ((fb && !decide (n∈us))=fb):=by show _=fb;rw [ER L.out];cases fb <;> rfl
  cases fb with
  | false=>
   go_enter Tryz.func104,Tryz.ntmps104
   go_wp2_with fail
   go_quiet (fail)
   go_wp2;go_ret;exact ⟨zf z.out.symm,(zM.refl w).more _⟩
  | true=>
   go_enter Tryz.func104,Tryz.ntmps104
   go_wp2_with fail
   go_quiet (fail)
   go_wp2;go_ret;exact ⟨zf z.out.symm,(zM.refl w).more _⟩
theorem left11_calls {ok:Nat->Prop} {m:MZ} {ch us:List Int} {f u:Value} (t:Nat) (n:Int) (w:World) (h:BM w ok g m ch ps us f u ts vc vp gu) (I:∀f∈m.free,(f.length:Int)=m.n) (Z:t<m.free.length)
  (Q:w.cell? ⟨g1,0,none⟩=some (.pointer (some ⟨g,0,none⟩))) (T:w.cell? ⟨g2,0,none⟩=some (.int .i64 t)) (h0:0<=n) (h1:n<m.n):
  Calls Tryz.prog 131 #[.int .i64 n,.pointer (some ⟨g1,0,none⟩),.pointer (some ⟨g2,0,none⟩)] w fun e w'=>e=.returned (.bool (!zl m t n || decide (n∈us)))/\zM w w':=by
 obtain ⟨r0,r1,r2,r3,r4,r5,r6,r7,r8⟩:=h.rules;obtain ⟨b,off,c,b',off',l,c',rfl,O,hl,V,U,E⟩:=h.freeCell I Z h0 h1;have J:=h.us;clear h I;have hx:=zb.refl w;have a1:(t:Int)<(m.free.length:Int):=by omega
 have a0:(0:Int)<=(t:Int):=by omega
 obtain ⟨fb,G⟩:=zak (zl m t n);rw [<-G] at E⊢;clear G h1;by_cases D:n∈us
 ·have M:=fun q=>look_t (J.below ((zb.refl w).drewN q)) D
  have L:=zh D;clear D;have z:Hid ((!fb || decide (n∈us))=true):=by show _=true;rw [EQ L.out];cases fb <;> rfl
  cases fb with
  | false=>
   go_enter Tryz.func131,Tryz.ntmps131
   go_wp2_with fail
   go_quiet (fail)
   go_wp2;go_ret;exact ⟨zf z.out.symm,(zM.refl w).more _⟩
  | true=>
   go_enter Tryz.func131,Tryz.ntmps131
   go_wp2_with fail
   go_quiet (fail)
   go_wp2;go_ret;exact ⟨zf z.out.symm,(zM.refl w).more _⟩
 ·have M:=fun q=>look_f (J.below ((zb.refl w).drewN q)) D
  have L:=zh D;clear D;have z:Hid ((!fb || decide (n∈us))=!fb):=by show _=!fb;rw [ER L.out];cases fb <;> rfl
  cases fb with
  | false=>
   go_enter Tryz.func131,Tryz.ntmps131
   go_wp2_with fail
   go_quiet (fail)
   go_wp2;go_ret;exact ⟨zf z.out.symm,(zM.refl w).more _⟩
  | true=>
   go_enter Tryz.func131,Tryz.ntmps131
   go_wp2_with fail
   go_quiet (fail)
   go_wp2;go_ret;exact ⟨zf z.out.symm,(zM.refl w).more _⟩
theorem open1_calls {gs g5:Nat} (n:Int) (w:World) (z:zD w gs s) (E:w.cell? ⟨g5,0,none⟩=some (.map (some gs))):
  Calls Tryz.prog 110 #[.int .i64 n,.pointer (some ⟨g5,0,none⟩)] w fun e w'=>e=.returned (.bool (decide (n∈s)))/\w=w':=by
 by_cases h:n∈s
 ·have D:=look_t z h;rw [EQ h];clear h z
  go_enter Tryz.func110,Tryz.ntmps110
  go_wp2;go_ret;exact ⟨rfl,rfl⟩
 ·have D:=look_f z h;rw [ER h];clear h z
  go_enter Tryz.func110,Tryz.ntmps110
  go_wp2;go_ret;exact ⟨rfl,rfl⟩
end
section
open Go.Shelf
def sortA_ren:Go.Shelf.Ren:=⟨fun | 5=>127 | 8=>135 | 7=>134 | 19=>145 | 20=>146 | 10=>136 | 11=>137 | 12=>138 | 13=>139 | 14=>140 | 15=>141 | 16=>142 | 17=>143 | 18=>144 | 30=>147 | 31=>148 | 32=>149 | 33=>150 | 34=>151 | 35=>152 | 40=>153 | n=>n,fun | 23=>23 | 25=>3 | 3=>3 | 32=>163 | 22=>23 | 0=>0 | 44=>171 | 46=>173 | 4=>4 | 36=>166 | 35=>165 | 41=>84 | 5=>5 | 9=>9 | 53=>174 | 57=>178 | 63=>180 | 64=>181 | n=>n,fun | n=>n⟩
theorem sortA:Go.Proofs.SlLaysM.n5 Tryz.prog sortA_ren:=by
 constructor
 all_goals try first | kernel_rfl | (intro _;kernel_rfl)
 exact ⟨Tryz.f127.name,by decide,by kernel_rfl⟩;exact ⟨Tryz.f134.name,by decide,by kernel_rfl⟩;exact ⟨Tryz.f136.name,by decide,by kernel_rfl⟩;exact ⟨Tryz.f137.name,by decide,by kernel_rfl⟩;exact ⟨Tryz.f138.name,by decide,by kernel_rfl⟩;exact ⟨Tryz.f139.name,by decide,by kernel_rfl⟩;exact ⟨Tryz.f140.name,by decide,by kernel_rfl⟩;exact ⟨Tryz.f141.name,by decide,by kernel_rfl⟩;exact ⟨Tryz.f142.name,by decide,by kernel_rfl⟩;exact ⟨Tryz.f143.name,by decide,by kernel_rfl⟩;exact ⟨Tryz.f144.name,by decide,by kernel_rfl⟩;exact ⟨Tryz.f147.name,by decide,by kernel_rfl⟩;exact ⟨Tryz.f150.name,by decide,by kernel_rfl⟩;exact ⟨Tryz.f151.name,by decide,by kernel_rfl⟩;exact ⟨Tryz.f152.name,by decide,by kernel_rfl⟩;exact ⟨Tryz.f153.name,by decide,by kernel_rfl⟩
def compactA_ren:Go.Shelf.Ren:=⟨fun | 43=>105 | n=>n,fun | 22=>23 | 23=>3 | 3=>3 | 4=>4 | 0=>0 | n=>n,fun | n=>n⟩
theorem compactA:Go.Proofs.SlLaysN.n43 Tryz.prog compactA_ren:=by
 constructor
 all_goals try first | kernel_rfl | (intro _;kernel_rfl)
 exact ⟨Tryz.f105.name,by decide,by kernel_rfl⟩
def dfIA_ren:Go.Shelf.Ren:=⟨fun | 10=>130 | 6=>82 | n=>n,fun | 22=>23 | 23=>3 | 25=>62 | 3=>3 | 4=>4 | 0=>0 | n=>n,fun | n=>n⟩
theorem dfIA:Go.Proofs.SlLaysH.n10 Tryz.prog dfIA_ren:=by
 constructor
 all_goals try first | kernel_rfl | (intro _;kernel_rfl)
 exact ⟨Tryz.f82.name,by decide,by kernel_rfl⟩;exact ⟨Tryz.f130.name,by decide,by kernel_rfl⟩
end
section
open Go.RowKit Go.Sort Go.Shelf
theorem holds_own {w:World} {B:Nat} (h:zA w B (.slice (some ⟨g,0,none⟩) l.length cap) l):Holds (Value.int .i64) w g 0 l.toArray:=by
 intro j D;have z:j<l.length:=by simpa using D
 refine ⟨?_,by have:=World.ownsRow.frozenAt h j;simpa using this⟩;have:=World.ownsRow.cellAt h j (by omega);rw [Nat.zero_add,this];simp [getElem!_pos,z]
def BJ (l:List Int):List Int:=l.mergeSort fun x y=>decide (x<=y)
theorem sort_calls {w:World} {v:Value} (h:Mk w1 w v l) (T:l.length<=1000000000000):Calls Tryz.prog 127 #[v] w fun e w'=>e=.returned (.tuple #[])/\Mk w1 w' v (BJ l):=by
 have z:(BJ l).length=l.length:=by unfold BJ;rw [List.length_mergeSort]
 rcases Fz l.length with h0 | h0
 ·have E:=Fe h0;subst E;obtain ⟨A,c,rfl,_⟩:=h.slice;have D:=AnyM.slices_Sort_int_none sortA A c w;change Calls Tryz.prog 127 _ _ _ at D;refine Calls.mono D ?_;rintro e w' ⟨rfl,rfl⟩;exact ⟨rfl,h.cast (by simp [BJ])⟩
 ·obtain ⟨g,cap,rfl,Q,I⟩:=World.ownsRow.form h.own h0;have D:=AnyM.slices_Sort_int sortA g 0 cap l w (holds_own h.own) I (by omega);change Calls Tryz.prog 127 _ _ _ at D;refine Calls.mono D ?_;rintro e w' ⟨rfl,n,os,rfl⟩;refine ⟨rfl,?_,?_⟩
  ·obtain ⟨_,⟨e0,_⟩ | ⟨g',cap',cur,e0,L,G,M,hm,O,U⟩⟩:=h.own
   ·cases e0
   ·injection e0 with e1 _ e3;injection e1 with e1;injection e1 with e1;subst e1;subst e3;have:=ownsRow_sortedI (n:=n) (os:=os) (w:=w) (ss:=l) (ts:=BJ l) z L G M hm O;unfold zA;rw [z];exact this
  ·exact Below.grown h.ext (grownBy_sortedI _) h.ext.size (fun k J=>by injection J with J;omega)
theorem compact_calls {w:World} {v:Value} (h:Mk w1 w v l) (L:l.length<=1000000000000):Calls Tryz.prog 105 #[v] w fun e w'=>∃v',e=.returned v'/\Mk w1 w' v' (Lib.compact l):=by
 rcases Fz l.length with h0 | h0
 ·have E:=Fe h0;subst E;obtain ⟨A,c,rfl,_⟩:=h.slice;have z:=AnyG.slices_Compact_int_empty compactA A c w;change Calls Tryz.prog 105 _ _ _ at z;refine Calls.mono z ?_;rintro e w' ⟨rfl,rfl⟩;exact ⟨_,rfl,h⟩
 ·obtain ⟨g,cap,rfl,I,J⟩:=World.ownsRow.form h.own h0;have D:=BG h.own;have z:=AnyG.slices_Compact_int compactA g 0 cap l w (holds_own h.own) (by omega) D;change Calls Tryz.prog 105 _ _ _ at z;refine Calls.mono z ?_;rintro e w' ⟨rfl,q,rfl⟩
  have G:(Lib.compact l).length<=l.length:=by
   unfold Lib.compact Lib.compactUpTo;rw [Fy];exact EP (Fr _ _) (by simp)
  refine ⟨_,rfl,?_,?_⟩
  ·have:=Lib.ownsRow_putRow (enc:=Value.int .i64) (q:=q) (k:=(Lib.compact l).length) (ys:=Lib.compact l++List.replicate (l.length - (Lib.compact l).length) 0) h.own (by simp;omega) G;rw [List.take_left'] at this
   ·exact this
   ·rfl
  ·exact Lib.below_putRow h.ext I
theorem values_calls (A:Option Addr) (n c:Nat) (w:World):Calls Tryz.prog 107 #[.slice A n c] w fun e w'=>e=.returned (.func (.func 128) #[] #[.pointer (some ⟨w.heap.size,0,none⟩)])/\w'=w.alloc (.cells #[.slice A n c] 23):=by
 go_enter Tryz.func107,Tryz.ntmps107
 go_wp2_with fail
 go_ret;exact ⟨rfl,rfl⟩
theorem collect_calls {ok:Nat->Prop} {v:Value} (Bs:Nat) (w:World) (E:w.cell? ⟨Bs,0,none⟩=some v) (h:zi w ok v l) (z:l.length<=1000000000000):
  Calls Tryz.prog 126 #[.func (.func 128) #[] #[.pointer (some ⟨Bs,0,none⟩)]] w fun e w'=>∃v',e=.returned v'/\Mk w w' v' l:=by
 have H:=zh (appendSeq_calls Bs w E h z);clear h E
 go_enter Tryz.func126,Tryz.ntmps126
 go_wp2_with fail
 refine H.out.mono ?_;rintro e w' ⟨v',rfl,D⟩;have G:=zh D;clear D
 go_wp2_with fail
 go_ret;exact ⟨_,rfl,G.out⟩
theorem sorted_calls {ok:Nat->Prop} {v:Value} (Bs:Nat) (w:World) (G:w.cell? ⟨Bs,0,none⟩=some v) (h:zi w ok v l) (z:l.length<=1000000000000):
  Calls Tryz.prog 106 #[.func (.func 128) #[] #[.pointer (some ⟨Bs,0,none⟩)]] w fun e w'=>∃v',e=.returned v'/\Mk w w' v' (BJ l):=by
 have H:=zh (collect_calls Bs w G h z);clear h G
 go_enter Tryz.func106,Tryz.ntmps106
 go_wp2_with fail
 refine H.out.mono ?_;rintro e w' ⟨v',rfl,E⟩;have J:=zh (sort_calls E z);clear E
 go_wp2_with fail
 refine J.out.mono ?_;rintro e w2 ⟨rfl,D⟩;have I:=zh D;clear D
 go_wp2_with fail
 go_ret;exact ⟨_,rfl,I.out⟩
end
section
open Go.RowKit
open Go.ChangeMaps (setBlock)
def IterIs (w:World) (r g since:Nat) (seen:Array Nat) (c0:Nat):Prop:=w.heap[r]?=some (.mapIter (some g) since seen c0)
theorem run_next_at (w:World) (ty:TypeId) (bm r since c0:Nat) (seen:Array Nat) (es:Array MapEntry) (clock:Nat) (Q:IterIs w r bm since seen c0) (Z:w.heap[bm]?=some (.map es clock)) (D:∀x∈es.toList,x.born<since) (U:since<=c0):
  ((leftOf es seen).size=0/\(Instr.next (.pointer (some ⟨r,0,none⟩)) false ty).run P w=.ok (.tuple #[.bool false]) w)\/
  ∃e∈(leftOf es seen).toList,∃w1:World,(w1=w\/w1=w.drew)/\(Instr.next (.pointer (some ⟨r,0,none⟩)) false ty).run P w=.ok (.tuple #[.bool true,e.key,e.val]) (setBlock w1 r (.mapIter (some bm) since (seen.push e.born) clock)):=by
 unfold IterIs at Q;simp only [Instr.next,getObj,Sem.run_bind,Sem.run,Q,Z,Result.andThen,next_test_false seen es since c0 D U,Bool.false_eq_true,if_false];unfold leftOf;have z:∀x∈(Array.filter (fun e=>!seen.contains e.born) es).toList,x.born<since:=fun x E=>D x (by simp at E⊢;exact E.1)
 generalize Array.filter (fun e=>!seen.contains e.born) es=L at z⊢;have e1:L.filter (fun x=>decide (x.born<since))=L:=Array.filter_eq_self.2 (fun x E=>by simpa using z x (by simpa using E))
 have e2:L.filter (fun x=>decide (x.born≥since))=#[]:=by
  rw [Array.filter_eq_empty_iff];intro x E;have:=z x (by simpa using E);simp;omega
 simp only [e1,e2,Array.append_empty];by_cases h0:L.size=0
 ·left
  have:L=#[]:=Array.eq_empty_of_size_eq_zero h0;subst this;refine ⟨rfl,?_⟩;simp [choose,Sem.run,Question.forced]
 ·right
  have O:L.isEmpty=false:=by simp [Array.isEmpty,h0]
  simp only [O,Bool.false_eq_true,if_false,Array.empty_append,Array.size_map]
  have M:∃(j:Nat) (w1:World),j<L.size/\(w1=w\/w1=w.drew)/\(choose (Question.mapNext L.size)).run P w=.ok j w1:=by
   by_cases V:L.size<=1
   ·exact ⟨0,w,by omega,.inl rfl,by simp [choose,Sem.run,Question.forced,V]⟩
   ·exact ⟨_,w.drew,Nat.mod_lt _ (by omega),.inr rfl,by
     simp only [choose,Sem.run,Question.forced,EX,V,if_false,Question.cut];rfl⟩
  obtain ⟨j,w1,hj,G,I⟩:=M;refine ⟨L[j],by simp,w1,G,?_⟩
  have T:w1.heap[r]?=some (.mapIter (some bm) since seen c0):=by
   rcases G with rfl | rfl <;> exact Q
  have J:∀(o':Obj),(setObj r o').run P w1=.ok () (setBlock w1 r o'):=fun o'=>by
   simp only [setObj,Sem.run,T];rfl
  simp only [I,Array.getElem?_map,Array.getElem?_eq_getElem hj,Option.map_some,Sem.run_bind,J,Result.andThen];rfl
theorem run_entry_at (w:World) (bm r since:Nat) (seen:Array Nat) (es:Array MapEntry) (clock:Nat) (e:MapEntry) (G:w.heap[r]?=some (.mapIter (some bm) since (seen.push e.born) clock)) (z:w.heap[bm]?=some (.map es clock)) (he:e∈es.toList) (E:(es.toList.map (·.born)).Nodup):
  (Instr.entry (.pointer (some ⟨r,0,none⟩))).run P w=.ok (.tuple #[e.key,e.val]) w:=by
 have D:es.find? (·.born==e.born)=some e:=by rw [<-Array.find?_toList];exact find_born e es.toList E he
 simp only [Instr.entry,getObj,Sem.run_bind,Sem.run,G,z,Result.andThen,Array.back?_push,bne_self_eq_false,Bool.false_eq_true,if_false,D];rfl
theorem Ee:∀(l:List Int) (b:Nat),(zK l b).map (·.born)=List.range' b l.length
 | [],_=>rfl
 | _ :: l,b=>by simp [zK,Ee l (b+1),List.range'_succ]
theorem setBlock_same {w:World} (o:Obj) (h:g<w.heap.size):(setBlock w g o).heap[g]?=some o:=by simp [setBlock,h]
def leftN (n:Nat) (seen:Array Nat):Nat:=((List.range n).filter fun i=>!seen.contains i).length
theorem leftN_step {n:Nat} (D:i<n) (E:seen.contains i=false):leftN n (seen.push i)<leftN n seen:=by
 unfold leftN;refine filter_lt (fun j=>!seen.contains j) (fun j=>!(seen.push i).contains j) (fun x z=>?_) i (by simp only [E];rfl) (by simp) _ (zad.2 D);simp at z⊢;exact z.1
theorem set_next {w:World} (Q:zD w g l) (M:IterIs w r g l.length seen c0) (hc:l.length<=c0):
  ((∀i,i<l.length->seen.contains i=true)/\∀ty,(Instr.next (.pointer (some ⟨r,0,none⟩)) false ty).run P w=.ok (.tuple #[.bool false]) w)\/
  ∃i,∃(h:i<l.length),seen.contains i=false/\∃w1:World,(w1=w\/w1=w.drew)/\(∀ty,(Instr.next (.pointer (some ⟨r,0,none⟩)) false ty).run P w=.ok (.tuple #[.bool true,.int .i64 l[i],.bool true]) (setBlock w1 r (.mapIter (some g) l.length (seen.push i) l.length)))/\
   ((Instr.entry (.pointer (some ⟨r,0,none⟩))).run P (setBlock w1 r (.mapIter (some g) l.length (seen.push i) l.length))=.ok (.tuple #[.int .i64 l[i],.bool true]) (setBlock w1 r (.mapIter (some g) l.length (seen.push i) l.length))):=by
 have G:∀x∈(zK l 0).toArray.toList,x.born<l.length:=by
  intro x hx;have h1:x.born∈(zK l 0).map (·.born):=zac.2 ⟨x,by simpa using hx,rfl⟩;rw [Ee] at h1;have:=List.mem_range'_1.1 h1;omega
 have L:∀x∈(zK l 0),∃(h:x.born<l.length),x.key=.int .i64 (l[x.born])/\x.val=.bool true:=by
  intro x hx;obtain ⟨k,z,rfl⟩:=Fu hx;have h1:=Dh l 0 k;rw [EL z] at h1;rw [Dw] at z;rw [EL z] at h1;simp only [Option.map_some,Option.some.injEq,Nat.zero_add] at h1;rw [h1];exact ⟨z,rfl,rfl⟩
 have U:g≠r:=by
  rintro rfl;unfold IterIs at M;unfold zD mapObj at Q;rw [Q] at M;cases M
 have a0:r<w.heap.size:=zd M;have D:∀ty,_:=fun ty=>run_next_at (P:=P) w ty g r l.length c0 seen (zK l 0).toArray l.length M Q G hc
 by_cases hz:(leftOf (zK l 0).toArray seen).size=0
 ·refine .inl ⟨fun i O=>?_,fun ty=>?_⟩
  ·cases T:seen.contains i with
   | true=>rfl
   | false=>
    exfalso
    have z:i<(zK l 0).length:=by rw [Dw];exact O
    have hb:(zK l 0)[i].born=i:=by
     have h1:=Dh l 0 i;rw [EL z,EL O] at h1;simp only [Option.map_some,Option.some.injEq,Nat.zero_add] at h1;rw [h1]
    have hm:(zK l 0)[i]∈(leftOf (zK l 0).toArray seen):=by
     unfold leftOf;rw [Array.mem_filter];exact ⟨by simp,by rw [hb,T];rfl⟩
    rw [Array.eq_empty_of_size_eq_zero hz] at hm;simp at hm
  ·rcases D ty with ⟨_,h⟩ | ⟨e,he,_⟩
   ·exact h
   ·rw [Array.eq_empty_of_size_eq_zero hz] at he;simp at he
 ·rcases D 0 with ⟨h0,_⟩ | ⟨e,he,w1,I,E⟩
  ·exact absurd h0 hz
  ·have J:e∈zK l 0:=by
    have:=(mem_left he).1;simpa using this
   obtain ⟨V,z,T⟩:=L e J
   have Z:seen.contains e.born=false:=by
    have h1:e∈(zK l 0).toArray.filter (fun e=>!seen.contains e.born):=by simpa [leftOf] using he
    rw [Array.mem_filter] at h1;simpa using h1.2
   rw [z,T] at E;refine .inr ⟨e.born,V,Z,w1,I,fun ty=>E,?_⟩;have h1:w1.heap=w.heap:=by rcases I with rfl | rfl <;> rfl
   have a1:r<w1.heap.size:=by rw [h1];exact a0
   have:=run_entry_at (P:=P) (setBlock w1 r (.mapIter (some g) l.length (seen.push e.born) l.length)) g r l.length seen (zK l 0).toArray l.length e (setBlock_same _ a1) (by rw [Dp _ U,h1];exact Q) (by simpa using J) (by
    show ((zK l 0).map (·.born)).Nodup;rw [Ee];exact List.nodup_range')
   rw [z,T] at this;exact this
end
section
open Go.RowKit
open Go.ChangeMaps (setBlock)
attribute [local go_sem ↓] Go.wp_at_zero Go.wp_at_succ
theorem zo {md:Region.Mode} {es:Array Edge} {e:Nat->Bool} (E:∀d∈es,Region.binds md d=true->e d.on=true) (ks:List Nat) (h:(ks.all fun k=>es.toList.any fun d=>Region.binds md d && decide (d.on=k))=true):∀k∈ks,e k=true:=by
 intro k G;obtain ⟨d,D,z⟩:=zaf.1 (zag.1 h k G);simp only [EZ,EX] at z;rw [<-z.2];exact E d (by simpa using D) z.1
section
variable {W W':World} {B:Nat}
theorem zA.ext {v:Value} (h:zA W B v l) (z:zb W W'):zA W' B v l:=h.kept (row:=none) ⟨z.os,z.tape,z.output,z.size,fun i D _=>z.block i D⟩ (by cases h:v.ownBlock <;> simp)
theorem Cf.ext {v:Value} (h:Cf W B v vs) (z:zb W W'):Cf W' B v vs:=World.ownsRow.kept h (row:=none) ⟨z.os,z.tape,z.output,z.size,fun i D _=>z.block i D⟩ (by cases h:v.ownBlock <;> simp)
theorem own_ne {e e':TypeId} {v v':Value} {n n':Nat} {xs xs':List Value} {B':Nat} (h:W.ownsRow B e 1 v n xs) (E:W.ownsRow B' e' 1 v' n' xs') (D:e≠e'):v.ownBlock=none\/v.ownBlock≠v'.ownBlock:=by
 rcases h.2 with ⟨rfl,_⟩ | ⟨g,cap,cur,rfl,_,G,_⟩
 ·exact .inl rfl
 ·refine .inr fun e=>?_
  rcases E.2 with ⟨rfl,_⟩ | ⟨g',cap',cur',rfl,_,z,_⟩
  ·cases e
  ·have e:some g=some g':=e;injection e with e;subst e;rw [G] at z;injection z with z;injection z with _ I;exact D I
theorem BU {e:TypeId} {v:Value} {n:Nat} {xs:List Value} (h:W.ownsRow B e 1 v n xs) (z:zD W g l):v.ownBlock=none\/v.ownBlock≠some g:=by
 rcases h.2 with ⟨rfl,_⟩ | ⟨g',cap,cur,rfl,_,D,_⟩
 ·exact .inl rfl
 ·refine .inr fun e=>?_
  have e:some g'=some g:=e;injection e with e;subst e;unfold zD at z;rw [D] at z;injection z with z;cases z
end
theorem DB {W:World} {x:Int} (h:W.cell? ⟨g,0,none⟩=some (.int .i64 x)):zi W (fun _=>True) (.slice (some ⟨g,0,none⟩) 1 1) [x]:=
 ⟨some ⟨g,0,none⟩,1,rfl,EN _,rfl,fun _=>⟨g,0,rfl,trivial,fun j u z=>by
  match j,z with
  | 0,z=>
   have:u=.int .i64 x:=by simpa using z.symm
   subst this;exact h⟩⟩
structure JW (w:World) (ch:List Int) (n:Int) (vsp:List Value) (m:MZ) (f u t:Value) (e:Nat->Bool) (v:Nat->Value) (W:World):Prop where
 ext:zb w W
 c1:e 8=true->e 11=false->zA W w.heap.size (v 8) ch
 b:e 10=true->e 11=false->∃g,v 10=.slice (some ⟨g,0,none⟩) 1 1/\W.cell? ⟨g,0,none⟩=some (.int .i64 n)
 ap:e 11=true->zA W w.heap.size (v 11) (ch++[n])
 c2:e 16=true->Cf W w.heap.size (v 16) vsp
 mm:e 17=true->∃gu,v 17=.map (some gu)/\w.heap.size<=gu/\zD W gu (if e 19 then [n] else [])
 mv:e 20=true->v 20=v 17
 bd:e 21=true->v 21=.agg #[.int .i64 m.w,.int .i64 m.h,.int .i64 m.l,f,u,t,v 11,v 16,v 20]
 bx:e 22=true->∃gs,v 22=.pointer (some ⟨gs,0,none⟩)/\w.heap.size<=gs/\zg W gs 100 #[.int .i64 m.w,.int .i64 m.h,.int .i64 m.l,f,u,t,v 11,v 16,v 20]
 fin:e 23=true->v 23=v 22
 d11:e 11=true->e 8=true
 d19:e 19=true->e 17=true
 d20:e 20=true->e 19=true
 d21:e 21=true->e 11=true/\e 16=true/\e 20=true
 d22:e 22=true->e 21=true
 d23:e 23=true->e 22=true
theorem ff {C:Prop} (h:b=false) (a:b=true):C:=by rw [h] at a;cases a
section
variable {w W W':World} {ch:List Int} {n:Int} {vsp:List Value} {m:MZ} {f u t:Value} {e:Nat->Bool} {v:Nat->Value}
theorem JW.keep (h:JW w ch n vsp m f u t e v W) (z:zb W W'):JW w ch n vsp m f u t e v W':=
 ⟨h.ext.trans z,fun a b=>(h.c1 a b).ext z,fun a b=>by obtain ⟨g,h1,h2⟩:=h.b a b;exact ⟨g,h1,z.cell h2⟩,fun a=>(h.ap a).ext z,fun a=>(h.c2 a).ext z,
  fun a=>by obtain ⟨g,h1,h2,h3⟩:=h.mm a;exact ⟨g,h1,h2,h3.below z⟩,h.mv,h.bd,fun a=>by obtain ⟨g,h1,h2,h3⟩:=h.bx a;exact ⟨g,h1,h2,h3.ext z⟩,h.fin,h.d11,h.d19,h.d20,h.d21,h.d22,h.d23⟩
theorem JW.s8 (h:JW w ch n vsp m f u t e v W) (z:e 11=false) (D:zA W w.heap.size x ch):JW w ch n vsp m f u t (AI e 8 true) (AI v 8 x) W:=by
 exact ⟨h.ext,fun _ _=>D,h.b,h.ap,h.c2,h.mm,h.mv,h.bd,h.bx,h.fin,fun _=>rfl,h.d19,h.d20,h.d21,h.d22,h.d23⟩
theorem JW.s10 (h:JW w ch n vsp m f u t e v W) (z:W.cell? ⟨g,0,none⟩=some (.int .i64 n)):JW w ch n vsp m f u t (AI e 10 true) (AI v 10 (.slice (some ⟨g,0,none⟩) 1 1)) W:=by
 exact ⟨h.ext,h.c1,fun _ _=>⟨g,rfl,z⟩,h.ap,h.c2,h.mm,h.mv,h.bd,h.bx,h.fin,h.d11,h.d19,h.d20,h.d21,h.d22,h.d23⟩
theorem JW.s11 (h:JW w ch n vsp m f u t e v W) (J:e 8=true) (z:e 11=false) (D:e 21=false) (E:e 22=false) (M:zA W' w.heap.size x (ch++[n])) (G:Hid (W.grownBy W' (v 8).ownBlock)):JW w ch n vsp m f u t (AI e 11 true) (AI v 11 x) W':=by
 have I:=h.c1 J z;refine ⟨?_,?_,?_,?_,?_,?_,?_,?_,?_,?_,fun _=>J,h.d19,h.d20,fun a=>⟨rfl,(h.d21 a).2⟩,h.d22,h.d23⟩
 ·exact Ae h.ext G h.ext.size (fun k L=>Bq I L)
 ·exact fun _ h=>by cases h
 ·exact fun _ h=>by cases h
 ·exact fun _=>M
 ·exact fun a=>World.ownsRow.kept (h.c2 a) G.out (own_ne (h.c2 a) I (by decide))
 ·intro a;obtain ⟨gu,h1,h2,h3⟩:=h.mm a;refine ⟨gu,h1,h2,(G.out.block gu (zd h3) (fun e=>?_)).trans h3⟩;rcases BU I h3 with h4 | h4
  ·rw [h4] at e;cases e
  ·exact h4 e.symm
 ·exact h.mv
 ·exact fun a=>ff D a
 ·exact fun a=>ff E a
 ·exact h.fin
theorem JW.s16 (h:JW w ch n vsp m f u t e v W) (z:e 21=false) (D:e 22=false) (E:Cf W w.heap.size x vsp):JW w ch n vsp m f u t (AI e 16 true) (AI v 16 x) W:=by
 exact ⟨h.ext,h.c1,h.b,h.ap,fun _=>E,h.mm,h.mv,fun a=>ff z a,fun a=>ff D a,h.fin,h.d11,h.d19,h.d20,fun a=>⟨(h.d21 a).1,rfl,(h.d21 a).2.2⟩,h.d22,h.d23⟩
theorem JW.s17 (h:JW w ch n vsp m f u t e v W) (z:e 19=false) (D:e 20=false) (E:w.heap.size<=g) (G:zD W g []):JW w ch n vsp m f u t (AI e 17 true) (AI v 17 (.map (some g))) W:=by
 exact ⟨h.ext,h.c1,h.b,h.ap,h.c2,fun _=>⟨g,rfl,E,by show zD _ _ (if e 19=true then [n] else []);rw [z];exact G⟩,fun a=>ff D a,h.bd,h.bx,h.fin,h.d11,fun _=>rfl,h.d20,h.d21,h.d22,h.d23⟩
theorem JW.s19 (h:JW w ch n vsp m f u t e v W) (G:e 17=true) (J:v 17=.map (some gu)) (E:zD W gu []) (I:e 22=false) (L:zD W' gu [n]) (z:W.grownBy W' (some gu)) (D:w.heap.size<=gu):JW w ch n vsp m f u t (AI e 19 true) (AI v 19 x) W':=by
 refine ⟨?_,?_,?_,?_,?_,?_,?_,?_,?_,?_,h.d11,fun _=>G,fun _=>rfl,h.d21,h.d22,h.d23⟩
 ·exact Bj h.ext z h.ext.size D
 ·exact fun a b=>World.ownsRow.kept (h.c1 a b) z (BU (h.c1 a b) E)
 ·intro a b;obtain ⟨g,h1,h2⟩:=h.b a b;refine ⟨g,h1,(World.grownBy.cell z h2 (fun e=>?_))⟩;injection e with e;have:g=gu:=e;subst this;unfold zD at E;unfold World.cell? at h2;simp [E,mapObj] at h2
 ·exact fun a=>World.ownsRow.kept (h.ap a) z (BU (h.ap a) E)
 ·exact fun a=>World.ownsRow.kept (h.c2 a) z (BU (h.c2 a) E)
 ·exact fun _=>⟨gu,J,D,L⟩
 ·exact h.mv
 ·exact h.bd
 ·exact fun a=>ff I a
 ·exact h.fin
theorem JW.s20 (h:JW w ch n vsp m f u t e v W) (z:e 19=true) (D:e 21=false) (E:e 22=false):JW w ch n vsp m f u t (AI e 20 true) (AI v 20 (v 17)) W:=by
 exact ⟨h.ext,h.c1,h.b,h.ap,h.c2,h.mm,fun _=>rfl,fun a=>ff D a,fun a=>ff E a,h.fin,h.d11,h.d19,fun _=>z,fun a=>⟨(h.d21 a).1,(h.d21 a).2.1,rfl⟩,h.d22,h.d23⟩
theorem JW.s21 (h:JW w ch n vsp m f u t e v W) (z:e 11=true/\e 16=true/\e 20=true) (D:x=.agg #[.int .i64 m.w,.int .i64 m.h,.int .i64 m.l,f,u,t,v 11,v 16,v 20]):JW w ch n vsp m f u t (AI e 21 true) (AI v 21 x) W:=by
 exact ⟨h.ext,h.c1,h.b,h.ap,h.c2,h.mm,h.mv,fun _=>D,h.bx,h.fin,h.d11,h.d19,h.d20,fun _=>z,fun _=>rfl,h.d23⟩
theorem JW.s22 {gs:Nat} (h:JW w ch n vsp m f u t e v W) (z:e 21=true) (D:e 23=false) (G:w.heap.size<=gs) (E:zg W gs 100 #[.int .i64 m.w,.int .i64 m.h,.int .i64 m.l,f,u,t,v 11,v 16,v 20]):JW w ch n vsp m f u t (AI e 22 true) (AI v 22 (.pointer (some ⟨gs,0,none⟩))) W:=by
 exact ⟨h.ext,h.c1,h.b,h.ap,h.c2,h.mm,h.mv,h.bd,fun _=>⟨gs,rfl,G,E⟩,fun a=>ff D a,h.d11,h.d19,h.d20,h.d21,fun _=>z,fun _=>rfl⟩
theorem JW.s23 (h:JW w ch n vsp m f u t e v W) (z:e 22=true):JW w ch n vsp m f u t (AI e 23 true) (AI v 23 (v 22)) W:=by
 exact ⟨h.ext,h.c1,h.b,h.ap,h.c2,h.mm,h.mv,h.bd,h.bx,fun _=>rfl,h.d11,h.d19,h.d20,h.d21,h.d22,fun _=>z⟩
theorem JW.init {w:World} {ch:List Int} {n:Int} {vsp:List Value} {m:MZ} {f u t:Value} {e:Nat->Bool} {v:Nat->Value} (he:∀j∈[8,10,11,16,17,19,20,21,22,23],e j=false):JW w ch n vsp m f u t e v w.drew:=
 ⟨DA,fun a=>ff (he 8 (by simp)) a,fun a=>ff (he 10 (by simp)) a,fun a=>ff (he 11 (by simp)) a,fun a=>ff (he 16 (by simp)) a,fun a=>ff (he 17 (by simp)) a,fun a=>ff (he 20 (by simp)) a,fun a=>ff (he 21 (by simp)) a,
  fun a=>ff (he 22 (by simp)) a,fun a=>ff (he 23 (by simp)) a,fun a=>ff (he 11 (by simp)) a,fun a=>ff (he 19 (by simp)) a,fun a=>ff (he 20 (by simp)) a,fun a=>ff (he 21 (by simp)) a,fun a=>ff (he 22 (by simp)) a,fun a=>ff (he 23 (by simp)) a⟩
theorem notT {c:Bool} (h:b=true->c=true) (z:c=false):b=false:=by
 cases b with
 | false=>rfl
 | true=>exact absurd (h rfl) (by rw [z];simp)
theorem JW.n11 (h:JW w ch n vsp m f u t e v W) (z:e 8=false):e 11=false:=notT h.d11 z
theorem JW.n21 (h:JW w ch n vsp m f u t e v W) (z:e 11=false):e 21=false:=notT (fun a=>(h.d21 a).1) z
theorem JW.n21' (h:JW w ch n vsp m f u t e v W) (z:e 16=false):e 21=false:=notT (fun a=>(h.d21 a).2.1) z
theorem JW.n21'' (h:JW w ch n vsp m f u t e v W) (z:e 20=false):e 21=false:=notT (fun a=>(h.d21 a).2.2) z
theorem JW.n22 (h:JW w ch n vsp m f u t e v W) (z:e 21=false):e 22=false:=notT h.d22 z
theorem JW.n23 (h:JW w ch n vsp m f u t e v W) (z:e 22=false):e 23=false:=notT h.d23 z
theorem JW.n20 (h:JW w ch n vsp m f u t e v W) (z:e 19=false):e 20=false:=notT h.d20 z
theorem JW.n19 (h:JW w ch n vsp m f u t e v W) (z:e 17=false):e 19=false:=notT h.d19 z
end
structure WO (w W:World) (m:MZ) (ch:List Int) (vsp:List Value) (f u t:Value) (gs gm:Nat) (v1 v2:Value) (us:List Int):Prop where
 ext:zb w W
 hs:w.heap.size<=gs
 hm:w.heap.size<=gm
 blk:zg W gs 100 (stCells m f u t v1 v2 gm)
 ch:zA W w.heap.size v1 ch
 ps:Cf W w.heap.size v2 vsp
 set:zD W gm us
section
variable {w W W':World} {m:MZ} {ch us us':List Int} {vsp:List Value} {f u t v1 v2:Value} {gs gm:Nat}
theorem WO.keep (h:WO w W m ch vsp f u t gs gm v1 v2 us) (z:zb W W'):WO w W' m ch vsp f u t gs gm v1 v2 us:=
 ⟨h.ext.trans z,h.hs,h.hm,h.blk.ext z,h.ch.ext z,h.ps.ext z,h.set.below z⟩
theorem blk_set_ne {W:World} {g':Nat} {t:TypeId} (h:zg W g t cs) (z:zD W g' l):g≠g':=by
 rintro rfl;unfold zg at h;unfold zD mapObj at z;rw [h] at z
 cases z
theorem WO.add (h:WO w W m ch vsp f u t gs gm v1 v2 us) (D:zD W' gm us') (z:W.grownBy W' (some gm)):WO w W' m ch vsp f u t gs gm v1 v2 us':=
 ⟨Bj h.ext z h.ext.size h.hm,h.hs,h.hm,(z.block gs (zd h.blk) (fun e=>by injection e with e;exact blk_set_ne h.blk h.set e)).trans h.blk,
  World.ownsRow.kept h.ch z (BU h.ch h.set),World.ownsRow.kept h.ps z (BU h.ps h.set),D⟩
theorem grown_iter {W:World} (h:w1=W\/w1=W.drew):W.grownBy (setBlock w1 r o) (some r):=by
 have h1:w1.heap=W.heap/\w1.os=W.os/\w1.tape=W.tape/\w1.output=W.output:=by rcases h with rfl | rfl <;> exact ⟨rfl,rfl,rfl,rfl⟩
 refine ⟨h1.2.1,h1.2.2.1,h1.2.2.2,by simp [setBlock,h1.1],fun k _ z=>?_⟩;rw [Dp _ (fun e=>z (by rw [e])),h1.1]
theorem iter_ne {W:World} {k:Nat} (h:IterIs W r g since seen c0) (z:W.heap[k]?=some o) (D:∀a b c d,o≠.mapIter a b c d):k≠r:=by
 rintro rfl;unfold IterIs at h;rw [z] at h;injection h with h;exact D _ _ _ _ h
theorem own_iter_ne {W:World} {B:Nat} {e:TypeId} {v:Value} {n:Nat} {xs:List Value} (h:W.ownsRow B e 1 v n xs) (D:IterIs W r g since seen c0):v.ownBlock=none\/v.ownBlock≠some r:=by
 rcases h.2 with ⟨rfl,_⟩ | ⟨g',cap,cur,rfl,_,z,_⟩
 ·exact .inl rfl
 ·refine .inr fun e=>?_
  have e:some g'=some r:=e;injection e with e;exact iter_ne D z (fun _ _ _ _ h=>by cases h) e
theorem own_capL {w:World} {B:Nat} (h:Cf w B (.slice (some ⟨g,0,none⟩) vs.length c) vs):vs.length<=c:=BG h
theorem WO.st {ok:Nat->Prop} {ch0 us0:List Int} (h0:BM w ok g m ch0 ps us0 f u t vc vp gu) (z:∀(i:Nat) (x:List Int),ps[i]?=some x->∃u,vsp[i]?=some u/\zi w ok u x) (h:WO w W m ch vsp f u t gs gm v1 v2 us)
  (D:vsp.length=ps.length):BM W (fun b=>ok b\/w.heap.size<=b) gs m ch ps us f u t v1 v2 gm:=
 BM.make h.ext h0.maze (fun _ h=>.inl h) h.blk (.inr h.hs) ((zV.of_own h.ch).weaken (fun _ h=>.inr h)) ⟨vsp,by rw [<-D];exact (zV.of_own h.ps).weaken (fun _ h=>.inr h),fun i x I=>by
  obtain ⟨u,G,E⟩:=z i x I;exact ⟨u,G,(E.below h.ext).weaken (fun _ h=>.inl h)⟩⟩ (.inr h.hm) h.set
theorem mem_step {us:List Int} {n x:Int} (D:i<us.length):((x=n\/∃j,us[j]?=some x/\seen.contains j=true)\/x=us[i])↔(x=n\/∃j,us[j]?=some x/\(seen.push i).contains j=true):=by
 have z:∀j,(seen.push i).contains j=true↔seen.contains j=true\/j=i:=by
  intro j;simp
 constructor
 ·rintro ((h | ⟨j,h1,h2⟩) | h)
  ·exact .inl h
  ·exact .inr ⟨j,h1,(z j).2 (.inl h2)⟩
  ·exact .inr ⟨i,by rw [EL D,h],(z i).2 (.inr rfl)⟩
 ·rintro (h | ⟨j,h1,h2⟩)
  ·exact .inl (.inl h)
  ·rcases (z j).1 h2 with h3 | rfl
   ·exact .inl (.inr ⟨j,h1,h3⟩)
   ·rw [EL D] at h1;injection h1 with h1;exact .inr h1.symm
theorem mem_all {us:List Int} {n x:Int} (h:∀i,i<us.length->seen.contains i=true):(x=n\/∃j,us[j]?=some x/\seen.contains j=true)↔(x=n\/x∈us):=by
 constructor
 ·rintro (h1 | ⟨j,h1,_⟩)
  ·exact .inl h1
  ·exact .inr (List.mem_of_getElem? h1)
 ·rintro (h1 | h1)
  ·exact .inl h1
  ·obtain ⟨j,z,rfl⟩:=Fu h1;exact .inr ⟨j,EL z,h j z⟩
structure RW (w W:World) (m:MZ) (ch:List Int) (vsp:List Value) (f u t:Value) (gs gm:Nat) (v1 v2:Value) (us2:List Int) (r gu:Nat) (us:List Int) (n:Int) (seen:Array Nat) (c0:Nat):Prop where
 wo:WO w W m ch vsp f u t gs gm v1 v2 us2
 it:IterIs W r gu us.length seen c0
 hr:w.heap.size<=r
 hc:us.length<=c0
 old:zD W gu us
 mem:∀x,x∈us2↔x=n\/∃i,us[i]?=some x/\seen.contains i=true
theorem RW.step {w W:World} {m:MZ} {ch us us2:List Int} {vsp:List Value} {f u t v1 v2:Value} {gs gm:Nat} {n:Int} (h:RW w W m ch vsp f u t gs gm v1 v2 us2 r gu us n seen c0) (G:gu<w.heap.size) (E:w1=W\/w1=W.drew):
  WO w (setBlock w1 r (.mapIter (some gu) us.length (seen.push i) us.length)) m ch vsp f u t gs gm v1 v2 us2/\IterIs (setBlock w1 r (.mapIter (some gu) us.length (seen.push i) us.length)) r gu us.length (seen.push i) us.length/\zD (setBlock w1 r (.mapIter (some gu) us.length (seen.push i) us.length)) gu us:=by
 have D:W.grownBy (setBlock w1 r (.mapIter (some gu) us.length (seen.push i) us.length)) (some r):=grown_iter E;have h1:w1.heap=W.heap:=by rcases E with rfl | rfl <;> rfl
 have z:∀(k:Nat) (o:Obj),W.heap[k]?=some o->(∀a b c d,o≠.mapIter a b c d)->k≠r:=fun k o I J=>iter_ne h.it I J
 refine ⟨⟨Bj h.wo.ext D h.wo.ext.size h.hr,h.wo.hs,h.wo.hm,?_,World.ownsRow.kept h.wo.ch D (own_iter_ne h.wo.ch h.it),World.ownsRow.kept h.wo.ps D (own_iter_ne h.wo.ps h.it),?_⟩,?_,?_⟩
 ·exact (D.block gs (zd h.wo.blk) (fun e=>by injection e with e;exact z _ _ h.wo.blk (fun _ _ _ _ h=>by cases h) e)).trans h.wo.blk
 ·exact (D.block gm (zd h.wo.set) (fun e=>by injection e with e;exact z _ _ h.wo.set (fun _ _ _ _ h=>by cases h) e)).trans h.wo.set
 ·exact setBlock_same _ (by rw [h1];exact zd h.it)
 ·exact (D.block gu (zd h.old) (fun e=>by injection e with e;exact z _ _ h.old (fun _ _ _ _ h=>by cases h) e)).trans h.old
end
theorem paths_app {W W3:World} (D:∀(i:Nat) (x:List Int),ps[i]?=some x->∃u,vs[i]?=some u/\zi W ok2 u x) (G:vs.length=ps.length) (E:Ao ok2 W W3):
  ∀(i:Nat) (x:List Int),(ps++[[]])[i]?=some x->∃u,(vs++[.slice none 0 0])[i]?=some u/\zi W3 ok2 u x:=by
 intro i x z;by_cases h:i<ps.length
 ·rw [ES h] at z;obtain ⟨u,J,I⟩:=D i x z;exact ⟨u,by rw [ES (by omega)];exact J,I.keep E⟩
 ·rw [ET (by omega)] at z
  have h0:i - ps.length=0:=by
   rcases Fz (i - ps.length) with h | h
   ·exact h
   ·rw [Fg (by simp;omega)] at z;cases z
  rw [h0] at z;have:x=[]:=by simpa using z.symm
  subst this;exact ⟨_,by rw [ET (by omega),G,h0];rfl,zi.nil _ _⟩
theorem row_nil1 {W:World} {ok:Nat->Prop} (h:W.cell? ⟨g,0,none⟩=some (.slice none 0 0)) (D:ok g):zV W ok 1 (.slice (some ⟨g,0,none⟩) 1 1) [Value.slice none 0 0].length [.slice none 0 0]:=
 ⟨some ⟨g,0,none⟩,1,rfl,EN _,rfl,fun _=>⟨g,0,rfl,D,fun j u z=>by
  match j,z with
  | 0,z=>
   have:u=.slice none 0 0:=by simpa using z.symm
   subst this;exact h⟩⟩
theorem CX {W:World} {t e:TypeId} {B:Nat} {v:Value} {n:Nat} {xs:List Value} (h:zg W g t cs) (D:W.ownsRow B e 1 v n xs) (z:e≠t):v.ownBlock≠some g:=zj D h z
theorem WO.app {w W W2:World} {m:MZ} {ch us:List Int} {vs':List Value} {f u t v1 v2 v2':Value} {gs gm:Nat} (h:WO w W m ch vs f u t gs gm v1 v2 us) (J:Cf W2 w.heap.size v2' vs') (D:W.grownBy W2 v2.ownBlock):
  WO w (W2.setCell ⟨gs,7,none⟩ v2') m ch vs' f u t gs gm v1 v2' us:=by
 have E:gs<W.heap.size:=zd h.blk;have G:some gs≠v2.ownBlock:=fun e=>CX h.blk h.ps (by decide) e.symm
 have z:zg W2 gs 100 (stCells m f u t v1 v2 gm):=(D.block gs E G).trans h.blk;have I:zA W2 w.heap.size v1 ch:=World.ownsRow.kept h.ch D (own_ne h.ch h.ps (by decide))
 have L:zD W2 gm us:=(D.block gm (zd h.set) (fun e=>by
  rcases BU h.ps h.set with h | h
  ·rw [h] at e;cases e
  ·exact h e.symm)).trans h.set
 exact ⟨(h.ext.grown D h.ext.size (fun k M=>(World.ownsRow.lt h.ps k M).1)).setCell h.hs _,h.hs,h.hm,z.set v2',ownsRow_setCell_other I (CX z I (by decide)) _,ownsRow_setCell_other J (CX z J (by decide)) _,
  (EW W2 _ _ gm (fun e=>blk_set_ne z L e.symm)).trans L⟩
theorem WO.st2 {w W:World} {ok:Nat->Prop} {m:MZ} {ch us:List Int} {f u t v1 v2:Value} {gs gm:Nat} (hm:zt w ok (.agg #[.int .i64 m.w,.int .i64 m.h,.int .i64 m.l,f,u,t]) m) (h:WO w W m ch vs f u t gs gm v1 v2 us) (E:vs.length=ps.length)
  (z:∀(i:Nat) (x:List Int),ps[i]?=some x->∃u,vs[i]?=some u/\zi W ok2 u x) (D:∀b,ok2 b->ok b\/w.heap.size<=b):BM W (fun b=>ok b\/w.heap.size<=b) gs m ch ps us f u t v1 v2 gm:=
 BM.make h.ext hm (fun _ h=>.inl h) h.blk (.inr h.hs) ((zV.of_own h.ch).weaken (fun _ h=>.inr h)) ⟨vs,by rw [<-E];exact (zV.of_own h.ps).weaken (fun _ h=>.inr h),fun i x J=>by
  obtain ⟨u,I,G⟩:=z i x J;exact ⟨u,I,G.weaken D⟩⟩ (.inr h.hm) h.set
def Ct (ps:List (List Int)) (n:Int):List (List Int):=ps.set (ps.length - 1) (ps.getD (ps.length - 1) []++[n])
def Ca (m:MZ) (ps:List (List Int)) (n:Int):List (List Int):=if finB m (Ct ps n)=true/\ps.length<m.tasks.length then Ct ps n++[[]] else Ct ps n
theorem ints_setCell {W:World} {ok:Nat->Prop} {v:Value} {b k:Nat} (h:zi W ok v l) (z:¬ ok b):zi (W.setCell ⟨b,k,none⟩ x) ok v l:=
 h.keep (fun g D _=>EW W ⟨b,k,none⟩ x g (fun e=>z (by rw [<-show g=b from e];exact D)))
theorem paths_set {w wt W9:World} {ok:Nat->Prop} {m:MZ} {ch us:List Int} {f u t v1 x15:Value} {gs gm b2 k:Nat}
  (M:∀(i:Nat) (x:List Int),ps[i]?=some x->∃u,vs[i]?=some u/\zi w ok u x) (hl:vs.length=ps.length) (J:WO w wt m ch vs f u t gs gm v1 (.slice (some ⟨b2,0,none⟩) vs.length c) us) (Z:zb wt W9) (a0:w.heap.size<=b2) (L:b2<wt.heap.size) (hk:k<vs.length)
  (hx:zi W9 (fun b=>wt.heap.size<=b) x15 q):
  ∀(i:Nat) (x:List Int),(ps.set k q)[i]?=some x->∃u,(vs.set k x15)[i]?=some u/\zi (W9.setCell ⟨b2,k,none⟩ x15) (fun b=>(ok b/\b<w.heap.size)\/wt.heap.size<=b) u x:=by
 intro i x E;by_cases D:k=i
 ·subst D;rw [List.getElem?_set_self (by omega)] at E;injection E with E;subst E;refine ⟨x15,by rw [List.getElem?_set_self hk],(ints_setCell hx (by omega)).weaken (fun b G=>.inr G)⟩
 ·rw [List.getElem?_set_ne D] at E;obtain ⟨u',U,hr⟩:=M i x E;refine ⟨u',by rw [List.getElem?_set_ne D];exact U,?_⟩
  have T:zi w (fun b=>ok b/\b<w.heap.size) u' x:=by
   obtain ⟨A,c',e,hc,O,z⟩:=hr;refine ⟨A,c',e,hc,O,fun V=>?_⟩;obtain ⟨b,off,e',G,I⟩:=z V
   have Q:b<w.heap.size:=by
    have h0:0<(x.map (Value.int .i64)).length:=by simpa using V
    exact zp (I 0 _ (EL h0))
   exact ⟨b,off,e',⟨G,Q⟩,I⟩
  exact ((ints_setCell (T.below (J.ext.trans Z)) (by omega)).weaken (fun b G=>.inl G))
structure J7 (wk:World) (b2 k:Nat) (p:List Int) (n:Int) (up:Value) (e:Nat->Bool) (v:Nat->Value) (W:World):Prop where
 ext:e 17=false->zb wk W
 l:e 11=true->v 11=up
 c:e 12=true->e 15=false->zA W wk.heap.size (v 12) p
 b:e 14=true->e 15=false->∃g,v 14=.slice (some ⟨g,0,none⟩) 1 1/\W.cell? ⟨g,0,none⟩=some (.int .i64 n)
 ap:e 15=true->e 17=false->zA W wk.heap.size (v 15) (p++[n])
 ix:e 16=true->v 16=.pointer (some ⟨b2,k,none⟩)
 st:e 17=true->∃W9,zb wk W9/\zA W9 wk.heap.size (v 15) (p++[n])/\W=W9.setCell ⟨b2,k,none⟩ (v 15)
 d12:e 12=true->e 11=true
 d15:e 15=true->e 12=true/\e 14=true
 d17:e 17=true->e 15=true/\e 16=true
section
variable {wk W W':World} {b2 k:Nat} {p:List Int} {n:Int} {up:Value} {e:Nat->Bool} {v:Nat->Value}
theorem J7.init (he:∀j∈[11,12,14,15,16,17],e j=false):J7 wk b2 k p n up e v wk.drew:=
 ⟨fun _=>DA,fun a=>ff (he 11 (by simp)) a,fun a=>ff (he 12 (by simp)) a,fun a=>ff (he 14 (by simp)) a,fun a=>ff (he 15 (by simp)) a,fun a=>ff (he 16 (by simp)) a,fun a=>ff (he 17 (by simp)) a,fun a=>ff (he 12 (by simp)) a,fun a=>ff (he 15 (by simp)) a,fun a=>ff (he 17 (by simp)) a⟩
theorem J7.n15 (h:J7 wk b2 k p n up e v W) (z:e 12=false):e 15=false:=notT (fun a=>(h.d15 a).1) z
theorem J7.n15' (h:J7 wk b2 k p n up e v W) (z:e 14=false):e 15=false:=notT (fun a=>(h.d15 a).2) z
theorem J7.n12 (h:J7 wk b2 k p n up e v W) (z:e 11=false):e 12=false:=notT h.d12 z
theorem J7.n17 (h:J7 wk b2 k p n up e v W) (z:e 15=false):e 17=false:=notT (fun a=>(h.d17 a).1) z
theorem J7.s11 (h:J7 wk b2 k p n up e v W):J7 wk b2 k p n up (AI e 11 true) (AI v 11 up) W:=
 ⟨h.ext,fun _=>rfl,h.c,h.b,h.ap,h.ix,h.st,fun _=>rfl,h.d15,h.d17⟩
theorem J7.s12 (h:J7 wk b2 k p n up e v W) (E:e 17=false) (z:e 15=false) (D:e 11=true) (G:zb W W') (I:zA W' wk.heap.size x p):J7 wk b2 k p n up (AI e 12 true) (AI v 12 x) W':=
 ⟨fun a=>(h.ext a).trans G,h.l,fun _ _=>I,fun a b=>(by obtain ⟨g,h1,h2⟩:=h.b a b;exact ⟨g,h1,G.cell h2⟩),fun a=>ff z a,h.ix,fun a=>ff E a,fun _=>D,fun a=>ff z a,h.d17⟩
theorem J7.s14 (h:J7 wk b2 k p n up e v W) (D:e 17=false) (z:e 15=false) (E:zb W W') (G:W'.cell? ⟨g,0,none⟩=some (.int .i64 n)):J7 wk b2 k p n up (AI e 14 true) (AI v 14 (.slice (some ⟨g,0,none⟩) 1 1)) W':=
 ⟨fun a=>(h.ext a).trans E,h.l,fun a b=>(h.c a b).ext E,fun _ _=>⟨g,rfl,G⟩,fun a=>ff z a,h.ix,fun a=>ff D a,h.d12,fun a=>ff z a,h.d17⟩
theorem J7.s15 (h:J7 wk b2 k p n up e v W) (E:e 17=false) (z:e 12=true) (D:e 14=true) (G:zb wk W') (I:zA W' wk.heap.size x (p++[n])):J7 wk b2 k p n up (AI e 15 true) (AI v 15 x) W':=
 ⟨fun _=>G,h.l,fun _ a=>(by cases a),fun _ a=>(by cases a),fun _ _=>I,h.ix,fun a=>ff E a,h.d12,fun _=>⟨z,D⟩,fun a=>⟨rfl,(h.d17 a).2⟩⟩
theorem J7.s16 (h:J7 wk b2 k p n up e v W):J7 wk b2 k p n up (AI e 16 true) (AI v 16 (.pointer (some ⟨b2,k,none⟩))) W:=
 ⟨h.ext,h.l,h.c,h.b,h.ap,fun _=>rfl,h.st,h.d12,h.d15,fun a=>⟨(h.d17 a).1,rfl⟩⟩
theorem J7.s17 (h:J7 wk b2 k p n up e v W) (D:e 17=false) (z:e 15=true) (E:e 16=true) (hW:W'=W.setCell ⟨b2,k,none⟩ (v 15)):J7 wk b2 k p n up (AI e 17 true) (AI v 17 x) W':=
 ⟨fun a=>(by cases a),h.l,fun _ a=>ff (b:=e 15) a z,fun _ a=>ff (b:=e 15) a z,fun _ a=>(by cases a),h.ix,fun _=>⟨W,h.ext D,h.ap z D,hW⟩,h.d12,h.d15,fun _=>⟨z,E⟩⟩
theorem WO.store {w:World} {m:MZ} {ch us:List Int} {vsp:List Value} {f u t v1:Value} {gs gm:Nat} (h:WO w W m ch vsp f u t gs gm v1 (.slice (some ⟨b2,0,none⟩) vsp.length c) us) (D:w.heap.size<=b2):
  WO w (W.setCell ⟨b2,k,none⟩ x) m ch (vsp.set k x) f u t gs gm v1 (.slice (some ⟨b2,0,none⟩) vsp.length c) us:=by
 have h2:Cf (W.setCell ⟨b2,k,none⟩ x) w.heap.size (.slice (some ⟨b2,0,none⟩) vsp.length c) (vsp.set k x):=by
  have:=(World.ownsRow.stored h.ps k x).1;unfold Cf;rw [List.length_set];exact this
 have z:=(World.ownsRow.stored h.ps k x).2;have h3:v1.ownBlock=none\/v1.ownBlock≠some b2:=own_ne h.ch h.ps (by decide);have E:b2≠gs:=fun e=>CX h.blk h.ps (by decide) (by rw [<-e];rfl)
 have G:b2≠gm:=fun e=>by
  rcases BU h.ps h.set with h | h
  ·cases h
  ·exact h (by rw [<-e];rfl)
 exact ⟨Bj h.ext z h.ext.size D,h.hs,h.hm,(z.block gs (zd h.blk) (fun e=>by injection e with e;exact E e.symm)).trans h.blk,World.ownsRow.kept h.ch z h3,h2,(z.block gm (zd h.set) (fun e=>by injection e with e;exact G e.symm)).trans h.set⟩
end
theorem with_calls {ok:Nat->Prop} {m:MZ} {ch us:List Int} {f u:Value} (n:Int) (w:World) (h:BM w ok g m ch ps us f u ts vc vp gu) (so:SOk m ch ps) (so1:SOk m (ch++[n]) (Ct ps n)) (hp:0<ps.length):
  Calls Tryz.prog 85 #[.pointer (some ⟨g,0,none⟩),.int .i64 n] w fun e w'=>∃v',e=.returned v'/\zb w w'/\∃us',(∀x,x∈us'↔x=n\/x∈us)/\Dt w' (fun b=>ok b\/w.heap.size<=b) v' m (ch++[n]) (Ca m ps n) us':=by
 obtain ⟨r0,r1,r2,r3,r4,r5,r6,r7,r8⟩:=h.rules;have n0:=h.ps;have o9:=h.ch;have m7:=h.maze;obtain ⟨fr',up',ts',b0,_,_,n3⟩:=m7;injection b0 with b0;injection b0 with b0;simp only [List.cons.injEq,and_true,true_and] at b0;obtain ⟨rfl,rfl,rfl⟩:=b0;obtain ⟨vst,⟨At,ct,rfl,p3,_⟩,_⟩:=n3;have SO1:=zh so1;clear so1;have HS:=zh h;clear h;have so_pl:ps.length<=6:=EP so.pl so.good.tk;have SO:=zh so;clear so;obtain ⟨vs,a8,g8⟩:=n0
 have i1:vs.length=ps.length:=by
  obtain ⟨_,_,_,_,hr⟩:=a8;have:=hr.1;omega
 have h1:∀u∈vs,u.oneCell'=true:=by
  intro u hu;obtain ⟨i,hi,rfl⟩:=Fu hu;obtain ⟨u',e7,n1⟩:=g8 i _ (EL (by omega:i<ps.length));rw [EL hi] at e7;injection e7 with e7;rw [e7];exact CO n1
 rw [<-i1] at a8;have o4:vs.length<=6:=by have:=so_pl;omega
 have H1:=zh h1;clear h1;have V:=zh i1;clear i1;have i5:=zh a8;clear a8;have f6:=zh g8;clear g8;have p6:=@run_makeMap Tryz.prog;have hx:=zb.refl w
 go_enter Tryz.func85,Tryz.ntmps85
 go_wp2_with fail
 refine Fd (S:=(fun w'=>zb w w')) (by kernel_rfl) (DA) fun zH=>?_;refine ze 0 zH ?_;refine ze 1 zH ?_;refine ze 2 zH ?_;refine ze 3 zH ?_;refine ze 4 zH ?_;refine ze 5 zH ?_;refine ze 6 zH ?_;refine ze 7 zH ?_;refine ze 9 zH ?_;refine ze 12 zH ?_;refine ze 13 zH ?_;refine ze 14 zH ?_;refine ze 15 zH ?_;refine ze 18 zH ?_;simp only [za,EK];refine BL [8,10,11,16,17,19,20,21,22,23] (fun e v W=>JW w ch n vs m f u (.slice At m.tasks.length ct) e v W) (F:=?F1) (by kernel_rfl) (by kernel_rfl) (by decide) zH (fun v=>?hF1) ?init1 (by kernel_rfl) ?steps1 ?fin1
 case hF1=>(simp only [zS,Co,List.getElem?_toArray,List.getElem?_cons_succ,List.getElem?_cons_zero,Option.bind,Act.put,List.setIfInBounds_toArray,List.set_cons_succ,List.set_cons_zero];rfl)
 case init1=>
  intro e v he;exact JW.init he
 case steps1=>
  refine zk.cons rfl (fun e v W K z hW he E D=>?_) ?_
  ·simp only [za] at E D⊢;go_simp;go_at_call 46;refine (Eb _ (HS.out.ext hW).ch (by have:=SO.out.cl;omega)).mono ?_;rintro e9 w9 ⟨v9,rfl,hM⟩;exact D.out _ v9 _ (by rfl) (hW.trans hM.ext) ((z.keep hM.ext).s8 (z.n11 he) (hM.own.mono hW.size))
  refine zk.cons rfl (fun e v W K z hW he E D=>?_) ?_
  ·simp only [za] at E D⊢;go_simp;exact D.out _ _ _ (by rfl) (hW.alloc _) ((z.keep ((zb.refl W).alloc _)).s10 (zr _ _ _ rfl))
  refine zk.cons rfl (fun e v W K z hW he E D=>?_) ?_
  ·simp only [za] at E D⊢;have h8:e 8=true:=zo E [8] (by kernel_rfl) 8 (by simp);have l7:e 10=true:=zo E [10] (by kernel_rfl) 10 (by simp);obtain ⟨gb,k4,j2⟩:=z.b l7 he;rw [if_pos (by rfl)];refine CT (ok:=fun _=>True) W _ _ (by rfl) w.heap.size ch [n] (v 8) (v 10) (by rfl) (by rfl) (z.c1 h8 he) (by rw [k4];exact DB j2) hW.size (by have:=SO.out.cl;simp;omega) ?_;intro v9 w9 ho hg _;exact D.out _ v9 _ (by rfl) (Ae hW hg hW.size (fun k hk=>Bq (z.c1 h8 he) hk)) (z.s11 h8 he (z.n21 he) (z.n22 (z.n21 he)) ho hg)
  refine zk.cons rfl (fun e v W K z hW he E D=>?_) ?_
  ·simp only [za] at E D⊢;go_simp;go_at_call 108;refine (cloneL_calls _ (i5.out.below hW) H1.out (by omega)).mono ?_;rintro e9 w9 ⟨v9,rfl,Z,hO⟩;exact D.out _ v9 _ (by rfl) (hW.trans Z) ((z.keep Z).s16 (z.n21' he) (z.n22 (z.n21' he)) (hO.mono hW.size))
  refine zk.cons rfl (fun e v W K z hW he E D=>?_) ?_
  ·simp only [za] at E D⊢;go_simp;exact D.out _ _ _ (by rfl) (hW.alloc _) ((z.keep ((zb.refl W).alloc _)).s17 (z.n19 he) (z.n20 (z.n19 he)) hW.size (zD.new _))
  refine zk.cons rfl (fun e v W K z hW he E D=>?_) ?_
  ·simp only [za] at E D⊢;have L:e 17=true:=zo E [17] (by kernel_rfl) 17 (by simp);obtain ⟨gm,I,g9,O⟩:=z.mm L;rw [he] at O;obtain ⟨w9,f5,d5,b1⟩:=run_add O n 79 Tryz.underlying79;have n2:(Instr.mapUpdate 79 (v 17) (.int .i64 n) (.bool true)).run Tryz.prog W=.ok () w9:=by rw [I];exact f5
   have HJ:=zh (z.s19 (x:=undef) L I O (z.n22 (z.n21'' (z.n20 he))) (by have:=d5;rwa [ins_new (by simp)] at this) b1 g9);clear f5 d5 O I;go_simp;exact D.out _ undef _ (by rfl) HJ.out.ext HJ.out
  refine zk.cons rfl (fun e v W K z hW he E D=>?_) ?_
  ·simp only [za] at E D⊢;have l8:e 19=true:=zo E [19] (by kernel_rfl) 19 (by simp);go_simp;exact D.out _ (v 17) _ (by rfl) hW (z.s20 l8 (z.n21'' he) (z.n22 (z.n21'' he)))
  refine zk.cons rfl (fun e v W K z hW he E D=>?_) ?_
  ·simp only [za] at E D⊢;have b6:e 11=true:=zo E [11] (by kernel_rfl) 11 (by simp);have b7:e 16=true:=zo E [16] (by kernel_rfl) 16 (by simp);have g0:e 20=true:=zo E [20] (by kernel_rfl) 20 (by simp);obtain ⟨A1,c1,d6,_⟩:=Bk (z.ap b6);obtain ⟨A2,c2,d8,_⟩:=zV.of_own (z.c2 b7);have L:=z.d19 (z.d20 g0);obtain ⟨gm,I,_,_⟩:=z.mm L;have a9:=(z.mv g0).trans I;clear I;go_simp;exact D.out _ (.agg #[.int .i64 m.w,.int .i64 m.h,.int .i64 m.l,f,u,.slice At m.tasks.length ct,v 11,v 16,v 20]) _ (by simp [Act.put,d6,d8,a9]) hW (z.s21 ⟨b6,b7,g0⟩ rfl)
  refine zk.cons rfl (fun e v W K z hW he E D=>?_) ?_
  ·simp only [za] at E D⊢;have i7:e 21=true:=zo E [21] (by kernel_rfl) 21 (by simp);have k6:=z.bd i7;go_simp;exact D.out _ _ _ (by simp [Act.put,k6]) (hW.alloc _) ((z.keep ((zb.refl W).alloc _)).s22 i7 (z.n23 he) hW.size (zg.new _ _ _ rfl))
  refine zk.cons rfl (fun e v W K z hW he E D=>?_) ?_
  ·simp only [za] at E D⊢;have l9:e 22=true:=zo E [22] (by kernel_rfl) 22 (by simp);go_simp;exact D.out _ (v 22) _ (by rfl) hW (z.s23 l9)
  exact zk.nil
 case fin1=>
  intro v W z hW;have e1:=z.fin rfl;obtain ⟨gs,d9,m5,c8⟩:=z.bx rfl;obtain ⟨gm,I,g9,O⟩:=z.mm rfl;have a9:=(z.mv rfl).trans I;have e2:=e1.trans d9;rw [a9] at c8;have G:Hid (WO w W m (ch++[n]) vs f u (.slice At m.tasks.length ct) gs gm (v 11) (v 16) [n]):=⟨z.ext,m5,g9,c8,z.ap rfl,z.c2 rfl,by simpa using O⟩;generalize v 11=v1 at*;generalize v 16=v2 at*;rw [e2,d9];clear z c8 O a9 I d9 e1 e2;have q3:=run_range_map (P:=Tryz.prog) W 79 3 4 gu _ us.length Tryz.underlying79 ((HS.out.ext hW).us);have j0:Hid (RW w (W.alloc (.mapIter (some gu) us.length #[] us.length)) m (ch++[n]) vs f u (.slice At m.tasks.length ct) gs gm v1 v2 [n] W.heap.size gu us n #[] us.length):=⟨G.out.keep ((zb.refl W).alloc _),FB _ _,hW.size,EN _,((HS.out.ext hW).us).below ((zb.refl W).alloc _),fun x=>by simp⟩;have m6:gu<w.heap.size:=zd HS.out.us;have p9:=r8 W hW
  go_wp2_with fail
  generalize W.heap.size=r at*
  go_loopg [6] (leftN us.length #[]) (fun gk s6 wr=>∃us2 seen c0,gk=leftN us.length seen/\Hid (RW w wr m (ch++[n]) vs f u (.slice At m.tasks.length ct) gs gm v1 v2 us2 r gu us n seen c0))
  case atStart=>exact ⟨[n],#[],us.length,rfl,j0⟩
  clear j0
  case round=>
   obtain ⟨us2,seen,c0,rfl,hR⟩:=hrel;rcases set_next (P:=Tryz.prog) hR.out.old hR.out.it hR.out.hc with ⟨f3,h9⟩ | ⟨i,hi,m8,w1,g5,h9,m4⟩
   ·have d4:Hid (∀x,x∈us2↔x=n\/x∈us):=fun x=>by rw [hR.out.mem];exact mem_all f3
    have G:=zh hR.out.wo;have a1:=zh (WO.st HS.out f6.out hR.out.wo V.out);have b3:=hR.out.wo.ext
    go_wp2_with fail
    clear hR f3 h9;obtain ⟨wk,rfl⟩:∃wk:World,wk=wr:=⟨_,rfl⟩;refine (Bv _ a1.out (by omega)).mono ?_;rintro e wt ⟨T,e3⟩;have e3:zb wk wt:=e3 ▸ zb.refl _;obtain ⟨k,hk⟩:∃k,ps.length=k+1:=⟨ps.length - 1,by omega⟩;have j8:(ps.length:Int) - 1=(k:Int):=by omega
    rw [j8] at T;subst T;have G:=zh (G.out.keep e3);have b3:=G.out.ext;clear a1 e3 j8;have h6:k<ps.length:=by omega
    obtain ⟨up,k3,h5⟩:=f6.out k _ (EL h6);obtain ⟨p,e6⟩:=zak (ps[k]);rw [<-e6] at h5;have p7:p.length<=1000:=by rw [e6];exact SO.out.pp _ (EO h6)
    have l4:=zh e6;clear e6;have l5:=zh h5;clear h5;have k9:vs.length=k+1:=by have:=V.out;omega
    obtain ⟨b2,cp2,n4,g6,a3⟩:=World.ownsRow.form G.out.ps (by omega);subst n4;have j4:wt.cell? ⟨b2,k,none⟩=some up:=by rw [World.ownsRow.cellAt G.out.ps k (by omega)];exact k3
    have hfz:wt.frozen? ⟨b2,k,none⟩=false:=World.ownsRow.frozenAt G.out.ps k;have rup:=zb.rule j4;have a6:wt.cell? ⟨gs,7,none⟩=some (.slice (some ⟨b2,0,none⟩) vs.length cp2):=G.out.blk.cell rfl;have e5:gs<wt.heap.size:=zd G.out.blk;have j6:gs≠b2:=fun e=>CX G.out.blk G.out.ps (by decide) (by rw [e];rfl)
    have l6:=zh k9;have o3:(k:Int)<(vs.length:Int):=by omega
    have o1:(0:Int)<=(k:Int):=by omega
    have n9:=own_capL G.out.ps;clear j4 k3 hk k9
    go_wp2_with fail
    refine Fd (S:=(fun W=>zb w W/\W.cell? ⟨gs,7,none⟩=some (.slice (some ⟨b2,0,none⟩) vs.length cp2))) (by kernel_rfl) (⟨b3.drew,a6⟩) fun zH=>?_;refine ze 0 zH ?_;refine ze 1 zH ?_;refine ze 2 zH ?_;refine ze 3 zH ?_;refine ze 4 zH ?_;refine ze 5 zH ?_;refine ze 6 zH ?_;refine ze 7 zH ?_;refine ze 8 zH ?_;refine ze 9 zH ?_;refine ze 10 zH ?_;refine ze 13 zH ?_;simp only [za,EK];refine BL [11,12,14,15,16,17] (fun e v W=>J7 wt b2 k p n up e v W) (F:=?F16) (by kernel_rfl) (by kernel_rfl) (by decide) zH (fun v=>?hF16) ?init16 (by kernel_rfl) ?steps16 ?fin16
    case hF16=>(simp only [zS,Co,List.getElem?_toArray,List.getElem?_cons_succ,List.getElem?_cons_zero,Option.bind,Act.put,List.setIfInBounds_toArray,List.set_cons_succ,List.set_cons_zero];rfl)
    case init16=>
     intro e v he;exact J7.init he
    case steps16=>
     refine zk.cons rfl (fun e v W K z hW he E D=>?_) ?_
     ·simp only [za] at E D⊢;have Z:=z.ext (z.n17 (z.n15 (z.n12 he)));have m2:=rup W Z;go_simp;exact D.out _ up _ (by rfl) hW (z.s11)
     refine zk.cons rfl (fun e v W K z hW he E D=>?_) ?_
     ·simp only [za] at E D⊢;have b6:e 11=true:=zo E [11] (by kernel_rfl) 11 (by simp);have Q:=z.n15 he;have L:=z.n17 Q;have Z:=z.ext L;have d6:=z.l b6;go_simp;go_at_call 46;refine (Eb _ (l5.out.below (b3.trans Z)) (by omega)).mono ?_;rintro e9 w9 ⟨v9,rfl,hM⟩;exact D.out _ v9 _ (by simp [Act.put,d6]) ⟨hW.1.trans hM.ext,hM.ext.cell hW.2⟩ (z.s12 L Q b6 hM.ext (hM.own.mono Z.size))
     refine zk.cons rfl (fun e v W K z hW he E D=>?_) ?_
     ·simp only [za] at E D⊢;have Q:=z.n15' he;have L:=z.n17 Q;go_simp;exact D.out _ _ _ (by rfl) ⟨hW.1.alloc _,((zb.refl W).alloc _).cell hW.2⟩ (z.s14 L Q ((zb.refl W).alloc _) (zr _ _ _ rfl))
     refine zk.cons rfl (fun e v W K z hW he E D=>?_) ?_
     ·simp only [za] at E D⊢;have f9:e 12=true:=zo E [12] (by kernel_rfl) 12 (by simp);have i6:e 14=true:=zo E [14] (by kernel_rfl) 14 (by simp);have L:=z.n17 he;obtain ⟨gb,k5,j3⟩:=z.b i6 he;have Z:=z.ext L;rw [if_pos (by rfl)];refine CT (ok:=fun _=>True) W _ _ (by rfl) wt.heap.size p [n] (v 12) (v 14) (by rfl) (by rfl) (z.c f9 he) (by rw [k5];exact DB j3) Z.size (by simp;omega) ?_;intro v9 w9 ho hg _;have a0:zb wt w9:=Ae Z hg Z.size (fun k hk=>Bq (z.c f9 he) hk);exact D.out _ v9 _ (by rfl) ⟨b3.trans a0,a0.cell a6⟩ (z.s15 L f9 i6 a0 ho)
     refine zk.cons rfl (fun e v W K z hW he E D=>?_) ?_
     ·simp only [za] at E D⊢;go_simp;exact D.out _ _ _ (by rfl) hW z.s16
     refine zk.cons rfl (fun e v W K z hW he E D=>?_) ?_
     ·simp only [za] at E D⊢;have Q:e 15=true:=zo E [15] (by kernel_rfl) 15 (by simp);have b7:e 16=true:=zo E [16] (by kernel_rfl) 16 (by simp);have Z:=z.ext he;have i8:=z.ap Q he;obtain ⟨A9,c9,d7,_⟩:=Bk i8;rw [show (p++[n]).length=p.length+1 from by simp] at d7;have d8:=z.ix b7;have m2:=rup W Z;have p5:W.frozen? ⟨b2,k,none⟩=false:=(Z.frozen (p:=⟨b2,k,none⟩) a3).trans hfz;have HJ:=zh (z.s17 (x:=undef) he Q b7 rfl);have HE:=zh (show zb w (W.setCell ⟨b2,k,none⟩ (v 15))/\(W.setCell ⟨b2,k,none⟩ (v 15)).cell? ⟨gs,7,none⟩=some (.slice (some ⟨b2,0,none⟩) vs.length cp2) from ⟨(b3.trans Z).setCell g6 _,(Fc (w:=W) (EW W _ _ gs (fun e=>j6 e))).trans hW.2⟩);rw [d7] at HJ HE;go_simp;exact D.out _ undef _ (by simp [Act.put,d7,d8]) HE.out HJ.out
     exact zk.nil
    case fin16=>
     intro v W z hW;obtain ⟨W9,a0,i9,g4⟩:=z.st rfl;generalize v 15=x15 at*;have c5:=zh ((G.out.keep a0).store (k:=k) (x:=x15) g6);have b8:Hid (∀(i:Nat) (x:List Int),(ps.set k (p++[n]))[i]?=some x->∃u,(vs.set k x15)[i]?=some u/\zi W (fun b=>(ok b/\b<w.heap.size)\/wt.heap.size<=b) u x):=by rw [g4];exact paths_set f6.out V.out G.out a0 g6 a3 (by omega) (zV.of_own i9)
     rw [<-g4] at c5;clear z i9 g4 G a6 rup a0;have G:=c5;clear c5;have c7:Ct ps n=ps.set k (p++[n]):=by unfold Ct;rw [show ps.length - 1=k from by have:=V.out;have:=l6.out;omega,l4.out];simp [h6]
     rw [<-c7] at b8;have n7:=zh c7;clear c7;have e0:Hid ((vs.set k x15).length=(Ct ps n).length):=by have:=V.out;show _=_;unfold Ct;simp;omega
     have l0:Hid ((vs.set k x15).length=vs.length):=by show _=_;simp
     have g5:Hid ((Ct ps n).length=ps.length):=by show _=_;unfold Ct;simp
     generalize vs.set k x15=vs1 at*;have f4:Hid (∀b,((ok b/\b<w.heap.size)\/wt.heap.size<=b)->ok b\/w.heap.size<=b):=fun b hb=>by rcases hb with h | h;exact .inl h.1;exact .inr (EP b3.size h)
     have a1:=zh (WO.st2 HS.out.maze G.out e0.out b8.out f4.out);have i2:=G.out.ext;have k8:Hid (b2<wt.heap.size):=a3;have h4:Hid (gs<wt.heap.size):=e5;have f2:0<(Ct ps n).length:=by have:=g5.out;omega
     have a6:W.cell? ⟨gs,7,none⟩=some (.slice (some ⟨b2,0,none⟩) vs.length cp2):=G.out.blk.cell rfl;have o0:=r5 W i2;obtain ⟨b,hb⟩:=zak (finB m (Ct ps n));have HB:=zh hb;clear hb;have j5:∀q:Nat,Calls Tryz.prog 87 #[.pointer (some ⟨gs,0,none⟩)] (W.drewN q) fun e w'=>e=.returned (.bool b)/\zM (W.drewN q) w':=fun q=>by rw [HB.out];exact Eu _ (a1.out.ext ((zb.refl W).drewN q)) SO1.out f2
     have f7:=zh j5;clear j5;clear f2
     cases b with
     | false=>
      have U:Ca m ps n=Ct ps n:=by unfold Ca;rw [if_neg (fun h=>by rw [<-HB.out] at h;cases h.1)]
      have b5:=zh U;clear U
      go_wp2_with fail
      go_quiet ((go_at_call 87;refine (f7.out _).mono ?_;rintro e w9 ⟨T,nd,rfl⟩;exact ⟨T,⟨_,World.drewN_drewN _ _ _⟩⟩))
      go_wp2_with fail
      go_ret;exact ⟨_,rfl,i2.drewN _,us2,d4.out,gs,_,_,_,_,_,gm,rfl,by rw [b5.out];exact a1.out.ext ((zb.refl W).drewN _)⟩
     | true=>
      by_cases h7:vs.length<m.tasks.length
      ·have U:Ca m ps n=Ct ps n++[[]]:=by unfold Ca;rw [if_pos ⟨HB.out.symm,by have:=V.out;omega⟩]
       have b5:=zh U;clear U;have E:decide ((vs.length:Int)<(m.tasks.length:Int))=true:=EQ (by omega)
       go_wp2_with fail
       go_quiet ((go_at_call 87;refine (f7.out _).mono ?_;rintro e w9 ⟨T,nd,rfl⟩;exact ⟨T,⟨_,World.drewN_drewN _ _ _⟩⟩))
       generalize j1:W.drewN nq=W4;have g3:zb W W4:=by rw [<-j1];exact (zb.refl W).drewN _
       clear j1;have a5:=zh (G.out.keep g3);have J:=zh (a5.out.keep ((zb.refl W4).alloc (.cells #[.slice none 0 0] 23)));have q6:=a5.out.ext;have o7:W4.cell? ⟨gs,7,none⟩=some (.slice (some ⟨b2,0,none⟩) vs.length cp2):=a5.out.blk.cell rfl;have n6:w.heap.size<=(W4.alloc (.cells #[.slice none 0 0] 23)).heap.size:=J.out.ext.size;have q5:vs1.length<=6:=by have:=l0.out;omega
       go_wp2_with (at_builtin;refine BH (ok:=fun _=>True) rfl _ _ _ rfl w.heap.size vs1 [.slice none 0 0] _ _ rfl rfl J.out.ps (row_nil1 (g:=W4.heap.size) (zr _ _ _ rfl) trivial) (by simp [Value.oneCell']) n6 (by simp;omega) ?_)
       intro v' w6 i0 e4 _;have c4:=zh (J.out.app i0 e4.out);have g7:zg w6 gs 100 _:=(e4.out.block gs (zd J.out.blk) (fun e=>CX J.out.blk J.out.ps (by decide) e.symm)).trans J.out.blk;have o8:=g7.cell (k:=7) rfl;have p4:=g7.frozen 7
       have b9:Hid (Ao (fun b=>(ok b/\b<w.heap.size)\/wt.heap.size<=b) W (w6.setCell ⟨gs,7,none⟩ v')):=fun b hb h7=>by
        have k2:b≠gs/\b≠b2:=by
         have h1:=G.out.hs;have h2:=h4.out;have h3:=k8.out;rcases hb with h | h <;> omega
        rw [EW w6 ⟨gs,7,none⟩ v' b k2.1,e4.out.block b (Fq h7 (g3.trans ((zb.refl W4).alloc _)).size) (fun e=>k2.2 (by have e':some b=some b2:=e;injection e'))];exact (g3.trans ((zb.refl W4).alloc (.cells #[.slice none 0 0] 23))).block b h7
       have e8:=zh (paths_app b8.out e0.out b9.out);have f1:=zh (WO.st2 HS.out.maze c4.out (by have:=e0.out;simp;omega) e8.out f4.out);obtain ⟨A6,c6,k7,_⟩:=zV.of_own i0;subst k7;have j9:(vs1++[Value.slice none 0 0]).length=vs1.length+1:=by simp
       rw [j9] at c4 f1;clear j9;clear i0 e4 g7 b9 e8 J a5 a1
       go_wp2_with fail
       go_ret;exact ⟨_,rfl,c4.out.ext,us2,d4.out,gs,_,_,_,_,_,gm,rfl,by rw [b5.out];exact f1.out⟩
      ·have U:Ca m ps n=Ct ps n:=by unfold Ca;rw [if_neg (fun h=>by have:=h.2;have:=V.out;omega)]
       have b5:=zh U;clear U;have E:decide ((vs.length:Int)<(m.tasks.length:Int))=false:=ER (by omega)
       go_wp2_with fail
       go_quiet ((go_at_call 87;refine (f7.out _).mono ?_;rintro e w9 ⟨T,nd,rfl⟩;exact ⟨T,⟨_,World.drewN_drewN _ _ _⟩⟩))
       go_wp2_with fail
       go_ret;exact ⟨_,rfl,i2.drewN _,us2,d4.out,gs,_,_,_,_,_,gm,rfl,by rw [b5.out];exact a1.out.ext ((zb.refl W).drewN _)⟩
   ·obtain ⟨M,a7,a4⟩:=hR.out.step (i:=i) m6 g5;generalize setBlock w1 r (.mapIter (some gu) us.length (seen.push i) us.length)=W2 at*;have n5:=M.ext;have m3:W2.cell? ⟨gs,8,none⟩=some (.map (some gm)):=M.blk.cell rfl
    go_wp2_with (at_mapUpdate;refine CS rfl _ _ _ _ rfl Tryz.underlying79 gm us2 us[i] rfl rfl rfl M.set ?_)
    intro w9 d5 b1;have m1:Hid (RW w w9 m (ch++[n]) vs f u (.slice At m.tasks.length ct) gs gm v1 v2 (ins us2 us[i]) r gu us n (seen.push i) us.length):=⟨M.add d5 b1,(b1.block r (zd a7) (fun e=>by injection e with e;exact iter_ne a7 M.set (fun _ _ _ _ h=>by cases h) e.symm)).trans a7,hR.out.hr,EN _,(b1.block gu (zd a4) (fun e=>by injection e with e;have:=M.hm;omega)).trans a4,fun x=>by rw [mem_ins,hR.out.mem];exact mem_step hi⟩;clear d5 b1 M a7 a4 n5 m3 hR h9 m4
    go_wp2_with fail
    go_roundg (leftN us.length (seen.push i))
    case measure=>exact leftN_step hi m8
    case rel=>exact ⟨_,_,_,rfl,m1⟩
end
section
open Go.RowKit
attribute [local go_sem ↓] Go.wp_at_zero Go.wp_at_succ
def zT (m:MZ) (us:List Int) (t:Nat) (q from_:List Int) (n:Int):Bool:=zl m t n && !decide (n∈us) && !(q.any fun y=>decide (n∈zm m y)) && !decide (n∈from_)
def CC (m:MZ) (ps:List (List Int)) (us:List Int):List Int:=
 if cmpB m ps=true then []
 else match (ps.getD (ps.length - 1) []).getLast? with
  | none=>(Lib.compact (BJ (m.tasks.getD (ps.length - 1) ([],[])).1)).filter fun n=>zl m (ps.length - 1) n && !decide (n∈us)
  | some x=>(zm m x).filter (zT m us (ps.length - 1) (ps.getD (ps.length - 1) []).dropLast (m.tasks.getD (ps.length - 1) ([],[])).1)
theorem mem_sortL {x:Int}:x∈BJ l↔x∈l:=by unfold BJ;exact (List.mergeSort_perm _ _).mem_iff
theorem compact_len (l:List Int):(Lib.compact l).length<=l.length:=by
 unfold Lib.compact Lib.compactUpTo;rw [Fy];exact EP (Fr _ _) (by simp)
theorem Ey {x:Int} (h:x∈Lib.compact l):x∈l:=by
 unfold Lib.compact Lib.compactUpTo at h;obtain ⟨j,D,rfl⟩:=zac.1 h;have z:j<l.length:=by simpa using (zab.1 D).1
 simp [getElem!_pos,z]
theorem path_cell {w:World} {ok:Nat->Prop} {A:Option Addr} {n:Nat} (h:zi w ok (.slice A n c) l) {k:Nat} (z:l[k]?=some y):∃b o,A=some ⟨b,o,none⟩/\∀W,zb w W->W.cell? ⟨b,o+k,none⟩=some (.int .i64 y):=by
 obtain ⟨A',c',e,_,G⟩:=h;injection e with e1 e2 e3;subst e1
 have D:k<l.length:=by
  rcases Fk k l.length with h | h
  ·exact h
  ·rw [Fg h] at z;cases z
 obtain ⟨b,o,e,_,E⟩:=zy G D D;rw [EL D] at z;injection z with z;rw [z] at E;exact ⟨b,o,e,zb.rule E⟩
structure NR (W wr:World) (gn:Nat) (s:List Int):Prop where
 ext:zb W wr
 set:zD wr gn s
theorem NR.more {W:World} (h:NR W wr gn s) (z:zb wr w'):NR W w' gn s:=⟨h.ext.trans z,h.set.below z⟩
theorem NR.add {W:World} {x:Int} (h:NR W wr gn s) (E:gn=W.heap.size) (D:zD w' gn (ins s x)) (z:wr.grownBy w' (some gn)):NR W w' gn (ins s x):=⟨Bj h.ext z h.ext.size (by omega),D⟩
theorem near_step {m:MZ} {a:Int}:((∃y'∈q,a∈zm m y')\/a∈zm m y)↔∃y'∈q++[y],a∈zm m y':=by
 constructor
 ·rintro (⟨y',h1,h2⟩ | h)
  ·exact ⟨y',by simp [h1],h2⟩
  ·exact ⟨y,by simp,h⟩
 ·rintro ⟨y',h1,h2⟩;rw [FE,Fv] at h1;rcases h1 with h1 | rfl
  ·exact .inl ⟨y',h1,h2⟩
  ·exact .inr h2
theorem near_any {m:MZ} {z:Int} (h:z∈s↔∃y∈q,z∈zm m y):decide (z∈s)=q.any fun y=>decide (z∈zm m y):=by
 by_cases D:z∈s
 ·rw [EQ D];symm;obtain ⟨y,h1,h2⟩:=h.1 D;exact zaf.2 ⟨y,h1,EQ h2⟩
 ·rw [ER D];symm;rw [Bool.eq_false_iff];intro h3;obtain ⟨y,h1,h2⟩:=zaf.1 h3;exact D (h.2 ⟨y,h1,zah h2⟩)
structure JC (wB:World) (sn:ByteArray) (u1 u2 up:Value) (e:Nat->Bool) (v:Nat->Value) (W:World):Prop where
 ext:zb wB W
 al:e 15=true->∃g3,v 15=.pointer (some ⟨g3,0,none⟩)/\wB.heap.size<=g3/\(e 16=false->zg W g3 56 #[.string ⟨#[]⟩,.slice none 0 0,.slice none 0 0])/\(e 16=true->zg W g3 56 #[.string sn,u1,u2])
 asg:e 17=true->v 17=up
 d16:e 16=true->e 15=true
section
variable {wB W W':World} {sn:ByteArray} {u1 u2 up:Value} {e:Nat->Bool} {v:Nat->Value}
theorem JC.init (he:∀j∈[15,16,17],e j=false):JC wB sn u1 u2 up e v wB.drew:=
 ⟨DA,fun a=>ff (he 15 (by simp)) a,fun a=>ff (he 17 (by simp)) a,fun a=>ff (he 16 (by simp)) a⟩
theorem JC.s15 (h:JC wB sn u1 u2 up e v W) (z:e 15=false):JC wB sn u1 u2 up (AI e 15 true) (AI v 15 (.pointer (some ⟨W.heap.size,0,none⟩))) (W.alloc (.cells #[.string ⟨#[]⟩,.slice none 0 0,.slice none 0 0] 56)):=
 ⟨h.ext.alloc _,fun _=>⟨_,rfl,h.ext.size,fun _=>zg.new _ _ _ rfl,fun a=>ff (b:=e 16) (notT h.d16 z) a⟩,h.asg,fun _=>rfl⟩
theorem JC.s16 {g3:Nat} (h:JC wB sn u1 u2 up e v W) (z:e 15=true) (I:v 15=.pointer (some ⟨g3,0,none⟩)) (G:wB.heap.size<=g3) (D:zb wB W') (E:zg W' g3 56 #[.string sn,u1,u2]):JC wB sn u1 u2 up (AI e 16 true) (AI v 16 x) W':=
 ⟨D,fun _=>⟨g3,I,G,fun a=>(by cases a),fun _=>E⟩,h.asg,fun _=>z⟩
theorem JC.s17 (h:JC wB sn u1 u2 up e v W):JC wB sn u1 u2 up (AI e 17 true) (AI v 17 up) W:=⟨h.ext,h.al,fun _=>rfl,h.d16⟩
end
theorem candidates_calls {ok:Nat->Prop} {m:MZ} {ch us:List Int} {f u:Value} (w:World) (h:BM w ok g m ch ps us f u ts vc vp gu) (so:SOk m ch ps):
  Calls Tryz.prog 84 #[.pointer (some ⟨g,0,none⟩)] w fun e w'=>∃v',e=.returned v'/\Mk w w' v' (CC m ps us):=by
 have HS:=zh h;have SO:=zh so;have s3:ps.length<=6:=EP so.pl so.good.tk;obtain ⟨r0,r1,r2,r3,r4,r5,r6,r7,r8⟩:=h.rules;have hx:=zb.refl w
 go_enter Tryz.func84,Tryz.ntmps84
 go_wp2_with fail
 generalize i6:w.alloc (.cells #[.pointer (some ⟨g,0,none⟩)] 97)=w1;have j9:zb w w1:=by rw [<-i6];exact (zb.refl w).alloc _
 have h9:w1.cell? ⟨w.heap.size,0,none⟩=some (.pointer (some ⟨g,0,none⟩)):=by rw [<-i6];exact zr _ _ _ rfl
 have s2:w.heap.size<w1.heap.size:=zp h9;have rb:=zb.rule h9;clear i6;refine (CL _ (HS.out.ext j9) SO.out).mono ?_;rintro e wA ⟨rfl,k7⟩;have n0:zb w1 wA:=k7.below _;have hA:=j9.trans n0;clear k7 h9
 cases T:cmpB m ps with
 | true=>
  have HC:=zh T;clear T
  go_wp2_with fail
  go_ret;exact ⟨_,rfl,hA.mono_mk (Mk.cast (Mk.nil _) (by unfold CC;rw [if_pos HC.out]))⟩
 | false=>
  have HC:=zh T
  have hp:0<ps.length:=by
   by_cases h0:m.tasks.length=0
   ·unfold cmpB at T;rw [EQ h0] at T;cases T
   ·exact so.pn (by omega)
  clear T
  go_wp2_with fail
  refine (Bv _ (HS.out.ext hA) (by omega)).mono ?_;rintro e wB ⟨he,n8⟩;subst n8;obtain ⟨t,hk⟩:∃t,ps.length=t+1:=⟨ps.length - 1,by omega⟩;have l8:(ps.length:Int) - 1=(t:Int):=by omega
  rw [l8] at he;subst he;clear l8;have k3:zb w (wA.alloc (.cells #[.int .i64 t] 3)):=hA.alloc _;have o7:(wA.alloc (.cells #[.int .i64 t] 3)).cell? ⟨wA.heap.size,0,none⟩=some (.int .i64 t):=zr _ _ _ rfl;have n1:zb w1 (wA.alloc (.cells #[.int .i64 t] 3)):=n0.alloc _;have ho:=h.ps;have p7:=h.maze;obtain ⟨vs,⟨Ap,cp,rfl,t6,m5⟩,k8⟩:=ho;obtain ⟨fr',up',ts',b0,_,_,O⟩:=p7;injection b0 with b0;injection b0 with b0;simp only [List.cons.injEq,and_true,true_and] at b0;obtain ⟨rfl,rfl,rfl⟩:=b0;have q5:=O;obtain ⟨vst,⟨At,ct,rfl,t7,_⟩,_⟩:=q5;have e4:t<ps.length:=by omega
  obtain ⟨b,off,up,rfl,_,f6,i5⟩:=zO m5 k8 e4 e4;have f1:t<m.tasks.length:=by have:=so.pl;omega
  obtain ⟨bt,offt,sn,u1,u2,rfl,_,l5,l6,l7,f0,i0⟩:=AO O f1;have i1:=so.pp _ (EO e4);have e0:=so.pr _ (EO e4);have p5:=(so.lens.tl _ (EO f1)).1;have i4:=so.good.tn _ (EO f1)
  have d5:CC m ps us=match (ps[t]).getLast? with
    | none=>(Lib.compact (BJ (m.tasks[t]).1)).filter fun n=>zl m t n && !decide (n∈us)
    | some x=>(zm m x).filter (zT m us t (ps[t]).dropLast (m.tasks[t]).1):=by
   unfold CC;rw [HC.out,if_neg (by simp),show ps.length - 1=t from by omega];simp [e4,f1]
  have b5:=zh d5;clear d5;obtain ⟨p,m3⟩:=zak (ps[t]);obtain ⟨tk,m8⟩:=zak (m.tasks[t]);rw [<-m3] at i5 i1 b5 e0;rw [<-m8] at f0 i0 p5 b5 i4;have l1:=f0;obtain ⟨A5,c5,rfl,t2,_⟩:=l1;have l2:=i0;obtain ⟨A6,c6,rfl,t3,_⟩:=l2;clear m3 m8 m5 k8 O i0;have HP:=zh i5;clear i5;have HF:=zh f0;clear f0;have g8:=zh e0;clear e0;have n7:=zh i4;clear i4;have w8:(t:Int)<(ps.length:Int):=by omega
  have w7:(0:Int)<=(t:Int):=by omega
  have x0:(t:Int)<(m.tasks.length:Int):=by omega
  have k9:t<m.free.length:=by have:=so.good.fl;omega
  have q0:=zb.rule f6;have q1:=zb.rule l5;have q2:=zb.rule l6;have q3:=zb.rule l7;clear f6 l5 l6 l7 h so hk;generalize q7:wA.alloc (.cells #[.int .i64 t] 3)=wB at*;have rt:=zb.rule o7;have f3:=zb.refl wB
  go_wp2_with fail
  clear q7;refine Fd (S:=(fun W=>zb w W/\zb w1 W/\zb wB W)) (by kernel_rfl) (⟨k3.drew,n1.drew,f3.drew⟩) fun zH=>?_;refine ze 0 zH ?_;refine ze 1 zH ?_;refine ze 2 zH ?_;refine ze 3 zH ?_;refine ze 4 zH ?_;refine ze 5 zH ?_;refine ze 6 zH ?_;refine ze 7 zH ?_;refine ze 8 zH ?_;refine ze 9 zH ?_;refine ze 10 zH ?_;refine ze 11 zH ?_;refine ze 12 zH ?_;refine ze 13 zH ?_;refine ze 14 zH ?_;simp only [za,EK];refine BL [15,16,17] (fun e v W=>JC wB sn (.slice A5 tk.1.length c5) (.slice A6 tk.2.length c6) up e v W) (F:=?F1) (by kernel_rfl) (by kernel_rfl) (by decide) zH (fun v=>?hF1) ?init1 (by kernel_rfl) ?steps1 ?fin1
  case hF1=>(simp only [zS,Co,List.getElem?_toArray,List.getElem?_cons_succ,List.getElem?_cons_zero,Option.bind,Act.put,List.setIfInBounds_toArray,List.set_cons_succ,List.set_cons_zero];rfl)
  case init1=>
   intro e v he;exact JC.init he
  case steps1=>
   refine zk.cons rfl (fun e v W K hJ hW he hd hK=>?_) ?_
   ·simp only [za] at hd hK⊢;go_simp;exact hK.out _ _ _ (by rfl) ⟨hW.1.alloc _,hW.2.1.alloc _,hW.2.2.alloc _⟩ (hJ.s15 he)
   refine zk.cons rfl (fun e v W K hJ hW he hd hK=>?_) ?_
   ·simp only [za] at hd hK⊢;have j2:e 15=true:=zo hd [15] (by kernel_rfl) 15 (by simp);obtain ⟨g3,Z,d7,J,_⟩:=hJ.al j2;have J:=J he;have hf:=fun k=>J.frozen k
    have t0:=J.cell (k:=0) rfl;have t1:=J.cell (k:=1) rfl;have s1:=J.cell (k:=2) rfl;go_simp;have a9:=((hJ.ext.setCell (p:=⟨g3,0,none⟩) d7 (.string sn)).setCell (p:=⟨g3,1,none⟩) d7 (.slice A5 tk.1.length c5)).setCell (p:=⟨g3,2,none⟩) d7 (.slice A6 tk.2.length c6);exact hK.out _ undef _ (by simp [Act.put,Z]) ⟨k3.trans a9,n1.trans a9,a9⟩ (hJ.s16 j2 Z d7 a9 (((J.set (k:=0) _).set (k:=1) _).set (k:=2) _))
   refine zk.cons rfl (fun e v W K hJ hW he hd hK=>?_) ?_
   ·simp only [za] at hd hK⊢;go_simp;exact hK.out _ up _ (by rfl) hW hJ.s17
   exact zk.nil
  case fin1=>
   intro v W hJ hW;obtain ⟨g3,Z,d7,_,J⟩:=hJ.al rfl;have J:=J rfl;have g4:=hJ.asg rfl;rw [Z,g4];clear hJ Z g4;obtain ⟨o5,j7,o6⟩:=hW;have rg3:=zb.rule (J.cell (k:=1) rfl);clear J;have e6:=zh o5;have k6:=rt W o6;have t5:=Bi (P:=Tryz.prog) Tryz.func104 (by kernel_rfl) (by kernel_rfl);have f5:=rb W j7;generalize p3:wA.heap.size=g2 at*;clear p3;have p8:=HP.out;obtain ⟨Aq,cq,rfl,k4,q4⟩:=p8;clear q4;have f3:=zb.refl W;rcases List.eq_nil_or_concat p with rfl | ⟨q,x,rfl⟩
   ·have g7:Hid (CC m ps us=(Lib.compact (BJ tk.1)).filter fun n=>zl m t n && !decide (n∈us)):=b5.out
    go_wp2_with fail
    refine (values_calls A5 tk.1.length c5 W).mono ?_;rintro e w2 ⟨rfl,rfl⟩;have g9:zb W (W.alloc (.cells #[.slice A5 tk.1.length c5] 23)):=f3.alloc _;have k5:(W.alloc (.cells #[.slice A5 tk.1.length c5] 23)).cell? ⟨W.heap.size,0,none⟩=some (.slice A5 tk.1.length c5):=zr _ _ _ rfl;have hS:=zh (sorted_calls W.heap.size _ k5 (HF.out.below (e6.out.trans g9)) (by omega))
    go_wp2_with fail
    refine hS.out.mono ?_;rintro e w3 ⟨v3,rfl,h7⟩;have m7:(BJ tk.1).length<=1000000000000:=by unfold BJ;rw [List.length_mergeSort];omega
    have j3:=zh (compact_calls h7 m7);have a9:=zh h7.ext;clear h7 hS
    go_wp2_with fail
    refine j3.out.mono ?_;rintro e w4 ⟨v4,rfl,e7⟩;have p6:Hid (∀y,y∈Lib.compact (BJ tk.1)->y∈tk.1):=fun y hy=>mem_sortL.1 (Ey hy)
    have t9:(Lib.compact (BJ tk.1)).length<=1000000000000:=EP (compact_len _) m7;generalize Lib.compact (BJ tk.1)=L at*;have h4:zb W w4:=g9.trans e7.ext;obtain ⟨A7,c7,q6,t4⟩:=e7.slice;subst q6;have n6:=zh e7;clear e7 j3 a9 k5 g9;have m9:zb w w4:=e6.out.trans h4;have b8:=zh (Mk.nil w4)
    go_wp2_with fail
    go_loopw [7,46] (fun v i wr=>∃k:Nat,k<=L.length/\i=.int .i64 (k:Nat)/\Hid (Mk w4 wr v ((L.take k).filter fun n=>zl m t n && !decide (n∈us)))) (fun _ i _=>L.length - (intOf i).toNat)
    case atStart=>exact ⟨0,by omega,rfl,b8⟩
    clear b8
    case round=>
     obtain ⟨k,hk,rfl,hM⟩:=hrel;have D:=hM.out.ext;by_cases M:k<L.length
     ·obtain ⟨b9,rfl,U,G⟩:=own_at (n6.out.own.ext D) M;have O:=zh (EU M);have I:=n7.out _ (.inl (p6.out _ (EO M)));obtain ⟨y,hy⟩:=zak (L[k]);rw [<-hy] at G O I;clear hy;have E:=zh (cand1_calls t y wr (HS.out.ext (m9.trans D)) SO.out.good.fn k9 ((h4.trans D).cell f5) ((h4.trans D).cell k6) I.1 I.2);obtain ⟨bb,h8⟩:=zak ((zl m t y && !decide (y∈us)));rw [<-h8] at E;have n3:=zh h8;clear h8 I;have o9:((L.take k).filter fun n=>zl m t n && !decide (n∈us)).length<=1000000000000:=EP (Fr _ _) (by simp;omega);have a1:Hid ((L.take (k+1)).filter (fun n=>zl m t n && !decide (n∈us))=(L.take k).filter (fun n=>zl m t n && !decide (n∈us))++(if bb then [y] else [])):=by rw [O.out,FC,n3.out];show _++List.filter _ [y]=_;by_cases h:(zl m t y && !decide (y∈us))=true <;> simp [List.filter_cons,h]
      generalize (L.take k).filter (fun n=>zl m t n && !decide (n∈us))=lk at*
      go_wp2_with fail
      refine E.out.mono ?_;rintro e w5 ⟨rfl,d6⟩;have b6:zb wr w5:=d6.below _;have Q:=zh (hM.out.more b6);clear d6 E
      cases bb with
      | true=>
       have q8:w4.heap.size<=w5.heap.size:=Q.out.ext.size
       go_wp2_with (at_builtin;refine AP rfl _ _ rfl _ lk y w4.heap.size w5.heap.size 1 _ rfl rfl (Q.out.own.alloc _) ?d1 ?d2 ?d3 ?_)
       (try case d1=>exact zr _ _ _ (by simp))
       case d2=>(first | (simp;done) | (simp;omega) | omega)
       case d3=>omega
       intro v' wb d9 V _;have h6:=zh ((Q.out.alloc _).app d9 V);clear d9 V;go_wp2;go_roundw
       case rel=>exact ⟨k+1,by omega,by go_num,by rw [a1.out];exact h6⟩
       case measure=>simp [intOf];omega
      | false=>
       go_wp2;go_roundw
       case rel=>exact ⟨k+1,by omega,by go_num,by rw [a1.out];simpa using Q⟩
       case measure=>simp [intOf];omega
     ·obtain rfl:k=L.length:=by omega
      go_wp2_with fail
      go_ret;refine ⟨_,rfl,(m9.mono_mk hM.out).cast ?_⟩;rw [g7.out,EY]
   ·rw [List.concat_eq_append] at HP b5 g8;have m2:(q.concat x).length=q.length+1:=by simp
    have f9:(q++[x]).length=q.length+1:=by simp
    rw [m2] at k4 i1⊢;rw [f9] at HP;obtain ⟨N,hN⟩:=zak (q.length+1);rw [<-hN] at k4 i1 HP⊢;have s8:(q.length:Int)<(N:Int):=by omega
    have p9:IntKind.i64.wrap ((N:Int) - 1)=(q.length:Int):=by rw [Fi];omega
    have m4:(N:Int) - 1=(q.length:Int):=by omega
    have v7:(0:Int)<=(q.length:Int):=by omega
    have s7:0<N:=by omega
    have v8:q.length<=N:=by omega
    have g7:Hid (CC m ps us=(zm m x).filter (zT m us t q tk.1)):=by have h:=b5.out;simp at h;exact h
    have a6:Hid (∀k y,(q++[x])[k]?=some y->∃bq oq,Aq=some ⟨bq,oq,none⟩/\∀W',zb w W'->W'.cell? ⟨bq,oq+k,none⟩=some (.int .i64 y)):=fun k y hy=>path_cell HP.out hy
    clear m2 f9 hN;have v5:=@run_makeMap Tryz.prog
    go_wp2_with fail
    have j5:Hid (NR W (W.alloc (.map #[] 0)) W.heap.size []):=⟨f3.alloc _,zD.new W⟩;generalize l0:W.heap.size=gn at*;have f8:gn=W.heap.size:=l0.symm;have n5:=zh f8;clear l0 f8;go_loopw [66] (fun i wr=>∃k s,k<=q.length/\i=.int .i64 (k:Nat)/\Hid (NR W wr gn s)/\Hid (∀z,z∈s↔∃y∈q.take k,z∈zm m y)) (fun i _=>q.length - (intOf i).toNat)
    case atStart=>exact ⟨0,[],by omega,rfl,j5,by simp [Hid]⟩
    clear j5
    case round=>
     obtain ⟨k,s,hk,rfl,hR,d8⟩:=hrel;have D:zb W wr:=hR.out.ext;have e5:zb w wr:=e6.out.trans D;have i7:zb w1 wr:=j7.trans D;obtain ⟨wk,rfl⟩:∃wk:World,wk=wr:=⟨_,rfl⟩;by_cases M:k<q.length
     ·obtain ⟨bq,oq,rfl,G⟩:=a6.out k q[k] (by rw [ES M];exact EL M);have I:=g8.out q[k] (by simp);have O:=zh (EU M);obtain ⟨y,hy⟩:=zak (q[k]);rw [<-hy] at G I O;clear hy;have l9:(k:Int)<(q.length:Int):=by omega
      have m1:=zh (DC m y wk (HS.out.maze.below e5) SO.out.good.dim I.1 I.2);clear I
      go_wp2_with fail
      refine m1.out.mono ?_;rintro e w9 ⟨v9,rfl,U,a3⟩;have j6:=zh (hR.out.more U);have e8:Hid (zA w9 wk.heap.size v9 (zm m y)):=a3;obtain ⟨A9,c9,rfl,o8⟩:=Bk a3;have t8:gn<wk.heap.size:=zd hR.out.set;clear U a3 m1 hR;have p4:=Ba m y
      go_wp2_with fail
      go_loopw [77] (fun i wi=>∃j s',j<=(zm m y).length/\i=.int .i64 (j:Nat)/\Hid (NR W wi gn s')/\Hid (zA wi wk.heap.size (.slice A9 (zm m y).length c9) (zm m y))/\Hid (∀z,z∈s'↔z∈s\/z∈(zm m y).take j)) (fun i _=>(zm m y).length - (intOf i).toNat)
      case atStart=>exact ⟨0,s,Fb _,rfl,j6,e8,by simp [Hid]⟩
      clear j6 e8
      case round=>
       obtain ⟨j,s',hj,rfl,hR,hO,m0⟩:=hrel;by_cases l3:j<(zm m y).length
       ·obtain ⟨b2,rfl,s9,e9⟩:=own_at hO.out l3;have g0:=zh (fun z=>Aj l3 z);obtain ⟨z,hz⟩:=zak ((zm m y)[j]);rw [<-hz] at e9 g0;clear hz
        go_wp2_with (at_mapUpdate;refine CS rfl _ _ _ _ rfl Tryz.underlying79 gn s' z rfl rfl rfl hR.out.set ?_)
        intro wb m6 V;have o3:=zh (hR.out.add n5.out m6 V);have o1:Hid (zA wb wk.heap.size (.slice (some ⟨b2,0,none⟩) (zm m y).length c9) (zm m y)):=World.ownsRow.kept hO.out V (BU hO.out hR.out.set);clear m6 V;go_wp2;go_roundw
        case rel=>exact ⟨j+1,ins s' z,by omega,by go_num,o3,o1,fun a=>by rw [mem_ins,m0.out,g0.out,or_assoc]⟩
        case measure=>simp [intOf];omega
       ·obtain rfl:j=(zm m y).length:=by omega
        go_wp2;go_roundw
        case rel=>exact ⟨k+1,s',by omega,by go_num,hR,fun a=>by rw [m0.out,EY,d8.out,O.out];exact near_step⟩
        case measure=>simp [intOf];omega
     ·obtain rfl:k=q.length:=by omega
      rw [EY] at d8;obtain ⟨bq,oq,rfl,G⟩:=a6.out q.length x (by simp);have I:=g8.out x (by simp);have i8:=zb.refl wk;have i2:Hid (∀z,decide (z∈s)=q.any fun y=>decide (z∈zm m y)):=fun z=>near_any (d8.out z)
      have s4:IntKind.i64.wrap ((N:Int) - 1)=(q.length:Int):=by rw [Fi];omega
      clear p9 m4
      go_wp2_with fail
      go_region_held3 (fun W'=>zb w W'/\zb w1 W'/\zb wk W')
       (first | (exact ⟨e5.drew,i7.drew,i8.drew⟩) | (exact ⟨e5.drew.trans U,i7.drew.trans U,i8.drew.trans U⟩))
       ((go_at_call 44;refine (DC m x _ (HS.out.maze.below e5.drew) SO.out.good.dim I.1 I.2).mono ?_;rintro e w9 ⟨v9,rfl,U,a3⟩;obtain ⟨A9,c9,rfl,o8⟩:=Bk (l:=zm m x) a3))
      rename_i o4
      obtain ⟨g5,s5,g6⟩:=o4;have k2:zb wk.drew w9:=U;have e8:Hid (zA w9 wk.drew.heap.size (.slice A9 (zm m x).length c9) (zm m x)):=a3;have i3:=zh (hR.out.set.below g6);clear U a3 hR k2 G;have p4:=Ba m x;have c8:zb W w9:=D.trans g6;have b8:=zh (Mk.nil w9);have f2:=zh (fun z hz=>AG (m:=m) (x:=z) SO.out.good.dim I.1 I.2 hz)
      go_wp2_with fail
      clear e5 i7 D i8 M hk;generalize j4:zm m x=L at*;have s6:=zh j4;clear j4;go_loopw [7,97] (fun v i wr=>∃k:Nat,k<=L.length/\i=.int .i64 (k:Nat)/\Hid (Mk w9 wr v ((L.take k).filter (zT m us t q tk.1)))) (fun _ i _=>L.length - (intOf i).toNat)
      case atStart=>exact ⟨0,by omega,rfl,b8⟩
      clear b8
      case round=>
       obtain ⟨k,hk,rfl,hM⟩:=hrel;have D:=hM.out.ext;by_cases M:k<L.length
       ·obtain ⟨b9,rfl,U,G⟩:=own_at (e8.out.ext D) M;have O:=zh (EU M);have a8:=f2.out _ (EO M);obtain ⟨y,hy⟩:=zak (L[k]);rw [<-hy] at G O a8;clear hy;have E:=zh (cand1_calls t y wr (HS.out.ext (g5.trans D)) SO.out.good.fn k9 ((c8.trans D).cell f5) ((c8.trans D).cell k6) a8.1 a8.2);obtain ⟨b1,d4⟩:∃b1,b1=(zl m t y && !decide (y∈us)):=⟨_,rfl⟩;rw [<-d4] at E;have f7:zT m us t q tk.1 y=(b1 && !decide (y∈s) && !decide (y∈tk.1)):=by unfold zT;rw [i2.out y,d4]
        clear d4 a8;have a5:=zh f7;clear f7;have o9:((L.take k).filter (zT m us t q tk.1)).length<=1000:=EP (Fr _ _) (by simp;omega);have a1:Hid (∀bb,zT m us t q tk.1 y=bb->(L.take (k+1)).filter (zT m us t q tk.1)=(L.take k).filter (zT m us t q tk.1)++(if bb then [y] else [])):=fun bb h=>by rw [O.out,FC];show _++List.filter _ [y]=_;cases bb <;> simp [List.filter_cons,h]
        generalize (L.take k).filter (zT m us t q tk.1)=lk at*
        go_wp2_with fail
        refine E.out.mono ?_;rintro e w5 ⟨rfl,d6⟩;have b6:zb wr w5:=d6.below _;have Q:=zh (hM.out.more b6);clear d6 E;have e3:=i3.out.below (D.trans b6);have j8:zb W w5:=c8.trans (D.trans b6);have n9:=zh (HF.out.below (e6.out.trans j8))
        cases b1 with
        | false=>
         have a0:Hid (zT m us t q tk.1 y=false):=a5.out.trans (by simp);go_wp2;go_roundw
         case rel=>exact ⟨k+1,by omega,by go_num,by rw [a1.out false a0.out];simpa using Q⟩
         case measure=>simp [intOf];omega
        | true=>
         by_cases a4:y∈s
         ·have a0:Hid (zT m us t q tk.1 y=false):=a5.out.trans (by simp [a4]);have l9:=look_t e3 a4;clear a4;go_wp2;go_roundw
          case rel=>exact ⟨k+1,by omega,by go_num,by rw [a1.out false a0.out];simpa using Q⟩
          case measure=>simp [intOf];omega
         ·have l9:=look_f e3 a4;have w0:=rg3 w5 j8;have a7:=zh (zE y w5 n9.out (by omega));by_cases b3:y∈tk.1
          ·have a0:Hid (zT m us t q tk.1 y=false):=a5.out.trans (by simp [b3]);rw [EQ b3] at a7;clear a4 b3
           go_wp2_with fail
           refine a7.out.mono ?_;rintro e w6 ⟨rfl,rfl⟩;go_wp2;go_roundw
           case rel=>exact ⟨k+1,by omega,by go_num,by rw [a1.out false a0.out];simpa using Q⟩
           case measure=>simp [intOf];omega
          ·have a0:Hid (zT m us t q tk.1 y=true):=a5.out.trans (by simp [a4,b3]);rw [ER b3] at a7;clear a4 b3;have q8:w9.heap.size<=w5.heap.size:=Q.out.ext.size
           go_wp2_with (first | (go_at_call 42;refine a7.out.mono ?_;rintro e w6 ⟨rfl,rfl⟩) | (at_builtin;refine AP rfl _ _ rfl _ lk y w9.heap.size w5.heap.size 1 _ rfl rfl (Q.out.own.alloc _) ?d1 ?d2 ?d3 ?_))
           (try case d1=>exact zr _ _ _ (by simp))
           case d2=>(first | (simp;done) | (simp;omega) | omega)
           case d3=>omega
           intro v' wb d9 V _;have h6:=zh ((Q.out.alloc _).app d9 V);clear d9 V;go_wp2;go_roundw
           case rel=>exact ⟨k+1,by omega,by go_num,by rw [a1.out true a0.out];exact h6⟩
           case measure=>simp [intOf];omega
       ·obtain rfl:k=L.length:=by omega
        go_wp2_with fail
        go_ret;refine ⟨_,rfl,(g5.mono_mk hM.out).cast ?_⟩;rw [g7.out,EY]
end
section
open Go.RowKit Go.Sort Go.Shelf
section
variable {w:World} {ok:Nat->Prop} {size n:Nat} {A:Option Addr} {v:Value} {xs:List Value}
theorem zN.bound (h:zN w ok size A n xs) (G:0<size):zN w (fun b=>ok b/\b<w.heap.size) size A n xs:=by
 refine ⟨h.1,fun D=>?_⟩;obtain ⟨b,off,e,E,z⟩:=h.2 D;have h0:0<xs.length:=by rw [h.1];exact Nat.mul_pos D G
 exact ⟨b,off,e,⟨E,zp (z 0 _ (EL h0))⟩,z⟩
theorem zV.bound (h:zV w ok size v n xs) (E:0<size):zV w (fun b=>ok b/\b<w.heap.size) size v n xs:=by
 obtain ⟨A,c,e,z,D⟩:=h;exact ⟨A,c,e,z,D.bound E⟩
theorem An.bound {l:List Bool} (h:An w ok v l):An w (fun b=>ok b/\b<w.heap.size) v l:=zV.bound h (by decide)
theorem Each.bound {α:Type} {R R':Value->α->Prop} {l:List α} (h:Each R w ok v l) (D:∀u x,R u x->R' u x):Each R' w (fun b=>ok b/\b<w.heap.size) v l:=by
 obtain ⟨vs,z,he⟩:=h;refine ⟨vs,z.bound (by decide),fun i x G=>?_⟩;obtain ⟨u,E,z⟩:=he i x G;exact ⟨u,E,D _ _ z⟩
theorem Bn.bound {l:List (List Bool)} (h:Bn w ok v l):Bn w (fun b=>ok b/\b<w.heap.size) v l:=Each.bound h (fun _ _ h=>An.bound h)
theorem zq.bound {l:List (List Int)} (h:zq w ok v l):zq w (fun b=>ok b/\b<w.heap.size) v l:=Each.bound h (fun _ _ h=>zi.bound h)
theorem BX.bound {l:List (List Int×List Int)} (h:BX w ok v l):BX w (fun b=>ok b/\b<w.heap.size) v l:=by
 obtain ⟨vs,z,he⟩:=h;refine ⟨vs,z.bound (by decide),fun i x D=>?_⟩;obtain ⟨s,u1,u2,h0,h1,h2,i1,i2⟩:=he i x D;exact ⟨s,u1,u2,h0,h1,h2,i1.bound,i2.bound⟩
theorem zt.bound {m:MZ} (h:zt w ok v m):zt w (fun b=>ok b/\b<w.heap.size) v m:=by
 obtain ⟨f,u,t,rfl,h1,h2,h3⟩:=h;exact ⟨f,u,t,rfl,h1.bound,h2.bound,h3.bound⟩
theorem BM.bound {g gu:Nat} {m:MZ} {ch us:List Int} {ps:List (List Int)} {f u t vc vp:Value} (h:BM w ok g m ch ps us f u t vc vp gu):BM w (fun b=>ok b/\b<w.heap.size) g m ch ps us f u t vc vp gu:=
 ⟨h.blk,⟨h.okg,zd h.blk⟩,h.maze.bound,h.ch.bound,h.ps.bound,⟨h.oku,zd h.us⟩,h.us⟩
end
abbrev InR (R:Int->Prop):={ x:Int // R x }
theorem holds_sub {R:Int->Prop} {w:World} {B:Nat} {l:List (InR R)} [Inhabited (InR R)] (h:zA w B (.slice (some ⟨g,0,none⟩) (l.map (·.1)).length cap) (l.map (·.1))):Holds (fun x:InR R=>Value.int .i64 x.1) w g 0 l.toArray:=by
 intro j D;have z:j<l.length:=by simpa using D
 refine ⟨?_,by have:=World.ownsRow.frozenAt h j;simpa using this⟩;have:=World.ownsRow.cellAt h j (by simpa using z);rw [Nat.zero_add,this];simp [getElem!_pos,z]
theorem sortWorld_same {α:Type} [Inhabited α] {enc:α->Value} {w:World} {blk off n B:Nat} {dk:Array α} {os:Array Obj} (E:B<=blk) (I:B<=w.heap.size):Ao (fun b=>b<B) w (sortWorld enc w blk off n dk os):=by
 intro b G z;have D:blk≠b:=by omega
 simp [sortWorld,grow,putRow,mapBlock,Sort.ahead,Array.getElem?_append,Array.getElem?_modify,Array.getElem_modify,z,D]
theorem deleteFuncI_calls {w:World} {v:Value} (z:Mk w1 w v l) (R:Int->Prop) (hR:∀x∈l,R x) (h0:R 0) (hl:l.length<=1000000000000) (fn:FuncId) (lb:Array Value) (p:Int->Bool)
  (eg:∀args w,(callFunc fn args).run Tryz.prog w=.ok (.enter fn args) w)
  (hp:∀x,R x->∀W,Ao (fun b=>b<w1.heap.size) w W->Calls Tryz.prog fn (#[.int .i64 x]++lb) W fun e w'=>e=.returned (.bool (p x))/\zM W w'):
  Calls Tryz.prog 130 #[v,.func (.func fn) #[] lb] w fun e w'=>∃v',e=.returned v'/\Mk w1 w' v' (l.filter fun x=>!p x):=by
 rcases Fz l.length with hl0 | hl0
 ·have I:=Fe hl0;subst I;obtain ⟨A,c,rfl,_⟩:=z.slice;have hI:=zh (DS fn lb p w z.ints (by simp) eg (fun x hx=>by cases hx));have V:=zh z;clear z hp
  go_enter Tryz.func130,Tryz.ntmps130
  go_wp2_with fail
  refine hI.out.mono ?_;rintro e w2 ⟨r,rfl,U,a6,Q⟩
  have O:r=-1:=by
   have:¬ 0<=r:=fun h=>by have:=U.1 h;simp at this
   omega
  subst O;have Z:zb w w2:=Q.below _;clear Q U
  go_wp2_with fail
  go_ret;exact ⟨_,rfl,V.out.more Z⟩
 ·letI:Inhabited (InR R):=⟨⟨0,h0⟩⟩
  obtain ⟨l',rfl⟩:∃l':List (InR R),l'.map (·.1)=l:=⟨l.attachWith R hR,by simp⟩;obtain ⟨g,cap,rfl,T,a4⟩:=World.ownsRow.form z.own hl0;have E:=BG z.own;have D:(l'.map (·.1)).length=l'.toArray.size:=by simp
  have J:=AnyE.slices_DeleteFunc dfIA (fun x:InR R=>Value.int .i64 x.1) (fun _=>rfl) (fun x=>p x.1) fn lb eg ⟨0,h0⟩ Tryz.zeroValue3 g 0 cap l'.toArray w
   (fun W x hb=>by
    refine Calls.mono (hp x.1 x.2 W (fun b a3 G=>hb.block b G)) ?_;rintro e w' ⟨rfl,q,rfl⟩;exact ⟨rfl,q,rfl⟩)
   (fun n os dk x _=>by
    refine Calls.mono (hp x.1 x.2 _ (sortWorld_same T z.ext.size)) ?_;rintro e w' ⟨rfl,q,rfl⟩;exact ⟨rfl,q,rfl⟩)
   (holds_sub z.own) (by rw [<-D];omega) (by rw [<-D];exact E)
  change Calls Tryz.prog 130 _ _ _ at J;rw [<-D] at J;refine Calls.mono J ?_;rintro e w' ⟨rfl,q,rfl⟩;have M:(l'.map (·.1)).filter (fun x=>!p x)=(l'.filter fun x=>!p x.1).map (·.1):=by rw [List.filter_map];rfl
  have L:(l'.filter fun x=>!p x.1).length<=l'.length:=Fr _ _;refine ⟨_,rfl,?_,Lib.below_putRow z.ext T⟩
  have ho:w.ownsRow w1.heap.size 3 1 (.slice (some ⟨g,0,none⟩) (l'.map (·.1)).length cap) (l'.map (·.1)).length (l'.map fun x:InR R=>Value.int .i64 x.1):=by
   have:=z.own;unfold zA at this;rw [List.map_map] at this;exact this
  have:=Lib.ownsRow_putRow (enc:=fun x:InR R=>Value.int .i64 x.1) (q:=q) (k:=(l'.filter fun x=>!p x.1).length) (ys:=(l'.filter fun x=>!p x.1)++List.replicate (l'.length - (l'.filter fun x=>!p x.1).length) ⟨0,h0⟩) ho (by simp;omega) (by simpa using L);rw [List.take_left' rfl] at this;rw [M];unfold zA;rw [List.map_map,Fy];simpa using this
end
end Go.Proofs.YthbjngbhbbkkgaaGreat
