import Derived.Test.YtnmkmhpgnpojbaaGreatDoorWXb
import Derived.Deep.AppendSrc
import Derived.Deep.AppendLies
import Derived.Shelf.Strings.BuilderK
import Derived.Shelf.LaysM
import Derived.Shelf.Strconv.Itoa3
import Derived.Shelf.LaysC
import Derived.Shelf.Strconv.ErrVarAll
import Derived.Shelf.Strings.Search2
import Derived.Lib.UnsafeStr
import Derived.Lib.AppendStr
import Derived.Deep.OwnRows
import Derived.BigQuiet
import Derived.Deep.RegionHeld3
import Derived.Deep.DrawnRows
set_option linter.unusedVariables false
set_option linter.unusedSimpArgs false
set_option maxRecDepth 100000
set_option maxHeartbeats 16000000
namespace Go.Proofs.YtnmkmhpgnpojbaaGreatDoor
variable {a:Act} {K:Act->World->Prop} {ops:Array Oper} {Q:Exit->Act->World->Prop} {x:Int} {from_ l' used:List Int} {j k:Nat} {o:Oper} {v':Value} {W b wk:World}
section
open Go.RowKit
theorem setCells_nil (w:World) (b off:Nat):w.setCells b off []=w:=by
 unfold World.setCells;rfl
theorem De {ok:Nat->Prop} (w:World) (base:Nat) (t ty e:TypeId) (i:TypeInfo) (z:Value) (bytes:Nat) (ht:Tryz.prog.underlying t=some (.slice e)) (U:Tryz.prog.info? e=some i) (hz:i.zero=some z)
  (d:i.size=1) (M:i.bytes=bytes) (O:z.cells.size=1)
  (v:Value) (n:Nat) (xs:List Value) (G:w.ownsRow base e 1 v n xs) (u:Value) (m:Nat) (news:List Value) (hu:Aw w ok 1 u m news) (J:∀u∈news,u.oneCell'=true)
  (L:n+m<=maxLen) (D:(n+m)*bytes<=140737488355328) (I:base<=w.heap.size):
  ∃v' w',(Builtin.append_ #[t,t] ty #[v,u]).run Tryz.prog w=.ok v' w'/\w'.ownsRow base e 1 v' (n+m) (xs++news)/\w.grownBy w' v.ownBlock/\(v'.ownBlock=v.ownBlock\/v'.ownBlock=some w.heap.size):=by
 obtain ⟨A,c,rfl,hc,hl,E⟩:=hu;rcases A with _ | a
 ·have hm:m=0:=by
   rcases Ec m with h | h
   ·exact h
   ·obtain ⟨b,off,e,_⟩:=E h;cases e
  subst hm;have hn:news=[]:=DJ (by simpa using hl);subst hn;refine ⟨v,w,?_,by simpa using G,⟨rfl,rfl,rfl,Dq _,fun _ _ _=>rfl⟩,.inl rfl⟩;rcases G.2 with ⟨rfl,rfl⟩ | ⟨g,cap,cur,rfl,a8,hg,b2,a9,b0,a5⟩
  ·simp [Builtin.append_,run_underlying ht,sizeOf,typeInfo,U,d,Builtin.lenOf,Builtin.firstCells,loadCells,loadCellsFrom]
  ·have h:=run_append_room_src (P:=Tryz.prog) w t t ty e i ht U g 0 n cap (.slice none 0 c) 0 [] (by rw [d];exact Src.ofNil w ht c) (by omega) (by simp) (by simp);rw [setCells_nil] at h;simpa using h
 ·rcases Ec m with h0 | hpos
  ·subst h0;have hn:news=[]:=DJ (by simpa using hl);subst hn;obtain ⟨v',w',J,V,h3,h4,h5⟩:=run_append_own_at (P:=Tryz.prog) w base t ty e i z 1 bytes ht U hz d M O (by decide) v n xs G a 0 c [] (by simp) (by simp) (by simp) L D I;exact ⟨v',w',J,V,h3,h5⟩
  ·obtain ⟨b,off,he,_,a2⟩:=E hpos;injection he with he;subst he;obtain ⟨v',w',J,V,h3,h4,h5⟩:=run_append_own_at (P:=Tryz.prog) w base t ty e i z 1 bytes ht U hz d M O (by decide) v n xs G ⟨b,off,none⟩ m c news (by simpa using hl) (fun j u hj=>by rw [Addr.add_lit];exact a2 j u hj) J L D I;exact ⟨v',w',J,V,h3,h5⟩
theorem BJ {ok:Nat->Prop} (W:World) (s x:Operand)
  (U:o.op=.call { callee:=.builtin .append,args:=#[s,x],argTypes:=#[23,23] }) (base:Nat) (l l2:List Int) (v u:Value) (hs:a.eval s=v) (hx:a.eval x=u)
  (z:zt W base v l) (D:zk W ok u l2) (d:base<=W.heap.size) (hl:l.length+l2.length<=1000000000000)
  (h:∀v' w',zt w' base v' (l++l2)->Hid (W.grownBy w' v.ownBlock)->Hid (v'.ownBlock=v.ownBlock\/v'.ownBlock=some W.heap.size)->K (a.put o.dst v') w'):Oper.wp Tryz.prog o a W K Q:=by
 obtain ⟨i0,O,E,G,I⟩:=info_parts Tryz.infoInt
 obtain ⟨v',w',V,J,L,M⟩:=De (ok:=ok) W base 23 o.type 3 i0 (.int .i64 0) 8 Tryz.underlying23 O E G I rfl v _ _ z u _ _ D (by
  intro u D;obtain ⟨_,_,rfl⟩:=Er.1 D;rfl) (by unfold maxLen;omega) (by omega) d
 unfold Oper.wp execOp;simp only [U,resolve,invoke,builtin,Sem.run_bind,Sem.run_pure,Result.andThen_ok,List.map_toArray,List.map_cons,List.map_nil,hs,hx,V];refine h v' w' ?_ L M;unfold zt;rw [Ei,Dz];exact J
theorem CD {ok:Nat->Prop} {E:Prop} (D:o.guard=none) (W:World) (s x:Operand)
  (I:o.op=.call { callee:=.builtin .append,args:=#[s,x],argTypes:=#[23,23] }) (base:Nat) (l l2:List Int) (v u:Value) (J:a.eval s=v) (O:a.eval x=u)
  (z:zt W base v l) (L:zk W ok u l2) (d:base<=W.heap.size) (G:l.length+l2.length<=1000000000000)
  (h:∀v' w',zt w' base v' (l++l2)->Hid (W.grownBy w' v.ownBlock)->Hid (v'.ownBlock=v.ownBlock\/v'.ownBlock=some W.heap.size)->K (a.put o.dst v') w'):
  if Region.wanted o (yielded ops a.tmps)=true then Oper.wp Tryz.prog o a W K Q else E:=by
 have M:Region.wanted o (yielded ops a.tmps)=true:=by simp [Region.wanted,D]
 rw [if_pos M];exact BJ W s x I base l l2 v u J O z L d G h
theorem Cn {ok:Nat->Prop} {rest:List Oper} (D:o.guard=none) (W:World) (s x:Operand)
  (M:o.op=.call { callee:=.builtin .append,args:=#[s,x],argTypes:=#[23,23] }) (base:Nat) (l l2:List Int) (v u:Value) (O:a.eval s=v) (V:a.eval x=u)
  (z:zt W base v l) (U:zk W ok u l2) (d:base<=W.heap.size) (L:l.length+l2.length<=1000000000000)
  (h:∀v' w',zt w' base v' (l++l2)->Hid (W.grownBy w' v.ownBlock)->Hid (v'.ownBlock=v.ownBlock\/v'.ownBlock=some W.heap.size)->wpList Tryz.prog ops Q rest (a.put o.dst v') w'):wpList Tryz.prog ops Q (o :: rest) a W:=by
 refine wpList_plain D fun K J=>?_
 exact BJ W s x M base l l2 v u O V z U d L fun v' w' E G I=>J _ _ (h v' w' E G I)
theorem AF {B:Nat} {v:Value} {l:List Int} (h:zt W B v l) (d:v.ownBlock=some k):B<=k:=by
 rcases h.2 with ⟨rfl,_⟩ | ⟨g,cap,cur,rfl,z,_⟩
 ·cases d
 ·have d:some g=some k:=d;injection d with d;omega
theorem own_empty (W:World) (B:Nat) (d:B<=W.heap.size):zt (W.alloc (.cells #[] 3)) B (.slice (some ⟨W.heap.size,0,none⟩) 0 0) []:=
 ⟨rfl,.inr ⟨W.heap.size,0,#[],rfl,d,Ee W _,Dq _,by decide,rfl,rfl⟩⟩
theorem Ab {B:Nat} {a w':World} {v:Value} (h:Below B a W) (z:Hid (W.grownBy w' v.ownBlock)) (d:B<=W.heap.size) (D:∀k,v.ownBlock=some k->B<=k):Below B a w':=h.grown z.out d D
def zb (w w':World):Prop:=Below w.heap.size w w'
theorem zb.refl (w:World):zb w w:=Below.refl _ _
theorem zb.trans {a c:World} (h:zb a b) (d:zb b c):zb a c:=BB h d (Dq _)
theorem zb.alloc {a b:World} (h:zb a b) (o:Obj):zb a (b.alloc o):=Below.alloc h h.size o
theorem zb.drew {a b:World} (h:zb a b):zb a b.drew:=Below.drew h
theorem zb.drewN {a b:World} (h:zb a b) (n:Nat):zb a (b.drewN n):=CX h n
theorem zb.cell {w W:World} {p:Addr} {v:Value} (h:w.cell? p=some v) (hW:zb w W):W.cell? p=some v:=(Below.cell hW (zn h)).trans h
theorem zb.rule {w:World} {p:Addr} {v:Value} (h:w.cell? p=some v):∀W,zb w W->W.cell? p=some v:=fun _ hW=>hW.cell h
theorem zb.lt {w:World} (h:zb w W) {g:Nat} (d:g<w.heap.size):g<W.heap.size:=DT d h.size
theorem Cf (w:World):∀W o,zb w W->zb w (W.alloc o):=fun _ o h=>h.alloc o
structure Mk (w1 w:World) (v:Value) (l:List Int):Prop where
 own:zt w w1.heap.size v l
 ext:zb w1 w
theorem Mk.nil (w1:World):Mk w1 w1 (.slice none 0 0) []:=⟨World.ownsRow_nil _ _ _ _,zb.refl _⟩
theorem Mk.nil' {w1 w:World} (h:zb w1 w):Mk w1 w (.slice none 0 0) []:=⟨World.ownsRow_nil _ _ _ _,h⟩
theorem Mk.app {w1 w w':World} {v:Value} {l:List Int} (h:Mk w1 w v l) (D:zt w' w1.heap.size v' l') (d:Hid (w.grownBy w' v.ownBlock)):Mk w1 w' v' l':=
 ⟨D,Ab h.ext d h.ext.size (fun k z=>AF h.own z)⟩
theorem Mk.more {w1 w w':World} {v:Value} {l:List Int} (h:Mk w1 w v l) (d:zb w w'):Mk w1 w' v l:=
 ⟨h.own.kept (row:=none) ⟨d.os,d.tape,d.output,d.size,fun i z _=>d.block i z⟩ (by cases h:v.ownBlock <;> simp),h.ext.trans d⟩
theorem Mk.alloc {w1 w:World} {v:Value} {l:List Int} (h:Mk w1 w v l) (o:Obj):Mk w1 (w.alloc o) v l:=h.more ((zb.refl _).alloc o)
theorem Mk.drew {w1 w:World} {v:Value} {l:List Int} (h:Mk w1 w v l):Mk w1 w.drew v l:=⟨h.own,h.ext.drew⟩
theorem Mk.drewN {w1 w:World} {v:Value} {l:List Int} (h:Mk w1 w v l) (n:Nat):Mk w1 (w.drewN n) v l:=⟨h.own,h.ext.drewN n⟩
theorem Mk.cast {w1 w:World} {v:Value} {l:List Int} (h:Mk w1 w v l) (e:l'=l):Mk w1 w v l':=e ▸ h
theorem Mk.ints {w1 w:World} {v:Value} {l:List Int} (h:Mk w1 w v l):zk w (fun b=>w1.heap.size<=b) v l:=Aw.of_own h.own
theorem Mk.slice {w1 w:World} {v:Value} {l:List Int} (h:Mk w1 w v l):∃A c,v=.slice A l.length c/\l.length<=c:=by
 obtain ⟨A,c,e,d,_⟩:=h.ints;exact ⟨A,c,e,d⟩
theorem zb.mono_mk {w w1 w':World} {v:Value} {l:List Int} (h:zb w w1) (hm:Mk w1 w' v l):Mk w w' v l:=⟨hm.own.mono h.size,h.trans hm.ext⟩
theorem held_ext {w1 a:World} (h:zb w1 a/\zb wk a) (d:Below a.heap.size a b):zb w1 b/\zb wk b:=⟨h.1.trans d,h.2.trans d⟩
theorem held_drew {w1:World} (h:zb w1 wk):zb w1 wk.drew/\zb wk wk.drew:=⟨h.drew,(zb.refl wk).drew⟩
theorem AV {w:World} {B:Nat} {v:Value} {l:List Int} (h:zt w B v l):∃A c,v=.slice A l.length c/\l.length<=c:=by
 obtain ⟨A,c,e,d,_⟩:=Aw.of_own h;exact ⟨A,c,e,d⟩
theorem own_at {w:World} {B n c:Nat} {A:Option Addr} {l:List Int} (h:zt w B (.slice A n c) l) (G:k<l.length):∃b,A=some ⟨b,0,none⟩/\B<=b/\w.cell? ⟨b,k,none⟩=some (.int .i64 l[k]):=by
 obtain ⟨g,cap,J,E,I⟩:=World.ownsRow.form h (by omega);injection J with d z D;subst d z D;refine ⟨g,rfl,E,?_⟩;rw [World.ownsRow.cellAt h k (by omega)];simp [G]
theorem zR (W:World) (v:Value) (t:TypeId) {g:Nat} (h:g=W.heap.size):(W.alloc (.cells #[v] t)).cell? ⟨g,0,none⟩=some v:=by
 subst h;unfold World.cell?;simp only [Ee];rfl
end
section
open Go.RowKit Go.Shelf
def sStr_ren:Go.Shelf.Ren:=⟨fun | 169=>115 | n=>n,fun | 70=>171 | 9=>9 | 0=>0 | 72=>173 | 37=>100 | 127=>228 | 3=>3 | 5=>5 | n=>n,fun | n=>n⟩
theorem sStr:Go.Proofs.Lays.n169 Tryz.prog sStr_ren:=by
 constructor
 iterate 4 (all_goals first | kernel_rfl | (intro _;kernel_rfl) | exact ⟨_,by decide,by kernel_rfl⟩ | constructor)
def sItoa_ren:Go.Shelf.Ren:=⟨fun | 171=>132 | 243=>187 | 246=>228 | 283=>241 | 284=>242 | 285=>243 | 286=>244 | 129=>254 | 317=>253 | 318=>255 | 319=>256 | 320=>257 | 337=>274 | 338=>275 | n=>n,fun | 3=>3 | 9=>9 | 2=>2 | 4=>4 | 171=>269 | 0=>0 | 53=>268 | 37=>100 | 5=>5 | 173=>272 | 212=>279 | 51=>280 | 20=>20 | 213=>281 | 46=>253 | 232=>308 | 233=>309 | n=>n,fun | 17=>0 | 18=>4 | 19=>5 | n=>n⟩
theorem sItoa:Go.Proofs.LaysM.n171 Tryz.prog sItoa_ren:=by
 constructor
 iterate 4 (all_goals first | kernel_rfl | (intro _;kernel_rfl) | exact ⟨_,by decide,by kernel_rfl⟩ | constructor)
def sAtoi_ren:Go.Shelf.Ren:=⟨fun | 172=>231 | 244=>246 | 245=>247 | 247=>259 | 279=>260 | 280=>261 | 281=>262 | 282=>263 | 287=>280 | 316=>252 | 171=>132 | 205=>281 | 321=>290 | 322=>291 | 243=>187 | 246=>228 | 283=>241 | 284=>242 | 285=>243 | 286=>244 | 129=>254 | 317=>253 | 318=>255 | 319=>256 | 320=>257 | 337=>274 | 338=>275 | n=>n,fun | 9=>9 | 3=>3 | 75=>175 | 76=>176 | 4=>4 | 5=>5 | 167=>283 | 37=>100 | 0=>0 | 85=>284 | 2=>2 | 168=>286 | 53=>268 | 175=>297 | 46=>253 | 210=>300 | 127=>228 | 145=>316 | 143=>314 | 21=>21 | 171=>269 | 173=>272 | 212=>279 | 51=>280 | 20=>20 | 213=>281 | 232=>308 | 233=>309 | 80=>180 | n=>n,fun | 15=>2 | 16=>3 | 17=>0 | 18=>4 | 19=>5 | n=>n⟩
theorem sAtoi:Go.Proofs.LaysC.n172 Tryz.prog sAtoi_ren:=by
 constructor
 iterate 4 (all_goals first | kernel_rfl | (intro _;kernel_rfl) | exact ⟨_,by decide,by kernel_rfl⟩ | constructor)
def sIdx_ren:Go.Shelf.Ren:=⟨fun | 219=>258 | 217=>276 | 225=>277 | 224=>278 | 267=>279 | 266=>288 | 314=>289 | n=>n,fun | 9=>9 | 3=>3 | 4=>4 | 5=>5 | 46=>253 | 146=>310 | 51=>280 | n=>n,fun | 1=>1 | n=>n⟩
theorem sIdx:Go.Proofs.Lays.n219 Tryz.prog sIdx_ren:=by
 constructor
 iterate 4 (all_goals first | kernel_rfl | (intro _;kernel_rfl) | exact ⟨_,by decide,by kernel_rfl⟩ | constructor)
theorem sExt:Builder.Extra Tryz.prog sStr_ren:=by
 constructor
 iterate 4 (all_goals first | kernel_rfl | (intro _;kernel_rfl) | decide | constructor)
theorem Below.ext' {w w':World} (h:Below w.heap.size w w'):zb w w':=h
end
section
open Go.RowKit
attribute [local go_sem ↓] Go.wp_at_zero Go.wp_at_succ
theorem Tryz.infoBool:(Tryz.prog.info? 4).map (fun i=>(i.zero,i.size,i.bytes))=some (some (.bool false),1,1):=by kernel_rfl
def memF (s:List Int) (i:Nat):Value:=.bool (decide ((i:Int)∈s))
open Classical in
noncomputable def Bh (m:MZ) (t:Nat) (from_ used:List Int):List Int:=((List.range m.n.toNat).map Int.ofNat).filter (fun x=>decide (RP m t from_ used x))
theorem reachL_of {m:MZ} {t:Nat} {s:List Int} (h:∀x,x∈s↔RP m t from_ used x):((List.range m.n.toNat).map Int.ofNat).filter (fun x=>decide (x∈s))=Bh m t from_ used:=by
 unfold Bh;apply List.filter_congr;intro x _;rw [decide_eq_decide];exact h x
theorem Bp {m:MZ} (d:Dim m) {t:Nat}:x∈Bh m t from_ used↔RP m t from_ used x:=by
 unfold Bh;simp only [Ep,Er,Es,DB];constructor
 ·rintro ⟨_,h⟩;exact h
 ·intro h;have z:=h.range d;exact ⟨⟨x.toNat,by omega,by simp;omega⟩,h⟩
structure QR (w1 wr:World) (gi gt n:Nat) (s tk:List Int) (v:Value) (todo:List Int):Prop where
 ext:zb w1 wr
 hi:w1.heap.size<=gi
 lt:gi<gt
 inn:wr.rowIs gi 4 n (memF s)
 tak:wr.rowIs gt 4 n (memF tk)
 own:zt wr (gt+1) v todo
section
variable {w1 wr w':World} {gi gt n:Nat} {s tk todo:List Int} {v:Value}
theorem memF_more {s:List Int} {n:Nat} (h:¬ (0<=x/\x<n)) (d:j<n):memF s j=memF (s++[x]) j:=by
 unfold memF;congr 1;rw [decide_eq_decide,Eg,DY];constructor
 ·exact .inl
 ·rintro (h1 | h1)
  ·exact h1
  ·omega
theorem memF_set {s:List Int} (h:0<=x) (j:Nat):(if j=x.toNat then Value.bool true else memF s j)=memF (s++[x]) j:=by
 unfold memF;by_cases d:j=x.toNat
 ·rw [if_pos d];congr 1;symm;rw [DB,Eg,DY]
  right;omega
 ·rw [if_neg d];congr 1;rw [decide_eq_decide,Eg,DY];constructor
  ·exact .inl
  ·rintro (h1 | h1)
   ·exact h1
   ·omega
theorem QR.more (h:QR w1 wr gi gt n s tk v todo) (d:zb wr w'):QR w1 w' gi gt n s tk v todo:=
 ⟨h.ext.trans d,h.hi,h.lt,h.inn.of_block (d.block _ h.inn.lt),h.tak.of_block (d.block _ h.tak.lt),
  h.own.kept (row:=none) ⟨d.os,d.tape,d.output,d.size,fun i z _=>d.block i z⟩ (by cases h:v.ownBlock <;> simp)⟩
theorem QR.app {l:List Int} (h:QR w1 wr gi gt n s tk v todo) (D:zt w' (gt+1) v' l) (d:Hid (wr.grownBy w' v.ownBlock)):QR w1 w' gi gt n s tk v' l:=
 ⟨Ab h.ext d h.ext.size (fun k z=>by have:=AF h.own z;have:=h.lt;have:=h.hi;omega),h.hi,h.lt,
  h.inn.of_block (d.out.block _ h.inn.lt (fun e=>by have:=AF h.own e.symm;have:=h.lt;omega)),
  h.tak.of_block (d.out.block _ h.tak.lt (fun e=>by have:=AF h.own e.symm;omega)),D⟩
end
structure QL (wr:World) (B:Nat) (vl v:Value) (l:List Int):Prop where
 own:zt wr B vl l
 ne:∀k,vl.ownBlock=some k->v.ownBlock≠some k
section
variable {w1 wr w':World} {B:Nat} {l:List Int} {v vl:Value}
theorem QL.more (h:QL wr B vl v l) (d:zb wr w'):QL w' B vl v l:=⟨h.own.kept (row:=none) ⟨d.os,d.tape,d.output,d.size,fun i z _=>d.block i z⟩ (by cases h:vl.ownBlock <;> simp),h.ne⟩
theorem QL.set (h:QL wr B vl v l) {a:Addr} (d:a.block<B) (u:Value):QL (wr.setCell a u) B vl v l:=⟨ownsRow_setCell_below h.own d u,h.ne⟩
theorem QL.app (h:QL wr B vl v l) (z:Hid (wr.grownBy w' v.ownBlock)) (D:Hid (v'.ownBlock=v.ownBlock\/v'.ownBlock=some wr.heap.size)):QL w' B vl v' l:=by
 refine ⟨h.own.kept z.out ?_,fun k d=>?_⟩
 ·cases d:vl.ownBlock with
  | none=>exact .inl rfl
  | some k=>exact .inr (fun e=>h.ne k d e.symm)
 ·rcases D.out with e | e
  ·rw [e];exact h.ne k d
  ·rw [e];intro e';injection e' with e';have:=(h.own.lt k d).2;omega
end
structure QO (m:MZ) (t:Nat) (from_ used s:List Int) (k:Nat):Prop where
 nd:s.Nodup
 rp:∀x∈s,RP m t from_ used x
 fr:∀x∈from_,0<=x->x<m.n->x∈s
 cl:∀y∈s.take k,∀z∈zg m y,zf m t z=true->z∉used->z∈s
 kl:k<=s.length
structure QJ (m:MZ) (t:Nat) (from_ used s:List Int) (k:Nat) (x:Int) (j:Nat):Prop where
 nd:s.Nodup
 rp:∀x∈s,RP m t from_ used x
 fr:∀x∈from_,0<=x->x<m.n->x∈s
 cl:∀y∈s.take k,∀z∈zg m y,zf m t z=true->z∉used->z∈s
 kl:k<s.length
 xs:s[k]?=some x
 cx:∀z∈(zg m x).take j,zf m t z=true->z∉used->z∈s
theorem QJ.xm {m:MZ} {t:Nat} {s:List Int} (h:QJ m t from_ used s k x j):x∈s:=List.mem_of_getElem? h.xs
theorem QJ.skip {m:MZ} {t:Nat} {s:List Int} (h:QJ m t from_ used s k x j) (D:j<(zg m x).length) (E:(zg m x)[j]∈s\/zf m t (zg m x)[j]=false\/(zg m x)[j]∈used):QJ m t from_ used s k x (j+1):=
 ⟨h.nd,h.rp,h.fr,h.cl,h.kl,h.xs,fun z G hf d=>by
  rcases (zx D z).1 G with h1 | h1
  ·exact h.cx z h1 hf d
  ·subst h1;rcases E with h2 | h2 | h2
   ·exact h2
   ·rw [hf] at h2;cases h2
   ·exact absurd h2 d⟩
theorem QJ.push {m:MZ} {t:Nat} {s:List Int} (h:QJ m t from_ used s k x j) (I:j<(zg m x).length) (J:(zg m x)[j]∉s) (hf:zf m t (zg m x)[j]=true) (L:(zg m x)[j]∉used):QJ m t from_ used (s++[(zg m x)[j]]) k x (j+1):=
 ⟨nodup_snoc h.nd J,fun y d=>by
   rw [Eg,DY] at d;rcases d with d | rfl
   ·exact h.rp y d
   ·exact (h.rp x h.xm).step (Dr I) hf L,
  fun y d h0 h1=>by simp [h.fr y d h0 h1],
  fun y d z G D E=>by
   rw [List.take_append_of_le_length (by have:=h.kl;omega)] at d;simp [h.cl y d z G D E],
  by have:=h.kl;simp;omega,
  by rw [Dw h.kl];exact h.xs,
  fun z G D E=>by
   rcases (zx I z).1 G with h1 | h1
   ·simp [h.cx z h1 D E]
   ·simp [h1]⟩
theorem QJ.done {m:MZ} {t:Nat} {s:List Int} (h:QJ m t from_ used s k x j) (D:(zg m x).length<=j):QO m t from_ used s (k+1):=
 ⟨h.nd,h.rp,h.fr,fun y G z I hf d=>by
  have E:s[k]'h.kl=x:=by
   have:=h.xs;rw [Do h.kl] at this;injection this
  rcases (zx h.kl y).1 G with h1 | h1
  ·exact h.cl y h1 z I hf d
  ·rw [E] at h1;subst h1;exact h.cx z (by rwa [List.take_of_length_le D]) hf d,h.kl⟩
theorem QO.end_ {m:MZ} {t:Nat} {s:List Int} (h:QO m t from_ used s s.length) (x:Int):x∈s↔RP m t from_ used x:=
 ⟨h.rp x,fun d=>d (·∈s) h.fr (fun y z G E hf D=>h.cl y (by rwa [DC]) z E hf D)⟩
structure zE (m:MZ):Prop where
 dim:Dim m
 fl:m.free.length=m.tasks.length
 fn:∀f∈m.free,(f.length:Int)=m.n
 tk:m.tasks.length<=6
 tn:∀t∈m.tasks,∀x,x∈t.1\/x∈t.2->0<=x/\x<m.n
theorem zE.of {m:MZ} (h:AS m=0):zE m:=by
 unfold AS at h
 split at h
 ·cases h
 ·rename_i L
  have z:[m.w,m.h,m.l].any side=false:=by simpa using L
  obtain ⟨⟨a1,a2⟩,⟨b1,b2⟩,c1,c2⟩:=sides z
  split at h
  ·cases h
  ·rename_i O
   split at h
   ·cases h
   ·rename_i D
    split at h
    ·cases h
    ·rename_i M
     have d:m.n<=300/\m.tasks.length<=6:=by omega
     have E:m.free.length=m.tasks.length:=by
      by_cases h:m.free.length=m.tasks.length
      ·exact h
      ·exact absurd (.inl h) D
     have G:(m.up.length:Int)=m.n:=by
      by_cases h:(m.up.length:Int)=m.n
      ·exact h
      ·exact absurd (.inr (.inl h)) D
     have I:∀f∈m.free,(f.length:Int)=m.n:=by
      intro f hf;by_cases h:(f.length:Int)=m.n
      ·exact h
      ·exact absurd (.inr (.inr (Eu.2 ⟨f,hf,by simpa using h⟩))) D
     refine ⟨⟨a1,a2,b1,b2,c1,c2,d.1,G⟩,E,I,d.2,fun t ht x hx=>?_⟩;by_cases J:Ae m.n x=true
     ·exfalso
      apply M;refine Eu.2 ⟨t,ht,?_⟩;rw [Et];rcases hx with hx | hx
      ·exact .inl (Eu.2 ⟨x,hx,J⟩)
      ·exact .inr (Eu.2 ⟨x,hx,J⟩)
     ·simp [Ae] at J;omega
theorem zE.n1 {m:MZ} (g:zE m):1<=m.w*m.h*m.l:=by have:=g.dim.layer;omega
def BK (m:MZ) (node:Int):List Int:=if AS m=0/\0<=node/\node<m.n then zg m node else []
open Classical in
noncomputable def reachO (m:MZ) (t:Int) (from_ used:List Int):List Int:=if AS m=0/\0<=t/\t<m.tasks.length then Bh m t.toNat from_ used else []
theorem rNext_calls {ok:Nat->Prop} {v:Value} {m:MZ} (node:Int) (w:World) (hm:zF w ok v m) (hl:Lens m):
  Calls Tryz.prog 118 #[v,.int .i64 node] w fun e w'=>∃v',e=.returned v'/\Mk w w' v' (BK m node):=by
 have O:=hm;obtain ⟨vfr,vup,vts,rfl,a2,_,a3⟩:=hm;obtain ⟨vst,⟨At,ct,rfl,a8,_⟩,_⟩:=a3;have J:=zh O;clear O;have HL:=zh hl;obtain ⟨l1,l2,l3,l4⟩:=hl;clear l4 a2
 go_enter Tryz.func118,Tryz.ntmps118
 go_wp2_with fail
 generalize E:w.alloc (.cells #[.int .i64 m.w,.int .i64 m.h,.int .i64 m.l,vfr,vup,.slice At m.tasks.length ct] 32)=w1;have d:zb w w1:=by rw [<-E];exact (zb.refl w).alloc _
 have M:ze w1 w.heap.size 32 #[.int .i64 m.w,.int .i64 m.h,.int .i64 m.l,vfr,vup,.slice At m.tasks.length ct]:=by rw [<-E];exact Ee _ _
 clear E;obtain ⟨m0,m1,m2,m3,m4,m5⟩:=zw M;have r0:=zb.rule m0;have r1:=zb.rule m1;have r2:=zb.rule m2;have r3:=zb.rule m3;have r4:=zb.rule m4;have r5:=zb.rule m5;clear m0 m1 m2 m3 m4 m5 M;have ra:=Cf w1;have hx:zb w1 w1:=zb.refl w1
 go_wp2_with fail
 refine (Bv w1 (J.out.below d) HL.out).mono ?_;rintro e wA ⟨rfl,a0⟩;have I:zb w1 wA:=a0;clear hx;by_cases D:AS m=0
 case neg=>
  have hd:(AS m != 0)=true:=by simpa using D
  have V:=zh D;clear D;go_wp2;go_ret;exact ⟨_,rfl,(d.trans I).mono_mk (Mk.cast (Mk.nil _) (by unfold BK;rw [if_neg (fun h=>V.out h.1)]))⟩
 have hd:(AS m != 0)=false:=by simpa using D
 have G:=zh (zE.of D);have V:=zh D;clear D;obtain ⟨b0,b1⟩:=G.out.dim.layer;have b2:=G.out.dim.n1;by_cases h0:0<=node
 case neg=>
  go_wp2;go_ret;exact ⟨_,rfl,(d.trans I).mono_mk (Mk.cast (Mk.nil _) (by unfold BK;rw [if_neg (fun h=>by have:=h.2.1;omega)]))⟩
 go_wp2_with fail
 refine (zY _ _ _ _ _ _ _ (by omega) (by omega)).mono ?_;rintro e wB ⟨rfl,a1⟩;have z:zb w1 wB:=I.trans a1;by_cases h1:node<m.w*m.h*m.l
 case neg=>
  go_wp2;go_ret;exact ⟨_,rfl,(d.trans z).mono_mk (Mk.cast (Mk.nil _) (by unfold BK;rw [if_neg (fun h=>by have:=h.2.2;unfold MZ.n at this;omega)]))⟩
 go_wp2_with fail
 refine (CQ m node _ (J.out.below (d.trans z)) G.out.dim h0 h1).mono ?_;rintro e wC ⟨v',rfl,L,U⟩;have HM:Hid (Mk wB wC v' (zg m node)):=⟨U,L⟩;clear U;have b4:zb w1 wC:=z.trans L
 go_wp2_with fail
 go_ret;exact ⟨_,rfl,(d.trans z).mono_mk (HM.out.cast (by unfold BK;rw [if_pos ⟨V.out,h0,h1⟩]))⟩
theorem rReach_calls {ok ok1 ok2:Nat->Prop} {v vf vu:Value} {m:MZ} (t:Int) (w:World) (hm:zF w ok v m) (hl:Lens m) (hf:zk w ok1 vf from_) (d5:from_.length<=20000000000000) (hu:zk w ok2 vu used) (d7:used.length<=20000000000000):
  Calls Tryz.prog 156 #[v,.int .i64 t,vf,vu] w fun e w'=>∃v',e=.returned v'/\Mk w w' v' (reachO m t from_ used):=by
 have b2:=hm;obtain ⟨vfr,vup,vts,rfl,c9,_,d9⟩:=hm;obtain ⟨vst,⟨At,ct,rfl,f4,_⟩,_⟩:=d9;have a4:=zh b2;clear b2;have HL:=zh hl;obtain ⟨l1,l2,l3,l4⟩:=hl;clear l4 c9;have HF:=zh hf;clear hf;have HU:=zh hu;clear hu
 go_enter Tryz.func156,Tryz.ntmps156
 go_wp2_with fail
 generalize a3:w.alloc (.cells #[.int .i64 m.w,.int .i64 m.h,.int .i64 m.l,vfr,vup,.slice At m.tasks.length ct] 32)=w1;have z:zb w w1:=by rw [<-a3];exact (zb.refl w).alloc _
 have a8:ze w1 w.heap.size 32 #[.int .i64 m.w,.int .i64 m.h,.int .i64 m.l,vfr,vup,.slice At m.tasks.length ct]:=by rw [<-a3];exact Ee _ _
 clear a3;obtain ⟨m0,m1,m2,m3,m4,m5⟩:=zw a8;have r0:=zb.rule m0;have r1:=zb.rule m1;have r2:=zb.rule m2;have r3:=zb.rule m3;have r4:=zb.rule m4;have r5:=zb.rule m5;clear m0 m1 m2 m3 m4 m5 a8;have ra:=Cf w1;have hx:zb w1 w1:=zb.refl w1
 go_wp2_with fail
 refine (Bv w1 (a4.out.below z) HL.out).mono ?_;rintro e wA ⟨rfl,c7⟩;have d:zb w1 wA:=c7;clear hx;by_cases hc:AS m=0
 case neg=>
  have hd:(AS m != 0)=true:=by simpa using hc
  have HC:=zh hc;clear hc;go_wp2;go_ret;exact ⟨_,rfl,(z.trans d).mono_mk (Mk.cast (Mk.nil _) (by unfold reachO;rw [if_neg (fun h=>HC.out h.1)]))⟩
 have hd:(AS m != 0)=false:=by simpa using hc
 have G:=zh (zE.of hc);have HC:=zh hc;clear hc;obtain ⟨f7,f8⟩:=G.out.dim.layer;have f9:=G.out.dim.n1;by_cases h0:0<=t
 case neg=>
  go_wp2;go_ret;exact ⟨_,rfl,(z.trans d).mono_mk (Mk.cast (Mk.nil _) (by unfold reachO;rw [if_neg (fun h=>by have:=h.2.1;omega)]))⟩
 by_cases h1:t<m.tasks.length
 case neg=>
  have f1:(m.tasks.length:Int)<=t:=by omega
  go_wp2;go_ret;exact ⟨_,rfl,(z.trans d).mono_mk (Mk.cast (Mk.nil _) (by unfold reachO;rw [if_neg (fun h=>by have:=h.2.2;omega)]))⟩
 obtain ⟨tn,rfl⟩:∃tn:Nat,t=tn:=⟨t.toNat,by omega⟩;have d8:tn<m.free.length:=by have:=G.out.fl;omega
 have e5:tn<m.tasks.length:=by omega
 go_wp2_with fail
 have g1:=zh d
 go_region_held3 (fun w'=>zb w1 w'/\zb wA w')
  (first | (exact held_drew d) | (exact held_ext (held_drew d) E) | (exact held_ext (held_ext (held_drew d) E) a6))
  (first | ((go_at_call 210;refine (setOf_calls _ (HU.out.keep (zN.of_below (z.trans d.drew))) d7).mono ?_;rintro e w8 ⟨s8,rfl,E,b4,J⟩)) | ((go_at_call 209;refine (reach_calls tn _ (a4.out.keep (zN.of_below (z.trans (d.drew.trans E)))) G.out.dim d8 G.out.fn (HF.out.keep (zN.of_below (z.trans (d.drew.trans E)))) d5 b4).mono ?_;rintro e w9 ⟨s9,rfl,a6,b5,U⟩)))
 rename_i hS
 have e0:=hS.1;have M:=zh b5;clear b5;have hE:=zh (reachL_of (used:=used) (fun x=>(U x).trans ⟨fun h=>h.congr (fun _=>Iff.rfl) J,fun h=>h.congr (fun _=>Iff.rfl) (fun y=>(J y).symm)⟩));clear U;have a9:w8.heap.size+1<w9.heap.size:=za M.out;obtain ⟨gs,I⟩:∃gs,gs=w8.heap.size+1:=⟨_,rfl⟩;rw [<-I] at M a9;have HG:=zh I;clear E b4 J hS
 go_wp2_with fail
 rw [<-HG.out];clear I a6;refine (zY _ _ _ _ _ _ _ (by omega) (by omega)).mono ?_;rintro e wB ⟨rfl,a1⟩;have e1:zb w1 wB:=e0.trans a1;have b9:=zh (M.out.below a1);clear M a9 a1;obtain ⟨N,hN⟩:∃N:Nat,m.w*m.h*m.l=(N:Int):=⟨(m.w*m.h*m.l).toNat,by omega⟩;have HN:=zh hN;clear hN;have f3:N<=300:=by have h:=HN.out;have:=G.out.dim.n1;omega
 have a5:=zh (Mk.nil wB);rw [HN.out]
 go_wp2_with fail
 go_loopw [9,34] (fun v i wr=>∃k:Nat,k<=N/\i=.int .i64 (k:Nat)/\Hid (Mk wB wr v (((List.range k).map Int.ofNat).filter (fun x=>decide (x∈s9))))) (fun _ i _=>N - (intOf i).toNat)
 case atStart=>exact ⟨0,by omega,rfl,a5⟩
 clear a5
 case round=>
  obtain ⟨j,hj,rfl,hM⟩:=hrel;by_cases f6:j<N
  ·have L:((List.range (j+1)).map Int.ofNat).filter (fun x=>decide (x∈s9))=((List.range j).map Int.ofNat).filter (fun x=>decide (x∈s9))++[(j:Int)].filter (fun x=>decide (x∈s9)):=by
    rw [List.range_succ,Ei,List.filter_append];rfl
   have HS:=zh L;clear L;have O:=b9.out.below hM.out.ext;by_cases D:(j:Int)∈s9
   ·have d6:=look_t O D;have V:=zh D;clear D;have b0:(((List.range j).map Int.ofNat).filter (fun x=>decide (x∈s9))).length<=j:=Dt (DU _ _) (by simp);obtain ⟨lj,b1⟩:=Ez (((List.range j).map Int.ofNat).filter (fun x=>decide (x∈s9)));rw [<-b1] at hM b0 HS;clear b1;have g3:=hM.out.ext.size
    go_wp2_with (at_builtin;refine CU rfl _ _ rfl _ lj (j:Int) wB.heap.size wr.heap.size 1 _ rfl rfl (hM.out.own.alloc _) ?d1 ?d2 ?d3 ?_)
    (try case d1=>exact zR _ _ _ (by simp))
    case d2=>(first | (simp;done) | (simp;omega) | omega)
    case d3=>omega
    intro v' wb b3 a7 c8;have c0:=zh ((hM.out.alloc _).app b3 a7);clear b3 a7 c8;go_wp2;go_roundw
    case rel=>exact ⟨j+1,by omega,by go_num,by rw [HS.out,Ek (by simpa using V.out)];exact c0⟩
    case measure=>simp [intOf];omega
   ·have d6:=look_f O D;have V:=zh D;clear D;go_wp2;go_roundw
    case rel=>exact ⟨j+1,by omega,by go_num,by rw [HS.out,DZ (by simpa using V.out),List.filter_nil,List.append_nil];exact hM⟩
    case measure=>simp [intOf];omega
  ·have d4:j=N:=by omega
   subst d4
   go_wp2_with fail
   go_ret;refine ⟨_,rfl,(z.trans e1).mono_mk (hM.out.cast ?_)⟩;have c6:m.n.toNat=j:=by have:m.n=(j:Int):=HN.out;omega
   unfold reachO;rw [if_pos ⟨HC.out,by omega,by omega⟩,Eh,<-hE.out,c6]
def stCells (m:MZ) (f u t vc vp:Value) (gu:Nat):Array Value:=#[.int .i64 m.w,.int .i64 m.h,.int .i64 m.l,f,u,t,vc,vp,.map (some gu)]
structure AJ (w:World) (ok:Nat->Prop) (g:Nat) (m:MZ) (ch:List Int) (ps:List (List Int)) (us:List Int) (f u t vc vp:Value) (gu:Nat):Prop where
 blk:ze w g 154 (stCells m f u t vc vp gu)
 okg:ok g
 maze:zF w ok (.agg #[.int .i64 m.w,.int .i64 m.h,.int .i64 m.l,f,u,t]) m
 ch:zk w ok vc ch
 ps:zU w ok vp ps
 oku:ok gu
 us:zu w gu us
def Cb (w:World) (ok:Nat->Prop) (v:Value) (m:MZ) (ch:List Int) (ps:List (List Int)) (us:List Int):Prop:=
 ∃g f u t vc vp gu,v=.pointer (some ⟨g,0,none⟩)/\AJ w ok g m ch ps us f u t vc vp gu
section
variable {w w':World} {ok ok':Nat->Prop} {v f u t vc vp:Value} {m:MZ} {ch us:List Int} {ps:List (List Int)} {g gu:Nat}
theorem AJ.keep (h:AJ w ok g m ch ps us f u t vc vp gu) (d:zN ok w w'):AJ w' ok g m ch ps us f u t vc vp gu:=
 ⟨(d g h.okg (za h.blk)).trans h.blk,h.okg,h.maze.keep d,h.ch.keep d,h.ps.keep d,h.oku,h.us.keep d h.oku⟩
theorem AJ.weaken (h:AJ w ok g m ch ps us f u t vc vp gu) (d:∀b,ok b->ok' b):AJ w ok' g m ch ps us f u t vc vp gu:=
 ⟨h.blk,d _ h.okg,h.maze.weaken d,h.ch.weaken d,h.ps.weaken d,d _ h.oku,h.us⟩
theorem Cb.keep (h:Cb w ok v m ch ps us) (d:zN ok w w'):Cb w' ok v m ch ps us:=by
 obtain ⟨g,f,u,t,vc,vp,gu,e,h⟩:=h;exact ⟨g,f,u,t,vc,vp,gu,e,h.keep d⟩
theorem Cb.weaken (h:Cb w ok v m ch ps us) (d:∀b,ok b->ok' b):Cb w ok' v m ch ps us:=by
 obtain ⟨g,f,u,t,vc,vp,gu,e,h⟩:=h;exact ⟨g,f,u,t,vc,vp,gu,e,h.weaken d⟩
theorem Cb.below (h:Cb w ok v m ch ps us) (d:Below w.heap.size w w'):Cb w' ok v m ch ps us:=h.keep (zN.of_below d)
theorem AJ.ext (h:AJ w ok g m ch ps us f u t vc vp gu) (d:zb w w'):AJ w' ok g m ch ps us f u t vc vp gu:=h.keep (zN.of_below d)
theorem AJ.rules (h:AJ w ok g m ch ps us f u t vc vp gu):
  (∀W,zb w W->W.cell? ⟨g,0,none⟩=some (.int .i64 m.w))/\(∀W,zb w W->W.cell? ⟨g,1,none⟩=some (.int .i64 m.h))/\(∀W,zb w W->W.cell? ⟨g,2,none⟩=some (.int .i64 m.l))/\
  (∀W,zb w W->W.cell? ⟨g,3,none⟩=some f)/\(∀W,zb w W->W.cell? ⟨g,4,none⟩=some u)/\(∀W,zb w W->W.cell? ⟨g,5,none⟩=some t)/\
  (∀W,zb w W->W.cell? ⟨g,6,none⟩=some vc)/\(∀W,zb w W->W.cell? ⟨g,7,none⟩=some vp)/\(∀W,zb w W->W.cell? ⟨g,8,none⟩=some (.map (some gu))):=by
 have z:=h.blk;unfold ze stCells at z
 have d:∀k x,(#[Value.int .i64 m.w,.int .i64 m.h,.int .i64 m.l,f,u,t,vc,vp,.map (some gu)]:Array Value)[k]?=some x->w.cell? ⟨g,k,none⟩=some x:=by
  intro k x D;unfold World.cell?;simp only [z];exact D
 exact ⟨zb.rule (d 0 _ rfl),zb.rule (d 1 _ rfl),zb.rule (d 2 _ rfl),zb.rule (d 3 _ rfl),zb.rule (d 4 _ rfl),zb.rule (d 5 _ rfl),zb.rule (d 6 _ rfl),zb.rule (d 7 _ rfl),zb.rule (d 8 _ rfl)⟩
end
structure SOk (m:MZ) (ch:List Int) (ps:List (List Int)):Prop where
 good:zE m
 lens:Lens m
 pl:ps.length<=m.tasks.length
 pn:0<m.tasks.length->0<ps.length
 pp:∀p∈ps,p.length<=1000
 pr:∀p∈ps,∀x∈p,0<=x/\x<m.n
 cl:ch.length<=1000
def finB (m:MZ) (ps:List (List Int)):Bool:=
 match (ps.getD (ps.length - 1) []).getLast? with
 | none=>false
 | some x=>decide (x∈(m.tasks.getD (ps.length - 1) ([],[])).2)
def cmpB (m:MZ) (ps:List (List Int)):Bool:=decide (m.tasks.length=0) || (decide (ps.length=m.tasks.length) && finB m ps)
theorem Ch {w:World}:zb w w.drew:=(zb.refl w).drew
theorem Ar {ok:Nat->Prop} {m:MZ} {ch us:List Int} {ps:List (List Int)} {g gu:Nat} {f u t vc vp:Value} (w:World) (h:AJ w ok g m ch ps us f u t vc vp gu) (z:ps.length<=20000000000000):
  Calls Tryz.prog 211 #[.pointer (some ⟨g,0,none⟩)] w fun e w'=>e=.returned (.int .i64 ((ps.length:Int) - 1))/\w=w':=by
 obtain ⟨r0,r1,r2,r3,r4,r5,r6,r7,r8⟩:=h.rules;obtain ⟨vs,⟨Ap,cp,rfl,d,_⟩,_⟩:=h.ps;clear h;have D:=zb.refl w
 go_enter Tryz.func211,Tryz.ntmps211
 go_wp2;go_ret;exact ⟨rfl,rfl⟩
theorem Da {ok:Nat->Prop} {m:MZ} {ch us:List Int} {ps:List (List Int)} {g gu:Nat} {f u t vc vp:Value} (w:World) (h:AJ w ok g m ch ps us f u t vc vp gu) (so:SOk m ch ps) (hp:0<ps.length):
  Calls Tryz.prog 164 #[.pointer (some ⟨g,0,none⟩)] w fun e w'=>e=.returned (.bool (finB m ps))/\zB w w':=by
 obtain ⟨r0,r1,r2,r3,r4,r5,r6,r7,r8⟩:=h.rules;have c9:=h.ps;have c8:=h.maze;have HS:=zh h;clear h;obtain ⟨vs,⟨Ap,cp,rfl,d9,b3⟩,a5⟩:=c9;obtain ⟨fr',up',ts',he,_,_,a2⟩:=c8;injection he with he;injection he with he;simp only [List.cons.injEq,and_true,true_and] at he;obtain ⟨rfl,rfl,rfl⟩:=he;have d5:=a2;obtain ⟨vst,⟨At,ct,rfl,e0,_⟩,_⟩:=d5;have hk:ps.length - 1<ps.length:=by omega
 obtain ⟨b,off,up,rfl,_,D,b5⟩:=BU b3 a5 hk hk;have E:ps.length - 1<m.tasks.length:=by have:=so.pl;omega
 obtain ⟨bt,offt,sn,u1,u2,rfl,_,c6,a3,V,a6,a0⟩:=BR a2 E;have b4:=so.lens;have e3:=so.pl;have e9:=so.good.tk;have L:=so.pp _ (Dr hk);have b0:=(b4.tl _ (Dr E)).2;clear b4 b3 a5 a2
 have z:finB m ps=match (ps[ps.length - 1]).getLast? with | none=>false | some x=>decide (x∈(m.tasks[ps.length - 1]).2):=by
  unfold finB;simp [hk,E]
 obtain ⟨p,b1⟩:=Ez (ps[ps.length - 1]);obtain ⟨tk,O⟩:=Ez (m.tasks[ps.length - 1]);rw [<-b1] at b5 L z;rw [<-O] at a6 a0 b0 z;clear b1 O a6;have b9:=zh a0;clear a0;have HF:=zh z;clear z;obtain ⟨Aq,cq,rfl,I,a1⟩:=b5;obtain ⟨k,a9⟩:∃k,ps.length - 1=k:=⟨_,rfl⟩;rw [a9] at D a3 V E;have a8:(ps.length:Int) - 1=(k:Int):=by omega
 have U:=zh a8;clear a8;have e2:(k:Int)<(ps.length:Int):=by omega
 have e1:(0:Int)<=(k:Int):=by omega
 have d7:(k:Int)<(m.tasks.length:Int):=by omega
 have rp:=zb.rule D;have rt:=zb.rule V;clear D c6 a3 V a9 hk E;have hx:=zb.refl w;rcases List.eq_nil_or_concat p with rfl | ⟨q,x,rfl⟩
 ·have hz:([]:List Int).length=0:=rfl;rw [hz] at I
  go_enter Tryz.func164,Tryz.ntmps164
  go_wp2_with fail
  go_quiet ((go_at_call 211;refine (Ar _ (HS.out.ext ((zb.refl w).drewN _)) (by omega)).mono ?_;rintro e w9 ⟨d,rfl⟩;rw [U.out] at d;exact ⟨d,⟨_,rfl⟩⟩))
  go_wp2_with fail
  go_quiet (fail)
  go_wp2;go_ret;exact ⟨zl (by rw [HF.out];rfl),(zB.refl w).more _ |>.more _⟩
 ·rw [List.concat_eq_append] at a1 L I HF;have b2:(q++[x]).length=q.length+1:=by simp
  rw [b2] at I L
  have J:∃bq offq,Aq=some ⟨bq,offq,none⟩/\w.cell? ⟨bq,offq+q.length,none⟩=some (.int .i64 x):=by
   obtain ⟨bq,offq,e,_,hc⟩:=Ao a1 (k:=q.length) (by omega) (by omega);exact ⟨bq,offq,e,by rw [hc];simp⟩
  obtain ⟨bq,offq,rfl,J⟩:=J;have rx:=zb.rule J;clear J a1;have G:(q++[x]).getLast?=some x:=by simp
  rw [G] at HF;have M:(q.concat x).length=q.length+1:=by simp
  rw [M] at rp;clear G b2 M;generalize q.length=n at*;obtain ⟨N,hN⟩:=Ez (n+1);rw [<-hN] at rp I L;have e4:(0:Int)<=(n:Int):=by omega
  have e5:(n:Int)<(N:Int):=by omega
  have d4:(N:Int) - 1=(n:Int):=by omega
  have e6:(0:Int)<(N:Int):=by omega
  have e7:0<N:=by omega
  have e8:IntKind.i64.wrap ((N:Int) - 1)=(n:Int):=by rw [DN];omega
  clear hN d4
  go_enter Tryz.func164,Tryz.ntmps164
  go_wp2_with fail
  go_quiet ((go_at_call 211;refine (Ar _ (HS.out.ext ((zb.refl w).drewN _)) (by omega)).mono ?_;rintro e w9 ⟨d,rfl⟩;rw [U.out] at d;exact ⟨d,⟨_,rfl⟩⟩))
  generalize b6:w.drewN nq=w1;have a4:zB w w1:=⟨nq,b6.symm⟩;have b7:zb w w1:=a4.below _;clear b6
  go_wp2_with fail
  go_quiet (first | ((go_at_call 211;refine (Ar _ (HS.out.ext (b7.drewN _)) (by omega)).mono ?_;rintro e w9 ⟨d,rfl⟩;rw [U.out] at d;exact ⟨d,⟨_,rfl⟩⟩)) | ((go_at_call 98;refine (zV x _ (b9.out.below (b7.drewN _)) (by omega)).mono ?_;rintro e w8 ⟨c7,rfl⟩;exact ⟨c7,⟨_,rfl⟩⟩)))
  go_wp2;go_ret;exact ⟨zl (by rw [HF.out]),a4.more _⟩
theorem BD {ok:Nat->Prop} {m:MZ} {ch us:List Int} {ps:List (List Int)} {g gu:Nat} {f u t vc vp:Value} (w:World) (h:AJ w ok g m ch ps us f u t vc vp gu) (so:SOk m ch ps):
  Calls Tryz.prog 96 #[.pointer (some ⟨g,0,none⟩)] w fun e w'=>e=.returned (.bool (cmpB m ps))/\zB w w':=by
 obtain ⟨r0,r1,r2,r3,r4,r5,r6,r7,r8⟩:=h.rules;have a5:=h.ps;have a4:=h.maze;have HS:=zh h;clear h;obtain ⟨vs,⟨Ap,cp,rfl,O,a6⟩,a3⟩:=a5;obtain ⟨fr',up',ts',he,_,_,a8⟩:=a4;injection he with he;injection he with he;simp only [List.cons.injEq,and_true,true_and] at he;obtain ⟨rfl,rfl,rfl⟩:=he;obtain ⟨vst,⟨At,ct,rfl,U,_⟩,_⟩:=a8;have G:=so.pl;have D:=so.pn;have a7:=so.good.tk;have SO:=zh so;clear so;clear a6 a3;have hx:=zb.refl w;obtain ⟨cb,z⟩:=Ez (cmpB m ps);have d:=zh z;rw [<-z];clear z;unfold cmpB at d;obtain ⟨T,M⟩:=Ez m.tasks.length;obtain ⟨Pn,L⟩:=Ez ps.length;rw [<-M] at r5 U d G D a7;rw [<-L] at r7 O d G D;have HT:=zh M;clear M;have HP:=zh L;clear L;by_cases h0:T=0
 ·have E:Hid (cb=true):=by have:=d.out;rw [Du h0] at this;simpa [Hid] using this
  have V:decide ((T:Int)=0)=true:=Du (by omega);have a0:((T:Int)==0)=true:=by rw [beq_iff_eq];omega
  clear h0 D
  go_enter Tryz.func96,Tryz.ntmps96
  go_wp2_with fail
  go_quiet (fail)
  go_wp2;go_ret;exact ⟨zl E.out.symm,(zB.refl w).more _⟩
 ·have V:decide ((T:Int)=0)=false:=Dv (by omega);have a0:((T:Int)==0)=false:=by rw [DE];omega
  by_cases I:Pn=T
  ·have E:Hid (cb=finB m ps):=by have:=d.out;rw [Dv h0,Du I] at this;simpa [Hid] using this
   have J:Hid (0<ps.length):=(by have:=HP.out;omega:0<ps.length);subst I;have a1:((Pn:Int)==(Pn:Int))=true:=by rw [beq_iff_eq]
   clear h0
   go_enter Tryz.func96,Tryz.ntmps96
   go_wp2_with fail
   go_quiet ((go_at_call 164;refine (Da _ (HS.out.ext ((zb.refl w).drewN _)) SO.out J.out).mono ?_;rintro e w9 ⟨a2,nd,rfl⟩;exact ⟨a2,⟨_,World.drewN_drewN _ _ _⟩⟩))
   go_wp2;go_ret;exact ⟨zl E.out.symm,(zB.refl w).more _⟩
  ·have E:Hid (cb=false):=by have:=d.out;rw [Dv h0,Dv I] at this;simpa [Hid] using this
   have b1:decide ((Pn:Int)=(T:Int))=false:=Dv (by omega);have a1:((Pn:Int)==(T:Int))=false:=by rw [DE];omega
   clear I h0
   go_enter Tryz.func96,Tryz.ntmps96
   go_wp2_with fail
   go_quiet (fail)
   go_wp2;go_ret;exact ⟨zl E.out.symm,(zB.refl w).more _⟩
end
end Go.Proofs.YtnmkmhpgnpojbaaGreatDoor
