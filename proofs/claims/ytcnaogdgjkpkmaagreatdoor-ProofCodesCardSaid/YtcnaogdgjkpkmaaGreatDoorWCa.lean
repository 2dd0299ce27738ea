import Derived.WalkKit
import Derived.Lib.Hide
import Derived.Test.YtcnaogdgjkpkmaaGreatDoorRows
import Derived.WalkLawsBesides
import Derived.WalkSpells
import Derived.BigQuiet
import Derived.Deep.QuietTactic
import Derived.ChangeMaps4
import Derived.Maps.RangeRun
import Derived.Deep.DeepCutAuto
import Derived.Deep.AppendLies
import Derived.Deep.Onto
import Derived.Deep.RegionHeld
set_option linter.unusedVariables false
set_option linter.unusedSimpArgs false
set_option maxRecDepth 100000
set_option maxHeartbeats 16000000
namespace Go.Proofs.YtcnaogdgjkpkmaaGreatDoor
variable {a:Act} {listed:Array Bool} {es:Array MapEntry} {ops:Array Oper} {cs:Array Value} {Q:Exit->Act->World->Prop} {x y:Int} {from_ l used:List Int} {rest:List Oper} {B fuel g gb k t:Nat} {o oi:Oper} {P:Program} {b w0:World}
section
open Go.RowKit
theorem zh {p: Prop} (h : p) : Hid p := Lib.hid h
theorem zc {α: Type} : (∀ (xs : List α) (i : Nat) (h : i < xs.toArray.size), xs.toArray[i] = xs[i]'(by simpa using h)) /\ (∀ (a : α) (l : List α) (i : Nat) (h : i + 1 < (a :: l).length), (a :: l)[i+1] = l[i]'(Nat.lt_of_succ_lt_succ h)) /\ (∀ (a : α) (l : List α) (h : 0 < (a :: l).length), (a :: l)[0] = a) /\ (∀ (l : List α) (i : Nat) (a : α), l.toArray.setIfInBounds i a = (l.set i a).toArray) /\ (∀ (a : α) (l : List α) (b : α), (a :: l).set 0 b = b :: l) /\ (∀ (a : α) (l : List α) (i : Nat) (b : α), (a :: l).set (i+1) b = a :: l.set i b) :=
 ⟨fun _ _ h => List.getElem_toArray h, fun _ _ _ _ => List.getElem_cons_succ .., fun _ _ _ => List.getElem_cons_zero .., fun _ _ _ => List.setIfInBounds_toArray .., fun _ _ _ => rfl, fun _ _ _ _ => rfl⟩
abbrev CW := @List.getElem?_eq_getElem
abbrev CX := @List.getD_eq_getElem?_getD
abbrev CY := @Nat.le_refl
abbrev CZ := @List.getElem_mem
abbrev Da := @Nat.le_trans
abbrev Db := @decide_eq_true
abbrev Dc := @decide_eq_false
abbrev Dd := @List.getElem?_append_left
abbrev De := @List.getElem?_append_right
abbrev Dg := @List.take_succ_eq_append_getElem
abbrev Dh := @List.length_append
abbrev Di := @Below.heap_setCell
abbrev Dj := @decide_eq_true_eq
abbrev Dl := @List.take_length
abbrev Dm := @Bool.and_eq_true
abbrev Dn := @beq_eq_false_iff_ne
abbrev Do := @Nat.zero_le
abbrev Dp := @wp_region_held_drew
abbrev Dq := @List.eq_nil_of_length_eq_zero
abbrev Dr := @List.getElem?_eq_none
abbrev Dt := @List.mem_cons_of_mem
abbrev Du := @IntKind.wrap_i64
abbrev Dv := @Nat.lt_or_ge
abbrev Dw := @decide_eq_false_iff_not
abbrev Dx := @List.length_singleton
abbrev Dy := @AllReadyH.cons
abbrev Dz := @Nat.lt_of_lt_of_le
abbrev DA := @List.length_filter_le
abbrev DB := @wpAnyH_done
abbrev DC := @List.getElem_of_mem
abbrev DD := @List.mem_singleton
abbrev DE := @List.getElem?_map
abbrev DF := @List.length_map
abbrev DG := @Nat.eq_zero_or_pos
abbrev DH := @List.mem_cons_self
abbrev DI := @heap_alloc_new
abbrev DJ := @List.mem_cons
abbrev DK := @List.mem_append
abbrev DL := @Int.toNat_natCast
abbrev DM := @bodyPost_ret
abbrev DN := @Array.getElem?_eq_some_iff
abbrev DO := @List.not_mem_nil
abbrev DP := @List.mem_filter
abbrev DQ := @List.mem_map
abbrev DR := @List.mem_range
abbrev DS := @List.any_eq_true
abbrev DT := @List.all_eq_true
abbrev DU := @of_decide_eq_true
abbrev DV := @List.length_cons
abbrev DW := @List.length_nil
theorem CV : (∀ (t : Array Value) (f : List Deferred) (d : Tmp) (v : Value), Act.put ⟨t, f⟩ (some d) v = ⟨t.setIfInBounds d v, f⟩) /\ (∀ (a : Act) (v : Value), Act.put a none v = a) := ⟨fun _ _ _ _ => rfl, fun _ _ => rfl⟩
theorem zgd {α: Type _} {l: List α} {d: α} (h : k < l.length) : l.getD k d = l[k] := by rw [List.getD_eq_getElem?_getD, List.getElem?_eq_getElem h]; rfl
theorem DX {α: Sort _} (a : α) : ∃ x, x = a := ⟨_, rfl⟩
theorem DY {K: Act -> World -> Prop} {S: World -> Prop} {G: Act -> World -> Prop} (h : Shut (∀ a w, S w -> (S w -> G a w) -> K a w)) {w: World} (s : S w) (g : S w -> G a w) : K a w := h.out a w s g
theorem zj {md: Region.Mode} {Q: Exit -> Act -> World -> Prop} {S: World -> Prop} (i : Nat) {v: Value} {w: World} (r : S w)
 (h : wpAnyH P md ops Q S fuel (listed.setIfInBounds i true) (a.put oi.dst v) w) (D : ops[i]? = some oi := by rfl) (J : ∀ w, S w -> (execOp a.eval oi).run P w = .ok (.value v) w := by (intro w z; go_simp; try with_reducible rfl)) (I : Region.wanted oi (yielded ops a.tmps) = true := by rfl)
 (G : Region.noSelect ops = true := by kernel_rfl) (hf : Region.free md ops listed i = true := by kernel_rfl) (E : (Region.ready md ops listed).contains i = true := by kernel_rfl)
 (d : ∀ c a w, Q (.panic c) (a.put oi.dst v) w -> Q (.panic c) a w := by exact fun _ _ _ h => h) : wpAnyH P md ops Q S (fuel + 1) listed a w := wpAnyH_take D G hf E d (.inl ⟨I, J⟩) r h
theorem rtU {md: Region.Mode} {Q: Exit -> Act -> World -> Prop} {S: World -> Prop} (i : Nat) (v : Value) {w: World} (r : S w)
 (I : ∀ w, S w -> (execOp a.eval oi).run P w = .ok (.value v) w) (h : wpAnyH P md ops Q S fuel (listed.setIfInBounds i true) (a.put oi.dst v) w) (z : ops[i]? = some oi := by rfl) (G : Region.wanted oi (yielded ops a.tmps) = true := by rfl)
 (E : Region.noSelect ops = true := by kernel_rfl) (hf : Region.free md ops listed i = true := by kernel_rfl) (D : (Region.ready md ops listed).contains i = true := by kernel_rfl)
 (d : ∀ c a w, Q (.panic c) (a.put oi.dst v) w -> Q (.panic c) a w := by exact fun _ _ _ h => h) : wpAnyH P md ops Q S (fuel + 1) listed a w := wpAnyH_take z E hf D d (.inl ⟨G, I⟩) r h
theorem rtN {md: Region.Mode} {Q: Exit -> Act -> World -> Prop} {S: World -> Prop} (i : Nat) {w: World} (r : S w)
 (h : wpAnyH P md ops Q S fuel (listed.setIfInBounds i true) (a.put oi.dst undef) w) (z : ops[i]? = some oi := by rfl) (G : Region.wanted oi (yielded ops a.tmps) = false := by rfl)
 (E : Region.noSelect ops = true := by kernel_rfl) (hf : Region.free md ops listed i = true := by kernel_rfl) (D : (Region.ready md ops listed).contains i = true := by kernel_rfl)
 (d : ∀ c a w, Q (.panic c) (a.put oi.dst undef) w -> Q (.panic c) a w := by exact fun _ _ _ h => h) : wpAnyH P md ops Q S (fuel + 1) listed a w := wpAnyH_take z E hf D d (.inr ⟨G, rfl⟩) r h
theorem Aa {md: Region.Mode} {Q: Exit -> Act -> World -> Prop} {S: World -> Prop} {w: World} (i : Nat)
 (h : ∀ K' : Act -> World -> Prop, Shut (∀ a w, S w -> (S w -> wpAnyH P md ops Q S fuel (listed.setIfInBounds i true) a w) -> K' a w) -> if Region.wanted o (yielded ops a.tmps) = true then Oper.wp P o a w K' Q else K' (a.put o.dst undef) w)
 (d : ops[i]? = some o := by rfl) (r : Region.ready md ops listed = [i] := by kernel_rfl) : wpAnyH P md ops Q S (fuel + 1) listed a w := wpAnyH_ready r (by simp) (.cons d h .nil)
theorem rdA {md: Region.Mode} {Q: Exit -> Act -> World -> Prop} {S: World -> Prop} (rs : List Nat) {w: World}
 (h : AllReadyH P md ops Q S fuel listed a w rs) (r : Region.ready md ops listed = rs := by kernel_rfl) (d : rs ≠ [] := by simp) : wpAnyH P md ops Q S (fuel + 1) listed a w := wpAnyH_ready r d h
structure MZ where
 w:Int
 h:Int
 l:Int
 free:List (List Bool)
 up:List Bool
 tasks:List (List Int×List Int)
theorem zb {w:World} {o:Obj} (h:w.heap[k]?=some o):k<w.heap.size:=by
 rcases Dv k w.heap.size with h1 | h1
 ·exact h1
 ·rw [Array.getElem?_eq_none h1] at h;cases h
theorem zA {w:World} {a:Addr} {v:Value} (h:w.cell? a=some v):a.block<w.heap.size:=by
 unfold World.cell? at h
 cases hh:w.heap[a.block]? with
 | none=>simp [hh] at h
 | some o=>exact zb hh
theorem Ci {w w':World} {a:Addr} (h:w'.heap[a.block]?=w.heap[a.block]?):w'.cell? a=w.cell? a:=World.cell?_of_block h
def zK (ok:Nat->Prop) (w w':World):Prop:=∀b,ok b->b<w.heap.size->w'.heap[b]?=w.heap[b]?
theorem zK.refl (ok:Nat->Prop) (w:World):zK ok w w:=fun _ _ _=>rfl
theorem zK.of_below {ok:Nat->Prop} {w w':World} (h:Below w.heap.size w w'):zK ok w w':=fun b _ d=>h.block b d
theorem Be {a w w':World} (h:Below B a w) (d:Below w.heap.size w w') (r:B<=a.heap.size):Below B a w':=h.trans (d.mono (Da r h.size))
def Aj (w:World) (ok:Nat->Prop) (size:Nat) (A:Option Addr) (n:Nat) (xs:List Value):Prop:=
 xs.length=n*size/\(0<n->∃b off,A=some ⟨b,off,none⟩/\ok b/\∀j u,xs[j]?=some u->w.cell? ⟨b,off+j,none⟩=some u)
def Ay (w:World) (ok:Nat->Prop) (size:Nat) (v:Value) (n:Nat) (xs:List Value):Prop:=
 ∃A c,v=.slice A n c/\n<=c/\Aj w ok size A n xs
section
variable {w w':World} {ok ok':Nat->Prop} {size n:Nat} {A:Option Addr} {v:Value} {xs:List Value}
theorem Aj.keep (h:Aj w ok size A n xs) (z:zK ok w w'):Aj w' ok size A n xs:=
 ⟨h.1,fun D=>by
  obtain ⟨b,off,e,d,r⟩:=h.2 D;refine ⟨b,off,e,d,fun j u E=>?_⟩;have h1:=r j u E;exact (Ci (z b d (zA h1))).trans h1⟩
theorem Aj.weaken (h:Aj w ok size A n xs) (z:∀b,ok b->ok' b):Aj w ok' size A n xs:=
 ⟨h.1,fun D=>by
  obtain ⟨b,off,e,d,r⟩:=h.2 D;exact ⟨b,off,e,z b d,r⟩⟩
theorem Aj.nil (w:World) (ok:Nat->Prop) (size:Nat) (A:Option Addr):Aj w ok size A 0 []:=⟨by simp,fun h=>absurd h (by omega)⟩
theorem Aj.at_ (h:Aj w ok 1 A n xs) (D:k<n):∃b off u,A=some ⟨b,off,none⟩/\ok b/\xs[k]?=some u/\w.cell? ⟨b,off+k,none⟩=some u:=by
 obtain ⟨b,off,e,r,z⟩:=h.2 (by omega);have d:k<xs.length:=by have:=h.1;omega
 exact ⟨b,off,xs[k],e,r,CW d,z k _ (CW d)⟩
theorem Ay.keep (h:Ay w ok size v n xs) (r:zK ok w w'):Ay w' ok size v n xs:=by
 obtain ⟨A,c,rfl,d,z⟩:=h;exact ⟨A,c,rfl,d,z.keep r⟩
theorem Ay.weaken (h:Ay w ok size v n xs) (r:∀b,ok b->ok' b):Ay w ok' size v n xs:=by
 obtain ⟨A,c,rfl,d,z⟩:=h;exact ⟨A,c,rfl,d,z.weaken r⟩
theorem Ay.below (h:Ay w ok size v n xs) (d:Below w.heap.size w w'):Ay w' ok size v n xs:=h.keep (zK.of_below d)
theorem Ay.of_own {base:Nat} {e:TypeId} (h:w.ownsRow base e size v n xs):Ay w (fun b=>base<=b) size v n xs:=by
 obtain ⟨D,⟨rfl,rfl⟩ | ⟨g,cap,cur,rfl,G,hh,r,z,E,ht⟩⟩:=h
 ·exact ⟨none,0,rfl,CY _,D,fun h=>absurd h (by omega)⟩
 ·refine ⟨some ⟨g,0,none⟩,cap,rfl,r,D,fun _=>⟨g,0,rfl,G,fun j u d=>?_⟩⟩;unfold World.cell?;simp only [hh,Nat.zero_add];rw [<-ht,List.getElem?_take] at d
  split at d
  ·simpa using d
  ·cases d
end
def zk (w:World) (ok:Nat->Prop) (v:Value) (l:List Int):Prop:=Ay w ok 1 v l.length (l.map (Value.int .i64))
def AO (w:World) (ok:Nat->Prop) (v:Value) (l:List Bool):Prop:=Ay w ok 1 v l.length (l.map Value.bool)
def Each {α:Type} (R:Value->α->Prop) (w:World) (ok:Nat->Prop) (v:Value) (l:List α):Prop:=
 ∃vs,Ay w ok 1 v l.length vs/\∀(i:Nat) x,l[i]?=some x->∃u,vs[i]?=some u/\R u x
def AT (w:World) (ok:Nat->Prop) (v:Value) (l:List (List Int)):Prop:=Each (zk w ok) w ok v l
def AE (w:World) (ok:Nat->Prop) (v:Value) (l:List (List Bool)):Prop:=Each (AO w ok) w ok v l
def Bd (w:World) (ok:Nat->Prop) (v:Value) (l:List (List Int×List Int)):Prop:=
 ∃vs,Ay w ok 3 v l.length vs/\∀(i:Nat) x,l[i]?=some x->∃s u1 u2,vs[i*3]?=some (.string s)/\vs[i*3+1]?=some u1/\vs[i*3+2]?=some u2/\zk w ok u1 x.1/\zk w ok u2 x.2
def zL (w:World) (ok:Nat->Prop) (v:Value) (m:MZ):Prop:=
 ∃f u t,v=.agg #[.int .i64 m.w,.int .i64 m.h,.int .i64 m.l,f,u,t]/\AE w ok f m.free/\AO w ok u m.up/\Bd w ok t m.tasks
section
variable {w w':World} {ok ok':Nat->Prop} {v:Value}
theorem zk.keep {l:List Int} (h:zk w ok v l) (d:zK ok w w'):zk w' ok v l:=Ay.keep h d
theorem zk.weaken {l:List Int} (h:zk w ok v l) (d:∀b,ok b->ok' b):zk w ok' v l:=Ay.weaken h d
theorem zk.below {l:List Int} (h:zk w ok v l) (d:Below w.heap.size w w'):zk w' ok v l:=Ay.below h d
theorem AO.keep {l:List Bool} (h:AO w ok v l) (d:zK ok w w'):AO w' ok v l:=Ay.keep h d
theorem AO.weaken {l:List Bool} (h:AO w ok v l) (d:∀b,ok b->ok' b):AO w ok' v l:=Ay.weaken h d
theorem Each.keep {α:Type} {R R':Value->α->Prop} {l:List α} (h:Each R w ok v l) (z:zK ok w w') (r:∀u x,R u x->R' u x):Each R' w' ok v l:=by
 obtain ⟨vs,d,he⟩:=h;refine ⟨vs,d.keep z,fun i x E=>?_⟩;obtain ⟨u,D,d⟩:=he i x E;exact ⟨u,D,r _ _ d⟩
theorem Each.weaken {α:Type} {R R':Value->α->Prop} {l:List α} (h:Each R w ok v l) (z:∀b,ok b->ok' b) (r:∀u x,R u x->R' u x):Each R' w ok' v l:=by
 obtain ⟨vs,d,he⟩:=h;refine ⟨vs,d.weaken z,fun i x E=>?_⟩;obtain ⟨u,D,d⟩:=he i x E;exact ⟨u,D,r _ _ d⟩
theorem AT.keep {l:List (List Int)} (h:AT w ok v l) (d:zK ok w w'):AT w' ok v l:=Each.keep h d fun _ _ r=>r.keep d
theorem AT.weaken {l:List (List Int)} (h:AT w ok v l) (d:∀b,ok b->ok' b):AT w ok' v l:=Each.weaken h d fun _ _ r=>r.weaken d
theorem AE.keep {l:List (List Bool)} (h:AE w ok v l) (d:zK ok w w'):AE w' ok v l:=Each.keep h d fun _ _ r=>r.keep d
theorem AE.weaken {l:List (List Bool)} (h:AE w ok v l) (d:∀b,ok b->ok' b):AE w ok' v l:=Each.weaken h d fun _ _ r=>r.weaken d
theorem Bd.keep {l:List (List Int×List Int)} (h:Bd w ok v l) (d:zK ok w w'):Bd w' ok v l:=by
 obtain ⟨vs,r,he⟩:=h;refine ⟨vs,r.keep d,fun i x z=>?_⟩;obtain ⟨s,u1,u2,h0,h1,h2,i1,i2⟩:=he i x z;exact ⟨s,u1,u2,h0,h1,h2,i1.keep d,i2.keep d⟩
theorem Bd.weaken {l:List (List Int×List Int)} (h:Bd w ok v l) (d:∀b,ok b->ok' b):Bd w ok' v l:=by
 obtain ⟨vs,r,he⟩:=h;refine ⟨vs,r.weaken d,fun i x z=>?_⟩;obtain ⟨s,u1,u2,h0,h1,h2,i1,i2⟩:=he i x z;exact ⟨s,u1,u2,h0,h1,h2,i1.weaken d,i2.weaken d⟩
theorem zL.keep {m:MZ} (h:zL w ok v m) (d:zK ok w w'):zL w' ok v m:=by
 obtain ⟨f,u,t,rfl,h1,h2,r⟩:=h;exact ⟨f,u,t,rfl,h1.keep d,h2.keep d,r.keep d⟩
theorem zL.weaken {m:MZ} (h:zL w ok v m) (d:∀b,ok b->ok' b):zL w ok' v m:=by
 obtain ⟨f,u,t,rfl,h1,h2,r⟩:=h;exact ⟨f,u,t,rfl,h1.weaken d,h2.weaken d,r.weaken d⟩
theorem zL.below {m:MZ} (h:zL w ok v m) (d:Below w.heap.size w w'):zL w' ok v m:=h.keep (zK.of_below d)
theorem AT.below {l:List (List Int)} (h:AT w ok v l) (d:Below w.heap.size w w'):AT w' ok v l:=h.keep (zK.of_below d)
theorem AO.below {l:List Bool} (h:AO w ok v l) (d:Below w.heap.size w w'):AO w' ok v l:=h.keep (zK.of_below d)
theorem AE.below {l:List (List Bool)} (h:AE w ok v l) (d:Below w.heap.size w w'):AE w' ok v l:=h.keep (zK.of_below d)
theorem Bd.below {l:List (List Int×List Int)} (h:Bd w ok v l) (d:Below w.heap.size w w'):Bd w' ok v l:=h.keep (zK.of_below d)
theorem zk.open (h:zk w ok v l):∃A c,v=.slice A l.length c/\l.length<=c/\Aj w ok 1 A l.length (l.map (Value.int .i64)):=h
theorem zk.nil (w:World) (ok:Nat->Prop):zk w ok (.slice none 0 0) []:=⟨none,0,rfl,CY _,Aj.nil _ _ _ _⟩
theorem Am {n:Nat} {A:Option Addr} (h:Aj w ok 1 A n (l.map (Value.int .i64))) (D:k<n) (E:k<l.length):
  ∃b off,A=some ⟨b,off,none⟩/\ok b/\w.cell? ⟨b,off+k,none⟩=some (.int .i64 (l[k])):=by
 obtain ⟨b,off,u,e,r,d,z⟩:=h.at_ D;refine ⟨b,off,e,r,?_⟩;rw [DE,CW E] at d;rw [z,<-d];rfl
theorem Cr {l:List Bool} {n:Nat} {A:Option Addr} (h:Aj w ok 1 A n (l.map Value.bool)) (D:k<n) (E:k<l.length):
  ∃b off,A=some ⟨b,off,none⟩/\ok b/\w.cell? ⟨b,off+k,none⟩=some (.bool (l[k])):=by
 obtain ⟨b,off,u,e,r,d,z⟩:=h.at_ D;refine ⟨b,off,e,r,?_⟩;rw [DE,CW E] at d;rw [z,<-d];rfl
theorem eachAt {α:Type} {R:Value->α->Prop} {l:List α} {vs:List Value} {n:Nat} {A:Option Addr} (h:Aj w ok 1 A n vs) (he:∀(i:Nat) x,l[i]?=some x->∃u,vs[i]?=some u/\R u x) (D:k<n) (E:k<l.length):
  ∃b off u,A=some ⟨b,off,none⟩/\ok b/\w.cell? ⟨b,off+k,none⟩=some u/\R u (l[k]):=by
 obtain ⟨b,off,u,e,r,I,z⟩:=h.at_ D;obtain ⟨u',d,G⟩:=he k _ (CW E);rw [I] at d;injection d with d;subst d;exact ⟨b,off,u,e,r,z,G⟩
end
theorem Bt {k:IntKind} {a b:Int} (h:a=b):Ending.returned (.int k a)=.returned (.int k b):=by rw [h]
theorem zi {a b:Bool} (h:a=b):Ending.returned (.bool a)=.returned (.bool b):=by rw [h]
theorem zR (W H L:Int) (f u t:Value) (w:World) (h1:-1000000000<=W*H/\W*H<=1000000000) (h2:-1000000000000000<=W*H*L/\W*H*L<=1000000000000000):
  Calls Tryz.prog 57 #[.agg #[.int .i64 W,.int .i64 H,.int .i64 L,f,u,t]] w fun e w'=>e=.returned (.int .i64 (W*H*L))/\Below w.heap.size w w':=by
 obtain ⟨d,r⟩:=h1;obtain ⟨z,D⟩:=h2
 go_enter Tryz.func57,Tryz.ntmps57
 go_wp2;go_ret;exact ⟨rfl,(Below.refl _ _).alloc (CY _) _⟩
theorem zQ (h:k<l.length) (n:Int):n∈l.take (k+1)↔n∈l.take k\/n=l[k]:=by
 rw [Dg h,DK,DD]
theorem index_calls {ok:Nat->Prop} {v:Value} (n:Int) (w:World) (h:zk w ok v l) (hl:l.length<=20000000000000):
  Calls Tryz.prog 95 #[v,.int .i64 n] w fun e w'=>∃r:Int,e=.returned (.int .i64 r)/\(0<=r↔n∈l)/\-1<=r/\w=w':=by
 obtain ⟨A,c,rfl,U,L⟩:=h;have M:=zh L;clear L
 go_enter Tryz.func95,Tryz.ntmps95
 go_wp2
 go_loop [8] (fun i=>∃k:Nat,k<=l.length/\i=.int .i64 k/\Hid (n∉l.take k)) (fun i=>l.length - (intOf i).toNat)
 case atStart=>exact ⟨0,Do _,rfl,by simp [Hid]⟩
 case round=>
  obtain ⟨k,V,rfl,K⟩:=hrel;by_cases E:k<l.length
  ·obtain ⟨b,off,rfl,_,D⟩:=Am M.out E E;obtain ⟨x,G⟩:=DX (l[k]);rw [<-G] at D;have I:=zh G;clear G;by_cases d:n=x
   ·have O:(n==x)=true:=by simp [d]
    have z:=zh d;clear d;go_wp2;go_ret;exact ⟨_,rfl,⟨fun _=>by rw [z.out,I.out];exact CZ _,fun _=>by omega⟩,by omega,rfl⟩
   ·have O:(n==x)=false:=by simp [d]
    have z:=zh d;clear d;go_wp2
    go_round
    case rel=>exact ⟨k+1,by omega,by go_num,fun hm=>by
     rcases (zQ E n).1 hm with h | h
     ·exact K.out h
     ·exact z.out (h.trans I.out.symm)⟩
    case measure=>simp [intOf];omega
  ·obtain rfl:k=l.length:=by omega
   go_wp2;go_ret;have h:=K.out;rw [Dl] at h;exact ⟨_,rfl,⟨fun J=>by omega,fun J=>absurd J h⟩,by omega,rfl⟩
theorem zS {ok:Nat->Prop} {v:Value} (n:Int) (w:World) (h:zk w ok v l) (E:l.length<=20000000000000):
  Calls Tryz.prog 56 #[v,.int .i64 n] w fun e w'=>e=.returned (.bool (decide (n∈l)))/\w=w':=by
 have d:=index_calls n w h E;obtain ⟨A,c,rfl,I,z⟩:=h;have H:=zh d;clear d;clear z
 go_enter Tryz.func56,Tryz.ntmps56
 go_wp2_with fail
 refine H.out.mono ?_;rintro e w' ⟨r,rfl,z,G,rfl⟩;have D:=zh z;clear z
 go_wp2_with fail
 go_ret;exact ⟨zi (by rw [decide_eq_decide];exact D.out),rfl⟩
theorem CF {a w:World} (h:Below B a w) (n:Nat):Below B a (w.drewN n):=⟨h.os,h.tape,h.output,h.size,h.block⟩
theorem take_succ_eq {α:Type} {a b:List α} (d:k<a.length) (r:k<b.length):a.take (k+1)=b.take (k+1)↔a.take k=b.take k/\a[k]=b[k]:=by
 rw [Dg d,Dg r];constructor
 ·intro h;have z:(a.take k).length=(b.take k).length:=by simp;omega
  have:=List.append_inj h z;simpa using this
 ·rintro ⟨h1,h2⟩;rw [h1,h2]
def zM (w w':World):Prop:=∃n,w'=w.drewN n
theorem zM.refl (w:World):zM w w:=⟨0,rfl⟩
theorem zM.trans {a c:World} (h:zM a b) (d:zM b c):zM a c:=by
 obtain ⟨n,rfl⟩:=h;obtain ⟨m,rfl⟩:=d;exact ⟨n+m,by rw [World.drewN_drewN]⟩
theorem zM.more {a:World} (h:zM a b) (n:Nat):zM a (b.drewN n):=h.trans ⟨n,rfl⟩
theorem zM.same {a:World} (h:zM a b) (ok:Nat->Prop):zK ok a b:=by
 obtain ⟨n,rfl⟩:=h;exact fun _ _ _=>rfl
theorem zM.below {a:World} (h:zM a b) (B:Nat):Below B a b:=by
 obtain ⟨n,rfl⟩:=h;exact CF (Below.refl _ _) n
theorem same_calls {ok ok':Nat->Prop} {v v':Value} {a b:List Int} (w:World) (h:zk w ok v a) (h':zk w ok' v' b) (hl:a.length<=20000000000000) (a8:b.length<=20000000000000):
  Calls Tryz.prog 44 #[v,v'] w fun e w'=>e=.returned (.bool (decide (a=b)))/\zM w w':=by
 obtain ⟨A,c,rfl,hc,hr⟩:=h;obtain ⟨A',c',rfl,a7,K⟩:=h';have HR:=zh hr;clear hr;have M:=zh K;clear K;by_cases d:a.length=b.length
 ·have U:((a.length:Int) != (b.length:Int))=false:=by simp [d]
  have a9:a.length<=b.length:=by omega
  have a3:b.length<=a.length:=by omega
  have L:=zh d;clear d
  go_enter Tryz.func44,Tryz.ntmps44
  go_wp2;go_loopw [5] (fun i wr=>∃k:Nat,k<=a.length/\i=.int .i64 k/\Hid (a.take k=b.take k)/\Hid (zM w wr)) (fun i _=>a.length - (intOf i).toNat)
  case atStart=>exact ⟨0,Do _,rfl,by simp [Hid],zM.refl _⟩
  case round=>
   obtain ⟨k,hk,rfl,heq,J⟩:=hrel;by_cases I:k<a.length
   ·have z:k<b.length:=by omega
    obtain ⟨bA,off,rfl,_,G⟩:=Am (HR.out.keep (J.out.same ok)) I I;obtain ⟨bB,off',rfl,_,D⟩:=Am (M.out.keep (J.out.same ok')) z z;obtain ⟨x,V⟩:=DX (a[k]);obtain ⟨y,hy⟩:=DX (b[k]);rw [<-V] at G;rw [<-hy] at D;have HX:=zh V;clear V;have HY:=zh hy;clear hy;by_cases r:x=y
    ·have O:(x != y)=false:=by simp [r]
     have E:=zh r;clear r;go_wp2;go_quiet (fail)
     go_wp2;go_roundw
     case rel=>exact ⟨k+1,by omega,by go_num,(take_succ_eq I z).2 ⟨heq.out,by rw [<-HX.out,<-HY.out,E.out]⟩,J.out.more _⟩
     case measure=>simp [intOf];omega
    ·have O:(x != y)=true:=by simp [r]
     have E:=zh r;clear r;go_wp2;go_quiet (fail)
     go_wp2;go_ret;refine ⟨zi ?_,J.out.more _⟩;rw [eq_comm,Dw];rintro rfl;exact E.out (HX.out.trans HY.out.symm)
   ·obtain rfl:k=a.length:=by omega
    go_wp2;go_ret;refine ⟨zi ?_,J.out⟩;have h:=heq.out;rw [Dl,L.out,Dl] at h;simp [h]
 ·have U:((a.length:Int) != (b.length:Int))=true:=by simp only [bne_iff_ne];omega
  have L:=zh d;clear d
  go_enter Tryz.func44,Tryz.ntmps44
  go_wp2;go_ret;refine ⟨zi ?_,zM.refl _⟩;rw [eq_comm,Dw];rintro rfl;exact L.out rfl
end
section
open Go.RowKit
open Go.ChangeMaps (setBlock)
def zq:List Int->Nat->List MapEntry
 | [],_=>[]
 | x :: l,b=>{ key:=.int .i64 x,val:=.bool true,born:=b } :: zq l (b+1)
def mapObj (l:List Int):Obj:=.map (zq l 0).toArray l.length
def zv (w:World) (g:Nat) (l:List Int):Prop:=w.heap[g]?=some (mapObj l)
def ins (l:List Int) (x:Int):List Int:=if x∈l then l else l++[x]
theorem mem_ins:y∈ins l x↔y∈l\/y=x:=by
 unfold ins
 split
 ·constructor
  ·exact .inl
  ·rintro (h | rfl)
   ·exact h
   ·assumption
 ·simp
theorem BS:∀(l:List Int) (b:Nat),(zq l b).length=l.length
 | [],_=>rfl
 | _ :: l,b=>by simp [zq,BS l]
theorem CG:∀(l l':List Int) (b:Nat),zq (l++l') b=zq l b++zq l' (b+l.length)
 | [],_,_=>by simp [zq]
 | _ :: l,l',b=>by simp [zq,CG l l' (b+1),Nat.add_assoc,Nat.add_comm 1]
theorem Bx:∀(l:List Int) (b i:Nat),(zq l b)[i]?=(l[i]?).map fun x=>{ key:=.int .i64 x,val:=.bool true,born:=b+i }
 | [],_,_=>by simp [zq]
 | x :: l,b,0=>by simp [zq]
 | x :: l,b,i+1=>by simp [zq,Bx l (b+1) i,Nat.add_assoc,Nat.add_comm 1]
theorem zv.keep {ok:Nat->Prop} {w w':World} (h:zv w g l) (r:zK ok w w') (d:ok g):zv w' g l:=(r g d (zb h)).trans h
theorem zv.below {w w':World} (h:zv w g l) (d:Below w.heap.size w w'):zv w' g l:=(d.block g (zb h)).trans h
theorem zv.new (w:World):zv (w.alloc (.map #[] 0)) w.heap.size []:=DI _ _
open Go.Instr in
theorem CH (x:Int):∀(l:List Int) (b s:Nat),findNow (.int .i64) (.int .i64 x) (zq l b) s=some (if x∈l then some (s+l.idxOf x,.bool true) else none)
 | [],_,_=>by simp [zq,findNow]
 | y :: l,b,s=>by
  simp only [zq,findNow,sameNow,if_true];by_cases h:x=y
  ·subst h;simp
  ·have z:(x==y)=false:=by simpa using h
   have r:(y==x)=false:=by simpa using fun e:y=x=>h e.symm
   simp only [z];rw [CH x l (b+1) (s+1)];by_cases hm:x∈l
   ·have d:x∈y :: l:=Dt _ hm;rw [if_pos hm,if_pos d,List.idxOf_cons,r];simp only [cond_false,Bool.false_eq_true,if_false];rw [show s+1+l.idxOf x=s+(l.idxOf x+1) by omega]
   ·have d:¬ x∈y :: l:=by simp [h,hm]
    rw [if_neg hm,if_neg d]
theorem run_getObj' {w:World} {n:Nat} (h:w.heap[g]?=some (.map es n)):(getObj g).run P w=.ok (.map es n) w:=by simp [getObj,Sem.run,h]
theorem run_setObj' {w:World} {n:Nat} (o':Obj) (h:w.heap[g]?=some (.map es n)):(setObj g o').run P w=.ok () (setBlock w g o'):=by
 simp [setObj,Sem.run,h,setBlock]
open Go.Instr in
theorem run_checkKey (b:Bool) (n:Nat) (x:Int) (w:World):(checkKey b (n+1) 3 (.int .i64 x)).run Tryz.prog w=.ok () w:=by
 simp [checkKey,run_underlying Tryz.underlying3]
theorem run_look {w:World} (h:zv w g l) (x:Int) (t:TypeId) (ht:Tryz.prog.underlying t=some (.map 3 4)):
  (Instr.lookup t (.map (some g)) (.int .i64 x) false).run Tryz.prog w=.ok (.bool (decide (x∈l))) w:=by
 have d:∀w,(zeroValue 4).run Tryz.prog w=.ok (.bool false) w:=fun w=>by kernel_rfl
 unfold Instr.lookup;simp only [Sem.run_bind,run_underlying ht,Result.andThen_ok,run_getObj' h,mapObj,Sem.run_pure];rw [show (10000:Nat)=9999+1 from rfl,run_checkKey];simp only [Result.andThen_ok,Instr.findKey,Sem.run_bind,run_underlying Tryz.underlying3,List.toList_toArray,CH];by_cases hm:x∈l
 ·simp [hm]
 ·simp [hm,d]
theorem setBlk_same {w:World} {o o':Obj} (h:w.heap[g]?=some o):(setBlock w g o').heap[g]?=some o':=by
 have:=zb h;simp [setBlock,this]
theorem CB {w:World} (o:Obj) (h:k≠g):(setBlock w g o).heap[k]?=w.heap[k]?:=by
 simp [setBlock,Ne.symm h]
theorem run_add {w:World} (h:zv w g l) (x:Int) (t:TypeId) (ht:Tryz.prog.underlying t=some (.map 3 4)):
  ∃w',(Instr.mapUpdate t (.map (some g)) (.int .i64 x) (.bool true)).run Tryz.prog w=.ok () w'/\zv w' g (ins l x)/\w.grownBy w' (some g):=by
 refine ⟨setBlock w g (mapObj (ins l x)),?_,setBlk_same h,⟨rfl,rfl,rfl,by simp [setBlock],fun k _ z=>CB _ (fun e=>z (by rw [e]))⟩⟩;unfold Instr.mapUpdate;simp only [Sem.run_bind,run_underlying ht,Result.andThen_ok,run_getObj' h,mapObj];rw [show (10000:Nat)=9999+1 from rfl,run_checkKey];simp only [Result.andThen_ok,Instr.findKey,Sem.run_bind,run_underlying Tryz.underlying3,List.toList_toArray,CH];by_cases hm:x∈l
 ·simp only [hm,if_true,Sem.run_pure,Result.andThen_ok,Nat.zero_add];have r:l.idxOf x<l.length:=List.idxOf_lt_length_of_mem hm;have D:l[l.idxOf x]=x:=List.getElem_idxOf r
  have z:∀W,(Instr.keyThatStays ((((zq l 0).toArray[l.idxOf x]?).map (·.key)).getD (.int .i64 x)) (.int .i64 x)).run Tryz.prog W=.ok (.int .i64 x) W:=by
   intro W;rw [List.getElem?_toArray,Bx,CW r];simp [Instr.keyThatStays,Instr.sameBits,D]
  rw [Sem.run_bind,z];simp only [Result.andThen_ok]
  have d:(zq l 0).toArray.modify (l.idxOf x) (fun e=>{ e with key:=.int .i64 x,val:=.bool true })=(zq l 0).toArray:=by
   apply Array.ext_getElem?;intro i;rw [Array.getElem?_modify]
   split
   ·rename_i e
    subst e;rw [List.getElem?_toArray,Bx,CW r];simp [D]
   ·rfl
  rw [d,run_setObj' _ h];have:ins l x=l:=by simp [ins,hm]
  rw [this]
 ·simp only [hm,if_false,Sem.run_pure,Result.andThen_ok];rw [run_setObj' _ h];have:ins l x=l++[x]:=by simp [ins,hm]
  rw [this,CG];simp [zq]
theorem wpSetAdd {w:World} (E:o.guard=none) (m y v:Operand) (t:TypeId) (z:o.op=Op.mapUpdate t m y v)
  (ht:Tryz.prog.underlying t=some (.map 3 4)) (g:Nat) (l:List Int) (x:Int) (hm:a.eval m=.map (some g)) (J:a.eval y=.int .i64 x) (I:a.eval v=.bool true) (G:zv w g l)
  (D:∀w',zv w' g (ins l x)->w.grownBy w' (some g)->wpList Tryz.prog ops Q rest (a.put o.dst undef) w'):wpList Tryz.prog ops Q (o :: rest) a w:=by
 refine wpList_plain E fun K' r=>?_
 obtain ⟨w',d,h1,h2⟩:=run_add G x t ht;unfold Oper.wp;simp [execOp,z,hm,J,I,d,Result.andThen];exact r _ _ (D w' h1 h2)
end
section
open Go.RowKit
theorem Tryz.infoInt:(Tryz.prog.info? 3).map (fun i=>(i.zero,i.size,i.bytes))=some (some (.int .i64 0),1,8):=by kernel_rfl
def ap (c:Bool) (x:Int) (l:List Int):List Int:=if c then l++[x] else l
theorem ap_len (c:Bool) (x:Int) (l:List Int):(ap c x l).length<=l.length+1:=by
 unfold ap;split <;> simp
theorem map_snoc (l:List Int) (x:Int):(l++[x]).map (Value.int .i64)=l.map (Value.int .i64)++[.int .i64 x]:=by simp
def ze (w:World) (g:Nat) (t:TypeId) (cs:Array Value):Prop:=w.heap[g]?=some (.cells cs t (0,0))
theorem ze.ne_ {w:World} {g':Nat} {t t':TypeId} {cs':Array Value} (h:ze w g t cs) (d:ze w g' t' cs') (r:t≠t'):g≠g':=by
 rintro rfl;unfold ze at h d;rw [h] at d;injection d with d;injection d with _ ht;exact r ht
theorem AY {w:World} {base:Nat} {e:TypeId} {size n:Nat} {v:Value} {xs:List Value} {t:TypeId} (h:w.ownsRow base e size v n xs) (r:ze w g t cs) (d:e≠t):v.ownBlock≠some g:=by
 rcases h.2 with ⟨rfl,_⟩ | ⟨g',cap,cur,rfl,_,hh,_⟩
 ·simp [Value.ownBlock]
 ·intro he;have:g'=g:=by simpa [Value.ownBlock] using he
  subst this;exact ze.ne_ (t:=e) hh r d rfl
def Acc (w0 w:World) (B gb:Nat) (l:List Int):Prop:=
 ∃v,ze w gb 24 #[v]/\w.ownsRow B 3 1 v l.length (l.map (Value.int .i64))/\B<=gb/\Below B w0 w
theorem wpApp1 (z:o.guard=none) (s y:Operand)
  (L:o.op=.call { callee:=.builtin .append,args:=#[s,y],argTypes:=#[24,24] }) (W:World) (l:List Int) (x:Int) (B g c:Nat) (v:Value) (M:a.eval s=v)
  (O:a.eval y=.slice (some ⟨g,0,none⟩) 1 c) (d:W.ownsRow B 3 1 v l.length (l.map (Value.int .i64))) (J:W.cell? ⟨g,0,none⟩=some (.int .i64 x)) (I:B<=W.heap.size) (U:l.length<=1000000000000)
  (h:∀v' w',w'.ownsRow B 3 1 v' (l++[x]).length ((l++[x]).map (Value.int .i64))->W.grownBy w' v.ownBlock->wpList Tryz.prog ops Q rest (a.put o.dst v') w'):wpList Tryz.prog ops Q (o :: rest) a W:=by
 obtain ⟨i0,K,D,E,G⟩:=info_parts Tryz.infoInt;refine wpList_append_own _ z _ _ 24 L B 3 i0 (.int .i64 0) 1 8 Tryz.underlying24 K D E G rfl (by decide) _ _ _ M d ⟨g,0,none⟩ 1 c [.int .i64 x] O rfl ?_ ?_ ?_ ?_ I ?_
 ·intro j u r
  match j,r with
  | 0,r=>
   have:u=.int .i64 x:=by simpa using r.symm
   rw [this];exact J
 ·intro u r;have:u=.int .i64 x:=by simpa using r
  rw [this];rfl
 ·unfold maxLen;omega
 ·omega
 ·intro v' w' h1 h2 _;refine h v' w' ?_ h2;rw [map_snoc,Dh];exact h1
theorem add_calls (w0 w:World) (B gb:Nat) (l:List Int) (c:Bool) (x:Int) (h:Acc w0 w B gb l) (hl:l.length<=1000) (hB:B<=w0.heap.size):
  Calls Tryz.prog 96 #[.bool c,.int .i64 x,.pointer (some ⟨gb,0,none⟩)] w fun e w'=>e=.returned (.tuple #[])/\Acc w0 w' B gb (ap c x l):=by
 have E:=h;obtain ⟨v,K,z,I,U⟩:=h
 cases c with
 | false=>
  go_enter Tryz.func96,Tryz.ntmps96
  go_wp2
  go_end0
  exact ⟨rfl,E⟩
 | true=>
  have V:w.cell? ⟨gb,0,none⟩=some v:=by unfold World.cell?;simp only [show w.heap[gb]?=_ from K];rfl
  have a3:=AY z K (by decide);have a2:gb<w.heap.size:=zb K;have O:B<=w.heap.size:=Da hB U.size;have HG:=zh K;clear K;have HB:=zh U;clear U;clear E
  go_enter Tryz.func96,Tryz.ntmps96
  go_wp2_with (at_builtin;refine wpApp1 rfl _ _ rfl _ l x B w.heap.size 1 v rfl rfl (z.alloc _) ?c1 ?c2 ?c3 ?_)
  case c1=>simp
  case c2=>simp;omega
  case c3=>omega
  intro v' w1 r d;obtain ⟨g',cap',rfl,a1,a0⟩:=r.form (by simp);have D:ze w1 gb 24 #[v]:=(d.block gb (by simp;omega) (fun e=>a3 e.symm)).trans ((Below.heap_alloc w _ gb a2).trans HG.out);have L:w1.cell? ⟨gb,0,none⟩=some v:=by unfold World.cell?;simp only [show w1.heap[gb]?=_ from D];rfl
  have hfz:w1.frozen? ⟨gb,0,none⟩=false:=by unfold World.frozen?;simp [show w1.heap[gb]?=_ from D]
  have G:=zh D;clear D;have M:=zh d;clear d;have HO:=zh r;clear r;clear a1 a0;go_wp2
  go_end0
  have J:Below B w0 w1:=(HB.out.alloc O _).grown M.out (by simp;omega) (fun k hk=>by
   have:=(z.lt k hk).1;omega)
  refine ⟨rfl,.slice (some ⟨g',0,none⟩) (l++[x]).length cap',?_,?_,I,J.setCell I _⟩
  ·have:=G.out;unfold ze at this⊢;simp [World.setCell,Array.getElem?_modify,this]
  ·have h:=ownsRow_setCell_other (a:=⟨gb,0,none⟩) HO.out (AY (t:=24) HO.out G.out (by decide)) (.slice (some ⟨g',0,none⟩) (l++[x]).length cap');simpa [ap] using h
def AccK (w0 w:World) (B gb k:Nat) (l:List Int):Prop:=Acc w0 w B gb l/\l.length<=k/\B<=w0.heap.size
theorem addK (w0 w:World) (B gb k:Nat) (l:List Int) (c:Bool) (x:Int) (h:AccK w0 w B gb k l) (z:k<=1000):
  Calls Tryz.prog 96 #[.bool c,.int .i64 x,.pointer (some ⟨gb,0,none⟩)] w fun e w'=>e=.returned (.tuple #[])/\AccK w0 w' B gb (k+1) (ap c x l):=by
 obtain ⟨h,D,d⟩:=h;refine (add_calls w0 w B gb l c x h (by omega) d).mono ?_;rintro e w' ⟨rfl,r⟩;exact ⟨rfl,r,by have:=ap_len c x l;omega,d⟩
theorem AccK.below {w:World} (h:AccK w0 w B gb k l):Below B w0 w:=by
 obtain ⟨⟨v,_,_,_,d⟩,_,_⟩:=h;exact d
theorem zt {w:World} {t:TypeId} {a0 a1 a2 a3 a4 a5:Value} (h:ze w g t #[a0,a1,a2,a3,a4,a5]):
  w.cell? ⟨g,0,none⟩=some a0/\w.cell? ⟨g,1,none⟩=some a1/\w.cell? ⟨g,2,none⟩=some a2/\w.cell? ⟨g,3,none⟩=some a3/\w.cell? ⟨g,4,none⟩=some a4/\w.cell? ⟨g,5,none⟩=some a5:=by
 unfold ze at h;unfold World.cell?;simp only [h];exact ⟨rfl,rfl,rfl,rfl,rfl,rfl⟩
theorem ze.below {w w':World} {t:TypeId} (h:ze w g t cs) (d:Below B w w') (r:g<B):ze w' g t cs:=(d.block g r).trans h
theorem ze.alloc {w:World} {g:Nat} {t:TypeId} {cs:Array Value} (h:ze w g t cs) (o:Obj):ze (w.alloc o) g t cs:=(Below.heap_alloc w o g (zb h)).trans h
theorem Acc.new (w1:World):AccK w1 (w1.alloc (.cells #[.slice none 0 0] 24)) w1.heap.size w1.heap.size 0 []:=
 ⟨⟨.slice none 0 0,DI _ _,(World.ownsRow_nil _ _ _ _),CY _,(Below.refl _ _).alloc (CY _) _⟩,CY _,CY _⟩
theorem AccK.end_ {w:World} (h:AccK w0 w B gb k l):∃v,w.cell? ⟨gb,0,none⟩=some v/\w.ownsRow B 3 1 v l.length (l.map (Value.int .i64)):=by
 obtain ⟨⟨v,d,r,_,_⟩,_,_⟩:=h;refine ⟨v,?_,r⟩;unfold ze at d;unfold World.cell?;simp only [d];rfl
theorem AccK.more {w w':World} (h:AccK w0 w B gb k l) (d:Below w.heap.size w w'):AccK w0 w' B gb k l:=by
 obtain ⟨⟨v,E,J,r,z⟩,I,D⟩:=h;exact ⟨⟨v,(d.block gb (zb E)).trans E,J.kept (row:=none) ⟨d.os,d.tape,d.output,d.size,fun i G _=>d.block i G⟩ (by cases h:v.ownBlock <;> simp),r,Be z d D⟩,I,D⟩
theorem next_fin {w:World} {v:Value} {l':List Int} (h:w.ownsRow B 3 1 v l.length (l.map (Value.int .i64))) (e:l'=l):w.ownsRow B 3 1 v l'.length (l'.map (Value.int .i64)):=by
 rw [e];exact h
def zo (m:MZ) (node:Int):List Int:=
 ap (decide (node+m.w*m.h<m.w*m.h*m.l) && m.up.getD node.toNat false) (node+m.w*m.h)
  (ap (decide (node / m.w % m.h+1<m.h)) (node+m.w)
   (ap (decide (node % m.w+1<m.w)) (node+1)
    (ap (decide (0<node % m.w)) (node - 1)
     (ap (decide (0<node / m.w % m.h)) (node - m.w)
      (ap (decide (m.w*m.h<=node) && m.up.getD (node - m.w*m.h).toNat false) (node - m.w*m.h) [])))))
structure Dim (m:MZ):Prop where
 w1:1<=m.w
 w2:m.w<=300
 h1:1<=m.h
 h2:m.h<=300
 l1:1<=m.l
 l2:m.l<=300
 n1:m.w*m.h*m.l<=300
 up:(m.up.length:Int)=m.w*m.h*m.l
theorem Dim.layer {m:MZ} (d:Dim m):1<=m.w*m.h/\m.w*m.h<=m.w*m.h*m.l:=by
 have h1:1<=m.w*m.h:=by
  have:=Int.mul_le_mul d.w1 d.h1 (by omega) (by have:=d.w1;omega);omega
 refine ⟨h1,?_⟩;have:=Int.mul_le_mul_of_nonneg_left d.l1 (show 0<=m.w*m.h by omega);omega
theorem next_eq (m:MZ) (node:Int) (b1 b2:Bool) (h1:b1=(decide (m.w*m.h<=node) && m.up.getD (node - m.w*m.h).toNat false)) (h2:b2=(decide (node+m.w*m.h<m.w*m.h*m.l) && m.up.getD node.toNat false)):
  zo m node=ap b2 (node+m.w*m.h) (ap (decide (node / m.w % m.h+1<m.h)) (node+m.w) (ap (decide (node % m.w+1<m.w)) (node+1) (ap (decide (0<node % m.w)) (node - 1) (ap (decide (0<node / m.w % m.h)) (node - m.w) (ap b1 (node - m.w*m.h) []))))):=by
 rw [h1,h2];rfl
theorem up_true {p:Prop} [Decidable p] {up:List Bool} (hp:p) (h:k<up.length):up[k]=(decide p && up.getD k false):=by
 simp [hp,h]
theorem up_false {p:Prop} [Decidable p] {b:Bool} (hp:¬ p):false=(decide p && b):=by simp [hp]
theorem Cy {ok:Nat->Prop} {v:Value} (m:MZ) (node:Int) (w:World) (hm:zL w ok v m) (d:Dim m) (h0:0<=node) (h1:node<m.w*m.h*m.l):
  Calls Tryz.prog 58 #[v,.int .i64 node] w fun e w'=>∃v',e=.returned v'/\Below w.heap.size w w'/\w'.ownsRow w.heap.size 3 1 v' (zo m node).length ((zo m node).map (Value.int .i64)):=by
 obtain ⟨f,u,t,rfl,_,hu,_⟩:=hm;obtain ⟨A,c,rfl,c8,c6⟩:=hu;have hl:=d.layer;obtain ⟨d6,d7⟩:=hl;obtain ⟨w1,w2,c9,d4,ll1,ll2,n1,c0⟩:=d;obtain ⟨W,H,L,fr,up,ts⟩:=m;simp only at*;have HU:=zh c6;clear c6;have b4:=zh c0;clear c0
 go_enter Tryz.func58,Tryz.ntmps58
 have d8:0<=node / W:=Int.ediv_nonneg h0 (by omega);have d9:node / W<=node:=Int.ediv_le_self _ h0
 go_wp2_with fail
 go_quiet (fail)
 have e0:0<=node / W % H:=Int.emod_nonneg _ (by omega);have e1:node / W % H<H:=Int.emod_lt_of_pos _ (by omega);have e2:0<=node % W:=Int.emod_nonneg _ (by omega);have e3:node % W<W:=Int.emod_lt_of_pos _ (by omega);generalize b7:((w.alloc (.cells #[.int .i64 W,.int .i64 H,.int .i64 L,f,.slice A up.length c,t] 35)).drewN nq)=w1;have K:Below w.heap.size w w1:=by rw [<-b7];exact CF ((Below.refl _ _).alloc (CY _) _) _
 have b9:ze w1 w.heap.size 35 #[.int .i64 W,.int .i64 H,.int .i64 L,f,.slice A up.length c,t]:=by rw [<-b7];exact DI _ _
 have b3:=zh (HU.out.keep (zK.of_below K):Aj w1 ok 1 A up.length (up.map Value.bool));clear b7 HU;have I:=zh b9;clear b9;have M:=zh K;clear K;by_cases hA:W*H<=node
 ·by_cases hB:node+W*H<W*H*L
  ·have V:(node - W*H).toNat<up.length:=by have:=b4.out;omega
   obtain ⟨b,off,a7,_,E⟩:=Cr b3.out V V;have r:=zA E;have a0:node.toNat<up.length:=by have:=b4.out;omega
   obtain ⟨b',off',b0,_,G⟩:=Cr b3.out a0 a0;obtain ⟨rfl,rfl⟩:b=b'/\off=off':=by rw [a7] at b0;simpa using b0
   clear b0;subst a7;obtain ⟨b1,K⟩:=DX (up[(node - W*H).toNat]);rw [<-K] at E;have a8:=zh K;clear K;obtain ⟨b2,O⟩:=DX (up[node.toNat]);rw [<-O] at G;have a9:=zh O;clear O;have z:w.heap.size<w1.heap.size:=zb I.out;have D:=fun o=>zt (I.out.alloc o)
   obtain ⟨m0,m1,m2,m3,m4,m5⟩:(∀o,(w1.alloc o).cell? ⟨w.heap.size,0,none⟩=_)/\(∀o,(w1.alloc o).cell? ⟨w.heap.size,1,none⟩=_)/\(∀o,(w1.alloc o).cell? ⟨w.heap.size,2,none⟩=_)/\(∀o,(w1.alloc o).cell? ⟨w.heap.size,3,none⟩=_)/\(∀o,(w1.alloc o).cell? ⟨w.heap.size,4,none⟩=_)/\(∀o,(w1.alloc o).cell? ⟨w.heap.size,5,none⟩=_):=⟨fun o=>(D o).1,fun o=>(D o).2.1,fun o=>(D o).2.2.1,fun o=>(D o).2.2.2.1,fun o=>(D o).2.2.2.2.1,fun o=>(D o).2.2.2.2.2⟩;clear D;have u1:∀o,(w1.alloc o).cell? ⟨b,off+(node - W*H).toNat,none⟩=_:=fun o=>(World.cell?_alloc_lt w1 o ⟨b,off+(node - W*H).toNat,none⟩ r).trans E
   have u2:∀o,(w1.alloc o).cell? ⟨b,off+node.toNat,none⟩=_:=fun o=>(World.cell?_alloc_lt w1 o ⟨b,off+node.toNat,none⟩ r).trans G
   go_wp2_with fail
   refine (addK w1 _ w1.heap.size w1.heap.size 0 _ _ _ (Acc.new w1) (by omega)).mono ?_;rintro e k1 ⟨rfl,a1⟩;clear m0 m1 m2 m3 m4 m5 u1 u2;obtain ⟨m0,m1,m2,m3,m4,m5⟩:=zt (I.out.below a1.below z);have u1:=(a1.below.cell (p:=⟨b,off+(node - W*H).toNat,none⟩) r).trans E;have u2:=(a1.below.cell (p:=⟨b,off+node.toNat,none⟩) r).trans G
   go_wp2_with fail
   refine (addK w1 _ w1.heap.size w1.heap.size 1 _ _ _ (a1) (by omega)).mono ?_;rintro e k2 ⟨rfl,a2⟩;clear m0 m1 m2 m3 m4 m5 u1 u2;obtain ⟨m0,m1,m2,m3,m4,m5⟩:=zt (I.out.below a2.below z);have u1:=(a2.below.cell (p:=⟨b,off+(node - W*H).toNat,none⟩) r).trans E;have u2:=(a2.below.cell (p:=⟨b,off+node.toNat,none⟩) r).trans G
   go_wp2_with fail
   refine (addK w1 _ w1.heap.size w1.heap.size 2 _ _ _ (a2) (by omega)).mono ?_;rintro e k3 ⟨rfl,a3⟩;clear m0 m1 m2 m3 m4 m5 u1 u2;obtain ⟨m0,m1,m2,m3,m4,m5⟩:=zt (I.out.below a3.below z);have u1:=(a3.below.cell (p:=⟨b,off+(node - W*H).toNat,none⟩) r).trans E;have u2:=(a3.below.cell (p:=⟨b,off+node.toNat,none⟩) r).trans G
   go_wp2_with fail
   refine (addK w1 _ w1.heap.size w1.heap.size 3 _ _ _ (a3) (by omega)).mono ?_;rintro e k4 ⟨rfl,a4⟩;clear m0 m1 m2 m3 m4 m5 u1 u2;obtain ⟨m0,m1,m2,m3,m4,m5⟩:=zt (I.out.below a4.below z);have u1:=(a4.below.cell (p:=⟨b,off+(node - W*H).toNat,none⟩) r).trans E;have u2:=(a4.below.cell (p:=⟨b,off+node.toNat,none⟩) r).trans G
   go_wp2_with fail
   refine (addK w1 _ w1.heap.size w1.heap.size 4 _ _ _ (a4) (by omega)).mono ?_;rintro e k5 ⟨rfl,a5⟩;clear m0 m1 m2 m3 m4 m5 u1 u2;obtain ⟨m0,m1,m2,m3,m4,m5⟩:=zt (I.out.below a5.below z);have u1:=(a5.below.cell (p:=⟨b,off+(node - W*H).toNat,none⟩) r).trans E;have u2:=(a5.below.cell (p:=⟨b,off+node.toNat,none⟩) r).trans G
   go_wp2_with fail
   refine (zR W H L _ _ _ _ (by omega) (by omega)).mono ?_;rintro e kn ⟨rfl,U⟩;have a5:=a5.more U;clear m0 m1 m2 m3 m4 m5 u1 u2;obtain ⟨m0,m1,m2,m3,m4,m5⟩:=zt (I.out.below a5.below z);have u1:=(a5.below.cell (p:=⟨b,off+(node - W*H).toNat,none⟩) r).trans E;have u2:=(a5.below.cell (p:=⟨b,off+node.toNat,none⟩) r).trans G
   go_wp2_with fail
   refine (addK w1 _ w1.heap.size w1.heap.size 5 _ _ _ (a5) (by omega)).mono ?_;rintro e k6 ⟨rfl,a6⟩;clear m0 m1 m2 m3 m4 m5 u1 u2;obtain ⟨m0,m1,m2,m3,m4,m5⟩:=zt (I.out.below a6.below z);have u1:=(a6.below.cell (p:=⟨b,off+(node - W*H).toNat,none⟩) r).trans E;have u2:=(a6.below.cell (p:=⟨b,off+node.toNat,none⟩) r).trans G;obtain ⟨vf,b6,J⟩:=a6.end_;have HO:=zh J;clear J
   go_wp2_with fail
   go_ret;refine ⟨vf,rfl,Be M.out (Below.mono a6.below (CY _)) (CY _),?_⟩;exact next_fin (HO.out.mono M.out.size) (next_eq _ _ _ _ (by rw [a8.out];exact up_true hA V) (by rw [a9.out];exact up_true hB a0))
  ·have V:(node - W*H).toNat<up.length:=by have:=b4.out;omega
   obtain ⟨b,off,a7,_,E⟩:=Cr b3.out V V;have r:=zA E;subst a7;obtain ⟨b1,K⟩:=DX (up[(node - W*H).toNat]);rw [<-K] at E;have a8:=zh K;clear K;have z:w.heap.size<w1.heap.size:=zb I.out;have D:=fun o=>zt (I.out.alloc o)
   obtain ⟨m0,m1,m2,m3,m4,m5⟩:(∀o,(w1.alloc o).cell? ⟨w.heap.size,0,none⟩=_)/\(∀o,(w1.alloc o).cell? ⟨w.heap.size,1,none⟩=_)/\(∀o,(w1.alloc o).cell? ⟨w.heap.size,2,none⟩=_)/\(∀o,(w1.alloc o).cell? ⟨w.heap.size,3,none⟩=_)/\(∀o,(w1.alloc o).cell? ⟨w.heap.size,4,none⟩=_)/\(∀o,(w1.alloc o).cell? ⟨w.heap.size,5,none⟩=_):=⟨fun o=>(D o).1,fun o=>(D o).2.1,fun o=>(D o).2.2.1,fun o=>(D o).2.2.2.1,fun o=>(D o).2.2.2.2.1,fun o=>(D o).2.2.2.2.2⟩;clear D;have u1:∀o,(w1.alloc o).cell? ⟨b,off+(node - W*H).toNat,none⟩=_:=fun o=>(World.cell?_alloc_lt w1 o ⟨b,off+(node - W*H).toNat,none⟩ r).trans E
   go_wp2_with fail
   refine (addK w1 _ w1.heap.size w1.heap.size 0 _ _ _ (Acc.new w1) (by omega)).mono ?_;rintro e k1 ⟨rfl,a1⟩;clear m0 m1 m2 m3 m4 m5 u1;obtain ⟨m0,m1,m2,m3,m4,m5⟩:=zt (I.out.below a1.below z);have u1:=(a1.below.cell (p:=⟨b,off+(node - W*H).toNat,none⟩) r).trans E
   go_wp2_with fail
   refine (addK w1 _ w1.heap.size w1.heap.size 1 _ _ _ (a1) (by omega)).mono ?_;rintro e k2 ⟨rfl,a2⟩;clear m0 m1 m2 m3 m4 m5 u1;obtain ⟨m0,m1,m2,m3,m4,m5⟩:=zt (I.out.below a2.below z);have u1:=(a2.below.cell (p:=⟨b,off+(node - W*H).toNat,none⟩) r).trans E
   go_wp2_with fail
   refine (addK w1 _ w1.heap.size w1.heap.size 2 _ _ _ (a2) (by omega)).mono ?_;rintro e k3 ⟨rfl,a3⟩;clear m0 m1 m2 m3 m4 m5 u1;obtain ⟨m0,m1,m2,m3,m4,m5⟩:=zt (I.out.below a3.below z);have u1:=(a3.below.cell (p:=⟨b,off+(node - W*H).toNat,none⟩) r).trans E
   go_wp2_with fail
   refine (addK w1 _ w1.heap.size w1.heap.size 3 _ _ _ (a3) (by omega)).mono ?_;rintro e k4 ⟨rfl,a4⟩;clear m0 m1 m2 m3 m4 m5 u1;obtain ⟨m0,m1,m2,m3,m4,m5⟩:=zt (I.out.below a4.below z);have u1:=(a4.below.cell (p:=⟨b,off+(node - W*H).toNat,none⟩) r).trans E
   go_wp2_with fail
   refine (addK w1 _ w1.heap.size w1.heap.size 4 _ _ _ (a4) (by omega)).mono ?_;rintro e k5 ⟨rfl,a5⟩;clear m0 m1 m2 m3 m4 m5 u1;obtain ⟨m0,m1,m2,m3,m4,m5⟩:=zt (I.out.below a5.below z);have u1:=(a5.below.cell (p:=⟨b,off+(node - W*H).toNat,none⟩) r).trans E
   go_wp2_with fail
   refine (zR W H L _ _ _ _ (by omega) (by omega)).mono ?_;rintro e kn ⟨rfl,U⟩;have a5:=a5.more U;clear m0 m1 m2 m3 m4 m5 u1;obtain ⟨m0,m1,m2,m3,m4,m5⟩:=zt (I.out.below a5.below z);have u1:=(a5.below.cell (p:=⟨b,off+(node - W*H).toNat,none⟩) r).trans E
   go_wp2_with fail
   refine (addK w1 _ w1.heap.size w1.heap.size 5 _ _ _ (a5) (by omega)).mono ?_;rintro e k6 ⟨rfl,a6⟩;clear m0 m1 m2 m3 m4 m5 u1;obtain ⟨m0,m1,m2,m3,m4,m5⟩:=zt (I.out.below a6.below z);have u1:=(a6.below.cell (p:=⟨b,off+(node - W*H).toNat,none⟩) r).trans E;obtain ⟨vf,b6,J⟩:=a6.end_;have HO:=zh J;clear J
   go_wp2_with fail
   go_ret;refine ⟨vf,rfl,Be M.out (Below.mono a6.below (CY _)) (CY _),?_⟩;exact next_fin (HO.out.mono M.out.size) (next_eq _ _ _ _ (by rw [a8.out];exact up_true hA V) (up_false (Int.not_lt.2 hB)))
 ·by_cases hB:node+W*H<W*H*L
  ·have a0:node.toNat<up.length:=by have:=b4.out;omega
   obtain ⟨b,off,a7,_,G⟩:=Cr b3.out a0 a0;have r:=zA G;subst a7;obtain ⟨b2,O⟩:=DX (up[node.toNat]);rw [<-O] at G;have a9:=zh O;clear O;have z:w.heap.size<w1.heap.size:=zb I.out;have D:=fun o=>zt (I.out.alloc o)
   obtain ⟨m0,m1,m2,m3,m4,m5⟩:(∀o,(w1.alloc o).cell? ⟨w.heap.size,0,none⟩=_)/\(∀o,(w1.alloc o).cell? ⟨w.heap.size,1,none⟩=_)/\(∀o,(w1.alloc o).cell? ⟨w.heap.size,2,none⟩=_)/\(∀o,(w1.alloc o).cell? ⟨w.heap.size,3,none⟩=_)/\(∀o,(w1.alloc o).cell? ⟨w.heap.size,4,none⟩=_)/\(∀o,(w1.alloc o).cell? ⟨w.heap.size,5,none⟩=_):=⟨fun o=>(D o).1,fun o=>(D o).2.1,fun o=>(D o).2.2.1,fun o=>(D o).2.2.2.1,fun o=>(D o).2.2.2.2.1,fun o=>(D o).2.2.2.2.2⟩;clear D;have u2:∀o,(w1.alloc o).cell? ⟨b,off+node.toNat,none⟩=_:=fun o=>(World.cell?_alloc_lt w1 o ⟨b,off+node.toNat,none⟩ r).trans G
   go_wp2_with fail
   refine (addK w1 _ w1.heap.size w1.heap.size 0 _ _ _ (Acc.new w1) (by omega)).mono ?_;rintro e k1 ⟨rfl,a1⟩;clear m0 m1 m2 m3 m4 m5 u2;obtain ⟨m0,m1,m2,m3,m4,m5⟩:=zt (I.out.below a1.below z);have u2:=(a1.below.cell (p:=⟨b,off+node.toNat,none⟩) r).trans G
   go_wp2_with fail
   refine (addK w1 _ w1.heap.size w1.heap.size 1 _ _ _ (a1) (by omega)).mono ?_;rintro e k2 ⟨rfl,a2⟩;clear m0 m1 m2 m3 m4 m5 u2;obtain ⟨m0,m1,m2,m3,m4,m5⟩:=zt (I.out.below a2.below z);have u2:=(a2.below.cell (p:=⟨b,off+node.toNat,none⟩) r).trans G
   go_wp2_with fail
   refine (addK w1 _ w1.heap.size w1.heap.size 2 _ _ _ (a2) (by omega)).mono ?_;rintro e k3 ⟨rfl,a3⟩;clear m0 m1 m2 m3 m4 m5 u2;obtain ⟨m0,m1,m2,m3,m4,m5⟩:=zt (I.out.below a3.below z);have u2:=(a3.below.cell (p:=⟨b,off+node.toNat,none⟩) r).trans G
   go_wp2_with fail
   refine (addK w1 _ w1.heap.size w1.heap.size 3 _ _ _ (a3) (by omega)).mono ?_;rintro e k4 ⟨rfl,a4⟩;clear m0 m1 m2 m3 m4 m5 u2;obtain ⟨m0,m1,m2,m3,m4,m5⟩:=zt (I.out.below a4.below z);have u2:=(a4.below.cell (p:=⟨b,off+node.toNat,none⟩) r).trans G
   go_wp2_with fail
   refine (addK w1 _ w1.heap.size w1.heap.size 4 _ _ _ (a4) (by omega)).mono ?_;rintro e k5 ⟨rfl,a5⟩;clear m0 m1 m2 m3 m4 m5 u2;obtain ⟨m0,m1,m2,m3,m4,m5⟩:=zt (I.out.below a5.below z);have u2:=(a5.below.cell (p:=⟨b,off+node.toNat,none⟩) r).trans G
   go_wp2_with fail
   refine (zR W H L _ _ _ _ (by omega) (by omega)).mono ?_;rintro e kn ⟨rfl,U⟩;have a5:=a5.more U;clear m0 m1 m2 m3 m4 m5 u2;obtain ⟨m0,m1,m2,m3,m4,m5⟩:=zt (I.out.below a5.below z);have u2:=(a5.below.cell (p:=⟨b,off+node.toNat,none⟩) r).trans G
   go_wp2_with fail
   refine (addK w1 _ w1.heap.size w1.heap.size 5 _ _ _ (a5) (by omega)).mono ?_;rintro e k6 ⟨rfl,a6⟩;clear m0 m1 m2 m3 m4 m5 u2;obtain ⟨m0,m1,m2,m3,m4,m5⟩:=zt (I.out.below a6.below z);have u2:=(a6.below.cell (p:=⟨b,off+node.toNat,none⟩) r).trans G;obtain ⟨vf,b6,J⟩:=a6.end_;have HO:=zh J;clear J
   go_wp2_with fail
   go_ret;refine ⟨vf,rfl,Be M.out (Below.mono a6.below (CY _)) (CY _),?_⟩;exact next_fin (HO.out.mono M.out.size) (next_eq _ _ _ _ (up_false (Int.not_le.2 hA)) (by rw [a9.out];exact up_true hB a0))
  ·have z:w.heap.size<w1.heap.size:=zb I.out;have D:=fun o=>zt (I.out.alloc o)
   obtain ⟨m0,m1,m2,m3,m4,m5⟩:(∀o,(w1.alloc o).cell? ⟨w.heap.size,0,none⟩=_)/\(∀o,(w1.alloc o).cell? ⟨w.heap.size,1,none⟩=_)/\(∀o,(w1.alloc o).cell? ⟨w.heap.size,2,none⟩=_)/\(∀o,(w1.alloc o).cell? ⟨w.heap.size,3,none⟩=_)/\(∀o,(w1.alloc o).cell? ⟨w.heap.size,4,none⟩=_)/\(∀o,(w1.alloc o).cell? ⟨w.heap.size,5,none⟩=_):=⟨fun o=>(D o).1,fun o=>(D o).2.1,fun o=>(D o).2.2.1,fun o=>(D o).2.2.2.1,fun o=>(D o).2.2.2.2.1,fun o=>(D o).2.2.2.2.2⟩;clear D
   go_wp2_with fail
   refine (addK w1 _ w1.heap.size w1.heap.size 0 _ _ _ (Acc.new w1) (by omega)).mono ?_;rintro e k1 ⟨rfl,a1⟩;clear m0 m1 m2 m3 m4 m5;obtain ⟨m0,m1,m2,m3,m4,m5⟩:=zt (I.out.below a1.below z)
   go_wp2_with fail
   refine (addK w1 _ w1.heap.size w1.heap.size 1 _ _ _ (a1) (by omega)).mono ?_;rintro e k2 ⟨rfl,a2⟩;clear m0 m1 m2 m3 m4 m5;obtain ⟨m0,m1,m2,m3,m4,m5⟩:=zt (I.out.below a2.below z)
   go_wp2_with fail
   refine (addK w1 _ w1.heap.size w1.heap.size 2 _ _ _ (a2) (by omega)).mono ?_;rintro e k3 ⟨rfl,a3⟩;clear m0 m1 m2 m3 m4 m5;obtain ⟨m0,m1,m2,m3,m4,m5⟩:=zt (I.out.below a3.below z)
   go_wp2_with fail
   refine (addK w1 _ w1.heap.size w1.heap.size 3 _ _ _ (a3) (by omega)).mono ?_;rintro e k4 ⟨rfl,a4⟩;clear m0 m1 m2 m3 m4 m5;obtain ⟨m0,m1,m2,m3,m4,m5⟩:=zt (I.out.below a4.below z)
   go_wp2_with fail
   refine (addK w1 _ w1.heap.size w1.heap.size 4 _ _ _ (a4) (by omega)).mono ?_;rintro e k5 ⟨rfl,a5⟩;clear m0 m1 m2 m3 m4 m5;obtain ⟨m0,m1,m2,m3,m4,m5⟩:=zt (I.out.below a5.below z)
   go_wp2_with fail
   refine (zR W H L _ _ _ _ (by omega) (by omega)).mono ?_;rintro e kn ⟨rfl,U⟩;have a5:=a5.more U;clear m0 m1 m2 m3 m4 m5;obtain ⟨m0,m1,m2,m3,m4,m5⟩:=zt (I.out.below a5.below z)
   go_wp2_with fail
   refine (addK w1 _ w1.heap.size w1.heap.size 5 _ _ _ (a5) (by omega)).mono ?_;rintro e k6 ⟨rfl,a6⟩;clear m0 m1 m2 m3 m4 m5;obtain ⟨m0,m1,m2,m3,m4,m5⟩:=zt (I.out.below a6.below z);obtain ⟨vf,b6,J⟩:=a6.end_;have HO:=zh J;clear J
   go_wp2_with fail
   go_ret;refine ⟨vf,rfl,Be M.out (Below.mono a6.below (CY _)) (CY _),?_⟩;exact next_fin (HO.out.mono M.out.size) (next_eq _ _ _ _ (up_false (Int.not_le.2 hA)) (up_false (Int.not_lt.2 hB)))
def MZ.n (m:MZ):Int:=m.w*m.h*m.l
theorem mem_ap {c:Bool}:y∈ap c x l↔y∈l\/(c=true/\y=x):=by
 unfold ap
 cases c <;> simp
theorem row_step {w k:Int} (r:0<w) (z:y<w*k) (D:y % w+1<w):y+1<w*k:=by
 have h1:=Int.emod_add_mul_ediv y w
 have h2:y / w<k:=by
  apply Int.ediv_lt_of_lt_mul r
  rwa [Int.mul_comm]
 have d:w*(y / w+1)<=w*k:=Int.mul_le_mul_of_nonneg_left (by omega) (by omega);rw [Int.mul_add,Int.mul_one] at d;omega
theorem layer_step {w h l:Int} (d:0<w) (hh:0<h) (E:y<w*h*l) (D:y / w % h+1<h):y+w<w*h*l:=by
 have z:y / w<h*l:=by
  apply Int.ediv_lt_of_lt_mul d;rw [Int.mul_comm,<-Int.mul_assoc];exact E
 have h1:=row_step hh z D;have h2:=Int.emod_add_mul_ediv y w;have G:=Int.emod_lt_of_pos y d;have r:w*(y / w+2)<=w*(h*l):=Int.mul_le_mul_of_nonneg_left (by omega) (by omega);rw [Int.mul_add,<-Int.mul_assoc] at r;omega
theorem Bc {m:MZ} (d:Dim m) (h0:0<=y) (h1:y<m.n) (h:x∈zo m y):0<=x/\x<m.n:=by
 unfold MZ.n at h1⊢;obtain ⟨l1,l2⟩:=d.layer;have E:=d.w1;have hh:=d.h1;simp only [zo,mem_ap,Dm,Dj,DO,false_or] at h;rcases h with ((((( ⟨⟨a,_⟩,rfl⟩) | ⟨a,rfl⟩) | ⟨a,rfl⟩) | ⟨a,rfl⟩) | ⟨a,rfl⟩) | ⟨⟨a,_⟩,rfl⟩
 ·omega
 ·have h2:1<=y / m.w:=by
   have:0<=y / m.w:=Int.ediv_nonneg h0 (by omega);rcases Int.lt_or_le 0 (y / m.w) with h | h
   ·omega
   ·have:y / m.w=0:=by omega
    rw [this] at a;simp at a
  have r:=Int.emod_add_mul_ediv y m.w;have z:=Int.emod_nonneg y (show m.w≠0 by omega);have D:m.w*1<=m.w*(y / m.w):=Int.mul_le_mul_of_nonneg_left h2 (by omega);omega
 ·have:y≠0:=by rintro rfl;simp at a
  omega
 ·have:=row_step (y:=y) (w:=m.w) (k:=m.h*m.l) (by omega) (by rw [<-Int.mul_assoc];exact h1) a;rw [<-Int.mul_assoc] at this;omega
 ·have:=layer_step (by omega) (by omega) h1 a;omega
 ·omega
def zg (m:MZ) (t:Nat) (x:Int):Bool:=(m.free.getD t []).getD x.toNat false
def RP (m:MZ) (t:Nat) (from_ used:List Int) (x:Int):Prop:=
 ∀S:Int->Prop,(∀y∈from_,0<=y->y<m.n->S y)->(∀y z,S y->z∈zo m y->zg m t z=true->z∉used->S z)->S x
theorem RP.base {m:MZ} (h:x∈from_) (h0:0<=x) (h1:x<m.n):RP m t from_ used x:=fun _ d _=>d x h h0 h1
theorem RP.step {m:MZ} (h:RP m t from_ used y) (D:x∈zo m y) (hf:zg m t x=true) (z:x∉used):RP m t from_ used x:=
 fun S r d=>d y x (h S r d) D hf z
theorem RP.range {m:MZ} (d:Dim m) (h:RP m t from_ used x):0<=x/\x<m.n:=
 h (fun x=>0<=x/\x<m.n) (fun y _ h0 h1=>⟨h0,h1⟩) (fun y z r D _ _=>Bc d r.1 r.2 D)
theorem RP.congr {m:MZ} {from' used':List Int} (hf:∀x,x∈from_↔x∈from') (E:∀x,x∈used↔x∈used') (h:RP m t from_ used x):RP m t from' used' x:=
 h _ (fun y r h0 h1=>RP.base ((hf y).1 r) h0 h1) (fun y z r G D d=>r.step G D (fun h=>d ((E z).2 h)))
theorem nodup_nat:∀(n:Nat) (l:List Nat),l.Nodup->(∀x∈l,x<n)->l.length<=n
 | 0,l,_,h=>by
  cases l with
  | nil=>simp
  | cons a l=>exact absurd (h a (DH ..)) (by omega)
 | n+1,l,r,h=>by
  by_cases hm:n∈l
  ·have h1:=nodup_nat n (l.erase n) (r.erase n) (fun x d=>by
    have h2:=(r.mem_erase_iff).1 d;have z:=h x h2.2;omega)
   rw [List.length_erase_of_mem hm] at h1;omega
  ·have h1:=nodup_nat n l r (fun x d=>by
    have z:=h x d;have:x≠n:=by rintro rfl;exact hm d
    omega)
   omega
theorem BL (I:l.Nodup) (n:Int) (r:∀x∈l,0<=x/\x<n):l.length<=n.toNat:=by
 have d:(l.map Int.toNat).Nodup:=by
  rw [List.nodup_iff_pairwise_ne,List.pairwise_map];refine List.Pairwise.imp_of_mem ?_ (List.nodup_iff_pairwise_ne.1 I);intro a b D G E he;have:=r a D;have:=r b G;omega
 have:=nodup_nat n.toNat (l.map Int.toNat) d (fun x z=>by
  rw [DQ] at z;obtain ⟨y,J,rfl⟩:=z;have:=r y J;omega)
 simpa using this
end
end Go.Proofs.YtcnaogdgjkpkmaaGreatDoor
