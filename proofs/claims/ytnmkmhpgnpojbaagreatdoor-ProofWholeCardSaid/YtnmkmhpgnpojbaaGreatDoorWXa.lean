import Derived.WalkKit
import Derived.Lib.Hide
import Derived.Test.YtnmkmhpgnpojbaaGreatDoorRows
import Derived.WalkLawsBesides
import Derived.WalkSpells
import Derived.BigQuiet
import Derived.Deep.QuietTactic
import Derived.ChangeMaps4
import Derived.Maps.RangeRun
import Derived.Deep.DeepCutAuto
import Derived.Deep.AppendLies
import Derived.Deep.Onto
import Derived.Deep.RegionHeld
set_option linter.unusedVariables false
set_option linter.unusedSimpArgs false
set_option maxRecDepth 100000
set_option maxHeartbeats 16000000
namespace Go.Proofs.YtnmkmhpgnpojbaaGreatDoor
variable {a:Act} {listed:Array Bool} {es:Array MapEntry} {ops:Array Oper} {cs:Array Value} {Q:Exit->Act->World->Prop} {l:List Int} {rest:List Oper} {B base fuel g gb k:Nat} {o oi:Oper} {P:Program} {b w0:World}
section
open Go.RowKit
theorem zh {p: Prop} (h : p) : Hid p := Lib.hid h
theorem zc {α: Type} : (∀ (xs : List α) (i : Nat) (h : i < xs.toArray.size), xs.toArray[i] = xs[i]'(by simpa using h)) /\ (∀ (a : α) (l : List α) (i : Nat) (h : i + 1 < (a :: l).length), (a :: l)[i+1] = l[i]'(Nat.lt_of_succ_lt_succ h)) /\ (∀ (a : α) (l : List α) (h : 0 < (a :: l).length), (a :: l)[0] = a) /\ (∀ (l : List α) (i : Nat) (a : α), l.toArray.setIfInBounds i a = (l.set i a).toArray) /\ (∀ (a : α) (l : List α) (b : α), (a :: l).set 0 b = b :: l) /\ (∀ (a : α) (l : List α) (i : Nat) (b : α), (a :: l).set (i+1) b = a :: l.set i b) :=
 ⟨fun _ _ h => List.getElem_toArray h, fun _ _ _ _ => List.getElem_cons_succ .., fun _ _ _ => List.getElem_cons_zero .., fun _ _ _ => List.setIfInBounds_toArray .., fun _ _ _ => rfl, fun _ _ _ _ => rfl⟩
abbrev Do := @List.getElem?_eq_getElem
abbrev Dp := @List.getD_eq_getElem?_getD
abbrev Dq := @Nat.le_refl
abbrev Dr := @List.getElem_mem
abbrev Dt := @Nat.le_trans
abbrev Du := @decide_eq_true
abbrev Dv := @decide_eq_false
abbrev Dw := @List.getElem?_append_left
abbrev Dx := @List.getElem?_append_right
abbrev Dy := @List.take_succ_eq_append_getElem
abbrev Dz := @List.length_append
abbrev DA := @Below.heap_setCell
abbrev DB := @decide_eq_true_eq
abbrev DC := @List.take_length
abbrev DD := @Bool.and_eq_true
abbrev DE := @beq_eq_false_iff_ne
abbrev DF := @Nat.zero_le
abbrev DG := @World.cell?_of_block
abbrev DH := @wp_region_held_drew
abbrev DJ := @List.eq_nil_of_length_eq_zero
abbrev DK := @Below.heap_alloc
abbrev DL := @List.getElem?_eq_none
abbrev DM := @List.mem_cons_of_mem
abbrev DN := @IntKind.wrap_i64
abbrev DO := @Nat.lt_or_ge
abbrev DP := @decide_eq_false_iff_not
abbrev DQ := @World.frozen?_of_block
abbrev DR := @List.length_singleton
abbrev DS := @AllReadyH.cons
abbrev DT := @Nat.lt_of_lt_of_le
abbrev DU := @List.length_filter_le
abbrev DV := @wpAnyH_done
abbrev DW := @Option.getD_some
abbrev DX := @List.getElem_of_mem
abbrev DY := @List.mem_singleton
abbrev DZ := @List.filter_cons_of_neg
abbrev Ea := @List.getElem?_map
abbrev Eb := @List.length_map
abbrev Ec := @Nat.eq_zero_or_pos
abbrev Ed := @List.mem_cons_self
abbrev Ee := @heap_alloc_new
abbrev Ef := @List.mem_cons
abbrev Eg := @List.mem_append
abbrev Eh := @Int.toNat_natCast
abbrev Ei := @List.map_append
abbrev Ej := @List.length_take
abbrev Ek := @List.filter_cons_of_pos
abbrev El := @bodyPost_ret
abbrev Em := @List.getElem?_eq_some_iff
abbrev En := @Array.getElem?_eq_some_iff
abbrev Eo := @List.not_mem_nil
abbrev Ep := @List.mem_filter
abbrev Er := @List.mem_map
abbrev Es := @List.mem_range
abbrev Et := @Bool.or_eq_true
abbrev Eu := @List.any_eq_true
abbrev Ev := @List.all_eq_true
abbrev Ew := @of_decide_eq_true
abbrev Ex := @List.length_cons
abbrev Ey := @List.length_nil
theorem Dn : (∀ (t : Array Value) (f : List Deferred) (d : Tmp) (v : Value), Act.put ⟨t, f⟩ (some d) v = ⟨t.setIfInBounds d v, f⟩) /\ (∀ (a : Act) (v : Value), Act.put a none v = a) := ⟨fun _ _ _ _ => rfl, fun _ _ => rfl⟩
theorem zgd {α: Type _} {l: List α} {d: α} (h : k < l.length) : l.getD k d = l[k] := by rw [List.getD_eq_getElem?_getD, List.getElem?_eq_getElem h]; rfl
theorem Ez {α: Sort _} (a : α) : ∃ x, x = a := ⟨_, rfl⟩
theorem EA {K: Act -> World -> Prop} {S: World -> Prop} {G: Act -> World -> Prop} (h : Shut (∀ a w, S w -> (S w -> G a w) -> K a w)) {w: World} (s : S w) (g : S w -> G a w) : K a w := h.out a w s g
theorem zo {md: Region.Mode} {Q: Exit -> Act -> World -> Prop} {S: World -> Prop} (i : Nat) {v: Value} {w: World} (d : S w)
 (h : wpAnyH P md ops Q S fuel (listed.setIfInBounds i true) (a.put oi.dst v) w) (D : ops[i]? = some oi := by rfl) (J : ∀ w, S w -> (execOp a.eval oi).run P w = .ok (.value v) w := by (intro w z; go_simp; try with_reducible rfl)) (I : Region.wanted oi (yielded ops a.tmps) = true := by rfl)
 (G : Region.noSelect ops = true := by kernel_rfl) (hf : Region.free md ops listed i = true := by kernel_rfl) (E : (Region.ready md ops listed).contains i = true := by kernel_rfl)
 (hQ : ∀ c a w, Q (.panic c) (a.put oi.dst v) w -> Q (.panic c) a w := by exact fun _ _ _ h => h) : wpAnyH P md ops Q S (fuel + 1) listed a w := wpAnyH_take D G hf E hQ (.inl ⟨I, J⟩) d h
theorem rtU {md: Region.Mode} {Q: Exit -> Act -> World -> Prop} {S: World -> Prop} (i : Nat) (v : Value) {w: World} (d : S w)
 (I : ∀ w, S w -> (execOp a.eval oi).run P w = .ok (.value v) w) (h : wpAnyH P md ops Q S fuel (listed.setIfInBounds i true) (a.put oi.dst v) w) (z : ops[i]? = some oi := by rfl) (G : Region.wanted oi (yielded ops a.tmps) = true := by rfl)
 (E : Region.noSelect ops = true := by kernel_rfl) (hf : Region.free md ops listed i = true := by kernel_rfl) (D : (Region.ready md ops listed).contains i = true := by kernel_rfl)
 (hQ : ∀ c a w, Q (.panic c) (a.put oi.dst v) w -> Q (.panic c) a w := by exact fun _ _ _ h => h) : wpAnyH P md ops Q S (fuel + 1) listed a w := wpAnyH_take z E hf D hQ (.inl ⟨G, I⟩) d h
theorem Dm {md: Region.Mode} {Q: Exit -> Act -> World -> Prop} {S: World -> Prop} (i : Nat) {w: World} (d : S w)
 (h : wpAnyH P md ops Q S fuel (listed.setIfInBounds i true) (a.put oi.dst undef) w) (z : ops[i]? = some oi := by rfl) (G : Region.wanted oi (yielded ops a.tmps) = false := by rfl)
 (E : Region.noSelect ops = true := by kernel_rfl) (hf : Region.free md ops listed i = true := by kernel_rfl) (D : (Region.ready md ops listed).contains i = true := by kernel_rfl)
 (hQ : ∀ c a w, Q (.panic c) (a.put oi.dst undef) w -> Q (.panic c) a w := by exact fun _ _ _ h => h) : wpAnyH P md ops Q S (fuel + 1) listed a w := wpAnyH_take z E hf D hQ (.inr ⟨G, rfl⟩) d h
theorem zK {md: Region.Mode} {Q: Exit -> Act -> World -> Prop} {S: World -> Prop} {w: World} (i : Nat)
 (h : ∀ K' : Act -> World -> Prop, Shut (∀ a w, S w -> (S w -> wpAnyH P md ops Q S fuel (listed.setIfInBounds i true) a w) -> K' a w) -> if Region.wanted o (yielded ops a.tmps) = true then Oper.wp P o a w K' Q else K' (a.put o.dst undef) w)
 (d : ops[i]? = some o := by rfl) (z : Region.ready md ops listed = [i] := by kernel_rfl) : wpAnyH P md ops Q S (fuel + 1) listed a w := wpAnyH_ready z (by simp) (.cons d h .nil)
theorem rdA {md: Region.Mode} {Q: Exit -> Act -> World -> Prop} {S: World -> Prop} (rs : List Nat) {w: World}
 (h : AllReadyH P md ops Q S fuel listed a w rs) (z : Region.ready md ops listed = rs := by kernel_rfl) (d : rs ≠ [] := by simp) : wpAnyH P md ops Q S (fuel + 1) listed a w := wpAnyH_ready z d h
structure MZ where
 w:Int
 h:Int
 l:Int
 free:List (List Bool)
 up:List Bool
 tasks:List (List Int×List Int)
theorem za {w:World} {o:Obj} (h:w.heap[k]?=some o):k<w.heap.size:=by
 rcases DO k w.heap.size with h1 | h1
 ·exact h1
 ·rw [Array.getElem?_eq_none h1] at h;cases h
theorem zn {w:World} {a:Addr} {v:Value} (h:w.cell? a=some v):a.block<w.heap.size:=by
 unfold World.cell? at h
 cases hh:w.heap[a.block]? with
 | none=>simp [hh] at h
 | some o=>exact za hh
theorem Cz {w w':World} {a:Addr} (h:w'.heap[a.block]?=w.heap[a.block]?):w'.cell? a=w.cell? a:=DG h
def zN (ok:Nat->Prop) (w w':World):Prop:=∀b,ok b->b<w.heap.size->w'.heap[b]?=w.heap[b]?
theorem zN.refl (ok:Nat->Prop) (w:World):zN ok w w:=fun _ _ _=>rfl
theorem zN.of_below {ok:Nat->Prop} {w w':World} (h:Below w.heap.size w w'):zN ok w w':=fun b _ d=>h.block b d
theorem BB {a w w':World} (h:Below B a w) (d:Below w.heap.size w w') (z:B<=a.heap.size):Below B a w':=h.trans (d.mono (Dt z h.size))
def AI (w:World) (ok:Nat->Prop) (size:Nat) (A:Option Addr) (n:Nat) (xs:List Value):Prop:=
 xs.length=n*size/\(0<n->∃b off,A=some ⟨b,off,none⟩/\ok b/\∀j u,xs[j]?=some u->w.cell? ⟨b,off+j,none⟩=some u)
def Aw (w:World) (ok:Nat->Prop) (size:Nat) (v:Value) (n:Nat) (xs:List Value):Prop:=
 ∃A c,v=.slice A n c/\n<=c/\AI w ok size A n xs
section
variable {w w':World} {ok ok':Nat->Prop} {size n:Nat} {A:Option Addr} {v:Value} {xs:List Value}
theorem AI.keep (h:AI w ok size A n xs) (E:zN ok w w'):AI w' ok size A n xs:=
 ⟨h.1,fun G=>by
  obtain ⟨b,off,e,z,D⟩:=h.2 G;refine ⟨b,off,e,z,fun j u I=>?_⟩;have d:=D j u I;exact (Cz (E b z (zn d))).trans d⟩
theorem AI.weaken (h:AI w ok size A n xs) (D:∀b,ok b->ok' b):AI w ok' size A n xs:=
 ⟨h.1,fun E=>by
  obtain ⟨b,off,e,d,z⟩:=h.2 E;exact ⟨b,off,e,D b d,z⟩⟩
theorem AI.nil (w:World) (ok:Nat->Prop) (size:Nat) (A:Option Addr):AI w ok size A 0 []:=⟨by simp,fun h=>absurd h (by omega)⟩
theorem AI.at_ (h:AI w ok 1 A n xs) (E:k<n):∃b off u,A=some ⟨b,off,none⟩/\ok b/\xs[k]?=some u/\w.cell? ⟨b,off+k,none⟩=some u:=by
 obtain ⟨b,off,e,z,D⟩:=h.2 (by omega);have d:k<xs.length:=by have:=h.1;omega
 exact ⟨b,off,xs[k],e,z,Do d,D k _ (Do d)⟩
theorem Aw.keep (h:Aw w ok size v n xs) (z:zN ok w w'):Aw w' ok size v n xs:=by
 obtain ⟨A,c,rfl,d,D⟩:=h;exact ⟨A,c,rfl,d,D.keep z⟩
theorem Aw.weaken (h:Aw w ok size v n xs) (z:∀b,ok b->ok' b):Aw w ok' size v n xs:=by
 obtain ⟨A,c,rfl,d,D⟩:=h;exact ⟨A,c,rfl,d,D.weaken z⟩
theorem Aw.below (h:Aw w ok size v n xs) (d:Below w.heap.size w w'):Aw w' ok size v n xs:=h.keep (zN.of_below d)
theorem Aw.of_own {e:TypeId} (h:w.ownsRow base e size v n xs):Aw w (fun b=>base<=b) size v n xs:=by
 obtain ⟨E,⟨rfl,rfl⟩ | ⟨g,cap,cur,rfl,I,hh,z,D,G,ht⟩⟩:=h
 ·exact ⟨none,0,rfl,Dq _,E,fun h=>absurd h (by omega)⟩
 ·refine ⟨some ⟨g,0,none⟩,cap,rfl,z,E,fun _=>⟨g,0,rfl,I,fun j u d=>?_⟩⟩;unfold World.cell?;simp only [hh,Nat.zero_add];rw [<-ht,List.getElem?_take] at d
  split at d
  ·simpa using d
  ·cases d
end
def zk (w:World) (ok:Nat->Prop) (v:Value) (l:List Int):Prop:=Aw w ok 1 v l.length (l.map (Value.int .i64))
def AR (w:World) (ok:Nat->Prop) (v:Value) (l:List Bool):Prop:=Aw w ok 1 v l.length (l.map Value.bool)
def Each {α:Type} (R:Value->α->Prop) (w:World) (ok:Nat->Prop) (v:Value) (l:List α):Prop:=
 ∃vs,Aw w ok 1 v l.length vs/\∀(i:Nat) x,l[i]?=some x->∃u,vs[i]?=some u/\R u x
def zU (w:World) (ok:Nat->Prop) (v:Value) (l:List (List Int)):Prop:=Each (zk w ok) w ok v l
def AO (w:World) (ok:Nat->Prop) (v:Value) (l:List (List Bool)):Prop:=Each (AR w ok) w ok v l
def Bf (w:World) (ok:Nat->Prop) (v:Value) (l:List (List Int×List Int)):Prop:=
 ∃vs,Aw w ok 3 v l.length vs/\∀(i:Nat) x,l[i]?=some x->∃s u1 u2,vs[i*3]?=some (.string s)/\vs[i*3+1]?=some u1/\vs[i*3+2]?=some u2/\zk w ok u1 x.1/\zk w ok u2 x.2
def zF (w:World) (ok:Nat->Prop) (v:Value) (m:MZ):Prop:=
 ∃f u t,v=.agg #[.int .i64 m.w,.int .i64 m.h,.int .i64 m.l,f,u,t]/\AO w ok f m.free/\AR w ok u m.up/\Bf w ok t m.tasks
section
variable {w w':World} {ok ok':Nat->Prop} {v:Value}
theorem zk.keep {l:List Int} (h:zk w ok v l) (d:zN ok w w'):zk w' ok v l:=Aw.keep h d
theorem zk.weaken {l:List Int} (h:zk w ok v l) (d:∀b,ok b->ok' b):zk w ok' v l:=Aw.weaken h d
theorem zk.below {l:List Int} (h:zk w ok v l) (d:Below w.heap.size w w'):zk w' ok v l:=Aw.below h d
theorem AR.keep {l:List Bool} (h:AR w ok v l) (d:zN ok w w'):AR w' ok v l:=Aw.keep h d
theorem AR.weaken {l:List Bool} (h:AR w ok v l) (d:∀b,ok b->ok' b):AR w ok' v l:=Aw.weaken h d
theorem Each.keep {α:Type} {R R':Value->α->Prop} {l:List α} (h:Each R w ok v l) (D:zN ok w w') (z:∀u x,R u x->R' u x):Each R' w' ok v l:=by
 obtain ⟨vs,d,he⟩:=h;refine ⟨vs,d.keep D,fun i x G=>?_⟩;obtain ⟨u,E,d⟩:=he i x G;exact ⟨u,E,z _ _ d⟩
theorem Each.weaken {α:Type} {R R':Value->α->Prop} {l:List α} (h:Each R w ok v l) (D:∀b,ok b->ok' b) (z:∀u x,R u x->R' u x):Each R' w ok' v l:=by
 obtain ⟨vs,d,he⟩:=h;refine ⟨vs,d.weaken D,fun i x G=>?_⟩;obtain ⟨u,E,d⟩:=he i x G;exact ⟨u,E,z _ _ d⟩
theorem zU.keep {l:List (List Int)} (h:zU w ok v l) (d:zN ok w w'):zU w' ok v l:=Each.keep h d fun _ _ z=>z.keep d
theorem zU.weaken {l:List (List Int)} (h:zU w ok v l) (d:∀b,ok b->ok' b):zU w ok' v l:=Each.weaken h d fun _ _ z=>z.weaken d
theorem AO.keep {l:List (List Bool)} (h:AO w ok v l) (d:zN ok w w'):AO w' ok v l:=Each.keep h d fun _ _ z=>z.keep d
theorem AO.weaken {l:List (List Bool)} (h:AO w ok v l) (d:∀b,ok b->ok' b):AO w ok' v l:=Each.weaken h d fun _ _ z=>z.weaken d
theorem Bf.keep {l:List (List Int×List Int)} (h:Bf w ok v l) (d:zN ok w w'):Bf w' ok v l:=by
 obtain ⟨vs,E,he⟩:=h;refine ⟨vs,E.keep d,fun i x G=>?_⟩;obtain ⟨s,u1,u2,h0,z,D,i1,i2⟩:=he i x G;exact ⟨s,u1,u2,h0,z,D,i1.keep d,i2.keep d⟩
theorem Bf.weaken {l:List (List Int×List Int)} (h:Bf w ok v l) (d:∀b,ok b->ok' b):Bf w ok' v l:=by
 obtain ⟨vs,E,he⟩:=h;refine ⟨vs,E.weaken d,fun i x G=>?_⟩;obtain ⟨s,u1,u2,h0,z,D,i1,i2⟩:=he i x G;exact ⟨s,u1,u2,h0,z,D,i1.weaken d,i2.weaken d⟩
theorem zF.keep {m:MZ} (h:zF w ok v m) (d:zN ok w w'):zF w' ok v m:=by
 obtain ⟨f,u,t,rfl,z,D,E⟩:=h;exact ⟨f,u,t,rfl,z.keep d,D.keep d,E.keep d⟩
theorem zF.weaken {m:MZ} (h:zF w ok v m) (d:∀b,ok b->ok' b):zF w ok' v m:=by
 obtain ⟨f,u,t,rfl,z,D,E⟩:=h;exact ⟨f,u,t,rfl,z.weaken d,D.weaken d,E.weaken d⟩
theorem zF.below {m:MZ} (h:zF w ok v m) (d:Below w.heap.size w w'):zF w' ok v m:=h.keep (zN.of_below d)
theorem zU.below {l:List (List Int)} (h:zU w ok v l) (d:Below w.heap.size w w'):zU w' ok v l:=h.keep (zN.of_below d)
theorem AR.below {l:List Bool} (h:AR w ok v l) (d:Below w.heap.size w w'):AR w' ok v l:=h.keep (zN.of_below d)
theorem AO.below {l:List (List Bool)} (h:AO w ok v l) (d:Below w.heap.size w w'):AO w' ok v l:=h.keep (zN.of_below d)
theorem Bf.below {l:List (List Int×List Int)} (h:Bf w ok v l) (d:Below w.heap.size w w'):Bf w' ok v l:=h.keep (zN.of_below d)
theorem zk.open (h:zk w ok v l):∃A c,v=.slice A l.length c/\l.length<=c/\AI w ok 1 A l.length (l.map (Value.int .i64)):=h
theorem zk.nil (w:World) (ok:Nat->Prop):zk w ok (.slice none 0 0) []:=⟨none,0,rfl,Dq _,AI.nil _ _ _ _⟩
theorem Ao {n:Nat} {A:Option Addr} (h:AI w ok 1 A n (l.map (Value.int .i64))) (E:k<n) (G:k<l.length):
  ∃b off,A=some ⟨b,off,none⟩/\ok b/\w.cell? ⟨b,off+k,none⟩=some (.int .i64 (l[k])):=by
 obtain ⟨b,off,u,e,z,d,D⟩:=h.at_ E;refine ⟨b,off,e,z,?_⟩;rw [Ea,Do G] at d;rw [D,<-d];rfl
theorem CF {l:List Bool} {n:Nat} {A:Option Addr} (h:AI w ok 1 A n (l.map Value.bool)) (E:k<n) (G:k<l.length):
  ∃b off,A=some ⟨b,off,none⟩/\ok b/\w.cell? ⟨b,off+k,none⟩=some (.bool (l[k])):=by
 obtain ⟨b,off,u,e,z,d,D⟩:=h.at_ E;refine ⟨b,off,e,z,?_⟩;rw [Ea,Do G] at d;rw [D,<-d];rfl
theorem BU {α:Type} {R:Value->α->Prop} {l:List α} {vs:List Value} {n:Nat} {A:Option Addr} (h:AI w ok 1 A n vs) (he:∀(i:Nat) x,l[i]?=some x->∃u,vs[i]?=some u/\R u x) (E:k<n) (G:k<l.length):
  ∃b off u,A=some ⟨b,off,none⟩/\ok b/\w.cell? ⟨b,off+k,none⟩=some u/\R u (l[k]):=by
 obtain ⟨b,off,u,e,z,J,D⟩:=h.at_ E;obtain ⟨u',d,I⟩:=he k _ (Do G);rw [J] at d;injection d with d;subst d;exact ⟨b,off,u,e,z,D,I⟩
end
theorem BH {k:IntKind} {a b:Int} (h:a=b):Ending.returned (.int k a)=.returned (.int k b):=by rw [h]
theorem zl {a b:Bool} (h:a=b):Ending.returned (.bool a)=.returned (.bool b):=by rw [h]
theorem zY (W H L:Int) (f u t:Value) (w:World) (d:-1000000000<=W*H/\W*H<=1000000000) (E:-1000000000000000<=W*H*L/\W*H*L<=1000000000000000):
  Calls Tryz.prog 99 #[.agg #[.int .i64 W,.int .i64 H,.int .i64 L,f,u,t]] w fun e w'=>e=.returned (.int .i64 (W*H*L))/\Below w.heap.size w w':=by
 obtain ⟨z,D⟩:=d;obtain ⟨G,I⟩:=E
 go_enter Tryz.func99,Tryz.ntmps99
 go_wp2;go_ret;exact ⟨rfl,(Below.refl _ _).alloc (Dq _) _⟩
theorem qnodes_calls (W H L:Int) (f u t:Value) (w:World) (d:-1000000000<=W*H/\W*H<=1000000000) (E:-1000000000000000<=W*H*L/\W*H*L<=1000000000000000):
  Calls Tryz.prog 60 #[.agg #[.int .i64 W,.int .i64 H,.int .i64 L,f,u,t]] w fun e w'=>e=.returned (.int .i64 (W*H*L))/\Below w.heap.size w w':=by
 obtain ⟨z,D⟩:=d;obtain ⟨G,I⟩:=E
 go_enter Tryz.func60,Tryz.ntmps60
 go_wp2;go_ret;exact ⟨rfl,(Below.refl _ _).alloc (Dq _) _⟩
theorem mod_eq (n m:Int) (hm:0<m) (D:m<=1000000):(wrap64 (n.tmod m+m)).tmod m=n % m:=by
 have E:n.tmod m<m:=Int.tmod_lt_of_pos n hm
 have G:-m<n.tmod m:=by
  have:=Int.lt_tmod_of_pos n hm;omega
 rw [IntWalk.wrap64_in _ (by omega),Int.tmod_eq_emod_of_nonneg (by omega),Int.add_emod_right];have d:=Int.tmod_add_mul_tdiv n m;have z:n=n.tmod m+m*n.tdiv m:=d.symm
 conv=>rhs;rw [z]
 rw [Int.add_mul_emod_self_left]
theorem mod_calls (n m:Int) (w:World) (hm:0<m) (d:m<=1000000):
  Calls Tryz.prog 41 #[.int .i64 n,.int .i64 m] w fun e w'=>e=.returned (.int .i64 (n % m))/\w=w':=by
 have h:=mod_eq n m hm d;have H:=zh h;clear h
 go_enter Tryz.func41,Tryz.ntmps41
 go_wp2;go_ret;exact ⟨BH H.out,rfl⟩
theorem zx (h:k<l.length) (n:Int):n∈l.take (k+1)↔n∈l.take k\/n=l[k]:=by
 rw [Dy h,Eg,DY]
theorem has_calls {ok:Nat->Prop} {v:Value} (n:Int) (w:World) (h:zk w ok v l) (V:l.length<=20000000000000):
  Calls Tryz.prog 106 #[v,.int .i64 n] w fun e w'=>e=.returned (.bool (decide (n∈l)))/\w=w':=by
 obtain ⟨A,c,rfl,O,K⟩:=h;have L:=zh K;clear K
 go_enter Tryz.func106,Tryz.ntmps106
 go_wp2
 go_loop [5] (fun i=>∃k:Nat,k<=l.length/\i=.int .i64 k/\Hid (n∉l.take k)) (fun i=>l.length - (intOf i).toNat)
 case atStart=>exact ⟨0,DF _,rfl,by simp [Hid]⟩
 case round=>
  obtain ⟨k,U,rfl,J⟩:=hrel;by_cases E:k<l.length
  ·obtain ⟨b,off,rfl,_,D⟩:=Ao L.out E E;obtain ⟨x,G⟩:=Ez (l[k]);rw [<-G] at D;have I:=zh G;clear G;by_cases d:x=n
   ·have M:(x==n)=true:=by simp [d]
    have z:=zh d;clear d;go_wp2;go_ret;exact ⟨zl (by simp only [true_eq_decide_iff];rw [<-z.out,I.out];exact Dr _),rfl⟩
   ·have M:(x==n)=false:=by simp [d]
    have z:=zh d;clear d;go_wp2
    go_round
    case rel=>exact ⟨k+1,by omega,by go_num,fun hm=>by
     rcases (zx E n).1 hm with h | h
     ·exact J.out h
     ·exact z.out (I.out.trans h.symm)⟩
    case measure=>simp [intOf];omega
  ·obtain rfl:k=l.length:=by omega
   go_wp2;go_ret;exact ⟨zl (by have h:=J.out;rw [DC] at h;simp [h]),rfl⟩
theorem index_calls {ok:Nat->Prop} {v:Value} (n:Int) (w:World) (h:zk w ok v l) (hl:l.length<=20000000000000):
  Calls Tryz.prog 165 #[v,.int .i64 n] w fun e w'=>∃r:Int,e=.returned (.int .i64 r)/\(0<=r↔n∈l)/\-1<=r/\w=w':=by
 obtain ⟨A,c,rfl,U,L⟩:=h;have M:=zh L;clear L
 go_enter Tryz.func165,Tryz.ntmps165
 go_wp2
 go_loop [8] (fun i=>∃k:Nat,k<=l.length/\i=.int .i64 k/\Hid (n∉l.take k)) (fun i=>l.length - (intOf i).toNat)
 case atStart=>exact ⟨0,DF _,rfl,by simp [Hid]⟩
 case round=>
  obtain ⟨k,V,rfl,K⟩:=hrel;by_cases E:k<l.length
  ·obtain ⟨b,off,rfl,_,D⟩:=Ao M.out E E;obtain ⟨x,G⟩:=Ez (l[k]);rw [<-G] at D;have I:=zh G;clear G;by_cases d:n=x
   ·have O:(n==x)=true:=by simp [d]
    have z:=zh d;clear d;go_wp2;go_ret;exact ⟨_,rfl,⟨fun _=>by rw [z.out,I.out];exact Dr _,fun _=>by omega⟩,by omega,rfl⟩
   ·have O:(n==x)=false:=by simp [d]
    have z:=zh d;clear d;go_wp2
    go_round
    case rel=>exact ⟨k+1,by omega,by go_num,fun hm=>by
     rcases (zx E n).1 hm with h | h
     ·exact K.out h
     ·exact z.out (h.trans I.out.symm)⟩
    case measure=>simp [intOf];omega
  ·obtain rfl:k=l.length:=by omega
   go_wp2;go_ret;have h:=K.out;rw [DC] at h;exact ⟨_,rfl,⟨fun J=>by omega,fun J=>absurd J h⟩,by omega,rfl⟩
theorem zV {ok:Nat->Prop} {v:Value} (n:Int) (w:World) (h:zk w ok v l) (E:l.length<=20000000000000):
  Calls Tryz.prog 98 #[v,.int .i64 n] w fun e w'=>e=.returned (.bool (decide (n∈l)))/\w=w':=by
 have d:=index_calls n w h E;obtain ⟨A,c,rfl,I,z⟩:=h;have H:=zh d;clear d;clear z
 go_enter Tryz.func98,Tryz.ntmps98
 go_wp2_with fail
 refine H.out.mono ?_;rintro e w' ⟨r,rfl,z,G,rfl⟩;have D:=zh z;clear z
 go_wp2_with fail
 go_ret;exact ⟨zl (by rw [decide_eq_decide];exact D.out),rfl⟩
theorem CX {a w:World} (h:Below B a w) (n:Nat):Below B a (w.drewN n):=⟨h.os,h.tape,h.output,h.size,h.block⟩
theorem take_succ_eq {α:Type} {a b:List α} (D:k<a.length) (E:k<b.length):a.take (k+1)=b.take (k+1)↔a.take k=b.take k/\a[k]=b[k]:=by
 rw [Dy D,Dy E];constructor
 ·intro h;have G:(a.take k).length=(b.take k).length:=by simp;omega
  have:=List.append_inj h G;simpa using this
 ·rintro ⟨d,z⟩;rw [d,z]
def zB (w w':World):Prop:=∃n,w'=w.drewN n
theorem zB.refl (w:World):zB w w:=⟨0,rfl⟩
theorem zB.trans {a c:World} (h:zB a b) (d:zB b c):zB a c:=by
 obtain ⟨n,rfl⟩:=h;obtain ⟨m,rfl⟩:=d;exact ⟨n+m,by rw [World.drewN_drewN]⟩
theorem zB.more {a:World} (h:zB a b) (n:Nat):zB a (b.drewN n):=h.trans ⟨n,rfl⟩
theorem zB.same {a:World} (h:zB a b) (ok:Nat->Prop):zN ok a b:=by
 obtain ⟨n,rfl⟩:=h;exact fun _ _ _=>rfl
theorem zB.below {a:World} (h:zB a b) (B:Nat):Below B a b:=by
 obtain ⟨n,rfl⟩:=h;exact CX (Below.refl _ _) n
theorem same_calls {ok ok':Nat->Prop} {v v':Value} {a b:List Int} (w:World) (h:zk w ok v a) (h':zk w ok' v' b) (hl:a.length<=20000000000000) (a9:b.length<=20000000000000):
  Calls Tryz.prog 21 #[v,v'] w fun e w'=>e=.returned (.bool (decide (a=b)))/\zB w w':=by
 obtain ⟨A,c,rfl,hc,hr⟩:=h;obtain ⟨A',c',rfl,a8,L⟩:=h';have HR:=zh hr;clear hr;have O:=zh L;clear L;by_cases d:a.length=b.length
 ·have V:((a.length:Int) != (b.length:Int))=false:=by simp [d]
  have b0:a.length<=b.length:=by omega
  have a4:b.length<=a.length:=by omega
  have M:=zh d;clear d
  go_enter Tryz.func21,Tryz.ntmps21
  go_wp2;go_loopw [5] (fun i wr=>∃k:Nat,k<=a.length/\i=.int .i64 k/\Hid (a.take k=b.take k)/\Hid (zB w wr)) (fun i _=>a.length - (intOf i).toNat)
  case atStart=>exact ⟨0,DF _,rfl,by simp [Hid],zB.refl _⟩
  case round=>
   obtain ⟨k,hk,rfl,heq,K⟩:=hrel;by_cases J:k<a.length
   ·have D:k<b.length:=by omega
    obtain ⟨bA,off,rfl,_,I⟩:=Ao (HR.out.keep (K.out.same ok)) J J;obtain ⟨bB,off',rfl,_,E⟩:=Ao (O.out.keep (K.out.same ok')) D D;obtain ⟨x,hx⟩:=Ez (a[k]);obtain ⟨y,hy⟩:=Ez (b[k]);rw [<-hx] at I;rw [<-hy] at E;have HX:=zh hx;clear hx;have HY:=zh hy;clear hy;by_cases z:x=y
    ·have U:(x != y)=false:=by simp [z]
     have G:=zh z;clear z;go_wp2;go_quiet (fail)
     go_wp2;go_roundw
     case rel=>exact ⟨k+1,by omega,by go_num,(take_succ_eq J D).2 ⟨heq.out,by rw [<-HX.out,<-HY.out,G.out]⟩,K.out.more _⟩
     case measure=>simp [intOf];omega
    ·have U:(x != y)=true:=by simp [z]
     have G:=zh z;clear z;go_wp2;go_quiet (fail)
     go_wp2;go_ret;refine ⟨zl ?_,K.out.more _⟩;rw [eq_comm,DP];rintro rfl;exact G.out (HX.out.trans HY.out.symm)
   ·obtain rfl:k=a.length:=by omega
    go_wp2;go_ret;refine ⟨zl ?_,K.out⟩;have h:=heq.out;rw [DC,M.out,DC] at h;simp [h]
 ·have V:((a.length:Int) != (b.length:Int))=true:=by simp only [bne_iff_ne];omega
  have M:=zh d;clear d
  go_enter Tryz.func21,Tryz.ntmps21
  go_wp2;go_ret;refine ⟨zl ?_,zB.refl _⟩;rw [eq_comm,DP];rintro rfl;exact M.out rfl
end
section
open Go.RowKit
open Go.ChangeMaps (setBlock)
def zv:List Int->Nat->List MapEntry
 | [],_=>[]
 | x :: l,b=>{ key:=.int .i64 x,val:=.bool true,born:=b } :: zv l (b+1)
def mapObj (l:List Int):Obj:=.map (zv l 0).toArray l.length
def zu (w:World) (g:Nat) (l:List Int):Prop:=w.heap[g]?=some (mapObj l)
def ins (l:List Int) (x:Int):List Int:=if x∈l then l else l++[x]
theorem mem_ins {x y:Int}:y∈ins l x↔y∈l\/y=x:=by
 unfold ins
 split
 ·constructor
  ·exact .inl
  ·rintro (h | rfl)
   ·exact h
   ·assumption
 ·simp
theorem Ce:∀(l:List Int) (b:Nat),(zv l b).length=l.length
 | [],_=>rfl
 | _ :: l,b=>by simp [zv,Ce l]
theorem CY:∀(l l':List Int) (b:Nat),zv (l++l') b=zv l b++zv l' (b+l.length)
 | [],_,_=>by simp [zv]
 | _ :: l,l',b=>by simp [zv,CY l l' (b+1),Nat.add_assoc,Nat.add_comm 1]
theorem BS:∀(l:List Int) (b i:Nat),(zv l b)[i]?=(l[i]?).map fun x=>{ key:=.int .i64 x,val:=.bool true,born:=b+i }
 | [],_,_=>by simp [zv]
 | x :: l,b,0=>by simp [zv]
 | x :: l,b,i+1=>by simp [zv,BS l (b+1) i,Nat.add_assoc,Nat.add_comm 1]
theorem zu.keep {ok:Nat->Prop} {w w':World} (h:zu w g l) (z:zN ok w w') (d:ok g):zu w' g l:=(z g d (za h)).trans h
theorem zu.below {w w':World} (h:zu w g l) (d:Below w.heap.size w w'):zu w' g l:=(d.block g (za h)).trans h
theorem zu.new (w:World):zu (w.alloc (.map #[] 0)) w.heap.size []:=Ee _ _
open Go.Instr in
theorem CZ (x:Int):∀(l:List Int) (b s:Nat),findNow (.int .i64) (.int .i64 x) (zv l b) s=some (if x∈l then some (s+l.idxOf x,.bool true) else none)
 | [],_,_=>by simp [zv,findNow]
 | y :: l,b,s=>by
  simp only [zv,findNow,sameNow,if_true];by_cases h:x=y
  ·subst h;simp
  ·have D:(x==y)=false:=by simpa using h
   have z:(y==x)=false:=by simpa using fun e:y=x=>h e.symm
   simp only [D];rw [CZ x l (b+1) (s+1)];by_cases hm:x∈l
   ·have d:x∈y :: l:=DM _ hm;rw [if_pos hm,if_pos d,List.idxOf_cons,z];simp only [cond_false,Bool.false_eq_true,if_false];rw [show s+1+l.idxOf x=s+(l.idxOf x+1) by omega]
   ·have d:¬ x∈y :: l:=by simp [h,hm]
    rw [if_neg hm,if_neg d]
theorem run_getObj' {w:World} {n:Nat} (h:w.heap[g]?=some (.map es n)):(getObj g).run P w=.ok (.map es n) w:=by simp [getObj,Sem.run,h]
theorem run_setObj' {w:World} {n:Nat} (o':Obj) (h:w.heap[g]?=some (.map es n)):(setObj g o').run P w=.ok () (setBlock w g o'):=by
 simp [setObj,Sem.run,h,setBlock]
open Go.Instr in
theorem run_checkKey (b:Bool) (n:Nat) (x:Int) (w:World):(checkKey b (n+1) 3 (.int .i64 x)).run Tryz.prog w=.ok () w:=by
 simp [checkKey,run_underlying Tryz.underlying3]
theorem run_look {w:World} (h:zu w g l) (x:Int) (t:TypeId) (ht:Tryz.prog.underlying t=some (.map 3 4)):
  (Instr.lookup t (.map (some g)) (.int .i64 x) false).run Tryz.prog w=.ok (.bool (decide (x∈l))) w:=by
 have d:∀w,(zeroValue 4).run Tryz.prog w=.ok (.bool false) w:=fun w=>by kernel_rfl
 unfold Instr.lookup;simp only [Sem.run_bind,run_underlying ht,Result.andThen_ok,run_getObj' h,mapObj,Sem.run_pure];rw [show (10000:Nat)=9999+1 from rfl,run_checkKey];simp only [Result.andThen_ok,Instr.findKey,Sem.run_bind,run_underlying Tryz.underlying3,List.toList_toArray,CZ];by_cases hm:x∈l
 ·simp [hm]
 ·simp [hm,d]
theorem setBlk_same {w:World} {o o':Obj} (h:w.heap[g]?=some o):(setBlock w g o').heap[g]?=some o':=by
 have:=za h;simp [setBlock,this]
theorem CT {w:World} (o:Obj) (h:k≠g):(setBlock w g o).heap[k]?=w.heap[k]?:=by
 simp [setBlock,Ne.symm h]
theorem run_add {w:World} (h:zu w g l) (x:Int) (t:TypeId) (ht:Tryz.prog.underlying t=some (.map 3 4)):
  ∃w',(Instr.mapUpdate t (.map (some g)) (.int .i64 x) (.bool true)).run Tryz.prog w=.ok () w'/\zu w' g (ins l x)/\w.grownBy w' (some g):=by
 refine ⟨setBlock w g (mapObj (ins l x)),?_,setBlk_same h,⟨rfl,rfl,rfl,by simp [setBlock],fun k _ D=>CT _ (fun e=>D (by rw [e]))⟩⟩;unfold Instr.mapUpdate;simp only [Sem.run_bind,run_underlying ht,Result.andThen_ok,run_getObj' h,mapObj];rw [show (10000:Nat)=9999+1 from rfl,run_checkKey];simp only [Result.andThen_ok,Instr.findKey,Sem.run_bind,run_underlying Tryz.underlying3,List.toList_toArray,CZ];by_cases hm:x∈l
 ·simp only [hm,if_true,Sem.run_pure,Result.andThen_ok,Nat.zero_add];have z:l.idxOf x<l.length:=List.idxOf_lt_length_of_mem hm;have E:l[l.idxOf x]=x:=List.getElem_idxOf z
  have D:∀W,(Instr.keyThatStays ((((zv l 0).toArray[l.idxOf x]?).map (·.key)).getD (.int .i64 x)) (.int .i64 x)).run Tryz.prog W=.ok (.int .i64 x) W:=by
   intro W;rw [List.getElem?_toArray,BS,Do z];simp [Instr.keyThatStays,Instr.sameBits,E]
  rw [Sem.run_bind,D];simp only [Result.andThen_ok]
  have d:(zv l 0).toArray.modify (l.idxOf x) (fun e=>{ e with key:=.int .i64 x,val:=.bool true })=(zv l 0).toArray:=by
   apply Array.ext_getElem?;intro i;rw [Array.getElem?_modify]
   split
   ·rename_i e
    subst e;rw [List.getElem?_toArray,BS,Do z];simp [E]
   ·rfl
  rw [d,run_setObj' _ h];have:ins l x=l:=by simp [ins,hm]
  rw [this]
 ·simp only [hm,if_false,Sem.run_pure,Result.andThen_ok];rw [run_setObj' _ h];have:ins l x=l++[x]:=by simp [ins,hm]
  rw [this,CY];simp [zv]
theorem wpSetAdd {w:World} (J:o.guard=none) (m y v:Operand) (t:TypeId) (D:o.op=Op.mapUpdate t m y v)
  (ht:Tryz.prog.underlying t=some (.map 3 4)) (g:Nat) (l:List Int) (x:Int) (hm:a.eval m=.map (some g)) (M:a.eval y=.int .i64 x) (L:a.eval v=.bool true) (K:zu w g l)
  (I:∀w',zu w' g (ins l x)->w.grownBy w' (some g)->wpList Tryz.prog ops Q rest (a.put o.dst undef) w'):wpList Tryz.prog ops Q (o :: rest) a w:=by
 refine wpList_plain J fun K' z=>?_
 obtain ⟨w',d,E,G⟩:=run_add K x t ht;unfold Oper.wp;simp [execOp,D,hm,M,L,d,Result.andThen];exact z _ _ (I w' E G)
end
section
open Go.RowKit
theorem Tryz.infoInt:(Tryz.prog.info? 3).map (fun i=>(i.zero,i.size,i.bytes))=some (some (.int .i64 0),1,8):=by kernel_rfl
def ap (c:Bool) (x:Int) (l:List Int):List Int:=if c then l++[x] else l
theorem ap_len (c:Bool) (x:Int) (l:List Int):(ap c x l).length<=l.length+1:=by
 unfold ap;split <;> simp
theorem map_snoc (l:List Int) (x:Int):(l++[x]).map (Value.int .i64)=l.map (Value.int .i64)++[.int .i64 x]:=by simp
def ze (w:World) (g:Nat) (t:TypeId) (cs:Array Value):Prop:=w.heap[g]?=some (.cells cs t (0,0))
theorem ze.ne_ {w:World} {g':Nat} {t t':TypeId} {cs':Array Value} (h:ze w g t cs) (d:ze w g' t' cs') (z:t≠t'):g≠g':=by
 rintro rfl;unfold ze at h d;rw [h] at d;injection d with d;injection d with _ ht;exact z ht
theorem zd {w:World} {e:TypeId} {size n:Nat} {v:Value} {xs:List Value} {t:TypeId} (h:w.ownsRow base e size v n xs) (z:ze w g t cs) (d:e≠t):v.ownBlock≠some g:=by
 rcases h.2 with ⟨rfl,_⟩ | ⟨g',cap,cur,rfl,_,hh,_⟩
 ·simp [Value.ownBlock]
 ·intro he;have:g'=g:=by simpa [Value.ownBlock] using he
  subst this;exact ze.ne_ (t:=e) hh z d rfl
def Acc (w0 w:World) (B gb:Nat) (l:List Int):Prop:=
 ∃v,ze w gb 23 #[v]/\w.ownsRow B 3 1 v l.length (l.map (Value.int .i64))/\B<=gb/\Below B w0 w
theorem wpApp1 (D:o.guard=none) (s y:Operand)
  (U:o.op=.call { callee:=.builtin .append,args:=#[s,y],argTypes:=#[23,23] }) (W:World) (l:List Int) (x:Int) (B g c:Nat) (v:Value) (V:a.eval s=v)
  (hy:a.eval y=.slice (some ⟨g,0,none⟩) 1 c) (d:W.ownsRow B 3 1 v l.length (l.map (Value.int .i64))) (M:W.cell? ⟨g,0,none⟩=some (.int .i64 x)) (L:B<=W.heap.size) (hl:l.length<=1000000000000)
  (h:∀v' w',w'.ownsRow B 3 1 v' (l++[x]).length ((l++[x]).map (Value.int .i64))->W.grownBy w' v.ownBlock->wpList Tryz.prog ops Q rest (a.put o.dst v') w'):wpList Tryz.prog ops Q (o :: rest) a W:=by
 obtain ⟨i0,O,E,G,I⟩:=info_parts Tryz.infoInt;refine wpList_append_own _ D _ _ 23 U B 3 i0 (.int .i64 0) 1 8 Tryz.underlying23 O E G I rfl (by decide) _ _ _ V d ⟨g,0,none⟩ 1 c [.int .i64 x] hy rfl ?_ ?_ ?_ ?_ L ?_
 ·intro j u z
  match j,z with
  | 0,z=>
   have:u=.int .i64 x:=by simpa using z.symm
   rw [this];exact M
 ·intro u z;have:u=.int .i64 x:=by simpa using z
  rw [this];rfl
 ·unfold maxLen;omega
 ·omega
 ·intro v' w' J K _;refine h v' w' ?_ K;rw [map_snoc,Dz];exact J
theorem add_calls (w0 w:World) (B gb:Nat) (l:List Int) (c:Bool) (x:Int) (h:Acc w0 w B gb l) (hl:l.length<=1000) (hB:B<=w0.heap.size):
  Calls Tryz.prog 166 #[.bool c,.int .i64 x,.pointer (some ⟨gb,0,none⟩)] w fun e w'=>e=.returned (.tuple #[])/\Acc w0 w' B gb (ap c x l):=by
 have G:=h;obtain ⟨v,L,D,J,V⟩:=h
 cases c with
 | false=>
  go_enter Tryz.func166,Tryz.ntmps166
  go_wp2
  go_end0
  exact ⟨rfl,G⟩
 | true=>
  have a0:w.cell? ⟨gb,0,none⟩=some v:=by unfold World.cell?;simp only [show w.heap[gb]?=_ from L];rfl
  have a4:=zd D L (by decide);have a3:gb<w.heap.size:=za L;have U:B<=w.heap.size:=Dt hB V.size;have HG:=zh L;clear L;have HB:=zh V;clear V;clear G
  go_enter Tryz.func166,Tryz.ntmps166
  go_wp2_with (at_builtin;refine wpApp1 rfl _ _ rfl _ l x B w.heap.size 1 v rfl rfl (D.alloc _) ?c1 ?c2 ?c3 ?_)
  case c1=>simp
  case c2=>simp;omega
  case c3=>omega
  intro v' w1 z d;obtain ⟨g',cap',rfl,a2,a1⟩:=z.form (by simp);have E:ze w1 gb 23 #[v]:=(d.block gb (by simp;omega) (fun e=>a4 e.symm)).trans ((DK w _ gb a3).trans HG.out);have M:w1.cell? ⟨gb,0,none⟩=some v:=by unfold World.cell?;simp only [show w1.heap[gb]?=_ from E];rfl
  have hfz:w1.frozen? ⟨gb,0,none⟩=false:=by unfold World.frozen?;simp [show w1.heap[gb]?=_ from E]
  have I:=zh E;clear E;have O:=zh d;clear d;have HO:=zh z;clear z;clear a2 a1;go_wp2
  go_end0
  have K:Below B w0 w1:=(HB.out.alloc U _).grown O.out (by simp;omega) (fun k hk=>by
   have:=(D.lt k hk).1;omega)
  refine ⟨rfl,.slice (some ⟨g',0,none⟩) (l++[x]).length cap',?_,?_,J,K.setCell J _⟩
  ·have:=I.out;unfold ze at this⊢;simp [World.setCell,Array.getElem?_modify,this]
  ·have h:=ownsRow_setCell_other (a:=⟨gb,0,none⟩) HO.out (zd (t:=23) HO.out I.out (by decide)) (.slice (some ⟨g',0,none⟩) (l++[x]).length cap');simpa [ap] using h
def AccK (w0 w:World) (B gb k:Nat) (l:List Int):Prop:=Acc w0 w B gb l/\l.length<=k/\B<=w0.heap.size
theorem addK (w0 w:World) (B gb k:Nat) (l:List Int) (c:Bool) (x:Int) (h:AccK w0 w B gb k l) (D:k<=1000):
  Calls Tryz.prog 166 #[.bool c,.int .i64 x,.pointer (some ⟨gb,0,none⟩)] w fun e w'=>e=.returned (.tuple #[])/\AccK w0 w' B gb (k+1) (ap c x l):=by
 obtain ⟨h,E,d⟩:=h;refine (add_calls w0 w B gb l c x h (by omega) d).mono ?_;rintro e w' ⟨rfl,z⟩;exact ⟨rfl,z,by have:=ap_len c x l;omega,d⟩
theorem AccK.below {w:World} (h:AccK w0 w B gb k l):Below B w0 w:=by
 obtain ⟨⟨v,_,_,_,d⟩,_,_⟩:=h;exact d
theorem zw {w:World} {t:TypeId} {a0 a1 a2 a3 a4 a5:Value} (h:ze w g t #[a0,a1,a2,a3,a4,a5]):
  w.cell? ⟨g,0,none⟩=some a0/\w.cell? ⟨g,1,none⟩=some a1/\w.cell? ⟨g,2,none⟩=some a2/\w.cell? ⟨g,3,none⟩=some a3/\w.cell? ⟨g,4,none⟩=some a4/\w.cell? ⟨g,5,none⟩=some a5:=by
 unfold ze at h;unfold World.cell?;simp only [h];exact ⟨rfl,rfl,rfl,rfl,rfl,rfl⟩
theorem ze.below {w w':World} {t:TypeId} (h:ze w g t cs) (d:Below B w w') (z:g<B):ze w' g t cs:=(d.block g z).trans h
theorem ze.alloc {w:World} {g:Nat} {t:TypeId} {cs:Array Value} (h:ze w g t cs) (o:Obj):ze (w.alloc o) g t cs:=(DK w o g (za h)).trans h
theorem Acc.new (w1:World):AccK w1 (w1.alloc (.cells #[.slice none 0 0] 23)) w1.heap.size w1.heap.size 0 []:=
 ⟨⟨.slice none 0 0,Ee _ _,(World.ownsRow_nil _ _ _ _),Dq _,(Below.refl _ _).alloc (Dq _) _⟩,Dq _,Dq _⟩
theorem AccK.end_ {w:World} (h:AccK w0 w B gb k l):∃v,w.cell? ⟨gb,0,none⟩=some v/\w.ownsRow B 3 1 v l.length (l.map (Value.int .i64)):=by
 obtain ⟨⟨v,d,z,_,_⟩,_,_⟩:=h;refine ⟨v,?_,z⟩;unfold ze at d;unfold World.cell?;simp only [d];rfl
theorem AccK.more {w w':World} (h:AccK w0 w B gb k l) (d:Below w.heap.size w w'):AccK w0 w' B gb k l:=by
 obtain ⟨⟨v,G,K,z,D⟩,J,E⟩:=h;exact ⟨⟨v,(d.block gb (za G)).trans G,K.kept (row:=none) ⟨d.os,d.tape,d.output,d.size,fun i I _=>d.block i I⟩ (by cases h:v.ownBlock <;> simp),z,BB D d E⟩,J,E⟩
theorem next_fin {w:World} {v:Value} {l':List Int} (h:w.ownsRow B 3 1 v l.length (l.map (Value.int .i64))) (e:l'=l):w.ownsRow B 3 1 v l'.length (l'.map (Value.int .i64)):=by
 rw [e];exact h
def zg (m:MZ) (node:Int):List Int:=
 ap (decide (node+m.w*m.h<m.w*m.h*m.l) && m.up.getD node.toNat false) (node+m.w*m.h)
  (ap (decide (node / m.w % m.h+1<m.h)) (node+m.w)
   (ap (decide (node % m.w+1<m.w)) (node+1)
    (ap (decide (0<node % m.w)) (node - 1)
     (ap (decide (0<node / m.w % m.h)) (node - m.w)
      (ap (decide (m.w*m.h<=node) && m.up.getD (node - m.w*m.h).toNat false) (node - m.w*m.h) [])))))
structure Dim (m:MZ):Prop where
 w1:1<=m.w
 w2:m.w<=300
 h1:1<=m.h
 h2:m.h<=300
 l1:1<=m.l
 l2:m.l<=300
 n1:m.w*m.h*m.l<=300
 up:(m.up.length:Int)=m.w*m.h*m.l
theorem Dim.layer {m:MZ} (d:Dim m):1<=m.w*m.h/\m.w*m.h<=m.w*m.h*m.l:=by
 have z:1<=m.w*m.h:=by
  have:=Int.mul_le_mul d.w1 d.h1 (by omega) (by have:=d.w1;omega);omega
 refine ⟨z,?_⟩;have:=Int.mul_le_mul_of_nonneg_left d.l1 (show 0<=m.w*m.h by omega);omega
theorem next_eq (m:MZ) (node:Int) (b1 b2:Bool) (d:b1=(decide (m.w*m.h<=node) && m.up.getD (node - m.w*m.h).toNat false)) (z:b2=(decide (node+m.w*m.h<m.w*m.h*m.l) && m.up.getD node.toNat false)):
  zg m node=ap b2 (node+m.w*m.h) (ap (decide (node / m.w % m.h+1<m.h)) (node+m.w) (ap (decide (node % m.w+1<m.w)) (node+1) (ap (decide (0<node % m.w)) (node - 1) (ap (decide (0<node / m.w % m.h)) (node - m.w) (ap b1 (node - m.w*m.h) []))))):=by
 rw [d,z];rfl
theorem up_true {p:Prop} [Decidable p] {up:List Bool} (hp:p) (h:k<up.length):up[k]=(decide p && up.getD k false):=by
 simp [hp,h]
theorem up_false {p:Prop} [Decidable p] {b:Bool} (hp:¬ p):false=(decide p && b):=by simp [hp]
theorem CQ {ok:Nat->Prop} {v:Value} (m:MZ) (node:Int) (w:World) (hm:zF w ok v m) (d:Dim m) (h0:0<=node) (h1:node<m.w*m.h*m.l):
  Calls Tryz.prog 100 #[v,.int .i64 node] w fun e w'=>∃v',e=.returned v'/\Below w.heap.size w w'/\w'.ownsRow w.heap.size 3 1 v' (zg m node).length ((zg m node).map (Value.int .i64)):=by
 obtain ⟨f,u,t,rfl,_,hu,_⟩:=hm;obtain ⟨A,c,rfl,c9,c7⟩:=hu;have hl:=d.layer;obtain ⟨d7,d8⟩:=hl;obtain ⟨w1,w2,d4,d5,ll1,ll2,n1,c6⟩:=d;obtain ⟨W,H,L,fr,up,ts⟩:=m;simp only at*;have HU:=zh c7;clear c7;have b5:=zh c6;clear c6
 go_enter Tryz.func100,Tryz.ntmps100
 have d9:0<=node / W:=Int.ediv_nonneg h0 (by omega);have e0:node / W<=node:=Int.ediv_le_self _ h0
 go_wp2_with fail
 go_quiet (fail)
 have e1:0<=node / W % H:=Int.emod_nonneg _ (by omega);have e2:node / W % H<H:=Int.emod_lt_of_pos _ (by omega);have e3:0<=node % W:=Int.emod_nonneg _ (by omega);have e4:node % W<W:=Int.emod_lt_of_pos _ (by omega);generalize b8:((w.alloc (.cells #[.int .i64 W,.int .i64 H,.int .i64 L,f,.slice A up.length c,t] 32)).drewN nq)=w1;have M:Below w.heap.size w w1:=by rw [<-b8];exact CX ((Below.refl _ _).alloc (Dq _) _) _
 have c0:ze w1 w.heap.size 32 #[.int .i64 W,.int .i64 H,.int .i64 L,f,.slice A up.length c,t]:=by rw [<-b8];exact Ee _ _
 have b4:=zh (HU.out.keep (zN.of_below M):AI w1 ok 1 A up.length (up.map Value.bool));clear b8 HU;have J:=zh c0;clear c0;have O:=zh M;clear M;by_cases hA:W*H<=node
 ·by_cases hB:node+W*H<W*H*L
  ·have a0:(node - W*H).toNat<up.length:=by have:=b5.out;omega
   obtain ⟨b,off,a8,_,G⟩:=CF b4.out a0 a0;have z:=zn G;have a7:node.toNat<up.length:=by have:=b5.out;omega
   obtain ⟨b',off',b3,_,I⟩:=CF b4.out a7 a7;obtain ⟨rfl,rfl⟩:b=b'/\off=off':=by rw [a8] at b3;simpa using b3
   clear b3;subst a8;obtain ⟨b1,M⟩:=Ez (up[(node - W*H).toNat]);rw [<-M] at G;have a9:=zh M;clear M;obtain ⟨b2,U⟩:=Ez (up[node.toNat]);rw [<-U] at I;have b0:=zh U;clear U;have D:w.heap.size<w1.heap.size:=za J.out;have E:=fun o=>zw (J.out.alloc o)
   obtain ⟨m0,m1,m2,m3,m4,m5⟩:(∀o,(w1.alloc o).cell? ⟨w.heap.size,0,none⟩=_)/\(∀o,(w1.alloc o).cell? ⟨w.heap.size,1,none⟩=_)/\(∀o,(w1.alloc o).cell? ⟨w.heap.size,2,none⟩=_)/\(∀o,(w1.alloc o).cell? ⟨w.heap.size,3,none⟩=_)/\(∀o,(w1.alloc o).cell? ⟨w.heap.size,4,none⟩=_)/\(∀o,(w1.alloc o).cell? ⟨w.heap.size,5,none⟩=_):=⟨fun o=>(E o).1,fun o=>(E o).2.1,fun o=>(E o).2.2.1,fun o=>(E o).2.2.2.1,fun o=>(E o).2.2.2.2.1,fun o=>(E o).2.2.2.2.2⟩;clear E;have u1:∀o,(w1.alloc o).cell? ⟨b,off+(node - W*H).toNat,none⟩=_:=fun o=>(World.cell?_alloc_lt w1 o ⟨b,off+(node - W*H).toNat,none⟩ z).trans G
   have u2:∀o,(w1.alloc o).cell? ⟨b,off+node.toNat,none⟩=_:=fun o=>(World.cell?_alloc_lt w1 o ⟨b,off+node.toNat,none⟩ z).trans I
   go_wp2_with fail
   refine (addK w1 _ w1.heap.size w1.heap.size 0 _ _ _ (Acc.new w1) (by omega)).mono ?_;rintro e k1 ⟨rfl,a1⟩;clear m0 m1 m2 m3 m4 m5 u1 u2;obtain ⟨m0,m1,m2,m3,m4,m5⟩:=zw (J.out.below a1.below D);have u1:=(a1.below.cell (p:=⟨b,off+(node - W*H).toNat,none⟩) z).trans G;have u2:=(a1.below.cell (p:=⟨b,off+node.toNat,none⟩) z).trans I
   go_wp2_with fail
   refine (addK w1 _ w1.heap.size w1.heap.size 1 _ _ _ (a1) (by omega)).mono ?_;rintro e k2 ⟨rfl,a2⟩;clear m0 m1 m2 m3 m4 m5 u1 u2;obtain ⟨m0,m1,m2,m3,m4,m5⟩:=zw (J.out.below a2.below D);have u1:=(a2.below.cell (p:=⟨b,off+(node - W*H).toNat,none⟩) z).trans G;have u2:=(a2.below.cell (p:=⟨b,off+node.toNat,none⟩) z).trans I
   go_wp2_with fail
   refine (addK w1 _ w1.heap.size w1.heap.size 2 _ _ _ (a2) (by omega)).mono ?_;rintro e k3 ⟨rfl,a3⟩;clear m0 m1 m2 m3 m4 m5 u1 u2;obtain ⟨m0,m1,m2,m3,m4,m5⟩:=zw (J.out.below a3.below D);have u1:=(a3.below.cell (p:=⟨b,off+(node - W*H).toNat,none⟩) z).trans G;have u2:=(a3.below.cell (p:=⟨b,off+node.toNat,none⟩) z).trans I
   go_wp2_with fail
   refine (addK w1 _ w1.heap.size w1.heap.size 3 _ _ _ (a3) (by omega)).mono ?_;rintro e k4 ⟨rfl,a4⟩;clear m0 m1 m2 m3 m4 m5 u1 u2;obtain ⟨m0,m1,m2,m3,m4,m5⟩:=zw (J.out.below a4.below D);have u1:=(a4.below.cell (p:=⟨b,off+(node - W*H).toNat,none⟩) z).trans G;have u2:=(a4.below.cell (p:=⟨b,off+node.toNat,none⟩) z).trans I
   go_wp2_with fail
   refine (addK w1 _ w1.heap.size w1.heap.size 4 _ _ _ (a4) (by omega)).mono ?_;rintro e k5 ⟨rfl,a5⟩;clear m0 m1 m2 m3 m4 m5 u1 u2;obtain ⟨m0,m1,m2,m3,m4,m5⟩:=zw (J.out.below a5.below D);have u1:=(a5.below.cell (p:=⟨b,off+(node - W*H).toNat,none⟩) z).trans G;have u2:=(a5.below.cell (p:=⟨b,off+node.toNat,none⟩) z).trans I
   go_wp2_with fail
   refine (zY W H L _ _ _ _ (by omega) (by omega)).mono ?_;rintro e kn ⟨rfl,V⟩;have a5:=a5.more V;clear m0 m1 m2 m3 m4 m5 u1 u2;obtain ⟨m0,m1,m2,m3,m4,m5⟩:=zw (J.out.below a5.below D);have u1:=(a5.below.cell (p:=⟨b,off+(node - W*H).toNat,none⟩) z).trans G;have u2:=(a5.below.cell (p:=⟨b,off+node.toNat,none⟩) z).trans I
   go_wp2_with fail
   refine (addK w1 _ w1.heap.size w1.heap.size 5 _ _ _ (a5) (by omega)).mono ?_;rintro e k6 ⟨rfl,a6⟩;clear m0 m1 m2 m3 m4 m5 u1 u2;obtain ⟨m0,m1,m2,m3,m4,m5⟩:=zw (J.out.below a6.below D);have u1:=(a6.below.cell (p:=⟨b,off+(node - W*H).toNat,none⟩) z).trans G;have u2:=(a6.below.cell (p:=⟨b,off+node.toNat,none⟩) z).trans I;obtain ⟨vf,b7,K⟩:=a6.end_;have HO:=zh K;clear K
   go_wp2_with fail
   go_ret;refine ⟨vf,rfl,BB O.out (Below.mono a6.below (Dq _)) (Dq _),?_⟩;exact next_fin (HO.out.mono O.out.size) (next_eq _ _ _ _ (by rw [a9.out];exact up_true hA a0) (by rw [b0.out];exact up_true hB a7))
  ·have a0:(node - W*H).toNat<up.length:=by have:=b5.out;omega
   obtain ⟨b,off,a8,_,G⟩:=CF b4.out a0 a0;have z:=zn G;subst a8;obtain ⟨b1,M⟩:=Ez (up[(node - W*H).toNat]);rw [<-M] at G;have a9:=zh M;clear M;have D:w.heap.size<w1.heap.size:=za J.out;have E:=fun o=>zw (J.out.alloc o)
   obtain ⟨m0,m1,m2,m3,m4,m5⟩:(∀o,(w1.alloc o).cell? ⟨w.heap.size,0,none⟩=_)/\(∀o,(w1.alloc o).cell? ⟨w.heap.size,1,none⟩=_)/\(∀o,(w1.alloc o).cell? ⟨w.heap.size,2,none⟩=_)/\(∀o,(w1.alloc o).cell? ⟨w.heap.size,3,none⟩=_)/\(∀o,(w1.alloc o).cell? ⟨w.heap.size,4,none⟩=_)/\(∀o,(w1.alloc o).cell? ⟨w.heap.size,5,none⟩=_):=⟨fun o=>(E o).1,fun o=>(E o).2.1,fun o=>(E o).2.2.1,fun o=>(E o).2.2.2.1,fun o=>(E o).2.2.2.2.1,fun o=>(E o).2.2.2.2.2⟩;clear E;have u1:∀o,(w1.alloc o).cell? ⟨b,off+(node - W*H).toNat,none⟩=_:=fun o=>(World.cell?_alloc_lt w1 o ⟨b,off+(node - W*H).toNat,none⟩ z).trans G
   go_wp2_with fail
   refine (addK w1 _ w1.heap.size w1.heap.size 0 _ _ _ (Acc.new w1) (by omega)).mono ?_;rintro e k1 ⟨rfl,a1⟩;clear m0 m1 m2 m3 m4 m5 u1;obtain ⟨m0,m1,m2,m3,m4,m5⟩:=zw (J.out.below a1.below D);have u1:=(a1.below.cell (p:=⟨b,off+(node - W*H).toNat,none⟩) z).trans G
   go_wp2_with fail
   refine (addK w1 _ w1.heap.size w1.heap.size 1 _ _ _ (a1) (by omega)).mono ?_;rintro e k2 ⟨rfl,a2⟩;clear m0 m1 m2 m3 m4 m5 u1;obtain ⟨m0,m1,m2,m3,m4,m5⟩:=zw (J.out.below a2.below D);have u1:=(a2.below.cell (p:=⟨b,off+(node - W*H).toNat,none⟩) z).trans G
   go_wp2_with fail
   refine (addK w1 _ w1.heap.size w1.heap.size 2 _ _ _ (a2) (by omega)).mono ?_;rintro e k3 ⟨rfl,a3⟩;clear m0 m1 m2 m3 m4 m5 u1;obtain ⟨m0,m1,m2,m3,m4,m5⟩:=zw (J.out.below a3.below D);have u1:=(a3.below.cell (p:=⟨b,off+(node - W*H).toNat,none⟩) z).trans G
   go_wp2_with fail
   refine (addK w1 _ w1.heap.size w1.heap.size 3 _ _ _ (a3) (by omega)).mono ?_;rintro e k4 ⟨rfl,a4⟩;clear m0 m1 m2 m3 m4 m5 u1;obtain ⟨m0,m1,m2,m3,m4,m5⟩:=zw (J.out.below a4.below D);have u1:=(a4.below.cell (p:=⟨b,off+(node - W*H).toNat,none⟩) z).trans G
   go_wp2_with fail
   refine (addK w1 _ w1.heap.size w1.heap.size 4 _ _ _ (a4) (by omega)).mono ?_;rintro e k5 ⟨rfl,a5⟩;clear m0 m1 m2 m3 m4 m5 u1;obtain ⟨m0,m1,m2,m3,m4,m5⟩:=zw (J.out.below a5.below D);have u1:=(a5.below.cell (p:=⟨b,off+(node - W*H).toNat,none⟩) z).trans G
   go_wp2_with fail
   refine (zY W H L _ _ _ _ (by omega) (by omega)).mono ?_;rintro e kn ⟨rfl,V⟩;have a5:=a5.more V;clear m0 m1 m2 m3 m4 m5 u1;obtain ⟨m0,m1,m2,m3,m4,m5⟩:=zw (J.out.below a5.below D);have u1:=(a5.below.cell (p:=⟨b,off+(node - W*H).toNat,none⟩) z).trans G
   go_wp2_with fail
   refine (addK w1 _ w1.heap.size w1.heap.size 5 _ _ _ (a5) (by omega)).mono ?_;rintro e k6 ⟨rfl,a6⟩;clear m0 m1 m2 m3 m4 m5 u1;obtain ⟨m0,m1,m2,m3,m4,m5⟩:=zw (J.out.below a6.below D);have u1:=(a6.below.cell (p:=⟨b,off+(node - W*H).toNat,none⟩) z).trans G;obtain ⟨vf,b7,K⟩:=a6.end_;have HO:=zh K;clear K
   go_wp2_with fail
   go_ret;refine ⟨vf,rfl,BB O.out (Below.mono a6.below (Dq _)) (Dq _),?_⟩;exact next_fin (HO.out.mono O.out.size) (next_eq _ _ _ _ (by rw [a9.out];exact up_true hA a0) (up_false (Int.not_lt.2 hB)))
 ·by_cases hB:node+W*H<W*H*L
  ·have a7:node.toNat<up.length:=by have:=b5.out;omega
   obtain ⟨b,off,a8,_,I⟩:=CF b4.out a7 a7;have z:=zn I;subst a8;obtain ⟨b2,U⟩:=Ez (up[node.toNat]);rw [<-U] at I;have b0:=zh U;clear U;have D:w.heap.size<w1.heap.size:=za J.out;have E:=fun o=>zw (J.out.alloc o)
   obtain ⟨m0,m1,m2,m3,m4,m5⟩:(∀o,(w1.alloc o).cell? ⟨w.heap.size,0,none⟩=_)/\(∀o,(w1.alloc o).cell? ⟨w.heap.size,1,none⟩=_)/\(∀o,(w1.alloc o).cell? ⟨w.heap.size,2,none⟩=_)/\(∀o,(w1.alloc o).cell? ⟨w.heap.size,3,none⟩=_)/\(∀o,(w1.alloc o).cell? ⟨w.heap.size,4,none⟩=_)/\(∀o,(w1.alloc o).cell? ⟨w.heap.size,5,none⟩=_):=⟨fun o=>(E o).1,fun o=>(E o).2.1,fun o=>(E o).2.2.1,fun o=>(E o).2.2.2.1,fun o=>(E o).2.2.2.2.1,fun o=>(E o).2.2.2.2.2⟩;clear E;have u2:∀o,(w1.alloc o).cell? ⟨b,off+node.toNat,none⟩=_:=fun o=>(World.cell?_alloc_lt w1 o ⟨b,off+node.toNat,none⟩ z).trans I
   go_wp2_with fail
   refine (addK w1 _ w1.heap.size w1.heap.size 0 _ _ _ (Acc.new w1) (by omega)).mono ?_;rintro e k1 ⟨rfl,a1⟩;clear m0 m1 m2 m3 m4 m5 u2;obtain ⟨m0,m1,m2,m3,m4,m5⟩:=zw (J.out.below a1.below D);have u2:=(a1.below.cell (p:=⟨b,off+node.toNat,none⟩) z).trans I
   go_wp2_with fail
   refine (addK w1 _ w1.heap.size w1.heap.size 1 _ _ _ (a1) (by omega)).mono ?_;rintro e k2 ⟨rfl,a2⟩;clear m0 m1 m2 m3 m4 m5 u2;obtain ⟨m0,m1,m2,m3,m4,m5⟩:=zw (J.out.below a2.below D);have u2:=(a2.below.cell (p:=⟨b,off+node.toNat,none⟩) z).trans I
   go_wp2_with fail
   refine (addK w1 _ w1.heap.size w1.heap.size 2 _ _ _ (a2) (by omega)).mono ?_;rintro e k3 ⟨rfl,a3⟩;clear m0 m1 m2 m3 m4 m5 u2;obtain ⟨m0,m1,m2,m3,m4,m5⟩:=zw (J.out.below a3.below D);have u2:=(a3.below.cell (p:=⟨b,off+node.toNat,none⟩) z).trans I
   go_wp2_with fail
   refine (addK w1 _ w1.heap.size w1.heap.size 3 _ _ _ (a3) (by omega)).mono ?_;rintro e k4 ⟨rfl,a4⟩;clear m0 m1 m2 m3 m4 m5 u2;obtain ⟨m0,m1,m2,m3,m4,m5⟩:=zw (J.out.below a4.below D);have u2:=(a4.below.cell (p:=⟨b,off+node.toNat,none⟩) z).trans I
   go_wp2_with fail
   refine (addK w1 _ w1.heap.size w1.heap.size 4 _ _ _ (a4) (by omega)).mono ?_;rintro e k5 ⟨rfl,a5⟩;clear m0 m1 m2 m3 m4 m5 u2;obtain ⟨m0,m1,m2,m3,m4,m5⟩:=zw (J.out.below a5.below D);have u2:=(a5.below.cell (p:=⟨b,off+node.toNat,none⟩) z).trans I
   go_wp2_with fail
   refine (zY W H L _ _ _ _ (by omega) (by omega)).mono ?_;rintro e kn ⟨rfl,V⟩;have a5:=a5.more V;clear m0 m1 m2 m3 m4 m5 u2;obtain ⟨m0,m1,m2,m3,m4,m5⟩:=zw (J.out.below a5.below D);have u2:=(a5.below.cell (p:=⟨b,off+node.toNat,none⟩) z).trans I
   go_wp2_with fail
   refine (addK w1 _ w1.heap.size w1.heap.size 5 _ _ _ (a5) (by omega)).mono ?_;rintro e k6 ⟨rfl,a6⟩;clear m0 m1 m2 m3 m4 m5 u2;obtain ⟨m0,m1,m2,m3,m4,m5⟩:=zw (J.out.below a6.below D);have u2:=(a6.below.cell (p:=⟨b,off+node.toNat,none⟩) z).trans I;obtain ⟨vf,b7,K⟩:=a6.end_;have HO:=zh K;clear K
   go_wp2_with fail
   go_ret;refine ⟨vf,rfl,BB O.out (Below.mono a6.below (Dq _)) (Dq _),?_⟩;exact next_fin (HO.out.mono O.out.size) (next_eq _ _ _ _ (up_false (Int.not_le.2 hA)) (by rw [b0.out];exact up_true hB a7))
  ·have D:w.heap.size<w1.heap.size:=za J.out;have E:=fun o=>zw (J.out.alloc o)
   obtain ⟨m0,m1,m2,m3,m4,m5⟩:(∀o,(w1.alloc o).cell? ⟨w.heap.size,0,none⟩=_)/\(∀o,(w1.alloc o).cell? ⟨w.heap.size,1,none⟩=_)/\(∀o,(w1.alloc o).cell? ⟨w.heap.size,2,none⟩=_)/\(∀o,(w1.alloc o).cell? ⟨w.heap.size,3,none⟩=_)/\(∀o,(w1.alloc o).cell? ⟨w.heap.size,4,none⟩=_)/\(∀o,(w1.alloc o).cell? ⟨w.heap.size,5,none⟩=_):=⟨fun o=>(E o).1,fun o=>(E o).2.1,fun o=>(E o).2.2.1,fun o=>(E o).2.2.2.1,fun o=>(E o).2.2.2.2.1,fun o=>(E o).2.2.2.2.2⟩;clear E
   go_wp2_with fail
   refine (addK w1 _ w1.heap.size w1.heap.size 0 _ _ _ (Acc.new w1) (by omega)).mono ?_;rintro e k1 ⟨rfl,a1⟩;clear m0 m1 m2 m3 m4 m5;obtain ⟨m0,m1,m2,m3,m4,m5⟩:=zw (J.out.below a1.below D)
   go_wp2_with fail
   refine (addK w1 _ w1.heap.size w1.heap.size 1 _ _ _ (a1) (by omega)).mono ?_;rintro e k2 ⟨rfl,a2⟩;clear m0 m1 m2 m3 m4 m5;obtain ⟨m0,m1,m2,m3,m4,m5⟩:=zw (J.out.below a2.below D)
   go_wp2_with fail
   refine (addK w1 _ w1.heap.size w1.heap.size 2 _ _ _ (a2) (by omega)).mono ?_;rintro e k3 ⟨rfl,a3⟩;clear m0 m1 m2 m3 m4 m5;obtain ⟨m0,m1,m2,m3,m4,m5⟩:=zw (J.out.below a3.below D)
   go_wp2_with fail
   refine (addK w1 _ w1.heap.size w1.heap.size 3 _ _ _ (a3) (by omega)).mono ?_;rintro e k4 ⟨rfl,a4⟩;clear m0 m1 m2 m3 m4 m5;obtain ⟨m0,m1,m2,m3,m4,m5⟩:=zw (J.out.below a4.below D)
   go_wp2_with fail
   refine (addK w1 _ w1.heap.size w1.heap.size 4 _ _ _ (a4) (by omega)).mono ?_;rintro e k5 ⟨rfl,a5⟩;clear m0 m1 m2 m3 m4 m5;obtain ⟨m0,m1,m2,m3,m4,m5⟩:=zw (J.out.below a5.below D)
   go_wp2_with fail
   refine (zY W H L _ _ _ _ (by omega) (by omega)).mono ?_;rintro e kn ⟨rfl,V⟩;have a5:=a5.more V;clear m0 m1 m2 m3 m4 m5;obtain ⟨m0,m1,m2,m3,m4,m5⟩:=zw (J.out.below a5.below D)
   go_wp2_with fail
   refine (addK w1 _ w1.heap.size w1.heap.size 5 _ _ _ (a5) (by omega)).mono ?_;rintro e k6 ⟨rfl,a6⟩;clear m0 m1 m2 m3 m4 m5;obtain ⟨m0,m1,m2,m3,m4,m5⟩:=zw (J.out.below a6.below D);obtain ⟨vf,b7,K⟩:=a6.end_;have HO:=zh K;clear K
   go_wp2_with fail
   go_ret;refine ⟨vf,rfl,BB O.out (Below.mono a6.below (Dq _)) (Dq _),?_⟩;exact next_fin (HO.out.mono O.out.size) (next_eq _ _ _ _ (up_false (Int.not_le.2 hA)) (up_false (Int.not_lt.2 hB)))
end
end Go.Proofs.YtnmkmhpgnpojbaaGreatDoor
