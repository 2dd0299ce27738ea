import Derived.WalkKit
import Derived.Lib.Hide
import Derived.Test.YtcnaogdgjkpkmaaGreatDoorRows
import Derived.WalkLawsBesides
import Derived.WalkSpells
import Derived.BigQuiet
import Derived.Deep.QuietTactic
import Derived.ChangeMaps4
import Derived.Maps.RangeRun
import Derived.Deep.RegionHeld
set_option linter.unusedVariables false
set_option linter.unusedSimpArgs false
set_option maxRecDepth 100000
set_option maxHeartbeats 16000000
namespace Go.Proofs.YtcnaogdgjkpkmaaGreatDoor
variable {a:Act} {listed:Array Bool} {es:Array MapEntry} {ops:Array Oper} {l:List Int} {B fuel g k:Nat} {o oi:Oper} {P:Program} {b:World}
section
open Go.RowKit
theorem zh {p: Prop} (h : p) : Hid p := Lib.hid h
theorem za {α: Type} : (∀ (xs : List α) (i : Nat) (h : i < xs.toArray.size), xs.toArray[i] = xs[i]'(by simpa using h)) /\ (∀ (a : α) (l : List α) (i : Nat) (h : i + 1 < (a :: l).length), (a :: l)[i+1] = l[i]'(Nat.lt_of_succ_lt_succ h)) /\ (∀ (a : α) (l : List α) (h : 0 < (a :: l).length), (a :: l)[0] = a) /\ (∀ (l : List α) (i : Nat) (a : α), l.toArray.setIfInBounds i a = (l.set i a).toArray) /\ (∀ (a : α) (l : List α) (b : α), (a :: l).set 0 b = b :: l) /\ (∀ (a : α) (l : List α) (i : Nat) (b : α), (a :: l).set (i+1) b = a :: l.set i b) :=
 ⟨fun _ _ h => List.getElem_toArray h, fun _ _ _ _ => List.getElem_cons_succ .., fun _ _ _ => List.getElem_cons_zero .., fun _ _ _ => List.setIfInBounds_toArray .., fun _ _ _ => rfl, fun _ _ _ _ => rfl⟩
abbrev DA := @List.getElem?_eq_getElem
abbrev DB := @List.getD_eq_getElem?_getD
abbrev DC := @Nat.le_refl
abbrev DD := @List.getElem_mem
abbrev DE := @Nat.le_trans
abbrev DF := @decide_eq_true
abbrev DG := @decide_eq_false
abbrev DH := @List.getElem?_append_left
abbrev DI := @List.getElem?_append_right
abbrev DJ := @List.take_succ_eq_append_getElem
abbrev DK := @List.length_append
abbrev DL := @Below.heap_setCell
abbrev DM := @decide_eq_true_eq
abbrev DN := @List.take_length
abbrev DO := @Bool.and_eq_true
abbrev DP := @beq_eq_false_iff_ne
abbrev DR := @Nat.zero_le
abbrev DS := @World.cell?_of_block
abbrev DT := @wp_region_held_drew
abbrev DU := @List.eq_nil_of_length_eq_zero
abbrev DV := @Below.heap_alloc
abbrev DW := @List.getElem?_eq_none
abbrev DX := @List.mem_cons_of_mem
abbrev DY := @IntKind.wrap_i64
abbrev DZ := @Nat.lt_or_ge
abbrev Ea := @decide_eq_false_iff_not
abbrev Eb := @World.frozen?_of_block
abbrev Ec := @List.length_singleton
abbrev Ed := @AllReadyH.cons
abbrev Ee := @Nat.lt_of_lt_of_le
abbrev Ef := @List.length_filter_le
abbrev Eg := @wpAnyH_done
abbrev Eh := @Option.getD_some
abbrev Ei := @List.getElem_of_mem
abbrev Ej := @List.mem_singleton
abbrev Ek := @List.getElem?_map
abbrev El := @List.length_map
abbrev Em := @Nat.eq_zero_or_pos
abbrev En := @List.mem_cons_self
abbrev Eo := @heap_alloc_new
abbrev Ep := @List.mem_cons
abbrev Er := @List.mem_append
abbrev Es := @List.map_append
abbrev Et := @List.length_take
abbrev Eu := @bodyPost_ret
abbrev Ev := @Array.getElem?_eq_some_iff
abbrev Ew := @List.not_mem_nil
abbrev Ex := @List.mem_filter
abbrev Ey := @List.mem_map
abbrev Ez := @List.mem_range
abbrev EA := @List.length_drop
abbrev EB := @Bool.or_eq_true
abbrev EC := @List.any_eq_true
abbrev ED := @List.all_eq_true
abbrev EE := @of_decide_eq_true
abbrev EF := @List.length_cons
abbrev EG := @List.length_nil
theorem Dz : (∀ (t : Array Value) (f : List Deferred) (d : Tmp) (v : Value), Act.put ⟨t, f⟩ (some d) v = ⟨t.setIfInBounds d v, f⟩) /\ (∀ (a : Act) (v : Value), Act.put a none v = a) := ⟨fun _ _ _ _ => rfl, fun _ _ => rfl⟩
theorem zgd {α: Type _} {l: List α} {d: α} (h : k < l.length) : l.getD k d = l[k] := by rw [List.getD_eq_getElem?_getD, List.getElem?_eq_getElem h]; rfl
theorem EH {α: Sort _} (a : α) : ∃ x, x = a := ⟨_, rfl⟩
theorem EI {K: Act -> World -> Prop} {S: World -> Prop} {G: Act -> World -> Prop} (h : Shut (∀ a w, S w -> (S w -> G a w) -> K a w)) {w: World} (s : S w) (g : S w -> G a w) : K a w := h.out a w s g
theorem ze {md: Region.Mode} {Q: Exit -> Act -> World -> Prop} {S: World -> Prop} (i : Nat) {v: Value} {w: World} (d : S w)
 (h : wpAnyH P md ops Q S fuel (listed.setIfInBounds i true) (a.put oi.dst v) w) (D : ops[i]? = some oi := by rfl) (J : ∀ w, S w -> (execOp a.eval oi).run P w = .ok (.value v) w := by (intro w r; go_simp; try with_reducible rfl)) (I : Region.wanted oi (yielded ops a.tmps) = true := by rfl)
 (G : Region.noSelect ops = true := by kernel_rfl) (hf : Region.free md ops listed i = true := by kernel_rfl) (E : (Region.ready md ops listed).contains i = true := by kernel_rfl)
 (hQ : ∀ c a w, Q (.panic c) (a.put oi.dst v) w -> Q (.panic c) a w := by exact fun _ _ _ h => h) : wpAnyH P md ops Q S (fuel + 1) listed a w := wpAnyH_take D G hf E hQ (.inl ⟨I, J⟩) d h
theorem rtU {md: Region.Mode} {Q: Exit -> Act -> World -> Prop} {S: World -> Prop} (i : Nat) (v : Value) {w: World} (d : S w)
 (I : ∀ w, S w -> (execOp a.eval oi).run P w = .ok (.value v) w) (h : wpAnyH P md ops Q S fuel (listed.setIfInBounds i true) (a.put oi.dst v) w) (r : ops[i]? = some oi := by rfl) (G : Region.wanted oi (yielded ops a.tmps) = true := by rfl)
 (E : Region.noSelect ops = true := by kernel_rfl) (hf : Region.free md ops listed i = true := by kernel_rfl) (D : (Region.ready md ops listed).contains i = true := by kernel_rfl)
 (hQ : ∀ c a w, Q (.panic c) (a.put oi.dst v) w -> Q (.panic c) a w := by exact fun _ _ _ h => h) : wpAnyH P md ops Q S (fuel + 1) listed a w := wpAnyH_take r E hf D hQ (.inl ⟨G, I⟩) d h
theorem zI {md: Region.Mode} {Q: Exit -> Act -> World -> Prop} {S: World -> Prop} (i : Nat) {w: World} (d : S w)
 (h : wpAnyH P md ops Q S fuel (listed.setIfInBounds i true) (a.put oi.dst undef) w) (r : ops[i]? = some oi := by rfl) (G : Region.wanted oi (yielded ops a.tmps) = false := by rfl)
 (E : Region.noSelect ops = true := by kernel_rfl) (hf : Region.free md ops listed i = true := by kernel_rfl) (D : (Region.ready md ops listed).contains i = true := by kernel_rfl)
 (hQ : ∀ c a w, Q (.panic c) (a.put oi.dst undef) w -> Q (.panic c) a w := by exact fun _ _ _ h => h) : wpAnyH P md ops Q S (fuel + 1) listed a w := wpAnyH_take r E hf D hQ (.inr ⟨G, rfl⟩) d h
theorem zC {md: Region.Mode} {Q: Exit -> Act -> World -> Prop} {S: World -> Prop} {w: World} (i : Nat)
 (h : ∀ K' : Act -> World -> Prop, Shut (∀ a w, S w -> (S w -> wpAnyH P md ops Q S fuel (listed.setIfInBounds i true) a w) -> K' a w) -> if Region.wanted o (yielded ops a.tmps) = true then Oper.wp P o a w K' Q else K' (a.put o.dst undef) w)
 (d : ops[i]? = some o := by rfl) (r : Region.ready md ops listed = [i] := by kernel_rfl) : wpAnyH P md ops Q S (fuel + 1) listed a w := wpAnyH_ready r (by simp) (.cons d h .nil)
theorem rdA {md: Region.Mode} {Q: Exit -> Act -> World -> Prop} {S: World -> Prop} (rs : List Nat) {w: World}
 (h : AllReadyH P md ops Q S fuel listed a w rs) (r : Region.ready md ops listed = rs := by kernel_rfl) (d : rs ≠ [] := by simp) : wpAnyH P md ops Q S (fuel + 1) listed a w := wpAnyH_ready r d h
structure MZ where
 w:Int
 h:Int
 l:Int
 free:List (List Bool)
 up:List Bool
 tasks:List (List Int×List Int)
theorem zb {w:World} {o:Obj} (h:w.heap[k]?=some o):k<w.heap.size:=by
 rcases DZ k w.heap.size with h1 | h1
 ·exact h1
 ·rw [Array.getElem?_eq_none h1] at h;cases h
theorem zp {w:World} {a:Addr} {v:Value} (h:w.cell? a=some v):a.block<w.heap.size:=by
 unfold World.cell? at h
 cases hh:w.heap[a.block]? with
 | none=>simp [hh] at h
 | some o=>exact zb hh
theorem CN {w w':World} {a:Addr} (h:w'.heap[a.block]?=w.heap[a.block]?):w'.cell? a=w.cell? a:=DS h
def zW (ok:Nat->Prop) (w w':World):Prop:=∀b,ok b->b<w.heap.size->w'.heap[b]?=w.heap[b]?
theorem zW.refl (ok:Nat->Prop) (w:World):zW ok w w:=fun _ _ _=>rfl
theorem zW.of_below {ok:Nat->Prop} {w w':World} (h:Below w.heap.size w w'):zW ok w w':=fun b _ d=>h.block b d
theorem BB {a w w':World} (h:Below B a w) (d:Below w.heap.size w w') (r:B<=a.heap.size):Below B a w':=h.trans (d.mono (DE r h.size))
def AG (w:World) (ok:Nat->Prop) (size:Nat) (A:Option Addr) (n:Nat) (xs:List Value):Prop:=
 xs.length=n*size/\(0<n->∃b off,A=some ⟨b,off,none⟩/\ok b/\∀j u,xs[j]?=some u->w.cell? ⟨b,off+j,none⟩=some u)
def An (w:World) (ok:Nat->Prop) (size:Nat) (v:Value) (n:Nat) (xs:List Value):Prop:=
 ∃A c,v=.slice A n c/\n<=c/\AG w ok size A n xs
section
variable {w w':World} {ok ok':Nat->Prop} {size n:Nat} {A:Option Addr} {v:Value} {xs:List Value}
theorem AG.keep (h:AG w ok size A n xs) (D:zW ok w w'):AG w' ok size A n xs:=
 ⟨h.1,fun E=>by
  obtain ⟨b,off,e,d,r⟩:=h.2 E;refine ⟨b,off,e,d,fun j u G=>?_⟩;have h1:=r j u G;exact (CN (D b d (zp h1))).trans h1⟩
theorem AG.weaken (h:AG w ok size A n xs) (D:∀b,ok b->ok' b):AG w ok' size A n xs:=
 ⟨h.1,fun E=>by
  obtain ⟨b,off,e,d,r⟩:=h.2 E;exact ⟨b,off,e,D b d,r⟩⟩
theorem AG.nil (w:World) (ok:Nat->Prop) (size:Nat) (A:Option Addr):AG w ok size A 0 []:=⟨by simp,fun h=>absurd h (by omega)⟩
theorem AG.at_ (h:AG w ok 1 A n xs) (E:k<n):∃b off u,A=some ⟨b,off,none⟩/\ok b/\xs[k]?=some u/\w.cell? ⟨b,off+k,none⟩=some u:=by
 obtain ⟨b,off,e,r,D⟩:=h.2 (by omega);have d:k<xs.length:=by have:=h.1;omega
 exact ⟨b,off,xs[k],e,r,DA d,D k _ (DA d)⟩
theorem An.keep (h:An w ok size v n xs) (r:zW ok w w'):An w' ok size v n xs:=by
 obtain ⟨A,c,rfl,d,D⟩:=h;exact ⟨A,c,rfl,d,D.keep r⟩
theorem An.weaken (h:An w ok size v n xs) (r:∀b,ok b->ok' b):An w ok' size v n xs:=by
 obtain ⟨A,c,rfl,d,D⟩:=h;exact ⟨A,c,rfl,d,D.weaken r⟩
theorem An.below (h:An w ok size v n xs) (d:Below w.heap.size w w'):An w' ok size v n xs:=h.keep (zW.of_below d)
theorem An.of_own {base:Nat} {e:TypeId} (h:w.ownsRow base e size v n xs):An w (fun b=>base<=b) size v n xs:=by
 obtain ⟨E,⟨rfl,rfl⟩ | ⟨g,cap,cur,rfl,I,hh,r,D,G,ht⟩⟩:=h
 ·exact ⟨none,0,rfl,DC _,E,fun h=>absurd h (by omega)⟩
 ·refine ⟨some ⟨g,0,none⟩,cap,rfl,r,E,fun _=>⟨g,0,rfl,I,fun j u d=>?_⟩⟩;unfold World.cell?;simp only [hh,Nat.zero_add];rw [<-ht,List.getElem?_take] at d
  split at d
  ·simpa using d
  ·cases d
end
def zn (w:World) (ok:Nat->Prop) (v:Value) (l:List Int):Prop:=An w ok 1 v l.length (l.map (Value.int .i64))
def AZ (w:World) (ok:Nat->Prop) (v:Value) (l:List Bool):Prop:=An w ok 1 v l.length (l.map Value.bool)
def Each {α:Type} (R:Value->α->Prop) (w:World) (ok:Nat->Prop) (v:Value) (l:List α):Prop:=
 ∃vs,An w ok 1 v l.length vs/\∀(i:Nat) x,l[i]?=some x->∃u,vs[i]?=some u/\R u x
def Ai (w:World) (ok:Nat->Prop) (v:Value) (l:List (List Int)):Prop:=Each (zn w ok) w ok v l
def Bd (w:World) (ok:Nat->Prop) (v:Value) (l:List (List Bool)):Prop:=Each (AZ w ok) w ok v l
def BA (w:World) (ok:Nat->Prop) (v:Value) (l:List (List Int×List Int)):Prop:=
 ∃vs,An w ok 3 v l.length vs/\∀(i:Nat) x,l[i]?=some x->∃s u1 u2,vs[i*3]?=some (.string s)/\vs[i*3+1]?=some u1/\vs[i*3+2]?=some u2/\zn w ok u1 x.1/\zn w ok u2 x.2
def zM (w:World) (ok:Nat->Prop) (v:Value) (m:MZ):Prop:=
 ∃f u t,v=.agg #[.int .i64 m.w,.int .i64 m.h,.int .i64 m.l,f,u,t]/\Bd w ok f m.free/\AZ w ok u m.up/\BA w ok t m.tasks
section
variable {w w':World} {ok ok':Nat->Prop} {v:Value}
theorem zn.keep {l:List Int} (h:zn w ok v l) (d:zW ok w w'):zn w' ok v l:=An.keep h d
theorem zn.weaken {l:List Int} (h:zn w ok v l) (d:∀b,ok b->ok' b):zn w ok' v l:=An.weaken h d
theorem zn.below {l:List Int} (h:zn w ok v l) (d:Below w.heap.size w w'):zn w' ok v l:=An.below h d
theorem AZ.keep {l:List Bool} (h:AZ w ok v l) (d:zW ok w w'):AZ w' ok v l:=An.keep h d
theorem AZ.weaken {l:List Bool} (h:AZ w ok v l) (d:∀b,ok b->ok' b):AZ w ok' v l:=An.weaken h d
theorem Each.keep {α:Type} {R R':Value->α->Prop} {l:List α} (h:Each R w ok v l) (D:zW ok w w') (r:∀u x,R u x->R' u x):Each R' w' ok v l:=by
 obtain ⟨vs,d,he⟩:=h;refine ⟨vs,d.keep D,fun i x G=>?_⟩;obtain ⟨u,E,d⟩:=he i x G;exact ⟨u,E,r _ _ d⟩
theorem Each.weaken {α:Type} {R R':Value->α->Prop} {l:List α} (h:Each R w ok v l) (D:∀b,ok b->ok' b) (r:∀u x,R u x->R' u x):Each R' w ok' v l:=by
 obtain ⟨vs,d,he⟩:=h;refine ⟨vs,d.weaken D,fun i x G=>?_⟩;obtain ⟨u,E,d⟩:=he i x G;exact ⟨u,E,r _ _ d⟩
theorem Ai.keep {l:List (List Int)} (h:Ai w ok v l) (d:zW ok w w'):Ai w' ok v l:=Each.keep h d fun _ _ r=>r.keep d
theorem Ai.weaken {l:List (List Int)} (h:Ai w ok v l) (d:∀b,ok b->ok' b):Ai w ok' v l:=Each.weaken h d fun _ _ r=>r.weaken d
theorem Bd.keep {l:List (List Bool)} (h:Bd w ok v l) (d:zW ok w w'):Bd w' ok v l:=Each.keep h d fun _ _ r=>r.keep d
theorem Bd.weaken {l:List (List Bool)} (h:Bd w ok v l) (d:∀b,ok b->ok' b):Bd w ok' v l:=Each.weaken h d fun _ _ r=>r.weaken d
theorem BA.keep {l:List (List Int×List Int)} (h:BA w ok v l) (d:zW ok w w'):BA w' ok v l:=by
 obtain ⟨vs,r,he⟩:=h;refine ⟨vs,r.keep d,fun i x D=>?_⟩;obtain ⟨s,u1,u2,h0,h1,h2,i1,i2⟩:=he i x D;exact ⟨s,u1,u2,h0,h1,h2,i1.keep d,i2.keep d⟩
theorem BA.weaken {l:List (List Int×List Int)} (h:BA w ok v l) (d:∀b,ok b->ok' b):BA w ok' v l:=by
 obtain ⟨vs,r,he⟩:=h;refine ⟨vs,r.weaken d,fun i x D=>?_⟩;obtain ⟨s,u1,u2,h0,h1,h2,i1,i2⟩:=he i x D;exact ⟨s,u1,u2,h0,h1,h2,i1.weaken d,i2.weaken d⟩
theorem zM.keep {m:MZ} (h:zM w ok v m) (d:zW ok w w'):zM w' ok v m:=by
 obtain ⟨f,u,t,rfl,h1,h2,r⟩:=h;exact ⟨f,u,t,rfl,h1.keep d,h2.keep d,r.keep d⟩
theorem zM.weaken {m:MZ} (h:zM w ok v m) (d:∀b,ok b->ok' b):zM w ok' v m:=by
 obtain ⟨f,u,t,rfl,h1,h2,r⟩:=h;exact ⟨f,u,t,rfl,h1.weaken d,h2.weaken d,r.weaken d⟩
theorem zM.below {m:MZ} (h:zM w ok v m) (d:Below w.heap.size w w'):zM w' ok v m:=h.keep (zW.of_below d)
theorem Ai.below {l:List (List Int)} (h:Ai w ok v l) (d:Below w.heap.size w w'):Ai w' ok v l:=h.keep (zW.of_below d)
theorem AZ.below {l:List Bool} (h:AZ w ok v l) (d:Below w.heap.size w w'):AZ w' ok v l:=h.keep (zW.of_below d)
theorem Bd.below {l:List (List Bool)} (h:Bd w ok v l) (d:Below w.heap.size w w'):Bd w' ok v l:=h.keep (zW.of_below d)
theorem BA.below {l:List (List Int×List Int)} (h:BA w ok v l) (d:Below w.heap.size w w'):BA w' ok v l:=h.keep (zW.of_below d)
theorem zn.open (h:zn w ok v l):∃A c,v=.slice A l.length c/\l.length<=c/\AG w ok 1 A l.length (l.map (Value.int .i64)):=h
theorem zn.nil (w:World) (ok:Nat->Prop):zn w ok (.slice none 0 0) []:=⟨none,0,rfl,DC _,AG.nil _ _ _ _⟩
theorem Ae {n:Nat} {A:Option Addr} (h:AG w ok 1 A n (l.map (Value.int .i64))) (E:k<n) (G:k<l.length):
  ∃b off,A=some ⟨b,off,none⟩/\ok b/\w.cell? ⟨b,off+k,none⟩=some (.int .i64 (l[k])):=by
 obtain ⟨b,off,u,e,r,d,D⟩:=h.at_ E;refine ⟨b,off,e,r,?_⟩;rw [Ek,DA G] at d;rw [D,<-d];rfl
theorem CC {l:List Bool} {n:Nat} {A:Option Addr} (h:AG w ok 1 A n (l.map Value.bool)) (E:k<n) (G:k<l.length):
  ∃b off,A=some ⟨b,off,none⟩/\ok b/\w.cell? ⟨b,off+k,none⟩=some (.bool (l[k])):=by
 obtain ⟨b,off,u,e,r,d,D⟩:=h.at_ E;refine ⟨b,off,e,r,?_⟩;rw [Ek,DA G] at d;rw [D,<-d];rfl
theorem BG {α:Type} {R:Value->α->Prop} {l:List α} {vs:List Value} {n:Nat} {A:Option Addr} (h:AG w ok 1 A n vs) (he:∀(i:Nat) x,l[i]?=some x->∃u,vs[i]?=some u/\R u x) (E:k<n) (G:k<l.length):
  ∃b off u,A=some ⟨b,off,none⟩/\ok b/\w.cell? ⟨b,off+k,none⟩=some u/\R u (l[k]):=by
 obtain ⟨b,off,u,e,r,J,D⟩:=h.at_ E;obtain ⟨u',d,I⟩:=he k _ (DA G);rw [J] at d;injection d with d;subst d;exact ⟨b,off,u,e,r,D,I⟩
end
theorem BI {k:IntKind} {a b:Int} (h:a=b):Ending.returned (.int k a)=.returned (.int k b):=by rw [h]
theorem zk {a b:Bool} (h:a=b):Ending.returned (.bool a)=.returned (.bool b):=by rw [h]
theorem zX (W H L:Int) (f u t:Value) (w:World) (h1:-1000000000<=W*H/\W*H<=1000000000) (h2:-1000000000000000<=W*H*L/\W*H*L<=1000000000000000):
  Calls Tryz.prog 57 #[.agg #[.int .i64 W,.int .i64 H,.int .i64 L,f,u,t]] w fun e w'=>e=.returned (.int .i64 (W*H*L))/\Below w.heap.size w w':=by
 obtain ⟨d,r⟩:=h1;obtain ⟨D,E⟩:=h2
 go_enter Tryz.func57,Tryz.ntmps57
 go_wp2;go_ret;exact ⟨rfl,(Below.refl _ _).alloc (DC _) _⟩
theorem qnodes_calls (W H L:Int) (f u t:Value) (w:World) (h1:-1000000000<=W*H/\W*H<=1000000000) (h2:-1000000000000000<=W*H*L/\W*H*L<=1000000000000000):
  Calls Tryz.prog 61 #[.agg #[.int .i64 W,.int .i64 H,.int .i64 L,f,u,t]] w fun e w'=>e=.returned (.int .i64 (W*H*L))/\Below w.heap.size w w':=by
 obtain ⟨d,r⟩:=h1;obtain ⟨D,E⟩:=h2
 go_enter Tryz.func61,Tryz.ntmps61
 go_wp2;go_ret;exact ⟨rfl,(Below.refl _ _).alloc (DC _) _⟩
theorem mod_eq (n m:Int) (hm:0<m) (D:m<=1000000):(wrap64 (n.tmod m+m)).tmod m=n % m:=by
 have h1:n.tmod m<m:=Int.tmod_lt_of_pos n hm
 have h2:-m<n.tmod m:=by
  have:=Int.lt_tmod_of_pos n hm;omega
 rw [IntWalk.wrap64_in _ (by omega),Int.tmod_eq_emod_of_nonneg (by omega),Int.add_emod_right];have d:=Int.tmod_add_mul_tdiv n m;have r:n=n.tmod m+m*n.tdiv m:=d.symm
 conv=>rhs;rw [r]
 rw [Int.add_mul_emod_self_left]
theorem CP (n m:Int) (w:World) (hm:0<m) (d:m<=1000000):
  Calls Tryz.prog 25 #[.int .i64 n,.int .i64 m] w fun e w'=>e=.returned (.int .i64 (n % m))/\w=w':=by
 have h:=mod_eq n m hm d;have H:=zh h;clear h
 go_enter Tryz.func25,Tryz.ntmps25
 go_wp2;go_ret;exact ⟨BI H.out,rfl⟩
theorem zR (h:k<l.length) (n:Int):n∈l.take (k+1)↔n∈l.take k\/n=l[k]:=by
 rw [DJ h,Er,Ej]
theorem has_calls {ok:Nat->Prop} {v:Value} (n:Int) (w:World) (h:zn w ok v l) (U:l.length<=20000000000000):
  Calls Tryz.prog 62 #[v,.int .i64 n] w fun e w'=>e=.returned (.bool (decide (n∈l)))/\w=w':=by
 obtain ⟨A,c,rfl,O,K⟩:=h;have L:=zh K;clear K
 go_enter Tryz.func62,Tryz.ntmps62
 go_wp2
 go_loop [5] (fun i=>∃k:Nat,k<=l.length/\i=.int .i64 k/\Hid (n∉l.take k)) (fun i=>l.length - (intOf i).toNat)
 case atStart=>exact ⟨0,DR _,rfl,by simp [Hid]⟩
 case round=>
  obtain ⟨k,Q,rfl,J⟩:=hrel;by_cases E:k<l.length
  ·obtain ⟨b,off,rfl,_,D⟩:=Ae L.out E E;obtain ⟨x,G⟩:=EH (l[k]);rw [<-G] at D;have I:=zh G;clear G;by_cases d:x=n
   ·have M:(x==n)=true:=by simp [d]
    have r:=zh d;clear d;go_wp2;go_ret;exact ⟨zk (by simp only [true_eq_decide_iff];rw [<-r.out,I.out];exact DD _),rfl⟩
   ·have M:(x==n)=false:=by simp [d]
    have r:=zh d;clear d;go_wp2
    go_round
    case rel=>exact ⟨k+1,by omega,by go_num,fun hm=>by
     rcases (zR E n).1 hm with h | h
     ·exact J.out h
     ·exact r.out (I.out.trans h.symm)⟩
    case measure=>simp [intOf];omega
  ·obtain rfl:k=l.length:=by omega
   go_wp2;go_ret;exact ⟨zk (by have h:=J.out;rw [DN] at h;simp [h]),rfl⟩
theorem index_calls {ok:Nat->Prop} {v:Value} (n:Int) (w:World) (h:zn w ok v l) (hl:l.length<=20000000000000):
  Calls Tryz.prog 95 #[v,.int .i64 n] w fun e w'=>∃r:Int,e=.returned (.int .i64 r)/\(0<=r↔n∈l)/\-1<=r/\w=w':=by
 obtain ⟨A,c,rfl,U,M⟩:=h;have O:=zh M;clear M
 go_enter Tryz.func95,Tryz.ntmps95
 go_wp2
 go_loop [8] (fun i=>∃k:Nat,k<=l.length/\i=.int .i64 k/\Hid (n∉l.take k)) (fun i=>l.length - (intOf i).toNat)
 case atStart=>exact ⟨0,DR _,rfl,by simp [Hid]⟩
 case round=>
  obtain ⟨k,V,rfl,L⟩:=hrel;by_cases G:k<l.length
  ·obtain ⟨b,off,rfl,_,E⟩:=Ae O.out G G;obtain ⟨x,I⟩:=EH (l[k]);rw [<-I] at E;have J:=zh I;clear I;by_cases d:n=x
   ·have Q:(n==x)=true:=by simp [d]
    have D:=zh d;clear d;go_wp2;go_ret;exact ⟨_,rfl,⟨fun _=>by rw [D.out,J.out];exact DD _,fun _=>by omega⟩,by omega,rfl⟩
   ·have Q:(n==x)=false:=by simp [d]
    have D:=zh d;clear d;go_wp2
    go_round
    case rel=>exact ⟨k+1,by omega,by go_num,fun hm=>by
     rcases (zR G n).1 hm with h | h
     ·exact L.out h
     ·exact D.out (h.trans J.out.symm)⟩
    case measure=>simp [intOf];omega
  ·obtain rfl:k=l.length:=by omega
   go_wp2;go_ret;have h:=L.out;rw [DN] at h;exact ⟨_,rfl,⟨fun K=>by omega,fun K=>absurd K h⟩,by omega,rfl⟩
theorem zt {ok:Nat->Prop} {v:Value} (n:Int) (w:World) (h:zn w ok v l) (G:l.length<=20000000000000):
  Calls Tryz.prog 56 #[v,.int .i64 n] w fun e w'=>e=.returned (.bool (decide (n∈l)))/\w=w':=by
 have d:=index_calls n w h G;obtain ⟨A,c,rfl,J,D⟩:=h;have H:=zh d;clear d;clear D
 go_enter Tryz.func56,Tryz.ntmps56
 go_wp2_with fail
 refine H.out.mono ?_;rintro e w' ⟨r,rfl,D,I,rfl⟩;have E:=zh D;clear D
 go_wp2_with fail
 go_ret;exact ⟨zk (by rw [decide_eq_decide];exact E.out),rfl⟩
theorem Dl {a w:World} (h:Below B a w) (n:Nat):Below B a (w.drewN n):=⟨h.os,h.tape,h.output,h.size,h.block⟩
theorem take_succ_eq {α:Type} {a b:List α} (d:k<a.length) (r:k<b.length):a.take (k+1)=b.take (k+1)↔a.take k=b.take k/\a[k]=b[k]:=by
 rw [DJ d,DJ r];constructor
 ·intro h;have D:(a.take k).length=(b.take k).length:=by simp;omega
  have:=List.append_inj h D;simpa using this
 ·rintro ⟨h1,h2⟩;rw [h1,h2]
def zG (w w':World):Prop:=∃n,w'=w.drewN n
theorem zG.refl (w:World):zG w w:=⟨0,rfl⟩
theorem zG.trans {a c:World} (h:zG a b) (d:zG b c):zG a c:=by
 obtain ⟨n,rfl⟩:=h;obtain ⟨m,rfl⟩:=d;exact ⟨n+m,by rw [World.drewN_drewN]⟩
theorem zG.more {a:World} (h:zG a b) (n:Nat):zG a (b.drewN n):=h.trans ⟨n,rfl⟩
theorem zG.same {a:World} (h:zG a b) (ok:Nat->Prop):zW ok a b:=by
 obtain ⟨n,rfl⟩:=h;exact fun _ _ _=>rfl
theorem zG.below {a:World} (h:zG a b) (B:Nat):Below B a b:=by
 obtain ⟨n,rfl⟩:=h;exact Dl (Below.refl _ _) n
theorem same_calls {ok ok':Nat->Prop} {v v':Value} {a b:List Int} (w:World) (h:zn w ok v a) (h':zn w ok' v' b) (hl:a.length<=20000000000000) (a8:b.length<=20000000000000):
  Calls Tryz.prog 44 #[v,v'] w fun e w'=>e=.returned (.bool (decide (a=b)))/\zG w w':=by
 obtain ⟨A,c,rfl,hc,hr⟩:=h;obtain ⟨A',c',rfl,a7,L⟩:=h';have HR:=zh hr;clear hr;have O:=zh L;clear L;by_cases d:a.length=b.length
 ·have U:((a.length:Int) != (b.length:Int))=false:=by simp [d]
  have a9:a.length<=b.length:=by omega
  have a3:b.length<=a.length:=by omega
  have M:=zh d;clear d
  go_enter Tryz.func44,Tryz.ntmps44
  go_wp2;go_loopw [5] (fun i wr=>∃k:Nat,k<=a.length/\i=.int .i64 k/\Hid (a.take k=b.take k)/\Hid (zG w wr)) (fun i _=>a.length - (intOf i).toNat)
  case atStart=>exact ⟨0,DR _,rfl,by simp [Hid],zG.refl _⟩
  case round=>
   obtain ⟨k,hk,rfl,heq,K⟩:=hrel;by_cases J:k<a.length
   ·have D:k<b.length:=by omega
    obtain ⟨bA,off,rfl,_,I⟩:=Ae (HR.out.keep (K.out.same ok)) J J;obtain ⟨bB,off',rfl,_,E⟩:=Ae (O.out.keep (K.out.same ok')) D D;obtain ⟨x,V⟩:=EH (a[k]);obtain ⟨y,hy⟩:=EH (b[k]);rw [<-V] at I;rw [<-hy] at E;have HX:=zh V;clear V;have HY:=zh hy;clear hy;by_cases r:x=y
    ·have Q:(x != y)=false:=by simp [r]
     have G:=zh r;clear r;go_wp2;go_quiet (fail)
     go_wp2;go_roundw
     case rel=>exact ⟨k+1,by omega,by go_num,(take_succ_eq J D).2 ⟨heq.out,by rw [<-HX.out,<-HY.out,G.out]⟩,K.out.more _⟩
     case measure=>simp [intOf];omega
    ·have Q:(x != y)=true:=by simp [r]
     have G:=zh r;clear r;go_wp2;go_quiet (fail)
     go_wp2;go_ret;refine ⟨zk ?_,K.out.more _⟩;rw [eq_comm,Ea];rintro rfl;exact G.out (HX.out.trans HY.out.symm)
   ·obtain rfl:k=a.length:=by omega
    go_wp2;go_ret;refine ⟨zk ?_,K.out⟩;have h:=heq.out;rw [DN,M.out,DN] at h;simp [h]
 ·have U:((a.length:Int) != (b.length:Int))=true:=by simp only [bne_iff_ne];omega
  have M:=zh d;clear d
  go_enter Tryz.func44,Tryz.ntmps44
  go_wp2;go_ret;refine ⟨zk ?_,zG.refl _⟩;rw [eq_comm,Ea];rintro rfl;exact M.out rfl
end
section
open Go.RowKit
open Go.ChangeMaps (setBlock)
def zx:List Int->Nat->List MapEntry
 | [],_=>[]
 | x :: l,b=>{ key:=.int .i64 x,val:=.bool true,born:=b } :: zx l (b+1)
def mapObj (l:List Int):Obj:=.map (zx l 0).toArray l.length
def zB (w:World) (g:Nat) (l:List Int):Prop:=w.heap[g]?=some (mapObj l)
def ins (l:List Int) (x:Int):List Int:=if x∈l then l else l++[x]
theorem mem_ins {x y:Int}:y∈ins l x↔y∈l\/y=x:=by
 unfold ins
 split
 ·constructor
  ·exact .inl
  ·rintro (h | rfl)
   ·exact h
   ·assumption
 ·simp
theorem Cs:∀(l:List Int) (b:Nat),(zx l b).length=l.length
 | [],_=>rfl
 | _ :: l,b=>by simp [zx,Cs l]
theorem Dm:∀(l l':List Int) (b:Nat),zx (l++l') b=zx l b++zx l' (b+l.length)
 | [],_,_=>by simp [zx]
 | _ :: l,l',b=>by simp [zx,Dm l l' (b+1),Nat.add_assoc,Nat.add_comm 1]
theorem Ca:∀(l:List Int) (b i:Nat),(zx l b)[i]?=(l[i]?).map fun x=>{ key:=.int .i64 x,val:=.bool true,born:=b+i }
 | [],_,_=>by simp [zx]
 | x :: l,b,0=>by simp [zx]
 | x :: l,b,i+1=>by simp [zx,Ca l (b+1) i,Nat.add_assoc,Nat.add_comm 1]
theorem zB.keep {ok:Nat->Prop} {w w':World} (h:zB w g l) (r:zW ok w w') (d:ok g):zB w' g l:=(r g d (zb h)).trans h
theorem zB.below {w w':World} (h:zB w g l) (d:Below w.heap.size w w'):zB w' g l:=(d.block g (zb h)).trans h
theorem zB.new (w:World):zB (w.alloc (.map #[] 0)) w.heap.size []:=Eo _ _
open Go.Instr in
theorem Dn (x:Int):∀(l:List Int) (b s:Nat),findNow (.int .i64) (.int .i64 x) (zx l b) s=some (if x∈l then some (s+l.idxOf x,.bool true) else none)
 | [],_,_=>by simp [zx,findNow]
 | y :: l,b,s=>by
  simp only [zx,findNow,sameNow,if_true];by_cases h:x=y
  ·subst h;simp
  ·have D:(x==y)=false:=by simpa using h
   have r:(y==x)=false:=by simpa using fun e:y=x=>h e.symm
   simp only [D];rw [Dn x l (b+1) (s+1)];by_cases hm:x∈l
   ·have d:x∈y :: l:=DX _ hm;rw [if_pos hm,if_pos d,List.idxOf_cons,r];simp only [cond_false,Bool.false_eq_true,if_false];rw [show s+1+l.idxOf x=s+(l.idxOf x+1) by omega]
   ·have d:¬ x∈y :: l:=by simp [h,hm]
    rw [if_neg hm,if_neg d]
theorem run_getObj' {w:World} {n:Nat} (h:w.heap[g]?=some (.map es n)):(getObj g).run P w=.ok (.map es n) w:=by simp [getObj,Sem.run,h]
theorem run_setObj' {w:World} {n:Nat} (o':Obj) (h:w.heap[g]?=some (.map es n)):(setObj g o').run P w=.ok () (setBlock w g o'):=by
 simp [setObj,Sem.run,h,setBlock]
open Go.Instr in
theorem run_checkKey (b:Bool) (n:Nat) (x:Int) (w:World):(checkKey b (n+1) 3 (.int .i64 x)).run Tryz.prog w=.ok () w:=by
 simp [checkKey,run_underlying Tryz.underlying3]
theorem run_look {w:World} (h:zB w g l) (x:Int) (t:TypeId) (ht:Tryz.prog.underlying t=some (.map 3 4)):
  (Instr.lookup t (.map (some g)) (.int .i64 x) false).run Tryz.prog w=.ok (.bool (decide (x∈l))) w:=by
 have d:∀w,(zeroValue 4).run Tryz.prog w=.ok (.bool false) w:=fun w=>by kernel_rfl
 unfold Instr.lookup;simp only [Sem.run_bind,run_underlying ht,Result.andThen_ok,run_getObj' h,mapObj,Sem.run_pure];rw [show (10000:Nat)=9999+1 from rfl,run_checkKey];simp only [Result.andThen_ok,Instr.findKey,Sem.run_bind,run_underlying Tryz.underlying3,List.toList_toArray,Dn];by_cases hm:x∈l
 ·simp [hm]
 ·simp [hm,d]
theorem setBlk_same {w:World} {o o':Obj} (h:w.heap[g]?=some o):(setBlock w g o').heap[g]?=some o':=by
 have:=zb h;simp [setBlock,this]
theorem Dd {w:World} (o:Obj) (h:k≠g):(setBlock w g o).heap[k]?=w.heap[k]?:=by
 simp [setBlock,Ne.symm h]
theorem run_add {w:World} (h:zB w g l) (x:Int) (t:TypeId) (ht:Tryz.prog.underlying t=some (.map 3 4)):
  ∃w',(Instr.mapUpdate t (.map (some g)) (.int .i64 x) (.bool true)).run Tryz.prog w=.ok () w'/\zB w' g (ins l x)/\w.grownBy w' (some g):=by
 refine ⟨setBlock w g (mapObj (ins l x)),?_,setBlk_same h,⟨rfl,rfl,rfl,by simp [setBlock],fun k _ D=>Dd _ (fun e=>D (by rw [e]))⟩⟩;unfold Instr.mapUpdate;simp only [Sem.run_bind,run_underlying ht,Result.andThen_ok,run_getObj' h,mapObj];rw [show (10000:Nat)=9999+1 from rfl,run_checkKey];simp only [Result.andThen_ok,Instr.findKey,Sem.run_bind,run_underlying Tryz.underlying3,List.toList_toArray,Dn];by_cases hm:x∈l
 ·simp only [hm,if_true,Sem.run_pure,Result.andThen_ok,Nat.zero_add];have r:l.idxOf x<l.length:=List.idxOf_lt_length_of_mem hm;have E:l[l.idxOf x]=x:=List.getElem_idxOf r
  have D:∀W,(Instr.keyThatStays ((((zx l 0).toArray[l.idxOf x]?).map (·.key)).getD (.int .i64 x)) (.int .i64 x)).run Tryz.prog W=.ok (.int .i64 x) W:=by
   intro W;rw [List.getElem?_toArray,Ca,DA r];simp [Instr.keyThatStays,Instr.sameBits,E]
  rw [Sem.run_bind,D];simp only [Result.andThen_ok]
  have d:(zx l 0).toArray.modify (l.idxOf x) (fun e=>{ e with key:=.int .i64 x,val:=.bool true })=(zx l 0).toArray:=by
   apply Array.ext_getElem?;intro i;rw [Array.getElem?_modify]
   split
   ·rename_i e
    subst e;rw [List.getElem?_toArray,Ca,DA r];simp [E]
   ·rfl
  rw [d,run_setObj' _ h];have:ins l x=l:=by simp [ins,hm]
  rw [this]
 ·simp only [hm,if_false,Sem.run_pure,Result.andThen_ok];rw [run_setObj' _ h];have:ins l x=l++[x]:=by simp [ins,hm]
  rw [this,Dm];simp [zx]
theorem CA {rest:List Oper} {w:World} {Q:Exit->Act->World->Prop} (G:o.guard=none) (m y v:Operand) (t:TypeId) (D:o.op=Op.mapUpdate t m y v)
  (ht:Tryz.prog.underlying t=some (.map 3 4)) (g:Nat) (l:List Int) (x:Int) (hm:a.eval m=.map (some g)) (K:a.eval y=.int .i64 x) (J:a.eval v=.bool true) (I:zB w g l)
  (E:∀w',zB w' g (ins l x)->w.grownBy w' (some g)->wpList Tryz.prog ops Q rest (a.put o.dst undef) w'):wpList Tryz.prog ops Q (o :: rest) a w:=by
 refine wpList_plain G fun K' r=>?_
 obtain ⟨w',d,h1,h2⟩:=run_add I x t ht;unfold Oper.wp;simp [execOp,D,hm,K,J,d,Result.andThen];exact r _ _ (E w' h1 h2)
end
end Go.Proofs.YtcnaogdgjkpkmaaGreatDoor
