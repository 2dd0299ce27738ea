import Derived.WalkKit
import Derived.Lib.Hide
import Derived.Test.YtfjjdmpndmbfoaaGreatDoorRows
import Derived.WalkLawsBesides
import Derived.WalkSpells
import Derived.BigQuiet
import Derived.Deep.QuietTactic
import Derived.ChangeMaps4
import Derived.Maps.RangeRun
import Derived.Deep.DeepCutAuto
import Derived.Deep.AppendLies
import Derived.Deep.Onto
import Derived.Deep.RegionHeld
set_option linter.unusedVariables false
set_option linter.unusedSimpArgs false
set_option maxRecDepth 100000
set_option maxHeartbeats 16000000
namespace Go.Proofs.YtfjjdmpndmbfoaaGreatDoor
variable {a:Act} {listed:Array Bool} {es:Array MapEntry} {ops:Array Oper} {cs:Array Value} {Q:Exit->Act->World->Prop} {x y:Int} {from_ l used:List Int} {rest:List Oper} {B fuel g gb k t:Nat} {o oi:Oper} {P:Program} {v':Value} {b w0:World}
section
open Go.RowKit
theorem zh {p: Prop} (h : p) : Hid p := Lib.hid h
theorem zd {α: Type} : (∀ (xs : List α) (i : Nat) (h : i < xs.toArray.size), xs.toArray[i] = xs[i]'(by simpa using h)) /\ (∀ (a : α) (l : List α) (i : Nat) (h : i + 1 < (a :: l).length), (a :: l)[i+1] = l[i]'(Nat.lt_of_succ_lt_succ h)) /\ (∀ (a : α) (l : List α) (h : 0 < (a :: l).length), (a :: l)[0] = a) /\ (∀ (l : List α) (i : Nat) (a : α), l.toArray.setIfInBounds i a = (l.set i a).toArray) /\ (∀ (a : α) (l : List α) (b : α), (a :: l).set 0 b = b :: l) /\ (∀ (a : α) (l : List α) (i : Nat) (b : α), (a :: l).set (i+1) b = a :: l.set i b) :=
 ⟨fun _ _ h => List.getElem_toArray h, fun _ _ _ _ => List.getElem_cons_succ .., fun _ _ _ => List.getElem_cons_zero .., fun _ _ _ => List.setIfInBounds_toArray .., fun _ _ _ => rfl, fun _ _ _ _ => rfl⟩
abbrev DC := @List.getElem?_eq_getElem
abbrev DD := @List.getD_eq_getElem?_getD
abbrev DE := @Nat.le_refl
abbrev DF := @List.getElem_mem
abbrev DG := @Nat.le_trans
abbrev DH := @decide_eq_true
abbrev DI := @decide_eq_false
abbrev DJ := @List.getElem?_append_left
abbrev DK := @List.getElem?_append_right
abbrev DL := @List.take_succ_eq_append_getElem
abbrev DM := @List.length_append
abbrev DN := @Below.heap_setCell
abbrev DO := @decide_eq_true_eq
abbrev DP := @List.take_length
abbrev DQ := @Bool.and_eq_true
abbrev DR := @beq_eq_false_iff_ne
abbrev DS := @Nat.zero_le
abbrev DT := @World.cell?_of_block
abbrev DU := @wp_region_held_drew
abbrev DV := @List.eq_nil_of_length_eq_zero
abbrev DW := @Below.heap_alloc
abbrev DX := @List.getElem?_eq_none
abbrev DY := @List.mem_cons_of_mem
abbrev DZ := @IntKind.wrap_i64
abbrev Ea := @Nat.lt_or_ge
abbrev Eb := @decide_eq_false_iff_not
abbrev Ec := @World.frozen?_of_block
abbrev Ed := @List.length_singleton
abbrev Ee := @AllReadyH.cons
abbrev Ef := @Nat.lt_of_lt_of_le
abbrev Eg := @List.length_filter_le
abbrev Eh := @wpAnyH_done
abbrev Ei := @Option.getD_some
abbrev Ej := @List.getElem_of_mem
abbrev Ek := @List.mem_singleton
abbrev El := @List.getElem?_map
abbrev Em := @List.length_map
abbrev En := @Nat.eq_zero_or_pos
abbrev Eo := @List.mem_cons_self
abbrev Ep := @heap_alloc_new
abbrev Er := @List.mem_cons
abbrev Es := @List.mem_append
abbrev Et := @List.map_append
abbrev Eu := @List.length_take
abbrev Ev := @bodyPost_ret
abbrev Ew := @List.getElem?_eq_some_iff
abbrev Ex := @Array.getElem?_eq_some_iff
abbrev Ey := @List.not_mem_nil
abbrev Ez := @List.mem_filter
abbrev EA := @List.mem_map
abbrev EB := @List.mem_range
abbrev EC := @Bool.or_eq_true
abbrev ED := @List.any_eq_true
abbrev EE := @List.all_eq_true
abbrev EF := @List.length_cons
abbrev EG := @List.length_nil
theorem DB : (∀ (t : Array Value) (f : List Deferred) (d : Tmp) (v : Value), Act.put ⟨t, f⟩ (some d) v = ⟨t.setIfInBounds d v, f⟩) /\ (∀ (a : Act) (v : Value), Act.put a none v = a) := ⟨fun _ _ _ _ => rfl, fun _ _ => rfl⟩
theorem zgd {α: Type _} {l: List α} {d: α} (h : k < l.length) : l.getD k d = l[k] := by rw [List.getD_eq_getElem?_getD, List.getElem?_eq_getElem h]; rfl
theorem EH {α: Sort _} (a : α) : ∃ x, x = a := ⟨_, rfl⟩
theorem EI {K: Act -> World -> Prop} {S: World -> Prop} {G: Act -> World -> Prop} (h : Shut (∀ a w, S w -> (S w -> G a w) -> K a w)) {w: World} (s : S w) (g : S w -> G a w) : K a w := h.out a w s g
theorem zA {md: Region.Mode} {Q: Exit -> Act -> World -> Prop} {S: World -> Prop} (i : Nat) {v: Value} {w: World} (d : S w)
 (h : wpAnyH P md ops Q S fuel (listed.setIfInBounds i true) (a.put oi.dst v) w) (E : ops[i]? = some oi := by rfl) (K : ∀ w, S w -> (execOp a.eval oi).run P w = .ok (.value v) w := by (intro w D; go_simp; try with_reducible rfl)) (J : Region.wanted oi (yielded ops a.tmps) = true := by rfl)
 (I : Region.noSelect ops = true := by kernel_rfl) (hf : Region.free md ops listed i = true := by kernel_rfl) (G : (Region.ready md ops listed).contains i = true := by kernel_rfl)
 (hQ : ∀ c a w, Q (.panic c) (a.put oi.dst v) w -> Q (.panic c) a w := by exact fun _ _ _ h => h) : wpAnyH P md ops Q S (fuel + 1) listed a w := wpAnyH_take E I hf G hQ (.inl ⟨J, K⟩) d h
theorem rtU {md: Region.Mode} {Q: Exit -> Act -> World -> Prop} {S: World -> Prop} (i : Nat) (v : Value) {w: World} (d : S w)
 (J : ∀ w, S w -> (execOp a.eval oi).run P w = .ok (.value v) w) (h : wpAnyH P md ops Q S fuel (listed.setIfInBounds i true) (a.put oi.dst v) w) (D : ops[i]? = some oi := by rfl) (I : Region.wanted oi (yielded ops a.tmps) = true := by rfl)
 (G : Region.noSelect ops = true := by kernel_rfl) (hf : Region.free md ops listed i = true := by kernel_rfl) (E : (Region.ready md ops listed).contains i = true := by kernel_rfl)
 (hQ : ∀ c a w, Q (.panic c) (a.put oi.dst v) w -> Q (.panic c) a w := by exact fun _ _ _ h => h) : wpAnyH P md ops Q S (fuel + 1) listed a w := wpAnyH_take D G hf E hQ (.inl ⟨I, J⟩) d h
theorem rtN {md: Region.Mode} {Q: Exit -> Act -> World -> Prop} {S: World -> Prop} (i : Nat) {w: World} (d : S w)
 (h : wpAnyH P md ops Q S fuel (listed.setIfInBounds i true) (a.put oi.dst undef) w) (D : ops[i]? = some oi := by rfl) (I : Region.wanted oi (yielded ops a.tmps) = false := by rfl)
 (G : Region.noSelect ops = true := by kernel_rfl) (hf : Region.free md ops listed i = true := by kernel_rfl) (E : (Region.ready md ops listed).contains i = true := by kernel_rfl)
 (hQ : ∀ c a w, Q (.panic c) (a.put oi.dst undef) w -> Q (.panic c) a w := by exact fun _ _ _ h => h) : wpAnyH P md ops Q S (fuel + 1) listed a w := wpAnyH_take D G hf E hQ (.inr ⟨I, rfl⟩) d h
theorem Ae {md: Region.Mode} {Q: Exit -> Act -> World -> Prop} {S: World -> Prop} {w: World} (i : Nat)
 (h : ∀ K' : Act -> World -> Prop, Shut (∀ a w, S w -> (S w -> wpAnyH P md ops Q S fuel (listed.setIfInBounds i true) a w) -> K' a w) -> if Region.wanted o (yielded ops a.tmps) = true then Oper.wp P o a w K' Q else K' (a.put o.dst undef) w)
 (d : ops[i]? = some o := by rfl) (D : Region.ready md ops listed = [i] := by kernel_rfl) : wpAnyH P md ops Q S (fuel + 1) listed a w := wpAnyH_ready D (by simp) (.cons d h .nil)
theorem rdA {md: Region.Mode} {Q: Exit -> Act -> World -> Prop} {S: World -> Prop} (rs : List Nat) {w: World}
 (h : AllReadyH P md ops Q S fuel listed a w rs) (D : Region.ready md ops listed = rs := by kernel_rfl) (d : rs ≠ [] := by simp) : wpAnyH P md ops Q S (fuel + 1) listed a w := wpAnyH_ready D d h
structure MZ where
 w:Int
 h:Int
 l:Int
 free:List (List Bool)
 up:List Bool
 tasks:List (List Int×List Int)
theorem za {w:World} {o:Obj} (h:w.heap[k]?=some o):k<w.heap.size:=by
 rcases Ea k w.heap.size with h1 | h1
 ·exact h1
 ·rw [Array.getElem?_eq_none h1] at h;cases h
theorem zn {w:World} {a:Addr} {v:Value} (h:w.cell? a=some v):a.block<w.heap.size:=by
 unfold World.cell? at h
 cases hh:w.heap[a.block]? with
 | none=>simp [hh] at h
 | some o=>exact za hh
theorem CP {w w':World} {a:Addr} (h:w'.heap[a.block]?=w.heap[a.block]?):w'.cell? a=w.cell? a:=DT h
def zZ (ok:Nat->Prop) (w w':World):Prop:=∀b,ok b->b<w.heap.size->w'.heap[b]?=w.heap[b]?
theorem zZ.refl (ok:Nat->Prop) (w:World):zZ ok w w:=fun _ _ _=>rfl
theorem zZ.of_below {ok:Nat->Prop} {w w':World} (h:Below w.heap.size w w'):zZ ok w w':=fun b _ d=>h.block b d
theorem BE {a w w':World} (h:Below B a w) (d:Below w.heap.size w w') (D:B<=a.heap.size):Below B a w':=h.trans (d.mono (DG D h.size))
def AD (w:World) (ok:Nat->Prop) (size:Nat) (A:Option Addr) (n:Nat) (xs:List Value):Prop:=
 xs.length=n*size/\(0<n->∃b off,A=some ⟨b,off,none⟩/\ok b/\∀j u,xs[j]?=some u->w.cell? ⟨b,off+j,none⟩=some u)
def Bc (w:World) (ok:Nat->Prop) (size:Nat) (v:Value) (n:Nat) (xs:List Value):Prop:=
 ∃A c,v=.slice A n c/\n<=c/\AD w ok size A n xs
section
variable {w w':World} {ok ok':Nat->Prop} {size n:Nat} {A:Option Addr} {v:Value} {xs:List Value}
theorem AD.keep (h:AD w ok size A n xs) (E:zZ ok w w'):AD w' ok size A n xs:=
 ⟨h.1,fun G=>by
  obtain ⟨b,off,e,d,D⟩:=h.2 G;refine ⟨b,off,e,d,fun j u I=>?_⟩;have h1:=D j u I;exact (CP (E b d (zn h1))).trans h1⟩
theorem AD.weaken (h:AD w ok size A n xs) (E:∀b,ok b->ok' b):AD w ok' size A n xs:=
 ⟨h.1,fun G=>by
  obtain ⟨b,off,e,d,D⟩:=h.2 G;exact ⟨b,off,e,E b d,D⟩⟩
theorem AD.nil (w:World) (ok:Nat->Prop) (size:Nat) (A:Option Addr):AD w ok size A 0 []:=⟨by simp,fun h=>absurd h (by omega)⟩
theorem AD.at_ (h:AD w ok 1 A n xs) (G:k<n):∃b off u,A=some ⟨b,off,none⟩/\ok b/\xs[k]?=some u/\w.cell? ⟨b,off+k,none⟩=some u:=by
 obtain ⟨b,off,e,D,E⟩:=h.2 (by omega);have d:k<xs.length:=by have:=h.1;omega
 exact ⟨b,off,xs[k],e,D,DC d,E k _ (DC d)⟩
theorem Bc.keep (h:Bc w ok size v n xs) (D:zZ ok w w'):Bc w' ok size v n xs:=by
 obtain ⟨A,c,rfl,d,E⟩:=h;exact ⟨A,c,rfl,d,E.keep D⟩
theorem Bc.weaken (h:Bc w ok size v n xs) (D:∀b,ok b->ok' b):Bc w ok' size v n xs:=by
 obtain ⟨A,c,rfl,d,E⟩:=h;exact ⟨A,c,rfl,d,E.weaken D⟩
theorem Bc.below (h:Bc w ok size v n xs) (d:Below w.heap.size w w'):Bc w' ok size v n xs:=h.keep (zZ.of_below d)
theorem Bc.of_own {base:Nat} {e:TypeId} (h:w.ownsRow base e size v n xs):Bc w (fun b=>base<=b) size v n xs:=by
 obtain ⟨G,⟨rfl,rfl⟩ | ⟨g,cap,cur,rfl,J,hh,D,E,I,ht⟩⟩:=h
 ·exact ⟨none,0,rfl,DE _,G,fun h=>absurd h (by omega)⟩
 ·refine ⟨some ⟨g,0,none⟩,cap,rfl,D,G,fun _=>⟨g,0,rfl,J,fun j u d=>?_⟩⟩;unfold World.cell?;simp only [hh,Nat.zero_add];rw [<-ht,List.getElem?_take] at d
  split at d
  ·simpa using d
  ·cases d
end
def zl (w:World) (ok:Nat->Prop) (v:Value) (l:List Int):Prop:=Bc w ok 1 v l.length (l.map (Value.int .i64))
def AR (w:World) (ok:Nat->Prop) (v:Value) (l:List Bool):Prop:=Bc w ok 1 v l.length (l.map Value.bool)
def Each {α:Type} (R:Value->α->Prop) (w:World) (ok:Nat->Prop) (v:Value) (l:List α):Prop:=
 ∃vs,Bc w ok 1 v l.length vs/\∀(i:Nat) x,l[i]?=some x->∃u,vs[i]?=some u/\R u x
def zV (w:World) (ok:Nat->Prop) (v:Value) (l:List (List Int)):Prop:=Each (zl w ok) w ok v l
def AX (w:World) (ok:Nat->Prop) (v:Value) (l:List (List Bool)):Prop:=Each (AR w ok) w ok v l
def Bo (w:World) (ok:Nat->Prop) (v:Value) (l:List (List Int×List Int)):Prop:=
 ∃vs,Bc w ok 3 v l.length vs/\∀(i:Nat) x,l[i]?=some x->∃s u1 u2,vs[i*3]?=some (.string s)/\vs[i*3+1]?=some u1/\vs[i*3+2]?=some u2/\zl w ok u1 x.1/\zl w ok u2 x.2
def Ad (w:World) (ok:Nat->Prop) (v:Value) (m:MZ):Prop:=
 ∃f u t,v=.agg #[.int .i64 m.w,.int .i64 m.h,.int .i64 m.l,f,u,t]/\AX w ok f m.free/\AR w ok u m.up/\Bo w ok t m.tasks
section
variable {w w':World} {ok ok':Nat->Prop} {v:Value}
theorem zl.keep {l:List Int} (h:zl w ok v l) (d:zZ ok w w'):zl w' ok v l:=Bc.keep h d
theorem zl.weaken {l:List Int} (h:zl w ok v l) (d:∀b,ok b->ok' b):zl w ok' v l:=Bc.weaken h d
theorem zl.below {l:List Int} (h:zl w ok v l) (d:Below w.heap.size w w'):zl w' ok v l:=Bc.below h d
theorem AR.keep {l:List Bool} (h:AR w ok v l) (d:zZ ok w w'):AR w' ok v l:=Bc.keep h d
theorem AR.weaken {l:List Bool} (h:AR w ok v l) (d:∀b,ok b->ok' b):AR w ok' v l:=Bc.weaken h d
theorem Each.keep {α:Type} {R R':Value->α->Prop} {l:List α} (h:Each R w ok v l) (E:zZ ok w w') (D:∀u x,R u x->R' u x):Each R' w' ok v l:=by
 obtain ⟨vs,d,he⟩:=h;refine ⟨vs,d.keep E,fun i x I=>?_⟩;obtain ⟨u,G,d⟩:=he i x I;exact ⟨u,G,D _ _ d⟩
theorem Each.weaken {α:Type} {R R':Value->α->Prop} {l:List α} (h:Each R w ok v l) (E:∀b,ok b->ok' b) (D:∀u x,R u x->R' u x):Each R' w ok' v l:=by
 obtain ⟨vs,d,he⟩:=h;refine ⟨vs,d.weaken E,fun i x I=>?_⟩;obtain ⟨u,G,d⟩:=he i x I;exact ⟨u,G,D _ _ d⟩
theorem zV.keep {l:List (List Int)} (h:zV w ok v l) (d:zZ ok w w'):zV w' ok v l:=Each.keep h d fun _ _ D=>D.keep d
theorem zV.weaken {l:List (List Int)} (h:zV w ok v l) (d:∀b,ok b->ok' b):zV w ok' v l:=Each.weaken h d fun _ _ D=>D.weaken d
theorem AX.keep {l:List (List Bool)} (h:AX w ok v l) (d:zZ ok w w'):AX w' ok v l:=Each.keep h d fun _ _ D=>D.keep d
theorem AX.weaken {l:List (List Bool)} (h:AX w ok v l) (d:∀b,ok b->ok' b):AX w ok' v l:=Each.weaken h d fun _ _ D=>D.weaken d
theorem Bo.keep {l:List (List Int×List Int)} (h:Bo w ok v l) (d:zZ ok w w'):Bo w' ok v l:=by
 obtain ⟨vs,E,he⟩:=h;refine ⟨vs,E.keep d,fun i x G=>?_⟩;obtain ⟨s,u1,u2,h0,h1,D,i1,i2⟩:=he i x G;exact ⟨s,u1,u2,h0,h1,D,i1.keep d,i2.keep d⟩
theorem Bo.weaken {l:List (List Int×List Int)} (h:Bo w ok v l) (d:∀b,ok b->ok' b):Bo w ok' v l:=by
 obtain ⟨vs,E,he⟩:=h;refine ⟨vs,E.weaken d,fun i x G=>?_⟩;obtain ⟨s,u1,u2,h0,h1,D,i1,i2⟩:=he i x G;exact ⟨s,u1,u2,h0,h1,D,i1.weaken d,i2.weaken d⟩
theorem Ad.keep {m:MZ} (h:Ad w ok v m) (d:zZ ok w w'):Ad w' ok v m:=by
 obtain ⟨f,u,t,rfl,h1,D,E⟩:=h;exact ⟨f,u,t,rfl,h1.keep d,D.keep d,E.keep d⟩
theorem Ad.weaken {m:MZ} (h:Ad w ok v m) (d:∀b,ok b->ok' b):Ad w ok' v m:=by
 obtain ⟨f,u,t,rfl,h1,D,E⟩:=h;exact ⟨f,u,t,rfl,h1.weaken d,D.weaken d,E.weaken d⟩
theorem Ad.below {m:MZ} (h:Ad w ok v m) (d:Below w.heap.size w w'):Ad w' ok v m:=h.keep (zZ.of_below d)
theorem zV.below {l:List (List Int)} (h:zV w ok v l) (d:Below w.heap.size w w'):zV w' ok v l:=h.keep (zZ.of_below d)
theorem AR.below {l:List Bool} (h:AR w ok v l) (d:Below w.heap.size w w'):AR w' ok v l:=h.keep (zZ.of_below d)
theorem AX.below {l:List (List Bool)} (h:AX w ok v l) (d:Below w.heap.size w w'):AX w' ok v l:=h.keep (zZ.of_below d)
theorem Bo.below {l:List (List Int×List Int)} (h:Bo w ok v l) (d:Below w.heap.size w w'):Bo w' ok v l:=h.keep (zZ.of_below d)
theorem zl.open (h:zl w ok v l):∃A c,v=.slice A l.length c/\l.length<=c/\AD w ok 1 A l.length (l.map (Value.int .i64)):=h
theorem zl.nil (w:World) (ok:Nat->Prop):zl w ok (.slice none 0 0) []:=⟨none,0,rfl,DE _,AD.nil _ _ _ _⟩
theorem AI {n:Nat} {A:Option Addr} (h:AD w ok 1 A n (l.map (Value.int .i64))) (G:k<n) (I:k<l.length):
  ∃b off,A=some ⟨b,off,none⟩/\ok b/\w.cell? ⟨b,off+k,none⟩=some (.int .i64 (l[k])):=by
 obtain ⟨b,off,u,e,D,d,E⟩:=h.at_ G;refine ⟨b,off,e,D,?_⟩;rw [El,DC I] at d;rw [E,<-d];rfl
theorem CE {l:List Bool} {n:Nat} {A:Option Addr} (h:AD w ok 1 A n (l.map Value.bool)) (G:k<n) (I:k<l.length):
  ∃b off,A=some ⟨b,off,none⟩/\ok b/\w.cell? ⟨b,off+k,none⟩=some (.bool (l[k])):=by
 obtain ⟨b,off,u,e,D,d,E⟩:=h.at_ G;refine ⟨b,off,e,D,?_⟩;rw [El,DC I] at d;rw [E,<-d];rfl
theorem Bt {α:Type} {R:Value->α->Prop} {l:List α} {vs:List Value} {n:Nat} {A:Option Addr} (h:AD w ok 1 A n vs) (he:∀(i:Nat) x,l[i]?=some x->∃u,vs[i]?=some u/\R u x) (G:k<n) (I:k<l.length):
  ∃b off u,A=some ⟨b,off,none⟩/\ok b/\w.cell? ⟨b,off+k,none⟩=some u/\R u (l[k]):=by
 obtain ⟨b,off,u,e,D,K,E⟩:=h.at_ G;obtain ⟨u',d,J⟩:=he k _ (DC I);rw [K] at d;injection d with d;subst d;exact ⟨b,off,u,e,D,E,J⟩
end
theorem BI {k:IntKind} {a b:Int} (h:a=b):Ending.returned (.int k a)=.returned (.int k b):=by rw [h]
theorem zp {a b:Bool} (h:a=b):Ending.returned (.bool a)=.returned (.bool b):=by rw [h]
theorem Ar (W H L:Int) (f u t:Value) (w:World) (h1:-1000000000<=W*H/\W*H<=1000000000) (E:-1000000000000000<=W*H*L/\W*H*L<=1000000000000000):
  Calls Tryz.prog 43 #[.agg #[.int .i64 W,.int .i64 H,.int .i64 L,f,u,t]] w fun e w'=>e=.returned (.int .i64 (W*H*L))/\Below w.heap.size w w':=by
 obtain ⟨d,D⟩:=h1;obtain ⟨G,I⟩:=E
 go_enter Tryz.func43,Tryz.ntmps43
 go_wp2;go_ret;exact ⟨rfl,(Below.refl _ _).alloc (DE _) _⟩
theorem qnodes_calls (W H L:Int) (f u t:Value) (w:World) (h1:-1000000000<=W*H/\W*H<=1000000000) (E:-1000000000000000<=W*H*L/\W*H*L<=1000000000000000):
  Calls Tryz.prog 25 #[.agg #[.int .i64 W,.int .i64 H,.int .i64 L,f,u,t]] w fun e w'=>e=.returned (.int .i64 (W*H*L))/\Below w.heap.size w w':=by
 obtain ⟨d,D⟩:=h1;obtain ⟨G,I⟩:=E
 go_enter Tryz.func25,Tryz.ntmps25
 go_wp2;go_ret;exact ⟨rfl,(Below.refl _ _).alloc (DE _) _⟩
theorem mod_eq (n m:Int) (hm:0<m) (E:m<=1000000):(wrap64 (n.tmod m+m)).tmod m=n % m:=by
 have h1:n.tmod m<m:=Int.tmod_lt_of_pos n hm
 have G:-m<n.tmod m:=by
  have:=Int.lt_tmod_of_pos n hm;omega
 rw [IntWalk.wrap64_in _ (by omega),Int.tmod_eq_emod_of_nonneg (by omega),Int.add_emod_right];have d:=Int.tmod_add_mul_tdiv n m;have D:n=n.tmod m+m*n.tdiv m:=d.symm
 conv=>rhs;rw [D]
 rw [Int.add_mul_emod_self_left]
theorem mod_calls (n m:Int) (w:World) (hm:0<m) (d:m<=1000000):
  Calls Tryz.prog 42 #[.int .i64 n,.int .i64 m] w fun e w'=>e=.returned (.int .i64 (n % m))/\w=w':=by
 have h:=mod_eq n m hm d;have H:=zh h;clear h
 go_enter Tryz.func42,Tryz.ntmps42
 go_wp2;go_ret;exact ⟨BI H.out,rfl⟩
theorem zS (h:k<l.length) (n:Int):n∈l.take (k+1)↔n∈l.take k\/n=l[k]:=by
 rw [DL h,Es,Ek]
theorem has_calls {ok:Nat->Prop} {v:Value} (n:Int) (w:World) (h:zl w ok v l) (hl:l.length<=20000000000000):
  Calls Tryz.prog 26 #[v,.int .i64 n] w fun e w'=>e=.returned (.bool (decide (n∈l)))/\w=w':=by
 obtain ⟨A,c,rfl,V,M⟩:=h;have O:=zh M;clear M
 go_enter Tryz.func26,Tryz.ntmps26
 go_wp2
 go_loop [5] (fun i=>∃k:Nat,k<=l.length/\i=.int .i64 k/\Hid (n∉l.take k)) (fun i=>l.length - (intOf i).toNat)
 case atStart=>exact ⟨0,DS _,rfl,by simp [Hid]⟩
 case round=>
  obtain ⟨k,hk,rfl,K⟩:=hrel;by_cases G:k<l.length
  ·obtain ⟨b,off,rfl,_,E⟩:=AI O.out G G;obtain ⟨x,I⟩:=EH (l[k]);rw [<-I] at E;have J:=zh I;clear I;by_cases d:x=n
   ·have U:(x==n)=true:=by simp [d]
    have D:=zh d;clear d;go_wp2;go_ret;exact ⟨zp (by simp only [true_eq_decide_iff];rw [<-D.out,J.out];exact DF _),rfl⟩
   ·have U:(x==n)=false:=by simp [d]
    have D:=zh d;clear d;go_wp2
    go_round
    case rel=>exact ⟨k+1,by omega,by go_num,fun hm=>by
     rcases (zS G n).1 hm with h | h
     ·exact K.out h
     ·exact D.out (J.out.trans h.symm)⟩
    case measure=>simp [intOf];omega
  ·obtain rfl:k=l.length:=by omega
   go_wp2;go_ret;exact ⟨zp (by have h:=K.out;rw [DP] at h;simp [h]),rfl⟩
theorem index_calls {ok:Nat->Prop} {v:Value} (n:Int) (w:World) (h:zl w ok v l) (hl:l.length<=20000000000000):
  Calls Tryz.prog 91 #[v,.int .i64 n] w fun e w'=>∃r:Int,e=.returned (.int .i64 r)/\(0<=r↔n∈l)/\-1<=r/\w=w':=by
 obtain ⟨A,c,rfl,hc,O⟩:=h;have U:=zh O;clear O
 go_enter Tryz.func91,Tryz.ntmps91
 go_wp2
 go_loop [8] (fun i=>∃k:Nat,k<=l.length/\i=.int .i64 k/\Hid (n∉l.take k)) (fun i=>l.length - (intOf i).toNat)
 case atStart=>exact ⟨0,DS _,rfl,by simp [Hid]⟩
 case round=>
  obtain ⟨k,hk,rfl,M⟩:=hrel;by_cases G:k<l.length
  ·obtain ⟨b,off,rfl,_,E⟩:=AI U.out G G;obtain ⟨x,I⟩:=EH (l[k]);rw [<-I] at E;have J:=zh I;clear I;by_cases d:n=x
   ·have V:(n==x)=true:=by simp [d]
    have D:=zh d;clear d;go_wp2;go_ret;exact ⟨_,rfl,⟨fun _=>by rw [D.out,J.out];exact DF _,fun _=>by omega⟩,by omega,rfl⟩
   ·have V:(n==x)=false:=by simp [d]
    have D:=zh d;clear d;go_wp2
    go_round
    case rel=>exact ⟨k+1,by omega,by go_num,fun hm=>by
     rcases (zS G n).1 hm with h | h
     ·exact M.out h
     ·exact D.out (h.trans J.out.symm)⟩
    case measure=>simp [intOf];omega
  ·obtain rfl:k=l.length:=by omega
   go_wp2;go_ret;have h:=M.out;rw [DP] at h;exact ⟨_,rfl,⟨fun K=>by omega,fun K=>absurd K h⟩,by omega,rfl⟩
theorem Ay {ok:Nat->Prop} {v:Value} (n:Int) (w:World) (h:zl w ok v l) (G:l.length<=20000000000000):
  Calls Tryz.prog 56 #[v,.int .i64 n] w fun e w'=>e=.returned (.bool (decide (n∈l)))/\w=w':=by
 have d:=index_calls n w h G;obtain ⟨A,c,rfl,J,D⟩:=h;have H:=zh d;clear d;clear D
 go_enter Tryz.func56,Tryz.ntmps56
 go_wp2_with fail
 refine H.out.mono ?_;rintro e w' ⟨r,rfl,D,I,rfl⟩;have E:=zh D;clear D
 go_wp2_with fail
 go_ret;exact ⟨zp (by rw [decide_eq_decide];exact E.out),rfl⟩
theorem Dm {a w:World} (h:Below B a w) (n:Nat):Below B a (w.drewN n):=⟨h.os,h.tape,h.output,h.size,h.block⟩
theorem take_succ_eq {α:Type} {a b:List α} (D:k<a.length) (E:k<b.length):a.take (k+1)=b.take (k+1)↔a.take k=b.take k/\a[k]=b[k]:=by
 rw [DL D,DL E];constructor
 ·intro h;have G:(a.take k).length=(b.take k).length:=by simp;omega
  have:=List.append_inj h G;simpa using this
 ·rintro ⟨h1,d⟩;rw [h1,d]
def zB (w w':World):Prop:=∃n,w'=w.drewN n
theorem zB.refl (w:World):zB w w:=⟨0,rfl⟩
theorem zB.trans {a c:World} (h:zB a b) (d:zB b c):zB a c:=by
 obtain ⟨n,rfl⟩:=h;obtain ⟨m,rfl⟩:=d;exact ⟨n+m,by rw [World.drewN_drewN]⟩
theorem zB.more {a:World} (h:zB a b) (n:Nat):zB a (b.drewN n):=h.trans ⟨n,rfl⟩
theorem zB.same {a:World} (h:zB a b) (ok:Nat->Prop):zZ ok a b:=by
 obtain ⟨n,rfl⟩:=h;exact fun _ _ _=>rfl
theorem zB.below {a:World} (h:zB a b) (B:Nat):Below B a b:=by
 obtain ⟨n,rfl⟩:=h;exact Dm (Below.refl _ _) n
theorem same_calls {ok ok':Nat->Prop} {v:Value} {a b:List Int} (w:World) (h:zl w ok v a) (h':zl w ok' v' b) (hl:a.length<=20000000000000) (b1:b.length<=20000000000000):
  Calls Tryz.prog 14 #[v,v'] w fun e w'=>e=.returned (.bool (decide (a=b)))/\zB w w':=by
 obtain ⟨A,c,rfl,hc,hr⟩:=h;obtain ⟨A',c',rfl,b0,O⟩:=h';have HR:=zh hr;clear hr;have V:=zh O;clear O;by_cases d:a.length=b.length
 ·have a1:((a.length:Int) != (b.length:Int))=false:=by simp [d]
  have b2:a.length<=b.length:=by omega
  have a6:b.length<=a.length:=by omega
  have U:=zh d;clear d
  go_enter Tryz.func14,Tryz.ntmps14
  go_wp2;go_loopw [5] (fun i wr=>∃k:Nat,k<=a.length/\i=.int .i64 k/\Hid (a.take k=b.take k)/\Hid (zB w wr)) (fun i _=>a.length - (intOf i).toNat)
  case atStart=>exact ⟨0,DS _,rfl,by simp [Hid],zB.refl _⟩
  case round=>
   obtain ⟨k,hk,rfl,heq,M⟩:=hrel;by_cases K:k<a.length
   ·have E:k<b.length:=by omega
    obtain ⟨bA,off,rfl,_,J⟩:=AI (HR.out.keep (M.out.same ok)) K K;obtain ⟨bB,off',rfl,_,G⟩:=AI (V.out.keep (M.out.same ok')) E E;obtain ⟨x,hx⟩:=EH (a[k]);obtain ⟨y,hy⟩:=EH (b[k]);rw [<-hx] at J;rw [<-hy] at G;have HX:=zh hx;clear hx;have HY:=zh hy;clear hy;by_cases D:x=y
    ·have a0:(x != y)=false:=by simp [D]
     have I:=zh D;clear D;go_wp2;go_quiet (fail)
     go_wp2;go_roundw
     case rel=>exact ⟨k+1,by omega,by go_num,(take_succ_eq K E).2 ⟨heq.out,by rw [<-HX.out,<-HY.out,I.out]⟩,M.out.more _⟩
     case measure=>simp [intOf];omega
    ·have a0:(x != y)=true:=by simp [D]
     have I:=zh D;clear D;go_wp2;go_quiet (fail)
     go_wp2;go_ret;refine ⟨zp ?_,M.out.more _⟩;rw [eq_comm,Eb];rintro rfl;exact I.out (HX.out.trans HY.out.symm)
   ·obtain rfl:k=a.length:=by omega
    go_wp2;go_ret;refine ⟨zp ?_,M.out⟩;have h:=heq.out;rw [DP,U.out,DP] at h;simp [h]
 ·have a1:((a.length:Int) != (b.length:Int))=true:=by simp only [bne_iff_ne];omega
  have U:=zh d;clear d
  go_enter Tryz.func14,Tryz.ntmps14
  go_wp2;go_ret;refine ⟨zp ?_,zB.refl _⟩;rw [eq_comm,Eb];rintro rfl;exact U.out rfl
theorem samePaths_calls {ok ok':Nat->Prop} {v:Value} {a b:List (List Int)} (w:World) (h:zV w ok v a) (h':zV w ok' v' b) (hl:a.length<=20000000000000) (c9:b.length<=20000000000000)
  (ha:∀x∈a,x.length<=20000000000000) (hb:∀x∈b,x.length<=20000000000000):
  Calls Tryz.prog 11 #[v,v'] w fun e w'=>e=.returned (.bool (decide (a=b)))/\zB w w':=by
 obtain ⟨vs,⟨A,c,rfl,hc,hr⟩,he⟩:=h;obtain ⟨vs',⟨A',c',rfl,c8,a1⟩,a0⟩:=h';have HR:=zh hr;clear hr;have a6:=zh a1;clear a1;have HE:=zh he;clear he;have a4:=zh a0;clear a0;have HA:=zh ha;clear ha;have HB:=zh hb;clear hb;by_cases d:a.length=b.length
 ·have a8:((a.length:Int) != (b.length:Int))=false:=by simp [d]
  have d4:a.length<=b.length:=by omega
  have b6:b.length<=a.length:=by omega
  have HL:=zh d;clear d
  go_enter Tryz.func11,Tryz.ntmps11
  go_wp2;go_loopw [5] (fun i wr=>∃k:Nat,k<=a.length/\i=.int .i64 k/\Hid (a.take k=b.take k)/\Hid (zB w wr)) (fun i _=>a.length - (intOf i).toNat)
  case atStart=>exact ⟨0,DS _,rfl,by simp [Hid],zB.refl _⟩
  case round=>
   obtain ⟨k,hk,rfl,heq,U⟩:=hrel;by_cases K:k<a.length
   ·have E:k<b.length:=by omega
    obtain ⟨bA,off,u,rfl,_,a7,hu⟩:=Bt (HR.out.keep (U.out.same ok)) HE.out K K;obtain ⟨bB,off',u',rfl,_,a3,V⟩:=Bt (a6.out.keep (U.out.same ok')) a4.out E E;have O:=HA.out _ (DF K);have J:=HB.out _ (DF E);obtain ⟨x,hx⟩:=EH (a[k]);obtain ⟨y,hy⟩:=EH (b[k]);rw [<-hx] at hu O;rw [<-hy] at V J;have HX:=zh hx;clear hx;have HY:=zh hy;clear hy
    have D:∀n,Calls Tryz.prog 14 #[u,u'] (wr.drewN n) fun e w'=>e=.returned (.bool (decide (x=y)))/\∃m,w'=(wr.drewN n).drewN m:=
     fun n=>same_calls (wr.drewN n) (hu.keep ((U.out.more n).same ok)) (V.keep ((U.out.more n).same ok')) O J
    have HS:=zh D;clear D hu V O J;by_cases G:x=y
    ·have I:decide (x=y)=true:=by simp [G]
     rw [I] at HS;have M:=zh G;clear G I;go_wp2;go_quiet ((go_at_call 14;exact Calls.quiet_of (HS.out _)))
     go_wp2;go_roundw
     case rel=>exact ⟨k+1,by omega,by go_num,(take_succ_eq K E).2 ⟨heq.out,by rw [<-HX.out,<-HY.out,M.out]⟩,U.out.more _⟩
     case measure=>simp [intOf];omega
    ·have I:decide (x=y)=false:=by simp [G]
     rw [I] at HS;have M:=zh G;clear G I;go_wp2;go_quiet ((go_at_call 14;exact Calls.quiet_of (HS.out _)))
     go_wp2;go_ret;refine ⟨zp ?_,U.out.more _⟩;rw [eq_comm,Eb];rintro rfl;exact M.out (HX.out.trans HY.out.symm)
   ·obtain rfl:k=a.length:=by omega
    go_wp2;go_ret;refine ⟨zp ?_,U.out⟩;have h:=heq.out;rw [DP,HL.out,DP] at h;simp [h]
 ·have a8:((a.length:Int) != (b.length:Int))=true:=by simp only [bne_iff_ne];omega
  have HL:=zh d;clear d
  go_enter Tryz.func11,Tryz.ntmps11
  go_wp2;go_ret;refine ⟨zp ?_,zB.refl _⟩;rw [eq_comm,Eb];rintro rfl;exact HL.out rfl
end
section
open Go.RowKit
open Go.ChangeMaps (setBlock)
def zx:List Int->Nat->List MapEntry
 | [],_=>[]
 | x :: l,b=>{ key:=.int .i64 x,val:=.bool true,born:=b } :: zx l (b+1)
def mapObj (l:List Int):Obj:=.map (zx l 0).toArray l.length
def zC (w:World) (g:Nat) (l:List Int):Prop:=w.heap[g]?=some (mapObj l)
def ins (l:List Int) (x:Int):List Int:=if x∈l then l else l++[x]
theorem mem_ins:y∈ins l x↔y∈l\/y=x:=by
 unfold ins
 split
 ·constructor
  ·exact .inl
  ·rintro (h | rfl)
   ·exact h
   ·assumption
 ·simp
theorem Cu:∀(l:List Int) (b:Nat),(zx l b).length=l.length
 | [],_=>rfl
 | _ :: l,b=>by simp [zx,Cu l]
theorem Dp:∀(l l':List Int) (b:Nat),zx (l++l') b=zx l b++zx l' (b+l.length)
 | [],_,_=>by simp [zx]
 | _ :: l,l',b=>by simp [zx,Dp l l' (b+1),Nat.add_assoc,Nat.add_comm 1]
theorem BW:∀(l:List Int) (b i:Nat),(zx l b)[i]?=(l[i]?).map fun x=>{ key:=.int .i64 x,val:=.bool true,born:=b+i }
 | [],_,_=>by simp [zx]
 | x :: l,b,0=>by simp [zx]
 | x :: l,b,i+1=>by simp [zx,BW l (b+1) i,Nat.add_assoc,Nat.add_comm 1]
theorem zC.keep {ok:Nat->Prop} {w w':World} (h:zC w g l) (D:zZ ok w w') (d:ok g):zC w' g l:=(D g d (za h)).trans h
theorem zC.below {w w':World} (h:zC w g l) (d:Below w.heap.size w w'):zC w' g l:=(d.block g (za h)).trans h
theorem zC.new (w:World):zC (w.alloc (.map #[] 0)) w.heap.size []:=Ep _ _
open Go.Instr in
theorem Dq (x:Int):∀(l:List Int) (b s:Nat),findNow (.int .i64) (.int .i64 x) (zx l b) s=some (if x∈l then some (s+l.idxOf x,.bool true) else none)
 | [],_,_=>by simp [zx,findNow]
 | y :: l,b,s=>by
  simp only [zx,findNow,sameNow,if_true];by_cases h:x=y
  ·subst h;simp
  ·have E:(x==y)=false:=by simpa using h
   have D:(y==x)=false:=by simpa using fun e:y=x=>h e.symm
   simp only [E];rw [Dq x l (b+1) (s+1)];by_cases hm:x∈l
   ·have d:x∈y :: l:=DY _ hm;rw [if_pos hm,if_pos d,List.idxOf_cons,D];simp only [cond_false,Bool.false_eq_true,if_false];rw [show s+1+l.idxOf x=s+(l.idxOf x+1) by omega]
   ·have d:¬ x∈y :: l:=by simp [h,hm]
    rw [if_neg hm,if_neg d]
theorem run_getObj' {w:World} {n:Nat} (h:w.heap[g]?=some (.map es n)):(getObj g).run P w=.ok (.map es n) w:=by simp [getObj,Sem.run,h]
theorem run_setObj' {w:World} {n:Nat} (o':Obj) (h:w.heap[g]?=some (.map es n)):(setObj g o').run P w=.ok () (setBlock w g o'):=by
 simp [setObj,Sem.run,h,setBlock]
open Go.Instr in
theorem run_checkKey (b:Bool) (n:Nat) (x:Int) (w:World):(checkKey b (n+1) 3 (.int .i64 x)).run Tryz.prog w=.ok () w:=by
 simp [checkKey,run_underlying Tryz.underlying3]
theorem run_look {w:World} (h:zC w g l) (x:Int) (t:TypeId) (ht:Tryz.prog.underlying t=some (.map 3 4)):
  (Instr.lookup t (.map (some g)) (.int .i64 x) false).run Tryz.prog w=.ok (.bool (decide (x∈l))) w:=by
 have d:∀w,(zeroValue 4).run Tryz.prog w=.ok (.bool false) w:=fun w=>by kernel_rfl
 unfold Instr.lookup;simp only [Sem.run_bind,run_underlying ht,Result.andThen_ok,run_getObj' h,mapObj,Sem.run_pure];rw [show (10000:Nat)=9999+1 from rfl,run_checkKey];simp only [Result.andThen_ok,Instr.findKey,Sem.run_bind,run_underlying Tryz.underlying3,List.toList_toArray,Dq];by_cases hm:x∈l
 ·simp [hm]
 ·simp [hm,d]
theorem setBlk_same {w:World} {o o':Obj} (h:w.heap[g]?=some o):(setBlock w g o').heap[g]?=some o':=by
 have:=za h;simp [setBlock,this]
theorem Df {w:World} (o:Obj) (h:k≠g):(setBlock w g o).heap[k]?=w.heap[k]?:=by
 simp [setBlock,Ne.symm h]
theorem run_add {w:World} (h:zC w g l) (x:Int) (t:TypeId) (ht:Tryz.prog.underlying t=some (.map 3 4)):
  ∃w',(Instr.mapUpdate t (.map (some g)) (.int .i64 x) (.bool true)).run Tryz.prog w=.ok () w'/\zC w' g (ins l x)/\w.grownBy w' (some g):=by
 refine ⟨setBlock w g (mapObj (ins l x)),?_,setBlk_same h,⟨rfl,rfl,rfl,by simp [setBlock],fun k _ E=>Df _ (fun e=>E (by rw [e]))⟩⟩;unfold Instr.mapUpdate;simp only [Sem.run_bind,run_underlying ht,Result.andThen_ok,run_getObj' h,mapObj];rw [show (10000:Nat)=9999+1 from rfl,run_checkKey];simp only [Result.andThen_ok,Instr.findKey,Sem.run_bind,run_underlying Tryz.underlying3,List.toList_toArray,Dq];by_cases hm:x∈l
 ·simp only [hm,if_true,Sem.run_pure,Result.andThen_ok,Nat.zero_add];have D:l.idxOf x<l.length:=List.idxOf_lt_length_of_mem hm;have G:l[l.idxOf x]=x:=List.getElem_idxOf D
  have E:∀W,(Instr.keyThatStays ((((zx l 0).toArray[l.idxOf x]?).map (·.key)).getD (.int .i64 x)) (.int .i64 x)).run Tryz.prog W=.ok (.int .i64 x) W:=by
   intro W;rw [List.getElem?_toArray,BW,DC D];simp [Instr.keyThatStays,Instr.sameBits,G]
  rw [Sem.run_bind,E];simp only [Result.andThen_ok]
  have d:(zx l 0).toArray.modify (l.idxOf x) (fun e=>{ e with key:=.int .i64 x,val:=.bool true })=(zx l 0).toArray:=by
   apply Array.ext_getElem?;intro i;rw [Array.getElem?_modify]
   split
   ·rename_i e
    subst e;rw [List.getElem?_toArray,BW,DC D];simp [G]
   ·rfl
  rw [d,run_setObj' _ h];have:ins l x=l:=by simp [ins,hm]
  rw [this]
 ·simp only [hm,if_false,Sem.run_pure,Result.andThen_ok];rw [run_setObj' _ h];have:ins l x=l++[x]:=by simp [ins,hm]
  rw [this,Dp];simp [zx]
theorem wpSetAdd {w:World} (J:o.guard=none) (m y v:Operand) (t:TypeId) (E:o.op=Op.mapUpdate t m y v)
  (ht:Tryz.prog.underlying t=some (.map 3 4)) (g:Nat) (l:List Int) (x:Int) (hm:a.eval m=.map (some g)) (O:a.eval y=.int .i64 x) (M:a.eval v=.bool true) (K:zC w g l)
  (I:∀w',zC w' g (ins l x)->w.grownBy w' (some g)->wpList Tryz.prog ops Q rest (a.put o.dst undef) w'):wpList Tryz.prog ops Q (o :: rest) a w:=by
 refine wpList_plain J fun K' D=>?_
 obtain ⟨w',d,h1,G⟩:=run_add K x t ht;unfold Oper.wp;simp [execOp,E,hm,O,M,d,Result.andThen];exact D _ _ (I w' h1 G)
end
section
open Go.RowKit
theorem Tryz.infoInt:(Tryz.prog.info? 3).map (fun i=>(i.zero,i.size,i.bytes))=some (some (.int .i64 0),1,8):=by kernel_rfl
def ap (c:Bool) (x:Int) (l:List Int):List Int:=if c then l++[x] else l
theorem ap_len (c:Bool) (x:Int) (l:List Int):(ap c x l).length<=l.length+1:=by
 unfold ap;split <;> simp
theorem map_snoc (l:List Int) (x:Int):(l++[x]).map (Value.int .i64)=l.map (Value.int .i64)++[.int .i64 x]:=by simp
def zg (w:World) (g:Nat) (t:TypeId) (cs:Array Value):Prop:=w.heap[g]?=some (.cells cs t (0,0))
theorem zg.ne_ {w:World} {g':Nat} {t t':TypeId} {cs':Array Value} (h:zg w g t cs) (d:zg w g' t' cs') (D:t≠t'):g≠g':=by
 rintro rfl;unfold zg at h d;rw [h] at d;injection d with d;injection d with _ ht;exact D ht
theorem zf {w:World} {base:Nat} {e:TypeId} {size n:Nat} {v:Value} {xs:List Value} {t:TypeId} (h:w.ownsRow base e size v n xs) (D:zg w g t cs) (d:e≠t):v.ownBlock≠some g:=by
 rcases h.2 with ⟨rfl,_⟩ | ⟨g',cap,cur,rfl,_,hh,_⟩
 ·simp [Value.ownBlock]
 ·intro he;have:g'=g:=by simpa [Value.ownBlock] using he
  subst this;exact zg.ne_ (t:=e) hh D d rfl
def Acc (w0 w:World) (B gb:Nat) (l:List Int):Prop:=
 ∃v,zg w gb 39 #[v]/\w.ownsRow B 3 1 v l.length (l.map (Value.int .i64))/\B<=gb/\Below B w0 w
theorem wpApp1 (E:o.guard=none) (s y:Operand)
  (V:o.op=.call { callee:=.builtin .append,args:=#[s,y],argTypes:=#[39,39] }) (W:World) (l:List Int) (x:Int) (B g c:Nat) (v:Value) (hs:a.eval s=v)
  (hy:a.eval y=.slice (some ⟨g,0,none⟩) 1 c) (d:W.ownsRow B 3 1 v l.length (l.map (Value.int .i64))) (O:W.cell? ⟨g,0,none⟩=some (.int .i64 x)) (M:B<=W.heap.size) (hl:l.length<=1000000000000)
  (h:∀v' w',w'.ownsRow B 3 1 v' (l++[x]).length ((l++[x]).map (Value.int .i64))->W.grownBy w' v.ownBlock->wpList Tryz.prog ops Q rest (a.put o.dst v') w'):wpList Tryz.prog ops Q (o :: rest) a W:=by
 obtain ⟨i0,U,G,I,J⟩:=info_parts Tryz.infoInt;refine wpList_append_own _ E _ _ 39 V B 3 i0 (.int .i64 0) 1 8 Tryz.underlying39 U G I J rfl (by decide) _ _ _ hs d ⟨g,0,none⟩ 1 c [.int .i64 x] hy rfl ?_ ?_ ?_ ?_ M ?_
 ·intro j u D
  match j,D with
  | 0,D=>
   have:u=.int .i64 x:=by simpa using D.symm
   rw [this];exact O
 ·intro u D;have:u=.int .i64 x:=by simpa using D
  rw [this];rfl
 ·unfold maxLen;omega
 ·omega
 ·intro v' w' h1 K _;refine h v' w' ?_ K;rw [map_snoc,DM];exact h1
theorem add_calls (w0 w:World) (B gb:Nat) (l:List Int) (c:Bool) (x:Int) (h:Acc w0 w B gb l) (hl:l.length<=1000) (hB:B<=w0.heap.size):
  Calls Tryz.prog 130 #[.bool c,.int .i64 x,.pointer (some ⟨gb,0,none⟩)] w fun e w'=>e=.returned (.tuple #[])/\Acc w0 w' B gb (ap c x l):=by
 have I:=h;obtain ⟨v,O,E,K,hb⟩:=h
 cases c with
 | false=>
  go_enter Tryz.func130,Tryz.ntmps130
  go_wp2
  go_end0
  exact ⟨rfl,I⟩
 | true=>
  have a2:w.cell? ⟨gb,0,none⟩=some v:=by unfold World.cell?;simp only [show w.heap[gb]?=_ from O];rfl
  have a6:=zf E O (by decide);have a5:gb<w.heap.size:=za O;have a0:B<=w.heap.size:=DG hB hb.size;have HG:=zh O;clear O;have HB:=zh hb;clear hb;clear I
  go_enter Tryz.func130,Tryz.ntmps130
  go_wp2_with (at_builtin;refine wpApp1 rfl _ _ rfl _ l x B w.heap.size 1 v rfl rfl (E.alloc _) ?c1 ?c2 ?c3 ?_)
  case c1=>simp
  case c2=>simp;omega
  case c3=>omega
  intro v' w1 D d;obtain ⟨g',cap',rfl,a4,a3⟩:=D.form (by simp);have G:zg w1 gb 39 #[v]:=(d.block gb (by simp;omega) (fun e=>a6 e.symm)).trans ((DW w _ gb a5).trans HG.out);have U:w1.cell? ⟨gb,0,none⟩=some v:=by unfold World.cell?;simp only [show w1.heap[gb]?=_ from G];rfl
  have hfz:w1.frozen? ⟨gb,0,none⟩=false:=by unfold World.frozen?;simp [show w1.heap[gb]?=_ from G]
  have J:=zh G;clear G;have V:=zh d;clear d;have HO:=zh D;clear D;clear a4 a3;go_wp2
  go_end0
  have M:Below B w0 w1:=(HB.out.alloc a0 _).grown V.out (by simp;omega) (fun k hk=>by
   have:=(E.lt k hk).1;omega)
  refine ⟨rfl,.slice (some ⟨g',0,none⟩) (l++[x]).length cap',?_,?_,K,M.setCell K _⟩
  ·have:=J.out;unfold zg at this⊢;simp [World.setCell,Array.getElem?_modify,this]
  ·have h:=ownsRow_setCell_other (a:=⟨gb,0,none⟩) HO.out (zf (t:=39) HO.out J.out (by decide)) (.slice (some ⟨g',0,none⟩) (l++[x]).length cap');simpa [ap] using h
def AccK (w0 w:World) (B gb k:Nat) (l:List Int):Prop:=Acc w0 w B gb l/\l.length<=k/\B<=w0.heap.size
theorem addK (w0 w:World) (B gb k:Nat) (l:List Int) (c:Bool) (x:Int) (h:AccK w0 w B gb k l) (E:k<=1000):
  Calls Tryz.prog 130 #[.bool c,.int .i64 x,.pointer (some ⟨gb,0,none⟩)] w fun e w'=>e=.returned (.tuple #[])/\AccK w0 w' B gb (k+1) (ap c x l):=by
 obtain ⟨h,G,d⟩:=h;refine (add_calls w0 w B gb l c x h (by omega) d).mono ?_;rintro e w' ⟨rfl,D⟩;exact ⟨rfl,D,by have:=ap_len c x l;omega,d⟩
theorem AccK.below {w:World} (h:AccK w0 w B gb k l):Below B w0 w:=by
 obtain ⟨⟨v,_,_,_,d⟩,_,_⟩:=h;exact d
theorem zw {w:World} {t:TypeId} {a0 a1 a2 a3 a4 a5:Value} (h:zg w g t #[a0,a1,a2,a3,a4,a5]):
  w.cell? ⟨g,0,none⟩=some a0/\w.cell? ⟨g,1,none⟩=some a1/\w.cell? ⟨g,2,none⟩=some a2/\w.cell? ⟨g,3,none⟩=some a3/\w.cell? ⟨g,4,none⟩=some a4/\w.cell? ⟨g,5,none⟩=some a5:=by
 unfold zg at h;unfold World.cell?;simp only [h];exact ⟨rfl,rfl,rfl,rfl,rfl,rfl⟩
theorem zg.below {w w':World} {t:TypeId} (h:zg w g t cs) (d:Below B w w') (D:g<B):zg w' g t cs:=(d.block g D).trans h
theorem zg.alloc {w:World} {g:Nat} {t:TypeId} {cs:Array Value} (h:zg w g t cs) (o:Obj):zg (w.alloc o) g t cs:=(DW w o g (za h)).trans h
theorem Acc.new (w1:World):AccK w1 (w1.alloc (.cells #[.slice none 0 0] 39)) w1.heap.size w1.heap.size 0 []:=
 ⟨⟨.slice none 0 0,Ep _ _,(World.ownsRow_nil _ _ _ _),DE _,(Below.refl _ _).alloc (DE _) _⟩,DE _,DE _⟩
theorem AccK.end_ {w:World} (h:AccK w0 w B gb k l):∃v,w.cell? ⟨gb,0,none⟩=some v/\w.ownsRow B 3 1 v l.length (l.map (Value.int .i64)):=by
 obtain ⟨⟨v,d,D,_,_⟩,_,_⟩:=h;refine ⟨v,?_,D⟩;unfold zg at d;unfold World.cell?;simp only [d];rfl
theorem AccK.more {w w':World} (h:AccK w0 w B gb k l) (d:Below w.heap.size w w'):AccK w0 w' B gb k l:=by
 obtain ⟨⟨v,I,M,D,E⟩,K,G⟩:=h;exact ⟨⟨v,(d.block gb (za I)).trans I,M.kept (row:=none) ⟨d.os,d.tape,d.output,d.size,fun i J _=>d.block i J⟩ (by cases h:v.ownBlock <;> simp),D,BE E d G⟩,K,G⟩
theorem next_fin {w:World} {v:Value} {l':List Int} (h:w.ownsRow B 3 1 v l.length (l.map (Value.int .i64))) (e:l'=l):w.ownsRow B 3 1 v l'.length (l'.map (Value.int .i64)):=by
 rw [e];exact h
def zy (m:MZ) (node:Int):List Int:=
 ap (decide (node+m.w*m.h<m.w*m.h*m.l) && m.up.getD node.toNat false) (node+m.w*m.h)
  (ap (decide (node / m.w % m.h+1<m.h)) (node+m.w)
   (ap (decide (node % m.w+1<m.w)) (node+1)
    (ap (decide (0<node % m.w)) (node - 1)
     (ap (decide (0<node / m.w % m.h)) (node - m.w)
      (ap (decide (m.w*m.h<=node) && m.up.getD (node - m.w*m.h).toNat false) (node - m.w*m.h) [])))))
structure Dim (m:MZ):Prop where
 w1:1<=m.w
 w2:m.w<=300
 h1:1<=m.h
 h2:m.h<=300
 l1:1<=m.l
 l2:m.l<=300
 n1:m.w*m.h*m.l<=300
 up:(m.up.length:Int)=m.w*m.h*m.l
theorem Dim.layer {m:MZ} (d:Dim m):1<=m.w*m.h/\m.w*m.h<=m.w*m.h*m.l:=by
 have h1:1<=m.w*m.h:=by
  have:=Int.mul_le_mul d.w1 d.h1 (by omega) (by have:=d.w1;omega);omega
 refine ⟨h1,?_⟩;have:=Int.mul_le_mul_of_nonneg_left d.l1 (show 0<=m.w*m.h by omega);omega
theorem next_eq (m:MZ) (node:Int) (b1 b2:Bool) (h1:b1=(decide (m.w*m.h<=node) && m.up.getD (node - m.w*m.h).toNat false)) (d:b2=(decide (node+m.w*m.h<m.w*m.h*m.l) && m.up.getD node.toNat false)):
  zy m node=ap b2 (node+m.w*m.h) (ap (decide (node / m.w % m.h+1<m.h)) (node+m.w) (ap (decide (node % m.w+1<m.w)) (node+1) (ap (decide (0<node % m.w)) (node - 1) (ap (decide (0<node / m.w % m.h)) (node - m.w) (ap b1 (node - m.w*m.h) []))))):=by
 rw [h1,d];rfl
theorem up_true {p:Prop} [Decidable p] {up:List Bool} (hp:p) (h:k<up.length):up[k]=(decide p && up.getD k false):=by
 simp [hp,h]
theorem up_false {p:Prop} [Decidable p] {b:Bool} (hp:¬ p):false=(decide p && b):=by simp [hp]
theorem next_calls {ok:Nat->Prop} {v:Value} (m:MZ) (node:Int) (w:World) (hm:Ad w ok v m) (d:Dim m) (h0:0<=node) (h1:node<m.w*m.h*m.l):
  Calls Tryz.prog 97 #[v,.int .i64 node] w fun e w'=>∃v',e=.returned v'/\Below w.heap.size w w'/\w'.ownsRow w.heap.size 3 1 v' (zy m node).length ((zy m node).map (Value.int .i64)):=by
 obtain ⟨f,u,t,rfl,_,hu,_⟩:=hm;obtain ⟨A,c,rfl,d4,c8⟩:=hu;have hl:=d.layer;obtain ⟨d8,d9⟩:=hl;obtain ⟨w1,w2,d5,d6,ll1,ll2,n1,c7⟩:=d;obtain ⟨W,H,L,fr,up,ts⟩:=m;simp only at*;have HU:=zh c8;clear c8;have b6:=zh c7;clear c7
 go_enter Tryz.func97,Tryz.ntmps97
 have e0:0<=node / W:=Int.ediv_nonneg h0 (by omega);have e1:node / W<=node:=Int.ediv_le_self _ h0
 go_wp2_with fail
 go_quiet (fail)
 have e2:0<=node / W % H:=Int.emod_nonneg _ (by omega);have e3:node / W % H<H:=Int.emod_lt_of_pos _ (by omega);have e4:0<=node % W:=Int.emod_nonneg _ (by omega);have e5:node % W<W:=Int.emod_lt_of_pos _ (by omega);generalize b9:((w.alloc (.cells #[.int .i64 W,.int .i64 H,.int .i64 L,f,.slice A up.length c,t] 29)).drewN nq)=w1;have O:Below w.heap.size w w1:=by rw [<-b9];exact Dm ((Below.refl _ _).alloc (DE _) _) _
 have c6:zg w1 w.heap.size 29 #[.int .i64 W,.int .i64 H,.int .i64 L,f,.slice A up.length c,t]:=by rw [<-b9];exact Ep _ _
 have b5:=zh (HU.out.keep (zZ.of_below O):AD w1 ok 1 A up.length (up.map Value.bool));clear b9 HU;have K:=zh c6;clear c6;have U:=zh O;clear O;by_cases hA:W*H<=node
 ·by_cases hB:node+W*H<W*H*L
  ·have a7:(node - W*H).toNat<up.length:=by have:=b6.out;omega
   obtain ⟨b,off,a9,_,I⟩:=CE b5.out a7 a7;have D:=zn I;have a8:node.toNat<up.length:=by have:=b6.out;omega
   obtain ⟨b',off',b4,_,J⟩:=CE b5.out a8 a8;obtain ⟨rfl,rfl⟩:b=b'/\off=off':=by rw [a9] at b4;simpa using b4
   clear b4;subst a9;obtain ⟨b1,O⟩:=EH (up[(node - W*H).toNat]);rw [<-O] at I;have b0:=zh O;clear O;obtain ⟨b2,V⟩:=EH (up[node.toNat]);rw [<-V] at J;have b3:=zh V;clear V;have E:w.heap.size<w1.heap.size:=za K.out;have G:=fun o=>zw (K.out.alloc o)
   obtain ⟨m0,m1,m2,m3,m4,m5⟩:(∀o,(w1.alloc o).cell? ⟨w.heap.size,0,none⟩=_)/\(∀o,(w1.alloc o).cell? ⟨w.heap.size,1,none⟩=_)/\(∀o,(w1.alloc o).cell? ⟨w.heap.size,2,none⟩=_)/\(∀o,(w1.alloc o).cell? ⟨w.heap.size,3,none⟩=_)/\(∀o,(w1.alloc o).cell? ⟨w.heap.size,4,none⟩=_)/\(∀o,(w1.alloc o).cell? ⟨w.heap.size,5,none⟩=_):=⟨fun o=>(G o).1,fun o=>(G o).2.1,fun o=>(G o).2.2.1,fun o=>(G o).2.2.2.1,fun o=>(G o).2.2.2.2.1,fun o=>(G o).2.2.2.2.2⟩;clear G;have u1:∀o,(w1.alloc o).cell? ⟨b,off+(node - W*H).toNat,none⟩=_:=fun o=>(World.cell?_alloc_lt w1 o ⟨b,off+(node - W*H).toNat,none⟩ D).trans I
   have u2:∀o,(w1.alloc o).cell? ⟨b,off+node.toNat,none⟩=_:=fun o=>(World.cell?_alloc_lt w1 o ⟨b,off+node.toNat,none⟩ D).trans J
   go_wp2_with fail
   refine (addK w1 _ w1.heap.size w1.heap.size 0 _ _ _ (Acc.new w1) (by omega)).mono ?_;rintro e k1 ⟨rfl,a1⟩;clear m0 m1 m2 m3 m4 m5 u1 u2;obtain ⟨m0,m1,m2,m3,m4,m5⟩:=zw (K.out.below a1.below E);have u1:=(a1.below.cell (p:=⟨b,off+(node - W*H).toNat,none⟩) D).trans I;have u2:=(a1.below.cell (p:=⟨b,off+node.toNat,none⟩) D).trans J
   go_wp2_with fail
   refine (addK w1 _ w1.heap.size w1.heap.size 1 _ _ _ (a1) (by omega)).mono ?_;rintro e k2 ⟨rfl,a2⟩;clear m0 m1 m2 m3 m4 m5 u1 u2;obtain ⟨m0,m1,m2,m3,m4,m5⟩:=zw (K.out.below a2.below E);have u1:=(a2.below.cell (p:=⟨b,off+(node - W*H).toNat,none⟩) D).trans I;have u2:=(a2.below.cell (p:=⟨b,off+node.toNat,none⟩) D).trans J
   go_wp2_with fail
   refine (addK w1 _ w1.heap.size w1.heap.size 2 _ _ _ (a2) (by omega)).mono ?_;rintro e k3 ⟨rfl,a3⟩;clear m0 m1 m2 m3 m4 m5 u1 u2;obtain ⟨m0,m1,m2,m3,m4,m5⟩:=zw (K.out.below a3.below E);have u1:=(a3.below.cell (p:=⟨b,off+(node - W*H).toNat,none⟩) D).trans I;have u2:=(a3.below.cell (p:=⟨b,off+node.toNat,none⟩) D).trans J
   go_wp2_with fail
   refine (addK w1 _ w1.heap.size w1.heap.size 3 _ _ _ (a3) (by omega)).mono ?_;rintro e k4 ⟨rfl,a4⟩;clear m0 m1 m2 m3 m4 m5 u1 u2;obtain ⟨m0,m1,m2,m3,m4,m5⟩:=zw (K.out.below a4.below E);have u1:=(a4.below.cell (p:=⟨b,off+(node - W*H).toNat,none⟩) D).trans I;have u2:=(a4.below.cell (p:=⟨b,off+node.toNat,none⟩) D).trans J
   go_wp2_with fail
   refine (addK w1 _ w1.heap.size w1.heap.size 4 _ _ _ (a4) (by omega)).mono ?_;rintro e k5 ⟨rfl,a5⟩;clear m0 m1 m2 m3 m4 m5 u1 u2;obtain ⟨m0,m1,m2,m3,m4,m5⟩:=zw (K.out.below a5.below E);have u1:=(a5.below.cell (p:=⟨b,off+(node - W*H).toNat,none⟩) D).trans I;have u2:=(a5.below.cell (p:=⟨b,off+node.toNat,none⟩) D).trans J
   go_wp2_with fail
   refine (Ar W H L _ _ _ _ (by omega) (by omega)).mono ?_;rintro e kn ⟨rfl,a0⟩;have a5:=a5.more a0;clear m0 m1 m2 m3 m4 m5 u1 u2;obtain ⟨m0,m1,m2,m3,m4,m5⟩:=zw (K.out.below a5.below E);have u1:=(a5.below.cell (p:=⟨b,off+(node - W*H).toNat,none⟩) D).trans I;have u2:=(a5.below.cell (p:=⟨b,off+node.toNat,none⟩) D).trans J
   go_wp2_with fail
   refine (addK w1 _ w1.heap.size w1.heap.size 5 _ _ _ (a5) (by omega)).mono ?_;rintro e k6 ⟨rfl,a6⟩;clear m0 m1 m2 m3 m4 m5 u1 u2;obtain ⟨m0,m1,m2,m3,m4,m5⟩:=zw (K.out.below a6.below E);have u1:=(a6.below.cell (p:=⟨b,off+(node - W*H).toNat,none⟩) D).trans I;have u2:=(a6.below.cell (p:=⟨b,off+node.toNat,none⟩) D).trans J;obtain ⟨vf,b8,M⟩:=a6.end_;have HO:=zh M;clear M
   go_wp2_with fail
   go_ret;refine ⟨vf,rfl,BE U.out (Below.mono a6.below (DE _)) (DE _),?_⟩;exact next_fin (HO.out.mono U.out.size) (next_eq _ _ _ _ (by rw [b0.out];exact up_true hA a7) (by rw [b3.out];exact up_true hB a8))
  ·have a7:(node - W*H).toNat<up.length:=by have:=b6.out;omega
   obtain ⟨b,off,a9,_,I⟩:=CE b5.out a7 a7;have D:=zn I;subst a9;obtain ⟨b1,O⟩:=EH (up[(node - W*H).toNat]);rw [<-O] at I;have b0:=zh O;clear O;have E:w.heap.size<w1.heap.size:=za K.out;have G:=fun o=>zw (K.out.alloc o)
   obtain ⟨m0,m1,m2,m3,m4,m5⟩:(∀o,(w1.alloc o).cell? ⟨w.heap.size,0,none⟩=_)/\(∀o,(w1.alloc o).cell? ⟨w.heap.size,1,none⟩=_)/\(∀o,(w1.alloc o).cell? ⟨w.heap.size,2,none⟩=_)/\(∀o,(w1.alloc o).cell? ⟨w.heap.size,3,none⟩=_)/\(∀o,(w1.alloc o).cell? ⟨w.heap.size,4,none⟩=_)/\(∀o,(w1.alloc o).cell? ⟨w.heap.size,5,none⟩=_):=⟨fun o=>(G o).1,fun o=>(G o).2.1,fun o=>(G o).2.2.1,fun o=>(G o).2.2.2.1,fun o=>(G o).2.2.2.2.1,fun o=>(G o).2.2.2.2.2⟩;clear G;have u1:∀o,(w1.alloc o).cell? ⟨b,off+(node - W*H).toNat,none⟩=_:=fun o=>(World.cell?_alloc_lt w1 o ⟨b,off+(node - W*H).toNat,none⟩ D).trans I
   go_wp2_with fail
   refine (addK w1 _ w1.heap.size w1.heap.size 0 _ _ _ (Acc.new w1) (by omega)).mono ?_;rintro e k1 ⟨rfl,a1⟩;clear m0 m1 m2 m3 m4 m5 u1;obtain ⟨m0,m1,m2,m3,m4,m5⟩:=zw (K.out.below a1.below E);have u1:=(a1.below.cell (p:=⟨b,off+(node - W*H).toNat,none⟩) D).trans I
   go_wp2_with fail
   refine (addK w1 _ w1.heap.size w1.heap.size 1 _ _ _ (a1) (by omega)).mono ?_;rintro e k2 ⟨rfl,a2⟩;clear m0 m1 m2 m3 m4 m5 u1;obtain ⟨m0,m1,m2,m3,m4,m5⟩:=zw (K.out.below a2.below E);have u1:=(a2.below.cell (p:=⟨b,off+(node - W*H).toNat,none⟩) D).trans I
   go_wp2_with fail
   refine (addK w1 _ w1.heap.size w1.heap.size 2 _ _ _ (a2) (by omega)).mono ?_;rintro e k3 ⟨rfl,a3⟩;clear m0 m1 m2 m3 m4 m5 u1;obtain ⟨m0,m1,m2,m3,m4,m5⟩:=zw (K.out.below a3.below E);have u1:=(a3.below.cell (p:=⟨b,off+(node - W*H).toNat,none⟩) D).trans I
   go_wp2_with fail
   refine (addK w1 _ w1.heap.size w1.heap.size 3 _ _ _ (a3) (by omega)).mono ?_;rintro e k4 ⟨rfl,a4⟩;clear m0 m1 m2 m3 m4 m5 u1;obtain ⟨m0,m1,m2,m3,m4,m5⟩:=zw (K.out.below a4.below E);have u1:=(a4.below.cell (p:=⟨b,off+(node - W*H).toNat,none⟩) D).trans I
   go_wp2_with fail
   refine (addK w1 _ w1.heap.size w1.heap.size 4 _ _ _ (a4) (by omega)).mono ?_;rintro e k5 ⟨rfl,a5⟩;clear m0 m1 m2 m3 m4 m5 u1;obtain ⟨m0,m1,m2,m3,m4,m5⟩:=zw (K.out.below a5.below E);have u1:=(a5.below.cell (p:=⟨b,off+(node - W*H).toNat,none⟩) D).trans I
   go_wp2_with fail
   refine (Ar W H L _ _ _ _ (by omega) (by omega)).mono ?_;rintro e kn ⟨rfl,a0⟩;have a5:=a5.more a0;clear m0 m1 m2 m3 m4 m5 u1;obtain ⟨m0,m1,m2,m3,m4,m5⟩:=zw (K.out.below a5.below E);have u1:=(a5.below.cell (p:=⟨b,off+(node - W*H).toNat,none⟩) D).trans I
   go_wp2_with fail
   refine (addK w1 _ w1.heap.size w1.heap.size 5 _ _ _ (a5) (by omega)).mono ?_;rintro e k6 ⟨rfl,a6⟩;clear m0 m1 m2 m3 m4 m5 u1;obtain ⟨m0,m1,m2,m3,m4,m5⟩:=zw (K.out.below a6.below E);have u1:=(a6.below.cell (p:=⟨b,off+(node - W*H).toNat,none⟩) D).trans I;obtain ⟨vf,b8,M⟩:=a6.end_;have HO:=zh M;clear M
   go_wp2_with fail
   go_ret;refine ⟨vf,rfl,BE U.out (Below.mono a6.below (DE _)) (DE _),?_⟩;exact next_fin (HO.out.mono U.out.size) (next_eq _ _ _ _ (by rw [b0.out];exact up_true hA a7) (up_false (Int.not_lt.2 hB)))
 ·by_cases hB:node+W*H<W*H*L
  ·have a8:node.toNat<up.length:=by have:=b6.out;omega
   obtain ⟨b,off,a9,_,J⟩:=CE b5.out a8 a8;have D:=zn J;subst a9;obtain ⟨b2,V⟩:=EH (up[node.toNat]);rw [<-V] at J;have b3:=zh V;clear V;have E:w.heap.size<w1.heap.size:=za K.out;have G:=fun o=>zw (K.out.alloc o)
   obtain ⟨m0,m1,m2,m3,m4,m5⟩:(∀o,(w1.alloc o).cell? ⟨w.heap.size,0,none⟩=_)/\(∀o,(w1.alloc o).cell? ⟨w.heap.size,1,none⟩=_)/\(∀o,(w1.alloc o).cell? ⟨w.heap.size,2,none⟩=_)/\(∀o,(w1.alloc o).cell? ⟨w.heap.size,3,none⟩=_)/\(∀o,(w1.alloc o).cell? ⟨w.heap.size,4,none⟩=_)/\(∀o,(w1.alloc o).cell? ⟨w.heap.size,5,none⟩=_):=⟨fun o=>(G o).1,fun o=>(G o).2.1,fun o=>(G o).2.2.1,fun o=>(G o).2.2.2.1,fun o=>(G o).2.2.2.2.1,fun o=>(G o).2.2.2.2.2⟩;clear G;have u2:∀o,(w1.alloc o).cell? ⟨b,off+node.toNat,none⟩=_:=fun o=>(World.cell?_alloc_lt w1 o ⟨b,off+node.toNat,none⟩ D).trans J
   go_wp2_with fail
   refine (addK w1 _ w1.heap.size w1.heap.size 0 _ _ _ (Acc.new w1) (by omega)).mono ?_;rintro e k1 ⟨rfl,a1⟩;clear m0 m1 m2 m3 m4 m5 u2;obtain ⟨m0,m1,m2,m3,m4,m5⟩:=zw (K.out.below a1.below E);have u2:=(a1.below.cell (p:=⟨b,off+node.toNat,none⟩) D).trans J
   go_wp2_with fail
   refine (addK w1 _ w1.heap.size w1.heap.size 1 _ _ _ (a1) (by omega)).mono ?_;rintro e k2 ⟨rfl,a2⟩;clear m0 m1 m2 m3 m4 m5 u2;obtain ⟨m0,m1,m2,m3,m4,m5⟩:=zw (K.out.below a2.below E);have u2:=(a2.below.cell (p:=⟨b,off+node.toNat,none⟩) D).trans J
   go_wp2_with fail
   refine (addK w1 _ w1.heap.size w1.heap.size 2 _ _ _ (a2) (by omega)).mono ?_;rintro e k3 ⟨rfl,a3⟩;clear m0 m1 m2 m3 m4 m5 u2;obtain ⟨m0,m1,m2,m3,m4,m5⟩:=zw (K.out.below a3.below E);have u2:=(a3.below.cell (p:=⟨b,off+node.toNat,none⟩) D).trans J
   go_wp2_with fail
   refine (addK w1 _ w1.heap.size w1.heap.size 3 _ _ _ (a3) (by omega)).mono ?_;rintro e k4 ⟨rfl,a4⟩;clear m0 m1 m2 m3 m4 m5 u2;obtain ⟨m0,m1,m2,m3,m4,m5⟩:=zw (K.out.below a4.below E);have u2:=(a4.below.cell (p:=⟨b,off+node.toNat,none⟩) D).trans J
   go_wp2_with fail
   refine (addK w1 _ w1.heap.size w1.heap.size 4 _ _ _ (a4) (by omega)).mono ?_;rintro e k5 ⟨rfl,a5⟩;clear m0 m1 m2 m3 m4 m5 u2;obtain ⟨m0,m1,m2,m3,m4,m5⟩:=zw (K.out.below a5.below E);have u2:=(a5.below.cell (p:=⟨b,off+node.toNat,none⟩) D).trans J
   go_wp2_with fail
   refine (Ar W H L _ _ _ _ (by omega) (by omega)).mono ?_;rintro e kn ⟨rfl,a0⟩;have a5:=a5.more a0;clear m0 m1 m2 m3 m4 m5 u2;obtain ⟨m0,m1,m2,m3,m4,m5⟩:=zw (K.out.below a5.below E);have u2:=(a5.below.cell (p:=⟨b,off+node.toNat,none⟩) D).trans J
   go_wp2_with fail
   refine (addK w1 _ w1.heap.size w1.heap.size 5 _ _ _ (a5) (by omega)).mono ?_;rintro e k6 ⟨rfl,a6⟩;clear m0 m1 m2 m3 m4 m5 u2;obtain ⟨m0,m1,m2,m3,m4,m5⟩:=zw (K.out.below a6.below E);have u2:=(a6.below.cell (p:=⟨b,off+node.toNat,none⟩) D).trans J;obtain ⟨vf,b8,M⟩:=a6.end_;have HO:=zh M;clear M
   go_wp2_with fail
   go_ret;refine ⟨vf,rfl,BE U.out (Below.mono a6.below (DE _)) (DE _),?_⟩;exact next_fin (HO.out.mono U.out.size) (next_eq _ _ _ _ (up_false (Int.not_le.2 hA)) (by rw [b3.out];exact up_true hB a8))
  ·have E:w.heap.size<w1.heap.size:=za K.out;have G:=fun o=>zw (K.out.alloc o)
   obtain ⟨m0,m1,m2,m3,m4,m5⟩:(∀o,(w1.alloc o).cell? ⟨w.heap.size,0,none⟩=_)/\(∀o,(w1.alloc o).cell? ⟨w.heap.size,1,none⟩=_)/\(∀o,(w1.alloc o).cell? ⟨w.heap.size,2,none⟩=_)/\(∀o,(w1.alloc o).cell? ⟨w.heap.size,3,none⟩=_)/\(∀o,(w1.alloc o).cell? ⟨w.heap.size,4,none⟩=_)/\(∀o,(w1.alloc o).cell? ⟨w.heap.size,5,none⟩=_):=⟨fun o=>(G o).1,fun o=>(G o).2.1,fun o=>(G o).2.2.1,fun o=>(G o).2.2.2.1,fun o=>(G o).2.2.2.2.1,fun o=>(G o).2.2.2.2.2⟩;clear G
   go_wp2_with fail
   refine (addK w1 _ w1.heap.size w1.heap.size 0 _ _ _ (Acc.new w1) (by omega)).mono ?_;rintro e k1 ⟨rfl,a1⟩;clear m0 m1 m2 m3 m4 m5;obtain ⟨m0,m1,m2,m3,m4,m5⟩:=zw (K.out.below a1.below E)
   go_wp2_with fail
   refine (addK w1 _ w1.heap.size w1.heap.size 1 _ _ _ (a1) (by omega)).mono ?_;rintro e k2 ⟨rfl,a2⟩;clear m0 m1 m2 m3 m4 m5;obtain ⟨m0,m1,m2,m3,m4,m5⟩:=zw (K.out.below a2.below E)
   go_wp2_with fail
   refine (addK w1 _ w1.heap.size w1.heap.size 2 _ _ _ (a2) (by omega)).mono ?_;rintro e k3 ⟨rfl,a3⟩;clear m0 m1 m2 m3 m4 m5;obtain ⟨m0,m1,m2,m3,m4,m5⟩:=zw (K.out.below a3.below E)
   go_wp2_with fail
   refine (addK w1 _ w1.heap.size w1.heap.size 3 _ _ _ (a3) (by omega)).mono ?_;rintro e k4 ⟨rfl,a4⟩;clear m0 m1 m2 m3 m4 m5;obtain ⟨m0,m1,m2,m3,m4,m5⟩:=zw (K.out.below a4.below E)
   go_wp2_with fail
   refine (addK w1 _ w1.heap.size w1.heap.size 4 _ _ _ (a4) (by omega)).mono ?_;rintro e k5 ⟨rfl,a5⟩;clear m0 m1 m2 m3 m4 m5;obtain ⟨m0,m1,m2,m3,m4,m5⟩:=zw (K.out.below a5.below E)
   go_wp2_with fail
   refine (Ar W H L _ _ _ _ (by omega) (by omega)).mono ?_;rintro e kn ⟨rfl,a0⟩;have a5:=a5.more a0;clear m0 m1 m2 m3 m4 m5;obtain ⟨m0,m1,m2,m3,m4,m5⟩:=zw (K.out.below a5.below E)
   go_wp2_with fail
   refine (addK w1 _ w1.heap.size w1.heap.size 5 _ _ _ (a5) (by omega)).mono ?_;rintro e k6 ⟨rfl,a6⟩;clear m0 m1 m2 m3 m4 m5;obtain ⟨m0,m1,m2,m3,m4,m5⟩:=zw (K.out.below a6.below E);obtain ⟨vf,b8,M⟩:=a6.end_;have HO:=zh M;clear M
   go_wp2_with fail
   go_ret;refine ⟨vf,rfl,BE U.out (Below.mono a6.below (DE _)) (DE _),?_⟩;exact next_fin (HO.out.mono U.out.size) (next_eq _ _ _ _ (up_false (Int.not_le.2 hA)) (up_false (Int.not_lt.2 hB)))
def MZ.n (m:MZ):Int:=m.w*m.h*m.l
theorem mem_ap {c:Bool}:y∈ap c x l↔y∈l\/(c=true/\y=x):=by
 unfold ap
 cases c <;> simp
theorem row_step {w k:Int} (D:0<w) (G:y<w*k) (I:y % w+1<w):y+1<w*k:=by
 have h1:=Int.emod_add_mul_ediv y w
 have E:y / w<k:=by
  apply Int.ediv_lt_of_lt_mul D
  rwa [Int.mul_comm]
 have d:w*(y / w+1)<=w*k:=Int.mul_le_mul_of_nonneg_left (by omega) (by omega);rw [Int.mul_add,Int.mul_one] at d;omega
theorem layer_step {w h l:Int} (d:0<w) (hh:0<h) (I:y<w*h*l) (G:y / w % h+1<h):y+w<w*h*l:=by
 have E:y / w<h*l:=by
  apply Int.ediv_lt_of_lt_mul d;rw [Int.mul_comm,<-Int.mul_assoc];exact I
 have h1:=row_step hh E G;have J:=Int.emod_add_mul_ediv y w;have K:=Int.emod_lt_of_pos y d;have D:w*(y / w+2)<=w*(h*l):=Int.mul_le_mul_of_nonneg_left (by omega) (by omega);rw [Int.mul_add,<-Int.mul_assoc] at D;omega
theorem BY {m:MZ} (d:Dim m) (h0:0<=y) (h1:y<m.n) (h:x∈zy m y):0<=x/\x<m.n:=by
 unfold MZ.n at h1⊢;obtain ⟨l1,l2⟩:=d.layer;have J:=d.w1;have hh:=d.h1;simp only [zy,mem_ap,DQ,DO,Ey,false_or] at h;rcases h with ((((( ⟨⟨a,_⟩,rfl⟩) | ⟨a,rfl⟩) | ⟨a,rfl⟩) | ⟨a,rfl⟩) | ⟨a,rfl⟩) | ⟨⟨a,_⟩,rfl⟩
 ·omega
 ·have D:1<=y / m.w:=by
   have:0<=y / m.w:=Int.ediv_nonneg h0 (by omega);rcases Int.lt_or_le 0 (y / m.w) with h | h
   ·omega
   ·have:y / m.w=0:=by omega
    rw [this] at a;simp at a
  have E:=Int.emod_add_mul_ediv y m.w;have G:=Int.emod_nonneg y (show m.w≠0 by omega);have I:m.w*1<=m.w*(y / m.w):=Int.mul_le_mul_of_nonneg_left D (by omega);omega
 ·have:y≠0:=by rintro rfl;simp at a
  omega
 ·have:=row_step (y:=y) (w:=m.w) (k:=m.h*m.l) (by omega) (by rw [<-Int.mul_assoc];exact h1) a;rw [<-Int.mul_assoc] at this;omega
 ·have:=layer_step (by omega) (by omega) h1 a;omega
 ·omega
def zm (m:MZ) (t:Nat) (x:Int):Bool:=(m.free.getD t []).getD x.toNat false
def RP (m:MZ) (t:Nat) (from_ used:List Int) (x:Int):Prop:=
 ∀S:Int->Prop,(∀y∈from_,0<=y->y<m.n->S y)->(∀y z,S y->z∈zy m y->zm m t z=true->z∉used->S z)->S x
theorem RP.base {m:MZ} (h:x∈from_) (h0:0<=x) (h1:x<m.n):RP m t from_ used x:=fun _ d _=>d x h h0 h1
theorem RP.step {m:MZ} (h:RP m t from_ used y) (G:x∈zy m y) (hf:zm m t x=true) (E:x∉used):RP m t from_ used x:=
 fun S D d=>d y x (h S D d) G hf E
theorem RP.range {m:MZ} (d:Dim m) (h:RP m t from_ used x):0<=x/\x<m.n:=
 h (fun x=>0<=x/\x<m.n) (fun y _ h0 h1=>⟨h0,h1⟩) (fun y z D E _ _=>BY d D.1 D.2 E)
theorem RP.congr {m:MZ} {from' used':List Int} (hf:∀x,x∈from_↔x∈from') (G:∀x,x∈used↔x∈used') (h:RP m t from_ used x):RP m t from' used' x:=
 h _ (fun y D h0 h1=>RP.base ((hf y).1 D) h0 h1) (fun y z D I E d=>D.step I E (fun h=>d ((G z).2 h)))
theorem nodup_nat:∀(n:Nat) (l:List Nat),l.Nodup->(∀x∈l,x<n)->l.length<=n
 | 0,l,_,h=>by
  cases l with
  | nil=>simp
  | cons a l=>exact absurd (h a (Eo ..)) (by omega)
 | n+1,l,D,h=>by
  by_cases hm:n∈l
  ·have h1:=nodup_nat n (l.erase n) (D.erase n) (fun x d=>by
    have E:=(D.mem_erase_iff).1 d;have G:=h x E.2;omega)
   rw [List.length_erase_of_mem hm] at h1;omega
  ·have h1:=nodup_nat n l D (fun x d=>by
    have G:=h x d;have:x≠n:=by rintro rfl;exact hm d
    omega)
   omega
theorem Cn (K:l.Nodup) (n:Int) (D:∀x∈l,0<=x/\x<n):l.length<=n.toNat:=by
 have d:(l.map Int.toNat).Nodup:=by
  rw [List.nodup_iff_pairwise_ne,List.pairwise_map];refine List.Pairwise.imp_of_mem ?_ (List.nodup_iff_pairwise_ne.1 K);intro a b G J I he;have:=D a G;have:=D b J;omega
 have:=nodup_nat n.toNat (l.map Int.toNat) d (fun x E=>by
  rw [EA] at E;obtain ⟨y,M,rfl⟩:=E;have:=D y M;omega)
 simpa using this
end
end Go.Proofs.YtfjjdmpndmbfoaaGreatDoor
