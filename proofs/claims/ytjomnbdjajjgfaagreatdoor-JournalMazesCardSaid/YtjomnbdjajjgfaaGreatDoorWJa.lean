import Derived.WalkKit
import Derived.Lib.Hide
import Derived.Test.YtjomnbdjajjgfaaGreatDoorRows
import Derived.WalkLawsBesides
import Derived.WalkSpells
import Derived.BigQuiet
import Derived.Deep.QuietTactic
import Derived.ChangeMaps4
import Derived.Maps.RangeRun
import Derived.Deep.DeepCutAuto
import Derived.Deep.AppendLies
import Derived.Deep.Onto
import Derived.Maps.AppendAt
import Derived.WalkSmall
import Derived.Deep.LoopGhost
import Derived.Deep.RegionHeld
set_option linter.unusedVariables false
set_option linter.unusedSimpArgs false
set_option maxRecDepth 100000
set_option maxHeartbeats 16000000
namespace Go.Proofs.YtjomnbdjajjgfaaGreatDoor
variable {a:Act} {listed:Array Bool} {es:Array MapEntry} {ops:Array Oper} {cs:Array Value} {Q:Exit->Act->World->Prop} {x y:Int} {from_ l used:List Int} {rest:List Oper} {B fuel gb j k t:Nat} {o oi:Oper} {P:Program} {v':Value} {b w0:World}
section
open Go.RowKit
theorem zh {p: Prop} (h : p) : Hid p := Lib.hid h
theorem zc {α: Type} : (∀ (xs : List α) (i : Nat) (h : i < xs.toArray.size), xs.toArray[i] = xs[i]'(by simpa using h)) /\ (∀ (a : α) (l : List α) (i : Nat) (h : i + 1 < (a :: l).length), (a :: l)[i+1] = l[i]'(Nat.lt_of_succ_lt_succ h)) /\ (∀ (a : α) (l : List α) (h : 0 < (a :: l).length), (a :: l)[0] = a) /\ (∀ (l : List α) (i : Nat) (a : α), l.toArray.setIfInBounds i a = (l.set i a).toArray) /\ (∀ (a : α) (l : List α) (b : α), (a :: l).set 0 b = b :: l) /\ (∀ (a : α) (l : List α) (i : Nat) (b : α), (a :: l).set (i+1) b = a :: l.set i b) :=
 ⟨fun _ _ h => List.getElem_toArray h, fun _ _ _ _ => List.getElem_cons_succ .., fun _ _ _ => List.getElem_cons_zero .., fun _ _ _ => List.setIfInBounds_toArray .., fun _ _ _ => rfl, fun _ _ _ _ => rfl⟩
abbrev Fw := @List.getElem?_eq_getElem
abbrev Fx := @List.getD_eq_getElem?_getD
abbrev Fy := @Nat.le_refl
abbrev Fz := @List.getElem_mem
abbrev FA := @Nat.le_trans
abbrev FB := @decide_eq_true
abbrev FC := @decide_eq_false
abbrev FD := @List.getElem?_append_left
abbrev FE := @List.getElem?_append_right
abbrev FF := @List.take_succ_eq_append_getElem
abbrev FG := @List.length_append
abbrev FH := @Below.heap_setCell
abbrev FI := @decide_eq_true_eq
abbrev FJ := @List.take_length
abbrev FK := @Bool.and_eq_true
abbrev FM := @beq_eq_false_iff_ne
abbrev FN := @Nat.zero_le
abbrev zaa := @World.cell?_of_block
abbrev zab := @wp_region_held_drew
abbrev zac := @List.eq_nil_of_length_eq_zero
abbrev zad := @Below.heap_alloc
abbrev zae := @List.getElem?_eq_none
abbrev zaf := @List.mem_cons_of_mem
abbrev zag := @IntKind.wrap_i64
abbrev zah := @Nat.lt_or_ge
abbrev zai := @decide_eq_false_iff_not
abbrev zaj := @World.frozen?_of_block
abbrev zak := @List.length_singleton
abbrev zal := @AllReadyH.cons
abbrev zam := @Nat.lt_of_lt_of_le
abbrev zan := @List.length_filter_le
abbrev zao := @wpAnyH_done
abbrev zap := @Option.getD_some
abbrev zaq := @List.getElem_of_mem
abbrev zar := @List.mem_singleton
abbrev zas := @List.filter_cons_of_neg
abbrev zat := @List.getElem?_map
abbrev zau := @List.length_map
abbrev zav := @Nat.eq_zero_or_pos
abbrev zaw := @List.mem_cons_self
abbrev zax := @heap_alloc_new
abbrev zay := @List.filter_append
abbrev zaz := @List.mem_cons
abbrev za0 := @List.mem_append
abbrev za1 := @Int.toNat_natCast
abbrev za2 := @List.map_append
abbrev za3 := @List.length_take
abbrev za4 := @List.filter_cons_of_pos
abbrev za5 := @bodyPost_ret
abbrev za6 := @List.getElem?_eq_some_iff
abbrev za7 := @Array.getElem?_eq_some_iff
abbrev za8 := @List.not_mem_nil
abbrev za9 := @List.mem_filter
abbrev zaA := @List.mem_map
abbrev zaB := @List.mem_range
abbrev zaC := @List.length_drop
abbrev zaD := @Bool.or_eq_true
abbrev zaE := @List.any_eq_true
abbrev zaF := @List.all_eq_true
abbrev zaG := @List.length_cons
abbrev zaH := @List.length_nil
theorem Fv : (∀ (t : Array Value) (f : List Deferred) (d : Tmp) (v : Value), Act.put ⟨t, f⟩ (some d) v = ⟨t.setIfInBounds d v, f⟩) /\ (∀ (a : Act) (v : Value), Act.put a none v = a) := ⟨fun _ _ _ _ => rfl, fun _ _ => rfl⟩
theorem zgd {α: Type _} {l: List α} {d: α} (h : k < l.length) : l.getD k d = l[k] := by rw [List.getD_eq_getElem?_getD, List.getElem?_eq_getElem h]; rfl
theorem zaI {α: Sort _} (a : α) : ∃ x, x = a := ⟨_, rfl⟩
theorem zaJ {K: Act -> World -> Prop} {S: World -> Prop} {G: Act -> World -> Prop} (h : Shut (∀ a w, S w -> (S w -> G a w) -> K a w)) {w: World} (s : S w) (g : S w -> G a w) : K a w := h.out a w s g
theorem zi {md: Region.Mode} {Q: Exit -> Act -> World -> Prop} {S: World -> Prop} (i : Nat) {v: Value} {w: World} (D : S w)
 (h : wpAnyH P md ops Q S fuel (listed.setIfInBounds i true) (a.put oi.dst v) w) (G : ops[i]? = some oi := by rfl) (O : ∀ w, S w -> (execOp a.eval oi).run P w = .ok (.value v) w := by (intro w E; go_simp; try with_reducible rfl)) (M : Region.wanted oi (yielded ops a.tmps) = true := by rfl)
 (J : Region.noSelect ops = true := by kernel_rfl) (hf : Region.free md ops listed i = true := by kernel_rfl) (I : (Region.ready md ops listed).contains i = true := by kernel_rfl)
 (hQ : ∀ c a w, Q (.panic c) (a.put oi.dst v) w -> Q (.panic c) a w := by exact fun _ _ _ h => h) : wpAnyH P md ops Q S (fuel + 1) listed a w := wpAnyH_take G J hf I hQ (.inl ⟨M, O⟩) D h
theorem rtU {md: Region.Mode} {Q: Exit -> Act -> World -> Prop} {S: World -> Prop} (i : Nat) (v : Value) {w: World} (D : S w)
 (M : ∀ w, S w -> (execOp a.eval oi).run P w = .ok (.value v) w) (h : wpAnyH P md ops Q S fuel (listed.setIfInBounds i true) (a.put oi.dst v) w) (E : ops[i]? = some oi := by rfl) (J : Region.wanted oi (yielded ops a.tmps) = true := by rfl)
 (I : Region.noSelect ops = true := by kernel_rfl) (hf : Region.free md ops listed i = true := by kernel_rfl) (G : (Region.ready md ops listed).contains i = true := by kernel_rfl)
 (hQ : ∀ c a w, Q (.panic c) (a.put oi.dst v) w -> Q (.panic c) a w := by exact fun _ _ _ h => h) : wpAnyH P md ops Q S (fuel + 1) listed a w := wpAnyH_take E I hf G hQ (.inl ⟨J, M⟩) D h
theorem DI {md: Region.Mode} {Q: Exit -> Act -> World -> Prop} {S: World -> Prop} (i : Nat) {w: World} (D : S w)
 (h : wpAnyH P md ops Q S fuel (listed.setIfInBounds i true) (a.put oi.dst undef) w) (E : ops[i]? = some oi := by rfl) (J : Region.wanted oi (yielded ops a.tmps) = false := by rfl)
 (I : Region.noSelect ops = true := by kernel_rfl) (hf : Region.free md ops listed i = true := by kernel_rfl) (G : (Region.ready md ops listed).contains i = true := by kernel_rfl)
 (hQ : ∀ c a w, Q (.panic c) (a.put oi.dst undef) w -> Q (.panic c) a w := by exact fun _ _ _ h => h) : wpAnyH P md ops Q S (fuel + 1) listed a w := wpAnyH_take E I hf G hQ (.inr ⟨J, rfl⟩) D h
theorem BO {md: Region.Mode} {Q: Exit -> Act -> World -> Prop} {S: World -> Prop} {w: World} (i : Nat)
 (h : ∀ K' : Act -> World -> Prop, Shut (∀ a w, S w -> (S w -> wpAnyH P md ops Q S fuel (listed.setIfInBounds i true) a w) -> K' a w) -> if Region.wanted o (yielded ops a.tmps) = true then Oper.wp P o a w K' Q else K' (a.put o.dst undef) w)
 (D : ops[i]? = some o := by rfl) (E : Region.ready md ops listed = [i] := by kernel_rfl) : wpAnyH P md ops Q S (fuel + 1) listed a w := wpAnyH_ready E (by simp) (.cons D h .nil)
theorem rdA {md: Region.Mode} {Q: Exit -> Act -> World -> Prop} {S: World -> Prop} (rs : List Nat) {w: World}
 (h : AllReadyH P md ops Q S fuel listed a w rs) (E : Region.ready md ops listed = rs := by kernel_rfl) (D : rs ≠ [] := by simp) : wpAnyH P md ops Q S (fuel + 1) listed a w := wpAnyH_ready E D h
structure MZ where
 w:Int
 h:Int
 l:Int
 free:List (List Bool)
 up:List Bool
 tasks:List (List Int×List Int)
theorem zd {w:World} {o:Obj} (h:w.heap[k]?=some o):k<w.heap.size:=by
 rcases zah k w.heap.size with h1 | h1
 ·exact h1
 ·rw [Array.getElem?_eq_none h1] at h;cases h
theorem zo {w:World} {a:Addr} {v:Value} (h:w.cell? a=some v):a.block<w.heap.size:=by
 unfold World.cell? at h
 cases hh:w.heap[a.block]? with
 | none=>simp [hh] at h
 | some o=>exact zd hh
theorem En {w w':World} {a:Addr} (h:w'.heap[a.block]?=w.heap[a.block]?):w'.cell? a=w.cell? a:=zaa h
def Ao (ok:Nat->Prop) (w w':World):Prop:=∀b,ok b->b<w.heap.size->w'.heap[b]?=w.heap[b]?
theorem Ao.refl (ok:Nat->Prop) (w:World):Ao ok w w:=fun _ _ _=>rfl
theorem Ao.of_below {ok:Nat->Prop} {w w':World} (h:Below w.heap.size w w'):Ao ok w w':=fun b _ D=>h.block b D
theorem BH {a w w':World} (h:Below B a w) (D:Below w.heap.size w w') (E:B<=a.heap.size):Below B a w':=h.trans (D.mono (FA E h.size))
def Ba (w:World) (ok:Nat->Prop) (size:Nat) (A:Option Addr) (n:Nat) (xs:List Value):Prop:=
 xs.length=n*size/\(0<n->∃b off,A=some ⟨b,off,none⟩/\ok b/\∀j u,xs[j]?=some u->w.cell? ⟨b,off+j,none⟩=some u)
def AS (w:World) (ok:Nat->Prop) (size:Nat) (v:Value) (n:Nat) (xs:List Value):Prop:=
 ∃A c,v=.slice A n c/\n<=c/\Ba w ok size A n xs
section
variable {w w':World} {ok ok':Nat->Prop} {size n:Nat} {A:Option Addr} {v:Value} {xs:List Value}
theorem Ba.keep (h:Ba w ok size A n xs) (G:Ao ok w w'):Ba w' ok size A n xs:=
 ⟨h.1,fun I=>by
  obtain ⟨b,off,e,D,E⟩:=h.2 I;refine ⟨b,off,e,D,fun j u J=>?_⟩;have h1:=E j u J;exact (En (G b D (zo h1))).trans h1⟩
theorem Ba.weaken (h:Ba w ok size A n xs) (G:∀b,ok b->ok' b):Ba w ok' size A n xs:=
 ⟨h.1,fun I=>by
  obtain ⟨b,off,e,D,E⟩:=h.2 I;exact ⟨b,off,e,G b D,E⟩⟩
theorem Ba.nil (w:World) (ok:Nat->Prop) (size:Nat) (A:Option Addr):Ba w ok size A 0 []:=⟨by simp,fun h=>absurd h (by omega)⟩
theorem Ba.at_ (h:Ba w ok 1 A n xs) (I:k<n):∃b off u,A=some ⟨b,off,none⟩/\ok b/\xs[k]?=some u/\w.cell? ⟨b,off+k,none⟩=some u:=by
 obtain ⟨b,off,e,E,G⟩:=h.2 (by omega);have D:k<xs.length:=by have:=h.1;omega
 exact ⟨b,off,xs[k],e,E,Fw D,G k _ (Fw D)⟩
theorem AS.keep (h:AS w ok size v n xs) (E:Ao ok w w'):AS w' ok size v n xs:=by
 obtain ⟨A,c,rfl,D,G⟩:=h;exact ⟨A,c,rfl,D,G.keep E⟩
theorem AS.weaken (h:AS w ok size v n xs) (E:∀b,ok b->ok' b):AS w ok' size v n xs:=by
 obtain ⟨A,c,rfl,D,G⟩:=h;exact ⟨A,c,rfl,D,G.weaken E⟩
theorem AS.below (h:AS w ok size v n xs) (D:Below w.heap.size w w'):AS w' ok size v n xs:=h.keep (Ao.of_below D)
theorem AS.of_own {base:Nat} {e:TypeId} (h:w.ownsRow base e size v n xs):AS w (fun b=>base<=b) size v n xs:=by
 obtain ⟨I,⟨rfl,rfl⟩ | ⟨g,cap,cur,rfl,M,hh,E,G,J,ht⟩⟩:=h
 ·exact ⟨none,0,rfl,Fy _,I,fun h=>absurd h (by omega)⟩
 ·refine ⟨some ⟨g,0,none⟩,cap,rfl,E,I,fun _=>⟨g,0,rfl,M,fun j u D=>?_⟩⟩;unfold World.cell?;simp only [hh,Nat.zero_add];rw [<-ht,List.getElem?_take] at D
  split at D
  ·simpa using D
  ·cases D
end
def zg (w:World) (ok:Nat->Prop) (v:Value) (l:List Int):Prop:=AS w ok 1 v l.length (l.map (Value.int .i64))
def AR (w:World) (ok:Nat->Prop) (v:Value) (l:List Bool):Prop:=AS w ok 1 v l.length (l.map Value.bool)
def Each {α:Type} (R:Value->α->Prop) (w:World) (ok:Nat->Prop) (v:Value) (l:List α):Prop:=
 ∃vs,AS w ok 1 v l.length vs/\∀(i:Nat) x,l[i]?=some x->∃u,vs[i]?=some u/\R u x
def zU (w:World) (ok:Nat->Prop) (v:Value) (l:List (List Int)):Prop:=Each (zg w ok) w ok v l
def BG (w:World) (ok:Nat->Prop) (v:Value) (l:List (List Bool)):Prop:=Each (AR w ok) w ok v l
def Cv (w:World) (ok:Nat->Prop) (v:Value) (l:List (List Int×List Int)):Prop:=
 ∃vs,AS w ok 3 v l.length vs/\∀(i:Nat) x,l[i]?=some x->∃s u1 u2,vs[i*3]?=some (.string s)/\vs[i*3+1]?=some u1/\vs[i*3+2]?=some u2/\zg w ok u1 x.1/\zg w ok u2 x.2
def zL (w:World) (ok:Nat->Prop) (v:Value) (m:MZ):Prop:=
 ∃f u t,v=.agg #[.int .i64 m.w,.int .i64 m.h,.int .i64 m.l,f,u,t]/\BG w ok f m.free/\AR w ok u m.up/\Cv w ok t m.tasks
section
variable {w w':World} {ok ok':Nat->Prop} {v:Value}
theorem zg.keep {l:List Int} (h:zg w ok v l) (D:Ao ok w w'):zg w' ok v l:=AS.keep h D
theorem zg.weaken {l:List Int} (h:zg w ok v l) (D:∀b,ok b->ok' b):zg w ok' v l:=AS.weaken h D
theorem zg.below {l:List Int} (h:zg w ok v l) (D:Below w.heap.size w w'):zg w' ok v l:=AS.below h D
theorem AR.keep {l:List Bool} (h:AR w ok v l) (D:Ao ok w w'):AR w' ok v l:=AS.keep h D
theorem AR.weaken {l:List Bool} (h:AR w ok v l) (D:∀b,ok b->ok' b):AR w ok' v l:=AS.weaken h D
theorem Each.keep {α:Type} {R R':Value->α->Prop} {l:List α} (h:Each R w ok v l) (G:Ao ok w w') (E:∀u x,R u x->R' u x):Each R' w' ok v l:=by
 obtain ⟨vs,D,he⟩:=h;refine ⟨vs,D.keep G,fun i x J=>?_⟩;obtain ⟨u,I,D⟩:=he i x J;exact ⟨u,I,E _ _ D⟩
theorem Each.weaken {α:Type} {R R':Value->α->Prop} {l:List α} (h:Each R w ok v l) (G:∀b,ok b->ok' b) (E:∀u x,R u x->R' u x):Each R' w ok' v l:=by
 obtain ⟨vs,D,he⟩:=h;refine ⟨vs,D.weaken G,fun i x J=>?_⟩;obtain ⟨u,I,D⟩:=he i x J;exact ⟨u,I,E _ _ D⟩
theorem zU.keep {l:List (List Int)} (h:zU w ok v l) (D:Ao ok w w'):zU w' ok v l:=Each.keep h D fun _ _ E=>E.keep D
theorem zU.weaken {l:List (List Int)} (h:zU w ok v l) (D:∀b,ok b->ok' b):zU w ok' v l:=Each.weaken h D fun _ _ E=>E.weaken D
theorem BG.keep {l:List (List Bool)} (h:BG w ok v l) (D:Ao ok w w'):BG w' ok v l:=Each.keep h D fun _ _ E=>E.keep D
theorem BG.weaken {l:List (List Bool)} (h:BG w ok v l) (D:∀b,ok b->ok' b):BG w ok' v l:=Each.weaken h D fun _ _ E=>E.weaken D
theorem Cv.keep {l:List (List Int×List Int)} (h:Cv w ok v l) (D:Ao ok w w'):Cv w' ok v l:=by
 obtain ⟨vs,E,he⟩:=h;refine ⟨vs,E.keep D,fun i x G=>?_⟩;obtain ⟨s,u1,u2,h0,h1,h2,i1,i2⟩:=he i x G;exact ⟨s,u1,u2,h0,h1,h2,i1.keep D,i2.keep D⟩
theorem Cv.weaken {l:List (List Int×List Int)} (h:Cv w ok v l) (D:∀b,ok b->ok' b):Cv w ok' v l:=by
 obtain ⟨vs,E,he⟩:=h;refine ⟨vs,E.weaken D,fun i x G=>?_⟩;obtain ⟨s,u1,u2,h0,h1,h2,i1,i2⟩:=he i x G;exact ⟨s,u1,u2,h0,h1,h2,i1.weaken D,i2.weaken D⟩
theorem zL.keep {m:MZ} (h:zL w ok v m) (D:Ao ok w w'):zL w' ok v m:=by
 obtain ⟨f,u,t,rfl,h1,h2,h3⟩:=h;exact ⟨f,u,t,rfl,h1.keep D,h2.keep D,h3.keep D⟩
theorem zL.weaken {m:MZ} (h:zL w ok v m) (D:∀b,ok b->ok' b):zL w ok' v m:=by
 obtain ⟨f,u,t,rfl,h1,h2,h3⟩:=h;exact ⟨f,u,t,rfl,h1.weaken D,h2.weaken D,h3.weaken D⟩
theorem zL.below {m:MZ} (h:zL w ok v m) (D:Below w.heap.size w w'):zL w' ok v m:=h.keep (Ao.of_below D)
theorem zU.below {l:List (List Int)} (h:zU w ok v l) (D:Below w.heap.size w w'):zU w' ok v l:=h.keep (Ao.of_below D)
theorem AR.below {l:List Bool} (h:AR w ok v l) (D:Below w.heap.size w w'):AR w' ok v l:=h.keep (Ao.of_below D)
theorem BG.below {l:List (List Bool)} (h:BG w ok v l) (D:Below w.heap.size w w'):BG w' ok v l:=h.keep (Ao.of_below D)
theorem Cv.below {l:List (List Int×List Int)} (h:Cv w ok v l) (D:Below w.heap.size w w'):Cv w' ok v l:=h.keep (Ao.of_below D)
theorem zg.open (h:zg w ok v l):∃A c,v=.slice A l.length c/\l.length<=c/\Ba w ok 1 A l.length (l.map (Value.int .i64)):=h
theorem zg.nil (w:World) (ok:Nat->Prop):zg w ok (.slice none 0 0) []:=⟨none,0,rfl,Fy _,Ba.nil _ _ _ _⟩
theorem Ai {n:Nat} {A:Option Addr} (h:Ba w ok 1 A n (l.map (Value.int .i64))) (I:k<n) (J:k<l.length):
  ∃b off,A=some ⟨b,off,none⟩/\ok b/\w.cell? ⟨b,off+k,none⟩=some (.int .i64 (l[k])):=by
 obtain ⟨b,off,u,e,E,D,G⟩:=h.at_ I;refine ⟨b,off,e,E,?_⟩;rw [zat,Fw J] at D;rw [G,<-D];rfl
theorem BS {l:List Bool} {n:Nat} {A:Option Addr} (h:Ba w ok 1 A n (l.map Value.bool)) (I:k<n) (J:k<l.length):
  ∃b off,A=some ⟨b,off,none⟩/\ok b/\w.cell? ⟨b,off+k,none⟩=some (.bool (l[k])):=by
 obtain ⟨b,off,u,e,E,D,G⟩:=h.at_ I;refine ⟨b,off,e,E,?_⟩;rw [zat,Fw J] at D;rw [G,<-D];rfl
theorem AW {α:Type} {R:Value->α->Prop} {l:List α} {vs:List Value} {n:Nat} {A:Option Addr} (h:Ba w ok 1 A n vs) (he:∀(i:Nat) x,l[i]?=some x->∃u,vs[i]?=some u/\R u x) (I:k<n) (J:k<l.length):
  ∃b off u,A=some ⟨b,off,none⟩/\ok b/\w.cell? ⟨b,off+k,none⟩=some u/\R u (l[k]):=by
 obtain ⟨b,off,u,e,E,O,G⟩:=h.at_ I;obtain ⟨u',D,M⟩:=he k _ (Fw J);rw [O] at D;injection D with D;subst D;exact ⟨b,off,u,e,E,G,M⟩
end
theorem Bh {k:IntKind} {a b:Int} (h:a=b):Ending.returned (.int k a)=.returned (.int k b):=by rw [h]
theorem zm {a b:Bool} (h:a=b):Ending.returned (.bool a)=.returned (.bool b):=by rw [h]
theorem Bi (W H L:Int) (f u t:Value) (w:World) (h1:-1000000000<=W*H/\W*H<=1000000000) (h2:-1000000000000000<=W*H*L/\W*H*L<=1000000000000000):
  Calls Tryz.prog 124 #[.agg #[.int .i64 W,.int .i64 H,.int .i64 L,f,u,t]] w fun e w'=>e=.returned (.int .i64 (W*H*L))/\Below w.heap.size w w':=by
 obtain ⟨D,E⟩:=h1;obtain ⟨G,I⟩:=h2
 go_enter Tryz.func124,Tryz.ntmps124
 go_wp2;go_ret;exact ⟨rfl,(Below.refl _ _).alloc (Fy _) _⟩
theorem AB (W H L:Int) (f u t:Value) (w:World) (h1:-1000000000<=W*H/\W*H<=1000000000) (h2:-1000000000000000<=W*H*L/\W*H*L<=1000000000000000):
  Calls Tryz.prog 41 #[.agg #[.int .i64 W,.int .i64 H,.int .i64 L,f,u,t]] w fun e w'=>e=.returned (.int .i64 (W*H*L))/\Below w.heap.size w w':=by
 obtain ⟨D,E⟩:=h1;obtain ⟨G,I⟩:=h2
 go_enter Tryz.func41,Tryz.ntmps41
 go_wp2;go_ret;exact ⟨rfl,(Below.refl _ _).alloc (Fy _) _⟩
theorem mod_eq (n m:Int) (hm:0<m) (D:m<=1000000):(wrap64 (n.tmod m+m)).tmod m=n % m:=by
 have h1:n.tmod m<m:=Int.tmod_lt_of_pos n hm
 have h2:-m<n.tmod m:=by
  have:=Int.lt_tmod_of_pos n hm;omega
 rw [IntWalk.wrap64_in _ (by omega),Int.tmod_eq_emod_of_nonneg (by omega),Int.add_emod_right];have h3:=Int.tmod_add_mul_tdiv n m;have h4:n=n.tmod m+m*n.tdiv m:=h3.symm
 conv=>rhs;rw [h4]
 rw [Int.add_mul_emod_self_left]
theorem mod_calls (n m:Int) (w:World) (hm:0<m) (D:m<=1000000):
  Calls Tryz.prog 40 #[.int .i64 n,.int .i64 m] w fun e w'=>e=.returned (.int .i64 (n % m))/\w=w':=by
 have h:=mod_eq n m hm D;have H:=zh h;clear h
 go_enter Tryz.func40,Tryz.ntmps40
 go_wp2;go_ret;exact ⟨Bh H.out,rfl⟩
theorem zF (h:k<l.length) (n:Int):n∈l.take (k+1)↔n∈l.take k\/n=l[k]:=by
 rw [FF h,za0,zar]
theorem AO {ok:Nat->Prop} {v:Value} (n:Int) (w:World) (h:zg w ok v l) (hl:l.length<=20000000000000):
  Calls Tryz.prog 73 #[v,.int .i64 n] w fun e w'=>e=.returned (.bool (decide (n∈l)))/\w=w':=by
 obtain ⟨A,c,rfl,hc,U⟩:=h;have V:=zh U;clear U
 go_enter Tryz.func73,Tryz.ntmps73
 go_wp2
 go_loop [5] (fun i=>∃k:Nat,k<=l.length/\i=.int .i64 k/\Hid (n∉l.take k)) (fun i=>l.length - (intOf i).toNat)
 case atStart=>exact ⟨0,FN _,rfl,by simp [Hid]⟩
 case round=>
  obtain ⟨k,hk,rfl,O⟩:=hrel;by_cases I:k<l.length
  ·obtain ⟨b,off,rfl,_,G⟩:=Ai V.out I I;obtain ⟨x,J⟩:=zaI (l[k]);rw [<-J] at G;have M:=zh J;clear J;by_cases D:x=n
   ·have hb:(x==n)=true:=by simp [D]
    have E:=zh D;clear D;go_wp2;go_ret;exact ⟨zm (by simp only [true_eq_decide_iff];rw [<-E.out,M.out];exact Fz _),rfl⟩
   ·have hb:(x==n)=false:=by simp [D]
    have E:=zh D;clear D;go_wp2
    go_round
    case rel=>exact ⟨k+1,by omega,by go_num,fun hm=>by
     rcases (zF I n).1 hm with h | h
     ·exact O.out h
     ·exact E.out (M.out.trans h.symm)⟩
    case measure=>simp [intOf];omega
  ·obtain rfl:k=l.length:=by omega
   go_wp2;go_ret;exact ⟨zm (by have h:=O.out;rw [FJ] at h;simp [h]),rfl⟩
theorem index_calls {ok:Nat->Prop} {v:Value} (n:Int) (w:World) (h:zg w ok v l) (hl:l.length<=20000000000000):
  Calls Tryz.prog 187 #[v,.int .i64 n] w fun e w'=>∃r:Int,e=.returned (.int .i64 r)/\(0<=r↔n∈l)/\-1<=r/\w=w':=by
 obtain ⟨A,c,rfl,hc,V⟩:=h;have HR:=zh V;clear V
 go_enter Tryz.func187,Tryz.ntmps187
 go_wp2
 go_loop [8] (fun i=>∃k:Nat,k<=l.length/\i=.int .i64 k/\Hid (n∉l.take k)) (fun i=>l.length - (intOf i).toNat)
 case atStart=>exact ⟨0,FN _,rfl,by simp [Hid]⟩
 case round=>
  obtain ⟨k,hk,rfl,U⟩:=hrel;by_cases I:k<l.length
  ·obtain ⟨b,off,rfl,_,G⟩:=Ai HR.out I I;obtain ⟨x,J⟩:=zaI (l[k]);rw [<-J] at G;have M:=zh J;clear J;by_cases D:n=x
   ·have hb:(n==x)=true:=by simp [D]
    have E:=zh D;clear D;go_wp2;go_ret;exact ⟨_,rfl,⟨fun _=>by rw [E.out,M.out];exact Fz _,fun _=>by omega⟩,by omega,rfl⟩
   ·have hb:(n==x)=false:=by simp [D]
    have E:=zh D;clear D;go_wp2
    go_round
    case rel=>exact ⟨k+1,by omega,by go_num,fun hm=>by
     rcases (zF I n).1 hm with h | h
     ·exact U.out h
     ·exact E.out (h.trans M.out.symm)⟩
    case measure=>simp [intOf];omega
  ·obtain rfl:k=l.length:=by omega
   go_wp2;go_ret;have h:=U.out;rw [FJ] at h;exact ⟨_,rfl,⟨fun O=>by omega,fun O=>absurd O h⟩,by omega,rfl⟩
theorem Bo {ok:Nat->Prop} {v:Value} (n:Int) (w:World) (h:zg w ok v l) (I:l.length<=20000000000000):
  Calls Tryz.prog 130 #[v,.int .i64 n] w fun e w'=>e=.returned (.bool (decide (n∈l)))/\w=w':=by
 have D:=index_calls n w h I;obtain ⟨A,c,rfl,M,E⟩:=h;have H:=zh D;clear D;clear E
 go_enter Tryz.func130,Tryz.ntmps130
 go_wp2_with fail
 refine H.out.mono ?_;rintro e w' ⟨r,rfl,E,J,rfl⟩;have G:=zh E;clear E
 go_wp2_with fail
 go_ret;exact ⟨zm (by rw [decide_eq_decide];exact G.out),rfl⟩
theorem Du {a w:World} (h:Below B a w) (n:Nat):Below B a (w.drewN n):=⟨h.os,h.tape,h.output,h.size,h.block⟩
theorem take_succ_eq {α:Type} {a b:List α} (D:k<a.length) (E:k<b.length):a.take (k+1)=b.take (k+1)↔a.take k=b.take k/\a[k]=b[k]:=by
 rw [FF D,FF E];constructor
 ·intro h;have G:(a.take k).length=(b.take k).length:=by simp;omega
  have:=List.append_inj h G;simpa using this
 ·rintro ⟨h1,h2⟩;rw [h1,h2]
def zT (w w':World):Prop:=∃n,w'=w.drewN n
theorem zT.refl (w:World):zT w w:=⟨0,rfl⟩
theorem zT.trans {a c:World} (h:zT a b) (D:zT b c):zT a c:=by
 obtain ⟨n,rfl⟩:=h;obtain ⟨m,rfl⟩:=D;exact ⟨n+m,by rw [World.drewN_drewN]⟩
theorem zT.more {a:World} (h:zT a b) (n:Nat):zT a (b.drewN n):=h.trans ⟨n,rfl⟩
theorem zT.same {a:World} (h:zT a b) (ok:Nat->Prop):Ao ok a b:=by
 obtain ⟨n,rfl⟩:=h;exact fun _ _ _=>rfl
theorem zT.below {a:World} (h:zT a b) (B:Nat):Below B a b:=by
 obtain ⟨n,rfl⟩:=h;exact Du (Below.refl _ _) n
theorem EN {ok ok':Nat->Prop} {v:Value} {a b:List Int} (w:World) (h:zg w ok v a) (h':zg w ok' v' b) (hl:a.length<=20000000000000) (b3:b.length<=20000000000000):
  Calls Tryz.prog 15 #[v,v'] w fun e w'=>e=.returned (.bool (decide (a=b)))/\zT w w':=by
 obtain ⟨A,c,rfl,hc,hr⟩:=h;obtain ⟨A',c',rfl,b2,V⟩:=h';have HR:=zh hr;clear hr;have a1:=zh V;clear V;by_cases D:a.length=b.length
 ·have a3:((a.length:Int) != (b.length:Int))=false:=by simp [D]
  have b4:a.length<=b.length:=by omega
  have a8:b.length<=a.length:=by omega
  have HL:=zh D;clear D
  go_enter Tryz.func15,Tryz.ntmps15
  go_wp2;go_loopw [5] (fun i wr=>∃k:Nat,k<=a.length/\i=.int .i64 k/\Hid (a.take k=b.take k)/\Hid (zT w wr)) (fun i _=>a.length - (intOf i).toNat)
  case atStart=>exact ⟨0,FN _,rfl,by simp [Hid],zT.refl _⟩
  case round=>
   obtain ⟨k,hk,rfl,heq,U⟩:=hrel;by_cases O:k<a.length
   ·have G:k<b.length:=by omega
    obtain ⟨bA,off,rfl,_,M⟩:=Ai (HR.out.keep (U.out.same ok)) O O;obtain ⟨bB,off',rfl,_,I⟩:=Ai (a1.out.keep (U.out.same ok')) G G;obtain ⟨x,hx⟩:=zaI (a[k]);obtain ⟨y,hy⟩:=zaI (b[k]);rw [<-hx] at M;rw [<-hy] at I;have HX:=zh hx;clear hx;have HY:=zh hy;clear hy;by_cases E:x=y
    ·have a2:(x != y)=false:=by simp [E]
     have J:=zh E;clear E;go_wp2;go_quiet (fail)
     go_wp2;go_roundw
     case rel=>exact ⟨k+1,by omega,by go_num,(take_succ_eq O G).2 ⟨heq.out,by rw [<-HX.out,<-HY.out,J.out]⟩,U.out.more _⟩
     case measure=>simp [intOf];omega
    ·have a2:(x != y)=true:=by simp [E]
     have J:=zh E;clear E;go_wp2;go_quiet (fail)
     go_wp2;go_ret;refine ⟨zm ?_,U.out.more _⟩;rw [eq_comm,zai];rintro rfl;exact J.out (HX.out.trans HY.out.symm)
   ·obtain rfl:k=a.length:=by omega
    go_wp2;go_ret;refine ⟨zm ?_,U.out⟩;have h:=heq.out;rw [FJ,HL.out,FJ] at h;simp [h]
 ·have a3:((a.length:Int) != (b.length:Int))=true:=by simp only [bne_iff_ne];omega
  have HL:=zh D;clear D
  go_enter Tryz.func15,Tryz.ntmps15
  go_wp2;go_ret;refine ⟨zm ?_,zT.refl _⟩;rw [eq_comm,zai];rintro rfl;exact HL.out rfl
theorem samePaths_calls {ok ok':Nat->Prop} {v:Value} {a b:List (List Int)} (w:World) (h:zU w ok v a) (h':zU w ok' v' b) (hl:a.length<=20000000000000) (d6:b.length<=20000000000000)
  (ha:∀x∈a,x.length<=20000000000000) (hb:∀x∈b,x.length<=20000000000000):
  Calls Tryz.prog 14 #[v,v'] w fun e w'=>e=.returned (.bool (decide (a=b)))/\zT w w':=by
 obtain ⟨vs,⟨A,c,rfl,hc,hr⟩,he⟩:=h;obtain ⟨vs',⟨A',c',rfl,d5,a3⟩,a2⟩:=h';have HR:=zh hr;clear hr;have a8:=zh a3;clear a3;have HE:=zh he;clear he;have a6:=zh a2;clear a2;have HA:=zh ha;clear ha;have HB:=zh hb;clear hb;by_cases D:a.length=b.length
 ·have b0:((a.length:Int) != (b.length:Int))=false:=by simp [D]
  have d7:a.length<=b.length:=by omega
  have b8:b.length<=a.length:=by omega
  have HL:=zh D;clear D
  go_enter Tryz.func14,Tryz.ntmps14
  go_wp2;go_loopw [5] (fun i wr=>∃k:Nat,k<=a.length/\i=.int .i64 k/\Hid (a.take k=b.take k)/\Hid (zT w wr)) (fun i _=>a.length - (intOf i).toNat)
  case atStart=>exact ⟨0,FN _,rfl,by simp [Hid],zT.refl _⟩
  case round=>
   obtain ⟨k,hk,rfl,heq,hq⟩:=hrel;by_cases O:k<a.length
   ·have G:k<b.length:=by omega
    obtain ⟨bA,off,u,rfl,_,a9,hu⟩:=AW (HR.out.keep (hq.out.same ok)) HE.out O O;obtain ⟨bB,off',u',rfl,_,a5,a1⟩:=AW (a8.out.keep (hq.out.same ok')) a6.out G G;have V:=HA.out _ (Fz O);have M:=HB.out _ (Fz G);obtain ⟨x,hx⟩:=zaI (a[k]);obtain ⟨y,hy⟩:=zaI (b[k]);rw [<-hx] at hu V;rw [<-hy] at a1 M;have HX:=zh hx;clear hx;have HY:=zh hy;clear hy
    have E:∀n,Calls Tryz.prog 15 #[u,u'] (wr.drewN n) fun e w'=>e=.returned (.bool (decide (x=y)))/\∃m,w'=(wr.drewN n).drewN m:=
     fun n=>EN (wr.drewN n) (hu.keep ((hq.out.more n).same ok)) (a1.keep ((hq.out.more n).same ok')) V M
    have HS:=zh E;clear E hu a1 V M;by_cases I:x=y
    ·have J:decide (x=y)=true:=by simp [I]
     rw [J] at HS;have U:=zh I;clear I J;go_wp2;go_quiet ((go_at_call 15;exact Calls.quiet_of (HS.out _)))
     go_wp2;go_roundw
     case rel=>exact ⟨k+1,by omega,by go_num,(take_succ_eq O G).2 ⟨heq.out,by rw [<-HX.out,<-HY.out,U.out]⟩,hq.out.more _⟩
     case measure=>simp [intOf];omega
    ·have J:decide (x=y)=false:=by simp [I]
     rw [J] at HS;have U:=zh I;clear I J;go_wp2;go_quiet ((go_at_call 15;exact Calls.quiet_of (HS.out _)))
     go_wp2;go_ret;refine ⟨zm ?_,hq.out.more _⟩;rw [eq_comm,zai];rintro rfl;exact U.out (HX.out.trans HY.out.symm)
   ·obtain rfl:k=a.length:=by omega
    go_wp2;go_ret;refine ⟨zm ?_,hq.out⟩;have h:=heq.out;rw [FJ,HL.out,FJ] at h;simp [h]
 ·have b0:((a.length:Int) != (b.length:Int))=true:=by simp only [bne_iff_ne];omega
  have HL:=zh D;clear D
  go_enter Tryz.func14,Tryz.ntmps14
  go_wp2;go_ret;refine ⟨zm ?_,zT.refl _⟩;rw [eq_comm,zai];rintro rfl;exact HL.out rfl
end
section
open Go.RowKit
open Go.ChangeMaps (setBlock)
def zO:List Int->Nat->List MapEntry
 | [],_=>[]
 | x :: l,b=>{ key:=.int .i64 x,val:=.bool true,born:=b } :: zO l (b+1)
def mapObj (l:List Int):Obj:=.map (zO l 0).toArray l.length
def zW (w:World) (g:Nat) (l:List Int):Prop:=w.heap[g]?=some (mapObj l)
def ins (l:List Int) (x:Int):List Int:=if x∈l then l else l++[x]
theorem mem_ins:y∈ins l x↔y∈l\/y=x:=by
 unfold ins
 split
 ·constructor
  ·exact .inl
  ·rintro (h | rfl)
   ·exact h
   ·assumption
 ·simp
theorem DT:∀(l:List Int) (b:Nat),(zO l b).length=l.length
 | [],_=>rfl
 | _ :: l,b=>by simp [zO,DT l]
theorem EW:∀(l l':List Int) (b:Nat),zO (l++l') b=zO l b++zO l' (b+l.length)
 | [],_,_=>by simp [zO]
 | _ :: l,l',b=>by simp [zO,EW l l' (b+1),Nat.add_assoc,Nat.add_comm 1]
theorem Dw:∀(l:List Int) (b i:Nat),(zO l b)[i]?=(l[i]?).map fun x=>{ key:=.int .i64 x,val:=.bool true,born:=b+i }
 | [],_,_=>by simp [zO]
 | x :: l,b,0=>by simp [zO]
 | x :: l,b,i+1=>by simp [zO,Dw l (b+1) i,Nat.add_assoc,Nat.add_comm 1]
theorem zW.keep {ok:Nat->Prop} {w w':World} {g:Nat} (h:zW w g l) (E:Ao ok w w') (D:ok g):zW w' g l:=(E g D (zd h)).trans h
theorem zW.below {w w':World} {g:Nat} (h:zW w g l) (D:Below w.heap.size w w'):zW w' g l:=(D.block g (zd h)).trans h
theorem zW.new (w:World):zW (w.alloc (.map #[] 0)) w.heap.size []:=zax _ _
open Go.Instr in
theorem EX (x:Int):∀(l:List Int) (b s:Nat),findNow (.int .i64) (.int .i64 x) (zO l b) s=some (if x∈l then some (s+l.idxOf x,.bool true) else none)
 | [],_,_=>by simp [zO,findNow]
 | y :: l,b,s=>by
  simp only [zO,findNow,sameNow,if_true];by_cases h:x=y
  ·subst h;simp
  ·have G:(x==y)=false:=by simpa using h
   have E:(y==x)=false:=by simpa using fun e:y=x=>h e.symm
   simp only [G];rw [EX x l (b+1) (s+1)];by_cases hm:x∈l
   ·have D:x∈y :: l:=zaf _ hm;rw [if_pos hm,if_pos D,List.idxOf_cons,E];simp only [cond_false,Bool.false_eq_true,if_false];rw [show s+1+l.idxOf x=s+(l.idxOf x+1) by omega]
   ·have D:¬ x∈y :: l:=by simp [h,hm]
    rw [if_neg hm,if_neg D]
theorem run_getObj' {w:World} {g:Nat} {n:Nat} (h:w.heap[g]?=some (.map es n)):(getObj g).run P w=.ok (.map es n) w:=by simp [getObj,Sem.run,h]
theorem run_setObj' {w:World} {g:Nat} {n:Nat} (o':Obj) (h:w.heap[g]?=some (.map es n)):(setObj g o').run P w=.ok () (setBlock w g o'):=by
 simp [setObj,Sem.run,h,setBlock]
open Go.Instr in
theorem run_checkKey (b:Bool) (n:Nat) (x:Int) (w:World):(checkKey b (n+1) 3 (.int .i64 x)).run Tryz.prog w=.ok () w:=by
 simp [checkKey,run_underlying Tryz.underlying3]
theorem run_look {w:World} {g:Nat} (h:zW w g l) (x:Int) (t:TypeId) (ht:Tryz.prog.underlying t=some (.map 3 4)):
  (Instr.lookup t (.map (some g)) (.int .i64 x) false).run Tryz.prog w=.ok (.bool (decide (x∈l))) w:=by
 have D:∀w,(zeroValue 4).run Tryz.prog w=.ok (.bool false) w:=fun w=>by kernel_rfl
 unfold Instr.lookup;simp only [Sem.run_bind,run_underlying ht,Result.andThen_ok,run_getObj' h,mapObj,Sem.run_pure];rw [show (10000:Nat)=9999+1 from rfl,run_checkKey];simp only [Result.andThen_ok,Instr.findKey,Sem.run_bind,run_underlying Tryz.underlying3,List.toList_toArray,EX];by_cases hm:x∈l
 ·simp [hm]
 ·simp [hm,D]
theorem setBlk_same {w:World} {g:Nat} {o o':Obj} (h:w.heap[g]?=some o):(setBlock w g o').heap[g]?=some o':=by
 have:=zd h;simp [setBlock,this]
theorem EO {w:World} {g:Nat} (o:Obj) (h:k≠g):(setBlock w g o).heap[k]?=w.heap[k]?:=by
 simp [setBlock,Ne.symm h]
theorem run_add {w:World} {g:Nat} (h:zW w g l) (x:Int) (t:TypeId) (ht:Tryz.prog.underlying t=some (.map 3 4)):
  ∃w',(Instr.mapUpdate t (.map (some g)) (.int .i64 x) (.bool true)).run Tryz.prog w=.ok () w'/\zW w' g (ins l x)/\w.grownBy w' (some g):=by
 refine ⟨setBlock w g (mapObj (ins l x)),?_,setBlk_same h,⟨rfl,rfl,rfl,by simp [setBlock],fun k _ G=>EO _ (fun e=>G (by rw [e]))⟩⟩;unfold Instr.mapUpdate;simp only [Sem.run_bind,run_underlying ht,Result.andThen_ok,run_getObj' h,mapObj];rw [show (10000:Nat)=9999+1 from rfl,run_checkKey];simp only [Result.andThen_ok,Instr.findKey,Sem.run_bind,run_underlying Tryz.underlying3,List.toList_toArray,EX];by_cases hm:x∈l
 ·simp only [hm,if_true,Sem.run_pure,Result.andThen_ok,Nat.zero_add];have E:l.idxOf x<l.length:=List.idxOf_lt_length_of_mem hm;have I:l[l.idxOf x]=x:=List.getElem_idxOf E
  have G:∀W,(Instr.keyThatStays ((((zO l 0).toArray[l.idxOf x]?).map (·.key)).getD (.int .i64 x)) (.int .i64 x)).run Tryz.prog W=.ok (.int .i64 x) W:=by
   intro W;rw [List.getElem?_toArray,Dw,Fw E];simp [Instr.keyThatStays,Instr.sameBits,I]
  rw [Sem.run_bind,G];simp only [Result.andThen_ok]
  have D:(zO l 0).toArray.modify (l.idxOf x) (fun e=>{ e with key:=.int .i64 x,val:=.bool true })=(zO l 0).toArray:=by
   apply Array.ext_getElem?;intro i;rw [Array.getElem?_modify]
   split
   ·rename_i e
    subst e;rw [List.getElem?_toArray,Dw,Fw E];simp [I]
   ·rfl
  rw [D,run_setObj' _ h];have:ins l x=l:=by simp [ins,hm]
  rw [this]
 ·simp only [hm,if_false,Sem.run_pure,Result.andThen_ok];rw [run_setObj' _ h];have:ins l x=l++[x]:=by simp [ins,hm]
  rw [this,EW];simp [zO]
theorem wpSetAdd {w:World} (J:o.guard=none) (m y v:Operand) (t:TypeId) (G:o.op=Op.mapUpdate t m y v)
  (ht:Tryz.prog.underlying t=some (.map 3 4)) (g:Nat) (l:List Int) (x:Int) (hm:a.eval m=.map (some g)) (U:a.eval y=.int .i64 x) (O:a.eval v=.bool true) (M:zW w g l)
  (I:∀w',zW w' g (ins l x)->w.grownBy w' (some g)->wpList Tryz.prog ops Q rest (a.put o.dst undef) w'):wpList Tryz.prog ops Q (o :: rest) a w:=by
 refine wpList_plain J fun K' E=>?_
 obtain ⟨w',D,h1,h2⟩:=run_add M x t ht;unfold Oper.wp;simp [execOp,G,hm,U,O,D,Result.andThen];exact E _ _ (I w' h1 h2)
end
section
open Go.RowKit
theorem Tryz.infoInt:(Tryz.prog.info? 3).map (fun i=>(i.zero,i.size,i.bytes))=some (some (.int .i64 0),1,8):=by kernel_rfl
def ap (c:Bool) (x:Int) (l:List Int):List Int:=if c then l++[x] else l
theorem ap_len (c:Bool) (x:Int) (l:List Int):(ap c x l).length<=l.length+1:=by
 unfold ap;split <;> simp
theorem map_snoc (l:List Int) (x:Int):(l++[x]).map (Value.int .i64)=l.map (Value.int .i64)++[.int .i64 x]:=by simp
def ze (w:World) (g:Nat) (t:TypeId) (cs:Array Value):Prop:=w.heap[g]?=some (.cells cs t (0,0))
theorem ze.ne_ {w:World} {g g':Nat} {t t':TypeId} {cs':Array Value} (h:ze w g t cs) (D:ze w g' t' cs') (E:t≠t'):g≠g':=by
 rintro rfl;unfold ze at h D;rw [h] at D;injection D with D;injection D with _ ht;exact E ht
theorem zn {w:World} {base:Nat} {e:TypeId} {size n:Nat} {v:Value} {xs:List Value} {g:Nat} {t:TypeId} (h:w.ownsRow base e size v n xs) (E:ze w g t cs) (D:e≠t):v.ownBlock≠some g:=by
 rcases h.2 with ⟨rfl,_⟩ | ⟨g',cap,cur,rfl,_,hh,_⟩
 ·simp [Value.ownBlock]
 ·intro he;have:g'=g:=by simpa [Value.ownBlock] using he
  subst this;exact ze.ne_ (t:=e) hh E D rfl
def Acc (w0 w:World) (B gb:Nat) (l:List Int):Prop:=
 ∃v,ze w gb 23 #[v]/\w.ownsRow B 3 1 v l.length (l.map (Value.int .i64))/\B<=gb/\Below B w0 w
theorem wpApp1 (G:o.guard=none) (s y:Operand)
  (ho:o.op=.call { callee:=.builtin .append,args:=#[s,y],argTypes:=#[23,23] }) (W:World) (l:List Int) (x:Int) (B g c:Nat) (v:Value) (hs:a.eval s=v)
  (hy:a.eval y=.slice (some ⟨g,0,none⟩) 1 c) (D:W.ownsRow B 3 1 v l.length (l.map (Value.int .i64))) (U:W.cell? ⟨g,0,none⟩=some (.int .i64 x)) (O:B<=W.heap.size) (hl:l.length<=1000000000000)
  (h:∀v' w',w'.ownsRow B 3 1 v' (l++[x]).length ((l++[x]).map (Value.int .i64))->W.grownBy w' v.ownBlock->wpList Tryz.prog ops Q rest (a.put o.dst v') w'):wpList Tryz.prog ops Q (o :: rest) a W:=by
 obtain ⟨i0,V,I,J,M⟩:=info_parts Tryz.infoInt;refine wpList_append_own _ G _ _ 23 ho B 3 i0 (.int .i64 0) 1 8 Tryz.underlying23 V I J M rfl (by decide) _ _ _ hs D ⟨g,0,none⟩ 1 c [.int .i64 x] hy rfl ?_ ?_ ?_ ?_ O ?_
 ·intro j u E
  match j,E with
  | 0,E=>
   have:u=.int .i64 x:=by simpa using E.symm
   rw [this];exact U
 ·intro u E;have:u=.int .i64 x:=by simpa using E
  rw [this];rfl
 ·unfold maxLen;omega
 ·omega
 ·intro v' w' h1 h2 _;refine h v' w' ?_ h2;rw [map_snoc,FG];exact h1
theorem add_calls (w0 w:World) (B gb:Nat) (l:List Int) (c:Bool) (x:Int) (h:Acc w0 w B gb l) (hl:l.length<=1000) (hB:B<=w0.heap.size):
  Calls Tryz.prog 214 #[.bool c,.int .i64 x,.pointer (some ⟨gb,0,none⟩)] w fun e w'=>e=.returned (.tuple #[])/\Acc w0 w' B gb (ap c x l):=by
 have J:=h;obtain ⟨v,V,G,O,hb⟩:=h
 cases c with
 | false=>
  go_enter Tryz.func214,Tryz.ntmps214
  go_wp2
  go_end0
  exact ⟨rfl,J⟩
 | true=>
  have a4:w.cell? ⟨gb,0,none⟩=some v:=by unfold World.cell?;simp only [show w.heap[gb]?=_ from V];rfl
  have a8:=zn G V (by decide);have a7:gb<w.heap.size:=zd V;have a2:B<=w.heap.size:=FA hB hb.size;have HG:=zh V;clear V;have HB:=zh hb;clear hb;clear J
  go_enter Tryz.func214,Tryz.ntmps214
  go_wp2_with (at_builtin;refine wpApp1 rfl _ _ rfl _ l x B w.heap.size 1 v rfl rfl (G.alloc _) ?c1 ?c2 ?c3 ?_)
  case c1=>simp
  case c2=>simp;omega
  case c3=>omega
  intro v' w1 E D;obtain ⟨g',cap',rfl,a6,a5⟩:=E.form (by simp);have I:ze w1 gb 23 #[v]:=(D.block gb (by simp;omega) (fun e=>a8 e.symm)).trans ((zad w _ gb a7).trans HG.out);have a0:w1.cell? ⟨gb,0,none⟩=some v:=by unfold World.cell?;simp only [show w1.heap[gb]?=_ from I];rfl
  have hfz:w1.frozen? ⟨gb,0,none⟩=false:=by unfold World.frozen?;simp [show w1.heap[gb]?=_ from I]
  have M:=zh I;clear I;have a1:=zh D;clear D;have HO:=zh E;clear E;clear a6 a5;go_wp2
  go_end0
  have U:Below B w0 w1:=(HB.out.alloc a2 _).grown a1.out (by simp;omega) (fun k hk=>by
   have:=(G.lt k hk).1;omega)
  refine ⟨rfl,.slice (some ⟨g',0,none⟩) (l++[x]).length cap',?_,?_,O,U.setCell O _⟩
  ·have:=M.out;unfold ze at this⊢;simp [World.setCell,Array.getElem?_modify,this]
  ·have h:=ownsRow_setCell_other (a:=⟨gb,0,none⟩) HO.out (zn (t:=23) HO.out M.out (by decide)) (.slice (some ⟨g',0,none⟩) (l++[x]).length cap');simpa [ap] using h
def AccK (w0 w:World) (B gb k:Nat) (l:List Int):Prop:=Acc w0 w B gb l/\l.length<=k/\B<=w0.heap.size
theorem addK (w0 w:World) (B gb k:Nat) (l:List Int) (c:Bool) (x:Int) (h:AccK w0 w B gb k l) (G:k<=1000):
  Calls Tryz.prog 214 #[.bool c,.int .i64 x,.pointer (some ⟨gb,0,none⟩)] w fun e w'=>e=.returned (.tuple #[])/\AccK w0 w' B gb (k+1) (ap c x l):=by
 obtain ⟨h,I,D⟩:=h;refine (add_calls w0 w B gb l c x h (by omega) D).mono ?_;rintro e w' ⟨rfl,E⟩;exact ⟨rfl,E,by have:=ap_len c x l;omega,D⟩
theorem AccK.below {w:World} (h:AccK w0 w B gb k l):Below B w0 w:=by
 obtain ⟨⟨v,_,_,_,D⟩,_,_⟩:=h;exact D
theorem zt {w:World} {g:Nat} {t:TypeId} {a0 a1 a2 a3 a4 a5:Value} (h:ze w g t #[a0,a1,a2,a3,a4,a5]):
  w.cell? ⟨g,0,none⟩=some a0/\w.cell? ⟨g,1,none⟩=some a1/\w.cell? ⟨g,2,none⟩=some a2/\w.cell? ⟨g,3,none⟩=some a3/\w.cell? ⟨g,4,none⟩=some a4/\w.cell? ⟨g,5,none⟩=some a5:=by
 unfold ze at h;unfold World.cell?;simp only [h];exact ⟨rfl,rfl,rfl,rfl,rfl,rfl⟩
theorem ze.below {w w':World} {g:Nat} {t:TypeId} (h:ze w g t cs) (D:Below B w w') (E:g<B):ze w' g t cs:=(D.block g E).trans h
theorem ze.alloc {w:World} {g:Nat} {t:TypeId} {cs:Array Value} (h:ze w g t cs) (o:Obj):ze (w.alloc o) g t cs:=(zad w o g (zd h)).trans h
theorem Acc.new (w1:World):AccK w1 (w1.alloc (.cells #[.slice none 0 0] 23)) w1.heap.size w1.heap.size 0 []:=
 ⟨⟨.slice none 0 0,zax _ _,(World.ownsRow_nil _ _ _ _),Fy _,(Below.refl _ _).alloc (Fy _) _⟩,Fy _,Fy _⟩
theorem AccK.end_ {w:World} (h:AccK w0 w B gb k l):∃v,w.cell? ⟨gb,0,none⟩=some v/\w.ownsRow B 3 1 v l.length (l.map (Value.int .i64)):=by
 obtain ⟨⟨v,D,E,_,_⟩,_,_⟩:=h;refine ⟨v,?_,E⟩;unfold ze at D;unfold World.cell?;simp only [D];rfl
theorem AccK.more {w w':World} (h:AccK w0 w B gb k l) (D:Below w.heap.size w w'):AccK w0 w' B gb k l:=by
 obtain ⟨⟨v,J,U,E,G⟩,O,I⟩:=h;exact ⟨⟨v,(D.block gb (zd J)).trans J,U.kept (row:=none) ⟨D.os,D.tape,D.output,D.size,fun i M _=>D.block i M⟩ (by cases h:v.ownBlock <;> simp),E,BH G D I⟩,O,I⟩
theorem next_fin {w:World} {v:Value} {l':List Int} (h:w.ownsRow B 3 1 v l.length (l.map (Value.int .i64))) (e:l'=l):w.ownsRow B 3 1 v l'.length (l'.map (Value.int .i64)):=by
 rw [e];exact h
def zp (m:MZ) (node:Int):List Int:=
 ap (decide (node+m.w*m.h<m.w*m.h*m.l) && m.up.getD node.toNat false) (node+m.w*m.h)
  (ap (decide (node / m.w % m.h+1<m.h)) (node+m.w)
   (ap (decide (node % m.w+1<m.w)) (node+1)
    (ap (decide (0<node % m.w)) (node - 1)
     (ap (decide (0<node / m.w % m.h)) (node - m.w)
      (ap (decide (m.w*m.h<=node) && m.up.getD (node - m.w*m.h).toNat false) (node - m.w*m.h) [])))))
structure Dim (m:MZ):Prop where
 w1:1<=m.w
 w2:m.w<=300
 h1:1<=m.h
 h2:m.h<=300
 l1:1<=m.l
 l2:m.l<=300
 n1:m.w*m.h*m.l<=300
 up:(m.up.length:Int)=m.w*m.h*m.l
theorem Dim.layer {m:MZ} (d:Dim m):1<=m.w*m.h/\m.w*m.h<=m.w*m.h*m.l:=by
 have h1:1<=m.w*m.h:=by
  have:=Int.mul_le_mul d.w1 d.h1 (by omega) (by have:=d.w1;omega);omega
 refine ⟨h1,?_⟩;have:=Int.mul_le_mul_of_nonneg_left d.l1 (show 0<=m.w*m.h by omega);omega
theorem next_eq (m:MZ) (node:Int) (b1 b2:Bool) (h1:b1=(decide (m.w*m.h<=node) && m.up.getD (node - m.w*m.h).toNat false)) (h2:b2=(decide (node+m.w*m.h<m.w*m.h*m.l) && m.up.getD node.toNat false)):
  zp m node=ap b2 (node+m.w*m.h) (ap (decide (node / m.w % m.h+1<m.h)) (node+m.w) (ap (decide (node % m.w+1<m.w)) (node+1) (ap (decide (0<node % m.w)) (node - 1) (ap (decide (0<node / m.w % m.h)) (node - m.w) (ap b1 (node - m.w*m.h) []))))):=by
 rw [h1,h2];rfl
theorem up_true {p:Prop} [Decidable p] {up:List Bool} (hp:p) (h:k<up.length):up[k]=(decide p && up.getD k false):=by
 simp [hp,h]
theorem up_false {p:Prop} [Decidable p] {b:Bool} (hp:¬ p):false=(decide p && b):=by simp [hp]
theorem next_calls {ok:Nat->Prop} {v:Value} (m:MZ) (node:Int) (w:World) (hm:zL w ok v m) (d:Dim m) (h0:0<=node) (h1:node<m.w*m.h*m.l):
  Calls Tryz.prog 161 #[v,.int .i64 node] w fun e w'=>∃v',e=.returned v'/\Below w.heap.size w w'/\w'.ownsRow w.heap.size 3 1 v' (zp m node).length ((zp m node).map (Value.int .i64)):=by
 obtain ⟨f,u,t,rfl,_,hu,_⟩:=hm;obtain ⟨A,c,rfl,d6,c9⟩:=hu;have hl:=d.layer;obtain ⟨e0,e1⟩:=hl;obtain ⟨w1,w2,d7,d8,ll1,ll2,n1,c8⟩:=d;obtain ⟨W,H,L,fr,up,ts⟩:=m;simp only at*;have HU:=zh c9;clear c9;have b7:=zh c8;clear c8
 go_enter Tryz.func161,Tryz.ntmps161
 have e2:0<=node / W:=Int.ediv_nonneg h0 (by omega);have e3:node / W<=node:=Int.ediv_le_self _ h0
 go_wp2_with fail
 go_quiet (fail)
 have e4:0<=node / W % H:=Int.emod_nonneg _ (by omega);have e5:node / W % H<H:=Int.emod_lt_of_pos _ (by omega);have e6:0<=node % W:=Int.emod_nonneg _ (by omega);have e7:node % W<W:=Int.emod_lt_of_pos _ (by omega);generalize c0:((w.alloc (.cells #[.int .i64 W,.int .i64 H,.int .i64 L,f,.slice A up.length c,t] 32)).drewN nq)=w1;have U:Below w.heap.size w w1:=by rw [<-c0];exact Du ((Below.refl _ _).alloc (Fy _) _) _
 have c7:ze w1 w.heap.size 32 #[.int .i64 W,.int .i64 H,.int .i64 L,f,.slice A up.length c,t]:=by rw [<-c0];exact zax _ _
 have b6:=zh (HU.out.keep (Ao.of_below U):Ba w1 ok 1 A up.length (up.map Value.bool));clear c0 HU;have M:=zh c7;clear c7;have V:=zh U;clear U;by_cases hA:W*H<=node
 ·by_cases hB:node+W*H<W*H*L
  ·have a8:(node - W*H).toNat<up.length:=by have:=b7.out;omega
   obtain ⟨b,off,b0,_,I⟩:=BS b6.out a8 a8;have D:=zo I;have a9:node.toNat<up.length:=by have:=b7.out;omega
   obtain ⟨b',off',b5,_,J⟩:=BS b6.out a9 a9;obtain ⟨rfl,rfl⟩:b=b'/\off=off':=by rw [b0] at b5;simpa using b5
   clear b5;subst b0;obtain ⟨b1,U⟩:=zaI (up[(node - W*H).toNat]);rw [<-U] at I;have b3:=zh U;clear U;obtain ⟨b2,a0⟩:=zaI (up[node.toNat]);rw [<-a0] at J;have b4:=zh a0;clear a0;have E:w.heap.size<w1.heap.size:=zd M.out;have G:=fun o=>zt (M.out.alloc o)
   obtain ⟨m0,m1,m2,m3,m4,m5⟩:(∀o,(w1.alloc o).cell? ⟨w.heap.size,0,none⟩=_)/\(∀o,(w1.alloc o).cell? ⟨w.heap.size,1,none⟩=_)/\(∀o,(w1.alloc o).cell? ⟨w.heap.size,2,none⟩=_)/\(∀o,(w1.alloc o).cell? ⟨w.heap.size,3,none⟩=_)/\(∀o,(w1.alloc o).cell? ⟨w.heap.size,4,none⟩=_)/\(∀o,(w1.alloc o).cell? ⟨w.heap.size,5,none⟩=_):=⟨fun o=>(G o).1,fun o=>(G o).2.1,fun o=>(G o).2.2.1,fun o=>(G o).2.2.2.1,fun o=>(G o).2.2.2.2.1,fun o=>(G o).2.2.2.2.2⟩;clear G;have u1:∀o,(w1.alloc o).cell? ⟨b,off+(node - W*H).toNat,none⟩=_:=fun o=>(World.cell?_alloc_lt w1 o ⟨b,off+(node - W*H).toNat,none⟩ D).trans I
   have u2:∀o,(w1.alloc o).cell? ⟨b,off+node.toNat,none⟩=_:=fun o=>(World.cell?_alloc_lt w1 o ⟨b,off+node.toNat,none⟩ D).trans J
   go_wp2_with fail
   refine (addK w1 _ w1.heap.size w1.heap.size 0 _ _ _ (Acc.new w1) (by omega)).mono ?_;rintro e k1 ⟨rfl,a1⟩;clear m0 m1 m2 m3 m4 m5 u1 u2;obtain ⟨m0,m1,m2,m3,m4,m5⟩:=zt (M.out.below a1.below E);have u1:=(a1.below.cell (p:=⟨b,off+(node - W*H).toNat,none⟩) D).trans I;have u2:=(a1.below.cell (p:=⟨b,off+node.toNat,none⟩) D).trans J
   go_wp2_with fail
   refine (addK w1 _ w1.heap.size w1.heap.size 1 _ _ _ (a1) (by omega)).mono ?_;rintro e k2 ⟨rfl,a2⟩;clear m0 m1 m2 m3 m4 m5 u1 u2;obtain ⟨m0,m1,m2,m3,m4,m5⟩:=zt (M.out.below a2.below E);have u1:=(a2.below.cell (p:=⟨b,off+(node - W*H).toNat,none⟩) D).trans I;have u2:=(a2.below.cell (p:=⟨b,off+node.toNat,none⟩) D).trans J
   go_wp2_with fail
   refine (addK w1 _ w1.heap.size w1.heap.size 2 _ _ _ (a2) (by omega)).mono ?_;rintro e k3 ⟨rfl,a3⟩;clear m0 m1 m2 m3 m4 m5 u1 u2;obtain ⟨m0,m1,m2,m3,m4,m5⟩:=zt (M.out.below a3.below E);have u1:=(a3.below.cell (p:=⟨b,off+(node - W*H).toNat,none⟩) D).trans I;have u2:=(a3.below.cell (p:=⟨b,off+node.toNat,none⟩) D).trans J
   go_wp2_with fail
   refine (addK w1 _ w1.heap.size w1.heap.size 3 _ _ _ (a3) (by omega)).mono ?_;rintro e k4 ⟨rfl,a4⟩;clear m0 m1 m2 m3 m4 m5 u1 u2;obtain ⟨m0,m1,m2,m3,m4,m5⟩:=zt (M.out.below a4.below E);have u1:=(a4.below.cell (p:=⟨b,off+(node - W*H).toNat,none⟩) D).trans I;have u2:=(a4.below.cell (p:=⟨b,off+node.toNat,none⟩) D).trans J
   go_wp2_with fail
   refine (addK w1 _ w1.heap.size w1.heap.size 4 _ _ _ (a4) (by omega)).mono ?_;rintro e k5 ⟨rfl,a5⟩;clear m0 m1 m2 m3 m4 m5 u1 u2;obtain ⟨m0,m1,m2,m3,m4,m5⟩:=zt (M.out.below a5.below E);have u1:=(a5.below.cell (p:=⟨b,off+(node - W*H).toNat,none⟩) D).trans I;have u2:=(a5.below.cell (p:=⟨b,off+node.toNat,none⟩) D).trans J
   go_wp2_with fail
   refine (Bi W H L _ _ _ _ (by omega) (by omega)).mono ?_;rintro e kn ⟨rfl,a7⟩;have a5:=a5.more a7;clear m0 m1 m2 m3 m4 m5 u1 u2;obtain ⟨m0,m1,m2,m3,m4,m5⟩:=zt (M.out.below a5.below E);have u1:=(a5.below.cell (p:=⟨b,off+(node - W*H).toNat,none⟩) D).trans I;have u2:=(a5.below.cell (p:=⟨b,off+node.toNat,none⟩) D).trans J
   go_wp2_with fail
   refine (addK w1 _ w1.heap.size w1.heap.size 5 _ _ _ (a5) (by omega)).mono ?_;rintro e k6 ⟨rfl,a6⟩;clear m0 m1 m2 m3 m4 m5 u1 u2;obtain ⟨m0,m1,m2,m3,m4,m5⟩:=zt (M.out.below a6.below E);have u1:=(a6.below.cell (p:=⟨b,off+(node - W*H).toNat,none⟩) D).trans I;have u2:=(a6.below.cell (p:=⟨b,off+node.toNat,none⟩) D).trans J;obtain ⟨vf,b9,O⟩:=a6.end_;have HO:=zh O;clear O
   go_wp2_with fail
   go_ret;refine ⟨vf,rfl,BH V.out (Below.mono a6.below (Fy _)) (Fy _),?_⟩;exact next_fin (HO.out.mono V.out.size) (next_eq _ _ _ _ (by rw [b3.out];exact up_true hA a8) (by rw [b4.out];exact up_true hB a9))
  ·have a8:(node - W*H).toNat<up.length:=by have:=b7.out;omega
   obtain ⟨b,off,b0,_,I⟩:=BS b6.out a8 a8;have D:=zo I;subst b0;obtain ⟨b1,U⟩:=zaI (up[(node - W*H).toNat]);rw [<-U] at I;have b3:=zh U;clear U;have E:w.heap.size<w1.heap.size:=zd M.out;have G:=fun o=>zt (M.out.alloc o)
   obtain ⟨m0,m1,m2,m3,m4,m5⟩:(∀o,(w1.alloc o).cell? ⟨w.heap.size,0,none⟩=_)/\(∀o,(w1.alloc o).cell? ⟨w.heap.size,1,none⟩=_)/\(∀o,(w1.alloc o).cell? ⟨w.heap.size,2,none⟩=_)/\(∀o,(w1.alloc o).cell? ⟨w.heap.size,3,none⟩=_)/\(∀o,(w1.alloc o).cell? ⟨w.heap.size,4,none⟩=_)/\(∀o,(w1.alloc o).cell? ⟨w.heap.size,5,none⟩=_):=⟨fun o=>(G o).1,fun o=>(G o).2.1,fun o=>(G o).2.2.1,fun o=>(G o).2.2.2.1,fun o=>(G o).2.2.2.2.1,fun o=>(G o).2.2.2.2.2⟩;clear G;have u1:∀o,(w1.alloc o).cell? ⟨b,off+(node - W*H).toNat,none⟩=_:=fun o=>(World.cell?_alloc_lt w1 o ⟨b,off+(node - W*H).toNat,none⟩ D).trans I
   go_wp2_with fail
   refine (addK w1 _ w1.heap.size w1.heap.size 0 _ _ _ (Acc.new w1) (by omega)).mono ?_;rintro e k1 ⟨rfl,a1⟩;clear m0 m1 m2 m3 m4 m5 u1;obtain ⟨m0,m1,m2,m3,m4,m5⟩:=zt (M.out.below a1.below E);have u1:=(a1.below.cell (p:=⟨b,off+(node - W*H).toNat,none⟩) D).trans I
   go_wp2_with fail
   refine (addK w1 _ w1.heap.size w1.heap.size 1 _ _ _ (a1) (by omega)).mono ?_;rintro e k2 ⟨rfl,a2⟩;clear m0 m1 m2 m3 m4 m5 u1;obtain ⟨m0,m1,m2,m3,m4,m5⟩:=zt (M.out.below a2.below E);have u1:=(a2.below.cell (p:=⟨b,off+(node - W*H).toNat,none⟩) D).trans I
   go_wp2_with fail
   refine (addK w1 _ w1.heap.size w1.heap.size 2 _ _ _ (a2) (by omega)).mono ?_;rintro e k3 ⟨rfl,a3⟩;clear m0 m1 m2 m3 m4 m5 u1;obtain ⟨m0,m1,m2,m3,m4,m5⟩:=zt (M.out.below a3.below E);have u1:=(a3.below.cell (p:=⟨b,off+(node - W*H).toNat,none⟩) D).trans I
   go_wp2_with fail
   refine (addK w1 _ w1.heap.size w1.heap.size 3 _ _ _ (a3) (by omega)).mono ?_;rintro e k4 ⟨rfl,a4⟩;clear m0 m1 m2 m3 m4 m5 u1;obtain ⟨m0,m1,m2,m3,m4,m5⟩:=zt (M.out.below a4.below E);have u1:=(a4.below.cell (p:=⟨b,off+(node - W*H).toNat,none⟩) D).trans I
   go_wp2_with fail
   refine (addK w1 _ w1.heap.size w1.heap.size 4 _ _ _ (a4) (by omega)).mono ?_;rintro e k5 ⟨rfl,a5⟩;clear m0 m1 m2 m3 m4 m5 u1;obtain ⟨m0,m1,m2,m3,m4,m5⟩:=zt (M.out.below a5.below E);have u1:=(a5.below.cell (p:=⟨b,off+(node - W*H).toNat,none⟩) D).trans I
   go_wp2_with fail
   refine (Bi W H L _ _ _ _ (by omega) (by omega)).mono ?_;rintro e kn ⟨rfl,a7⟩;have a5:=a5.more a7;clear m0 m1 m2 m3 m4 m5 u1;obtain ⟨m0,m1,m2,m3,m4,m5⟩:=zt (M.out.below a5.below E);have u1:=(a5.below.cell (p:=⟨b,off+(node - W*H).toNat,none⟩) D).trans I
   go_wp2_with fail
   refine (addK w1 _ w1.heap.size w1.heap.size 5 _ _ _ (a5) (by omega)).mono ?_;rintro e k6 ⟨rfl,a6⟩;clear m0 m1 m2 m3 m4 m5 u1;obtain ⟨m0,m1,m2,m3,m4,m5⟩:=zt (M.out.below a6.below E);have u1:=(a6.below.cell (p:=⟨b,off+(node - W*H).toNat,none⟩) D).trans I;obtain ⟨vf,b9,O⟩:=a6.end_;have HO:=zh O;clear O
   go_wp2_with fail
   go_ret;refine ⟨vf,rfl,BH V.out (Below.mono a6.below (Fy _)) (Fy _),?_⟩;exact next_fin (HO.out.mono V.out.size) (next_eq _ _ _ _ (by rw [b3.out];exact up_true hA a8) (up_false (Int.not_lt.2 hB)))
 ·by_cases hB:node+W*H<W*H*L
  ·have a9:node.toNat<up.length:=by have:=b7.out;omega
   obtain ⟨b,off,b0,_,J⟩:=BS b6.out a9 a9;have D:=zo J;subst b0;obtain ⟨b2,a0⟩:=zaI (up[node.toNat]);rw [<-a0] at J;have b4:=zh a0;clear a0;have E:w.heap.size<w1.heap.size:=zd M.out;have G:=fun o=>zt (M.out.alloc o)
   obtain ⟨m0,m1,m2,m3,m4,m5⟩:(∀o,(w1.alloc o).cell? ⟨w.heap.size,0,none⟩=_)/\(∀o,(w1.alloc o).cell? ⟨w.heap.size,1,none⟩=_)/\(∀o,(w1.alloc o).cell? ⟨w.heap.size,2,none⟩=_)/\(∀o,(w1.alloc o).cell? ⟨w.heap.size,3,none⟩=_)/\(∀o,(w1.alloc o).cell? ⟨w.heap.size,4,none⟩=_)/\(∀o,(w1.alloc o).cell? ⟨w.heap.size,5,none⟩=_):=⟨fun o=>(G o).1,fun o=>(G o).2.1,fun o=>(G o).2.2.1,fun o=>(G o).2.2.2.1,fun o=>(G o).2.2.2.2.1,fun o=>(G o).2.2.2.2.2⟩;clear G;have u2:∀o,(w1.alloc o).cell? ⟨b,off+node.toNat,none⟩=_:=fun o=>(World.cell?_alloc_lt w1 o ⟨b,off+node.toNat,none⟩ D).trans J
   go_wp2_with fail
   refine (addK w1 _ w1.heap.size w1.heap.size 0 _ _ _ (Acc.new w1) (by omega)).mono ?_;rintro e k1 ⟨rfl,a1⟩;clear m0 m1 m2 m3 m4 m5 u2;obtain ⟨m0,m1,m2,m3,m4,m5⟩:=zt (M.out.below a1.below E);have u2:=(a1.below.cell (p:=⟨b,off+node.toNat,none⟩) D).trans J
   go_wp2_with fail
   refine (addK w1 _ w1.heap.size w1.heap.size 1 _ _ _ (a1) (by omega)).mono ?_;rintro e k2 ⟨rfl,a2⟩;clear m0 m1 m2 m3 m4 m5 u2;obtain ⟨m0,m1,m2,m3,m4,m5⟩:=zt (M.out.below a2.below E);have u2:=(a2.below.cell (p:=⟨b,off+node.toNat,none⟩) D).trans J
   go_wp2_with fail
   refine (addK w1 _ w1.heap.size w1.heap.size 2 _ _ _ (a2) (by omega)).mono ?_;rintro e k3 ⟨rfl,a3⟩;clear m0 m1 m2 m3 m4 m5 u2;obtain ⟨m0,m1,m2,m3,m4,m5⟩:=zt (M.out.below a3.below E);have u2:=(a3.below.cell (p:=⟨b,off+node.toNat,none⟩) D).trans J
   go_wp2_with fail
   refine (addK w1 _ w1.heap.size w1.heap.size 3 _ _ _ (a3) (by omega)).mono ?_;rintro e k4 ⟨rfl,a4⟩;clear m0 m1 m2 m3 m4 m5 u2;obtain ⟨m0,m1,m2,m3,m4,m5⟩:=zt (M.out.below a4.below E);have u2:=(a4.below.cell (p:=⟨b,off+node.toNat,none⟩) D).trans J
   go_wp2_with fail
   refine (addK w1 _ w1.heap.size w1.heap.size 4 _ _ _ (a4) (by omega)).mono ?_;rintro e k5 ⟨rfl,a5⟩;clear m0 m1 m2 m3 m4 m5 u2;obtain ⟨m0,m1,m2,m3,m4,m5⟩:=zt (M.out.below a5.below E);have u2:=(a5.below.cell (p:=⟨b,off+node.toNat,none⟩) D).trans J
   go_wp2_with fail
   refine (Bi W H L _ _ _ _ (by omega) (by omega)).mono ?_;rintro e kn ⟨rfl,a7⟩;have a5:=a5.more a7;clear m0 m1 m2 m3 m4 m5 u2;obtain ⟨m0,m1,m2,m3,m4,m5⟩:=zt (M.out.below a5.below E);have u2:=(a5.below.cell (p:=⟨b,off+node.toNat,none⟩) D).trans J
   go_wp2_with fail
   refine (addK w1 _ w1.heap.size w1.heap.size 5 _ _ _ (a5) (by omega)).mono ?_;rintro e k6 ⟨rfl,a6⟩;clear m0 m1 m2 m3 m4 m5 u2;obtain ⟨m0,m1,m2,m3,m4,m5⟩:=zt (M.out.below a6.below E);have u2:=(a6.below.cell (p:=⟨b,off+node.toNat,none⟩) D).trans J;obtain ⟨vf,b9,O⟩:=a6.end_;have HO:=zh O;clear O
   go_wp2_with fail
   go_ret;refine ⟨vf,rfl,BH V.out (Below.mono a6.below (Fy _)) (Fy _),?_⟩;exact next_fin (HO.out.mono V.out.size) (next_eq _ _ _ _ (up_false (Int.not_le.2 hA)) (by rw [b4.out];exact up_true hB a9))
  ·have E:w.heap.size<w1.heap.size:=zd M.out;have G:=fun o=>zt (M.out.alloc o)
   obtain ⟨m0,m1,m2,m3,m4,m5⟩:(∀o,(w1.alloc o).cell? ⟨w.heap.size,0,none⟩=_)/\(∀o,(w1.alloc o).cell? ⟨w.heap.size,1,none⟩=_)/\(∀o,(w1.alloc o).cell? ⟨w.heap.size,2,none⟩=_)/\(∀o,(w1.alloc o).cell? ⟨w.heap.size,3,none⟩=_)/\(∀o,(w1.alloc o).cell? ⟨w.heap.size,4,none⟩=_)/\(∀o,(w1.alloc o).cell? ⟨w.heap.size,5,none⟩=_):=⟨fun o=>(G o).1,fun o=>(G o).2.1,fun o=>(G o).2.2.1,fun o=>(G o).2.2.2.1,fun o=>(G o).2.2.2.2.1,fun o=>(G o).2.2.2.2.2⟩;clear G
   go_wp2_with fail
   refine (addK w1 _ w1.heap.size w1.heap.size 0 _ _ _ (Acc.new w1) (by omega)).mono ?_;rintro e k1 ⟨rfl,a1⟩;clear m0 m1 m2 m3 m4 m5;obtain ⟨m0,m1,m2,m3,m4,m5⟩:=zt (M.out.below a1.below E)
   go_wp2_with fail
   refine (addK w1 _ w1.heap.size w1.heap.size 1 _ _ _ (a1) (by omega)).mono ?_;rintro e k2 ⟨rfl,a2⟩;clear m0 m1 m2 m3 m4 m5;obtain ⟨m0,m1,m2,m3,m4,m5⟩:=zt (M.out.below a2.below E)
   go_wp2_with fail
   refine (addK w1 _ w1.heap.size w1.heap.size 2 _ _ _ (a2) (by omega)).mono ?_;rintro e k3 ⟨rfl,a3⟩;clear m0 m1 m2 m3 m4 m5;obtain ⟨m0,m1,m2,m3,m4,m5⟩:=zt (M.out.below a3.below E)
   go_wp2_with fail
   refine (addK w1 _ w1.heap.size w1.heap.size 3 _ _ _ (a3) (by omega)).mono ?_;rintro e k4 ⟨rfl,a4⟩;clear m0 m1 m2 m3 m4 m5;obtain ⟨m0,m1,m2,m3,m4,m5⟩:=zt (M.out.below a4.below E)
   go_wp2_with fail
   refine (addK w1 _ w1.heap.size w1.heap.size 4 _ _ _ (a4) (by omega)).mono ?_;rintro e k5 ⟨rfl,a5⟩;clear m0 m1 m2 m3 m4 m5;obtain ⟨m0,m1,m2,m3,m4,m5⟩:=zt (M.out.below a5.below E)
   go_wp2_with fail
   refine (Bi W H L _ _ _ _ (by omega) (by omega)).mono ?_;rintro e kn ⟨rfl,a7⟩;have a5:=a5.more a7;clear m0 m1 m2 m3 m4 m5;obtain ⟨m0,m1,m2,m3,m4,m5⟩:=zt (M.out.below a5.below E)
   go_wp2_with fail
   refine (addK w1 _ w1.heap.size w1.heap.size 5 _ _ _ (a5) (by omega)).mono ?_;rintro e k6 ⟨rfl,a6⟩;clear m0 m1 m2 m3 m4 m5;obtain ⟨m0,m1,m2,m3,m4,m5⟩:=zt (M.out.below a6.below E);obtain ⟨vf,b9,O⟩:=a6.end_;have HO:=zh O;clear O
   go_wp2_with fail
   go_ret;refine ⟨vf,rfl,BH V.out (Below.mono a6.below (Fy _)) (Fy _),?_⟩;exact next_fin (HO.out.mono V.out.size) (next_eq _ _ _ _ (up_false (Int.not_le.2 hA)) (up_false (Int.not_lt.2 hB)))
def MZ.n (m:MZ):Int:=m.w*m.h*m.l
theorem mem_ap {c:Bool}:y∈ap c x l↔y∈l\/(c=true/\y=x):=by
 unfold ap
 cases c <;> simp
theorem row_step {w k:Int} (D:0<w) (E:y<w*k) (G:y % w+1<w):y+1<w*k:=by
 have h1:=Int.emod_add_mul_ediv y w
 have h2:y / w<k:=by
  apply Int.ediv_lt_of_lt_mul D
  rwa [Int.mul_comm]
 have h3:w*(y / w+1)<=w*k:=Int.mul_le_mul_of_nonneg_left (by omega) (by omega);rw [Int.mul_add,Int.mul_one] at h3;omega
theorem layer_step {w h l:Int} (D:0<w) (hh:0<h) (I:y<w*h*l) (G:y / w % h+1<h):y+w<w*h*l:=by
 have E:y / w<h*l:=by
  apply Int.ediv_lt_of_lt_mul D;rw [Int.mul_comm,<-Int.mul_assoc];exact I
 have h1:=row_step hh E G;have h2:=Int.emod_add_mul_ediv y w;have h3:=Int.emod_lt_of_pos y D;have h4:w*(y / w+2)<=w*(h*l):=Int.mul_le_mul_of_nonneg_left (by omega) (by omega);rw [Int.mul_add,<-Int.mul_assoc] at h4;omega
theorem Co {m:MZ} (d:Dim m) (h0:0<=y) (h1:y<m.n) (h:x∈zp m y):0<=x/\x<m.n:=by
 unfold MZ.n at h1⊢;obtain ⟨l1,l2⟩:=d.layer;have E:=d.w1;have hh:=d.h1;simp only [zp,mem_ap,FK,FI,za8,false_or] at h;rcases h with ((((( ⟨⟨a,_⟩,rfl⟩) | ⟨a,rfl⟩) | ⟨a,rfl⟩) | ⟨a,rfl⟩) | ⟨a,rfl⟩) | ⟨⟨a,_⟩,rfl⟩
 ·omega
 ·have h2:1<=y / m.w:=by
   have:0<=y / m.w:=Int.ediv_nonneg h0 (by omega);rcases Int.lt_or_le 0 (y / m.w) with h | h
   ·omega
   ·have:y / m.w=0:=by omega
    rw [this] at a;simp at a
  have h3:=Int.emod_add_mul_ediv y m.w;have h4:=Int.emod_nonneg y (show m.w≠0 by omega);have D:m.w*1<=m.w*(y / m.w):=Int.mul_le_mul_of_nonneg_left h2 (by omega);omega
 ·have:y≠0:=by rintro rfl;simp at a
  omega
 ·have:=row_step (y:=y) (w:=m.w) (k:=m.h*m.l) (by omega) (by rw [<-Int.mul_assoc];exact h1) a;rw [<-Int.mul_assoc] at this;omega
 ·have:=layer_step (by omega) (by omega) h1 a;omega
 ·omega
def zj (m:MZ) (t:Nat) (x:Int):Bool:=(m.free.getD t []).getD x.toNat false
def RP (m:MZ) (t:Nat) (from_ used:List Int) (x:Int):Prop:=
 ∀S:Int->Prop,(∀y∈from_,0<=y->y<m.n->S y)->(∀y z,S y->z∈zp m y->zj m t z=true->z∉used->S z)->S x
theorem RP.base {m:MZ} (h:x∈from_) (h0:0<=x) (h1:x<m.n):RP m t from_ used x:=fun _ D _=>D x h h0 h1
theorem RP.step {m:MZ} (h:RP m t from_ used y) (I:x∈zp m y) (hf:zj m t x=true) (G:x∉used):RP m t from_ used x:=
 fun S E D=>D y x (h S E D) I hf G
theorem RP.range {m:MZ} (d:Dim m) (h:RP m t from_ used x):0<=x/\x<m.n:=
 h (fun x=>0<=x/\x<m.n) (fun y _ h0 h1=>⟨h0,h1⟩) (fun y z D E _ _=>Co d D.1 D.2 E)
theorem RP.congr {m:MZ} {from' used':List Int} (hf:∀x,x∈from_↔x∈from') (I:∀x,x∈used↔x∈used') (h:RP m t from_ used x):RP m t from' used' x:=
 h _ (fun y E h0 h1=>RP.base ((hf y).1 E) h0 h1) (fun y z E J G D=>E.step J G (fun h=>D ((I z).2 h)))
theorem nodup_nat:∀(n:Nat) (l:List Nat),l.Nodup->(∀x∈l,x<n)->l.length<=n
 | 0,l,_,h=>by
  cases l with
  | nil=>simp
  | cons a l=>exact absurd (h a (zaw ..)) (by omega)
 | n+1,l,E,h=>by
  by_cases hm:n∈l
  ·have h1:=nodup_nat n (l.erase n) (E.erase n) (fun x D=>by
    have h2:=(E.mem_erase_iff).1 D;have h3:=h x h2.2;omega)
   rw [List.length_erase_of_mem hm] at h1;omega
  ·have h1:=nodup_nat n l E (fun x D=>by
    have h3:=h x D;have:x≠n:=by rintro rfl;exact hm D
    omega)
   omega
theorem Cf (O:l.Nodup) (n:Int) (E:∀x∈l,0<=x/\x<n):l.length<=n.toNat:=by
 have D:(l.map Int.toNat).Nodup:=by
  rw [List.nodup_iff_pairwise_ne,List.pairwise_map];refine List.Pairwise.imp_of_mem ?_ (List.nodup_iff_pairwise_ne.1 O);intro a b I M J he;have:=E a I;have:=E b M;omega
 have:=nodup_nat n.toNat (l.map Int.toNat) D (fun x G=>by
  rw [zaA] at G;obtain ⟨y,U,rfl⟩:=G;have:=E y U;omega)
 simpa using this
theorem Bj {a w w':World} {g:Nat} (h:Below B a w) (I:w.grownBy w' (some g)) (E:B<=w.heap.size) (G:B<=g):Below B a w':=
 h.grown I E (fun k D=>by injection D with D;omega)
theorem setOf_calls {ok:Nat->Prop} {v:Value} (w:World) (h:zg w ok v l) (hl:l.length<=20000000000000):
  Calls Tryz.prog 217 #[v] w fun e w'=>∃s,e=.returned (.map (some w.heap.size))/\Below w.heap.size w w'/\zW w' w.heap.size s/\∀x,x∈s↔x∈l:=by
 obtain ⟨A,c,rfl,hc,V⟩:=h;have HR:=zh V;clear V;have a4:=@run_makeMap Tryz.prog
 go_enter Tryz.func217,Tryz.ntmps217
 go_wp2;go_loopw [9] (fun i wr=>∃k s,k<=l.length/\i=.int .i64 (k:Nat)/\Hid (Below w.heap.size w wr)/\Hid (zW wr w.heap.size s)/\Hid (∀x,x∈s↔x∈l.take k)) (fun i _=>l.length - (intOf i).toNat)
 case atStart=>exact ⟨0,[],FN _,rfl,(Below.refl _ _).alloc (Fy _) _,zW.new w,by simp [Hid]⟩
 case round=>
  obtain ⟨k,s,hk,rfl,J,hs,hx⟩:=hrel;by_cases E:k<l.length
  ·obtain ⟨b,off,rfl,_,D⟩:=Ai (HR.out.keep (Ao.of_below J.out)) E E;obtain ⟨y,U⟩:=zaI (l[k]);rw [<-U] at D;have HY:=zh U;clear U
   go_wp2_with (at_mapUpdate;refine wpSetAdd rfl _ _ _ _ rfl Tryz.underlying205 w.heap.size s y rfl rfl rfl hs.out ?_)
   intro w1 I G;have O:=zh I;clear I;have M:=zh G;clear G;go_wp2;go_roundw
   case rel=>exact ⟨k+1,ins s y,by omega,by go_num,Bj J.out M.out J.out.size (Fy _),O.out,fun x=>by
    rw [mem_ins,zF E,hx.out,HY.out]⟩
   case measure=>simp [intOf];omega
  ·obtain rfl:k=l.length:=by omega
   go_wp2;go_ret;exact ⟨s,rfl,J.out,hs.out,fun x=>by have:=hx.out x;rwa [FJ] at this⟩
def zQ (w:World) (B:Nat) (v:Value) (l:List Int):Prop:=w.ownsRow B 3 1 v l.length (l.map (Value.int .i64))
theorem AZ (G:o.guard=none) (s y:Operand)
  (ho:o.op=.call { callee:=.builtin .append,args:=#[s,y],argTypes:=#[23,23] }) (W:World) (l:List Int) (x:Int) (B g c:Nat) (v:Value) (hs:a.eval s=v)
  (hy:a.eval y=.slice (some ⟨g,0,none⟩) 1 c) (D:W.ownsRow B 3 1 v l.length (l.map (Value.int .i64))) (U:W.cell? ⟨g,0,none⟩=some (.int .i64 x)) (O:B<=W.heap.size) (hl:l.length<=1000000000000)
  (h:∀v' w',zQ w' B v' (l++[x])->Hid (W.grownBy w' v.ownBlock)->Hid (v'.ownBlock=v.ownBlock\/v'.ownBlock=some W.heap.size)->wpList Tryz.prog ops Q rest (a.put o.dst v') w'):wpList Tryz.prog ops Q (o :: rest) a W:=by
 obtain ⟨i0,V,I,J,M⟩:=info_parts Tryz.infoInt;refine wpList_append_own_at _ G _ _ 23 ho B 3 i0 (.int .i64 0) 1 8 Tryz.underlying23 V I J M rfl (by decide) _ _ _ hs D ⟨g,0,none⟩ 1 c [.int .i64 x] hy rfl ?_ ?_ ?_ ?_ O ?_
 ·intro j u E
  match j,E with
  | 0,E=>
   have:u=.int .i64 x:=by simpa using E.symm
   rw [this];exact U
 ·intro u E;have:u=.int .i64 x:=by simpa using E
  rw [this];rfl
 ·unfold maxLen;omega
 ·omega
 ·intro v' w' h1 h2 _ h3;refine h v' w' ?_ h2 h3;unfold zQ;rw [map_snoc,FG];exact h1
structure RI (w wr:World) (g:Nat) (mv:Array Value) (s todo:List Int) (v:Value):Prop where
 below:Below w.heap.size w wr
 ge:w.heap.size<=g
 box:ze wr g 32 mv
 set:zW wr (g+1) s
 own:wr.ownsRow (g+2) 3 1 v todo.length (todo.map (Value.int .i64))
section
variable {w wr w':World} {g:Nat} {mv:Array Value} {s todo:List Int} {v:Value}
theorem RI.lt (h:RI w wr g mv s todo v):g+1<wr.heap.size:=zd h.set
theorem RI.call (h:RI w wr g mv s todo v) (D:Below wr.heap.size wr w'):RI w w' g mv s todo v:=
 ⟨BH h.below D (Fy _),h.ge,h.box.below D (by have:=h.lt;omega),h.set.below D,
  h.own.kept (row:=none) ⟨D.os,D.tape,D.output,D.size,fun i E _=>D.block i E⟩ (by cases h:v.ownBlock <;> simp)⟩
theorem RI.alloc (h:RI w wr g mv s todo v) (o:Obj):RI w (wr.alloc o) g mv s todo v:=h.call ((Below.refl _ _).alloc (Fy _) _)
theorem RI.add (h:RI w wr g mv s todo v) (E:zW w' (g+1) (ins s x)) (D:wr.grownBy w' (some (g+1))):RI w w' g mv (ins s x) todo v:=
 ⟨Bj h.below D h.below.size (by have:=h.ge;omega),h.ge,(D.block g (by have:=h.lt;omega) (fun e=>by injection e;omega)).trans h.box,E,
  h.own.kept D (.inr (fun e=>by have:=(h.own.lt _ e).1;omega))⟩
theorem RI.app (h:RI w wr g mv s todo v) (G:w'.ownsRow (g+2) 3 1 v' (todo++[x]).length ((todo++[x]).map (Value.int .i64))) (D:wr.grownBy w' v.ownBlock):RI w w' g mv s (todo++[x]) v':=
 ⟨h.below.grown D h.below.size (fun k E=>by have:=(h.own.lt _ E).1;have:=h.ge;omega),h.ge,
  (D.block g (by have:=h.lt;omega) (fun e=>by have:=(h.own.lt _ e.symm).1;omega)).trans h.box,
  (D.block (g+1) h.lt (fun e=>by have:=(h.own.lt _ e.symm).1;omega)).trans h.set,G⟩
end
theorem look_t {w:World} {g:Nat} (h:zW w g l) (D:x∈l):(Instr.lookup 205 (.map (some g)) (.int .i64 x) false).run Tryz.prog w=.ok (.bool true) w:=by
 have:=run_look h x 205 Tryz.underlying205
 rwa [FB D] at this
theorem look_f {w:World} {g:Nat} (h:zW w g l) (D:x∉l):(Instr.lookup 205 (.map (some g)) (.int .i64 x) false).run Tryz.prog w=.ok (.bool false) w:=by
 have:=run_look h x 205 Tryz.underlying205
 rwa [FC D] at this
theorem ins_new (h:x∉l):ins l x=l++[x]:=by simp [ins,h]
theorem EG (h:l.Nodup) (G:x∉l):(l++[x]).Nodup:=by
 rw [List.nodup_append]
 exact ⟨h,by simp,fun a D b E=>by
  have:b=x:=by simpa using E
  subst this;rintro rfl;exact G D⟩
structure RO (m:MZ) (t:Nat) (from_ used s todo:List Int):Prop where
 nd:s.Nodup
 rp:∀x∈s,RP m t from_ used x
 fr:∀x∈from_,0<=x->x<m.n->x∈s
 sub:∀x∈todo,x∈s
 cl:∀y∈s,y∉todo->∀z∈zp m y,zj m t z=true->z∉used->z∈s
 ln:todo.length<=s.length
structure RJ (m:MZ) (t:Nat) (from_ used s todo:List Int) (x:Int) (j:Nat):Prop where
 nd:s.Nodup
 rp:∀x∈s,RP m t from_ used x
 fr:∀x∈from_,0<=x->x<m.n->x∈s
 sub:∀x∈todo,x∈s
 xs:x∈s
 cl:∀y∈s,y∉todo->y≠x->∀z∈zp m y,zj m t z=true->z∉used->z∈s
 cx:∀z∈(zp m x).take j,zj m t z=true->z∉used->z∈s
 ln:todo.length<=s.length
theorem RO.pop {m:MZ} {s todo:List Int} (h:RO m t from_ used s (todo++[x])):RJ m t from_ used s todo x 0:=
 ⟨h.nd,h.rp,h.fr,fun y E=>h.sub y (by simp [E]),h.sub x (by simp),fun y E G D=>h.cl y E (by simp [G,D]),by simp,by have:=h.ln;simp at this;omega⟩
theorem RJ.skip {m:MZ} {s todo:List Int} (h:RJ m t from_ used s todo x j) (E:j<(zp m x).length) (G:(zp m x)[j]∈s\/zj m t (zp m x)[j]=false\/(zp m x)[j]∈used):
  RJ m t from_ used s todo x (j+1):=
 ⟨h.nd,h.rp,h.fr,h.sub,h.xs,h.cl,fun z I hf D=>by
  rcases (zF E z).1 I with h1 | h1
  ·exact h.cx z h1 hf D
  ·subst h1;rcases G with h2 | h2 | h2
   ·exact h2
   ·rw [hf] at h2;cases h2
   ·exact absurd h2 D,h.ln⟩
theorem RJ.push {m:MZ} {s todo:List Int} (h:RJ m t from_ used s todo x j) (M:j<(zp m x).length) (U:(zp m x)[j]∉s) (hf:zj m t (zp m x)[j]=true) (V:(zp m x)[j]∉used):
  RJ m t from_ used (s++[(zp m x)[j]]) (todo++[(zp m x)[j]]) x (j+1):=
 ⟨EG h.nd U,fun y hy=>by
   rw [za0,zar] at hy;rcases hy with hy | rfl
   ·exact h.rp y hy
   ·exact (h.rp x h.xs).step (Fz M) hf V,
  fun y hy h0 h1=>by simp [h.fr y hy h0 h1],
  fun y hy=>by
   rw [za0,zar] at hy⊢;rcases hy with hy | hy
   ·exact .inl (h.sub y hy)
   ·exact .inr hy,
  by simp [h.xs],
  fun y hy G I z J D E=>by
   rw [za0,zar] at hy G;rcases hy with hy | hy
   ·simp [h.cl y hy (fun O=>G (.inl O)) I z J D E]
   ·exact absurd (.inr hy) G,
  fun z J D E=>by
   rcases (zF M z).1 J with h1 | h1
   ·simp [h.cx z h1 D E]
   ·simp [h1],by have:=h.ln;simp;omega⟩
theorem RJ.done {m:MZ} {s todo:List Int} (h:RJ m t from_ used s todo x j) (G:(zp m x).length<=j):RO m t from_ used s todo:=
 ⟨h.nd,h.rp,h.fr,h.sub,fun y J I z M hf E=>by
  by_cases D:y=x
  ·subst D;exact h.cx z (by rwa [List.take_of_length_le G]) hf E
  ·exact h.cl y J I D z M hf E,h.ln⟩
theorem RO.end_ {m:MZ} {s:List Int} (h:RO m t from_ used s []) (x:Int):x∈s↔RP m t from_ used x:=
 ⟨h.rp x,fun D=>D (·∈s) h.fr (fun y z G I hf E=>h.cl y G (by simp) z I hf E)⟩
theorem Bq {w:World} {base:Nat} {e:TypeId} {size g n cap:Nat} {xs:List Value} (h:w.ownsRow base e size (.slice (some ⟨g,0,none⟩) n cap) n xs):n<=cap:=by
 rcases h.2 with ⟨h0,_⟩ | ⟨g',cap',cur,E,_,_,D,_⟩
 ·cases h0
 ·cases E;exact D
theorem Dp (m:MZ) (x:Int):(zp m x).length<=6:=by
 have h (c:Bool) (y:Int) (l:List Int) (k:Nat) (D:l.length<=k):(ap c y l).length<=k+1:=FA (ap_len c y l) (by omega);unfold zp;exact h _ _ _ 5 (h _ _ _ 4 (h _ _ _ 3 (h _ _ _ 2 (h _ _ _ 1 (h _ _ _ 0 (by simp))))))
theorem reach_calls {ok ok':Nat->Prop} {vm vf:Value} {m:MZ} {gu:Nat} (t:Nat) (w:World) (hm:zL w ok vm m) (d:Dim m) (ht:t<m.free.length) (f7:∀f∈m.free,(f.length:Int)=m.n)
  (hf:zg w ok' vf from_) (hl:from_.length<=20000000000000) (hu:zW w gu used):
  Calls Tryz.prog 206 #[vm,.int .i64 t,vf,.map (some gu)] w fun e w'=>∃s,e=.returned (.map (some (w.heap.size+1)))/\Below w.heap.size w w'/\zW w' (w.heap.size+1) s/\∀x,x∈s↔RP m t from_ used x:=by
 have g0:=hm;obtain ⟨vfr,vup,vts,rfl,a8,_,_⟩:=hm;obtain ⟨vsf,⟨Af,cf,rfl,m7,g4⟩,f6⟩:=a8;obtain ⟨A,c,rfl,hc,hr⟩:=hf;obtain ⟨n0,n2⟩:=d.layer;have D:=zh d;obtain ⟨w1,w2,m8,m9,ll1,ll2,n1,j6⟩:=d;have HM:=zh g0;clear g0;have h9:=zh g4;clear g4;have h7:=zh f6;clear f6;have HR:=zh hr;clear hr;have HU:=zh hu;clear hu;have h8:=zh f7;clear f7 j6;have hN:0<=m.w*m.h*m.l:=by omega
 have n4:=@run_makeMap Tryz.prog
 go_enter Tryz.func206,Tryz.ntmps206
 go_wp2
 have f2:RI w ((w.alloc (.cells #[.int .i64 m.w,.int .i64 m.h,.int .i64 m.l,.slice Af m.free.length cf,vup,vts] 32)).alloc (.map #[] 0)) w.heap.size #[.int .i64 m.w,.int .i64 m.h,.int .i64 m.l,.slice Af m.free.length cf,vup,vts] [] [] (.slice none 0 0):=by
  refine ⟨((Below.refl _ _).alloc (Fy _) _).alloc (by simp) _,Fy _,?_,?_,World.ownsRow_nil _ _ _ _⟩
  ·exact ze.alloc (zax w _) _
  ·have:=zW.new (w.alloc (.cells #[.int .i64 m.w,.int .i64 m.h,.int .i64 m.l,.slice Af m.free.length cf,vup,vts] 32));simpa using this
 go_loopw [10,19] (fun v i wr=>∃k s,k<=from_.length/\i=.int .i64 (k:Nat)/\Hid (RI w wr w.heap.size #[.int .i64 m.w,.int .i64 m.h,.int .i64 m.l,.slice Af m.free.length cf,vup,vts] s s v)/\Hid (s.Nodup)/\Hid (∀x,x∈s↔x∈from_.take k/\0<=x/\x<m.n)) (fun _ i _=>from_.length - (intOf i).toNat)
 case atStart=>exact ⟨0,[],FN _,rfl,f2,List.nodup_nil,by simp [Hid]⟩
 clear f2
 case round=>
  obtain ⟨k,s,hk,rfl,hI,hnd,hx⟩:=hrel;by_cases E:k<from_.length
  ·obtain ⟨b,off,rfl,_,I⟩:=Ai (HR.out.keep (Ao.of_below hI.out.below)) E E;obtain ⟨y,hy⟩:=zaI (from_[k]);rw [<-hy] at I;have HY:=zh hy;clear hy;obtain ⟨m0,m1,m2,m3,m4,m5⟩:=zt hI.out.box;by_cases g8:0<=y
   ·by_cases j9:y<m.w*m.h*m.l
    ·have c9:∀W:World,Calls Tryz.prog 124 #[.agg #[.int .i64 m.w,.int .i64 m.h,.int .i64 m.l,.slice Af m.free.length cf,vup,vts]] W _:=fun W=>Bi m.w m.h m.l _ vup vts W (by omega) (by omega)
     have c8:=zh c9;clear c9;by_cases G:y∈s
     ·go_wp2_with fail
      refine (c8.out _).mono ?_;rintro e w' ⟨rfl,hb⟩;have a2:=zh (hI.out.call hb);have b0:=look_t a2.out.set G
      go_wp2_with fail
      go_roundw
      case rel=>exact ⟨k+1,s,by omega,by go_num,a2,hnd,fun x=>by
       rw [zF E,hx.out,<-HY.out];constructor
       ·rintro ⟨h1,h2⟩;exact ⟨.inl h1,h2⟩
       ·rintro ⟨h1 | rfl,h2⟩
        ·exact ⟨h1,h2⟩
        ·exact (hx.out x).1 G⟩
      case measure=>simp [intOf];omega
     ·go_wp2_with fail
      refine (c8.out _).mono ?_;rintro e w' ⟨rfl,hb⟩;have a2:=zh (hI.out.call hb);have b0:=look_f a2.out.set G
      go_wp2_with (at_mapUpdate;refine wpSetAdd rfl _ _ _ _ rfl Tryz.underlying205 (w.heap.size+1) s y rfl rfl rfl a2.out.set ?_)
      intro wa b6 V;have O:=zh (a2.out.add b6 V);have a3:wa.heap.size=wa.heap.size:=rfl;have j1:w.heap.size+2<=wa.heap.size:=O.out.lt;have d6:=Cf hnd.out m.n (fun x j8=>((hx.out x).1 j8).2);have j2:s.length<=300:=by unfold MZ.n at d6;omega
      clear b6 V b0 d6
      go_wp2_with (at_builtin;refine AZ rfl _ _ rfl _ s y (w.heap.size+2) wa.heap.size 1 _ rfl rfl (O.out.own.alloc _) ?c1 ?c2 ?c3 ?_)
      case c2=>(first | omega | (simp;omega))
      case c3=>omega
      intro v' wb b3 a0 _;have e2:=zh ((O.out.alloc _).app b3 a0.out);clear b3 a0;go_wp2;go_roundw
      case rel=>exact ⟨k+1,s++[y],by omega,by go_num,by have:=e2.out;rwa [ins_new G] at this,EG hnd.out G,fun x=>by
       rw [za0,zar,zF E,hx.out,<-HY.out];constructor
       ·rintro (⟨h1,h2⟩ | rfl)
        ·exact ⟨.inl h1,h2⟩
        ·exact ⟨.inr rfl,g8,j9⟩
       ·rintro ⟨h1 | rfl,h2⟩
        ·exact .inl ⟨h1,h2⟩
        ·exact .inr rfl⟩
      case measure=>simp [intOf];omega
    ·go_wp2_with (go_at_call 124;refine (Bi _ _ _ _ _ _ _ (by omega) (by omega)).mono ?_;rintro e w' ⟨rfl,hb⟩)
     go_roundw
     case rel=>exact ⟨k+1,s,by omega,by go_num,hI.out.call ‹_›,hnd,fun x=>by
      rw [zF E,hx.out,<-HY.out];constructor
      ·rintro ⟨h1,h2⟩;exact ⟨.inl h1,h2⟩
      ·rintro ⟨h1 | rfl,h2,h3⟩
       ·exact ⟨h1,h2,h3⟩
       ·unfold MZ.n at h3;omega⟩
     case measure=>simp [intOf];omega
   ·go_wp2;go_roundw
    case rel=>exact ⟨k+1,s,by omega,by go_num,hI,hnd,fun x=>by
     rw [zF E,hx.out,<-HY.out];constructor
     ·rintro ⟨h1,h2⟩;exact ⟨.inl h1,h2⟩
     ·rintro ⟨h1 | rfl,h2,h3⟩
      ·exact ⟨h1,h2,h3⟩
      ·omega⟩
    case measure=>simp [intOf];omega
  ·obtain rfl:k=from_.length:=by omega
   have b7:Hid (∀x,x∈s↔x∈from_/\0<=x/\x<m.n):=fun x=>by have:=hx.out x;rwa [FJ] at this
   clear hx;have hO:Hid (RO m t from_ used s s):=⟨hnd.out,fun x h=>RP.base ((b7.out x).1 h).1 ((b7.out x).1 h).2.1 ((b7.out x).1 h).2.2,fun x h h0 h1=>(b7.out x).2 ⟨h,h0,h1⟩,fun x h=>h,fun y h hn=>absurd h hn,Fy _⟩;clear b7 hnd E hk;go_wp2
   go_loopg [10] (2*(m.n.toNat - s.length)+s.length) (fun gk v wr=>∃s todo,gk=2*(m.n.toNat - s.length)+todo.length/\Hid (RI w wr w.heap.size #[.int .i64 m.w,.int .i64 m.h,.int .i64 m.l,.slice Af m.free.length cf,vup,vts] s todo v)/\Hid (RO m t from_ used s todo))
   case atStart=>exact ⟨s,s,rfl,hI,hO⟩
   clear hI hO
   case round=>
    obtain ⟨s,todo,rfl,hI,hO⟩:=hrel;obtain ⟨wo,rfl⟩:∃wo:World,wo=wr:=⟨_,rfl⟩;rcases List.eq_nil_or_concat todo with rfl | ⟨td,x,rfl⟩
    ·obtain ⟨A0,c0,hv⟩:∃A0 c0,u10=.slice A0 0 c0:=by
      obtain ⟨A0,c0,hv,_⟩:=AS.of_own hI.out.own;exact ⟨A0,c0,hv⟩
     subst hv;go_wp2;go_ret;exact ⟨s,rfl,hI.out.below,hI.out.set,hO.out.end_⟩
    ·rw [List.concat_eq_append] at hI hO;obtain ⟨gt,ct,hv,k8,f8⟩:=hI.out.own.form (by simp);subst hv;have e8:(td++[x]).length=td.length+1:=by simp
     try rw [e8]
     have i9:wo.cell? ⟨gt,td.length,none⟩=some (.int .i64 x):=by
      have:=hI.out.own.cellAt td.length (by simp);rw [this];simp
     have hJ:=zh hO.out.pop;have i7:=Bq hI.out.own;rw [e8] at i7;have j4:=(hO.out.rp x (hJ.out.xs)).range D.out;have j5:=Cf hO.out.nd m.n (fun y hy=>(hO.out.rp y hy).range D.out);have n7:=hJ.out.ln;have l1:s.length<=300:=by unfold MZ.n at j5;omega
     obtain ⟨g6,g7⟩:=j4;obtain ⟨m0,m1,m2,m3,m4,m5⟩:=zt hI.out.box
     have e1:Hid (RI w wo w.heap.size #[.int .i64 m.w,.int .i64 m.h,.int .i64 m.l,.slice Af m.free.length cf,vup,vts] s td (.slice (some ⟨gt,0,none⟩) td.length ct)):=by
      have h:=hI.out.own;refine ⟨hI.out.below,hI.out.ge,hI.out.box,hI.out.set,?_⟩;rw [map_snoc,e8] at h;exact ownsRow_pop (by simp) h
     clear hI hO
     go_wp2_with fail
     refine (next_calls m x wo (HM.out.keep (Ao.of_below e1.out.below)) D.out g6 g7).mono ?_;rintro e wk ⟨v',rfl,f4,e7⟩;have f1:=zh (e1.out.call f4);have g1:=zh (AS.of_own e7);have k9:=zh e7;clear e7;obtain ⟨A2,c2,j7,m6,d7⟩:=g1.out;subst j7;clear g1;have n6:=Dp m x;have j3:=HM.out;have f0:=zh d7;clear d7;clear j3 m0 m1 m2 m3 m4 m5 i9;have l5:wo.heap.size<=wk.heap.size:=f4.size;go_wp2;go_loopw [10,62] (fun v i wi=>∃j s' todo',j<=(zp m x).length/\i=.int .i64 (j:Nat)/\Hid (RI w wi w.heap.size #[.int .i64 m.w,.int .i64 m.h,.int .i64 m.l,.slice Af m.free.length cf,vup,vts] s' todo' v)/\Hid (RJ m t from_ used s' todo' x j)/\Hid (Ao (fun b=>wo.heap.size<=b/\b<wk.heap.size) wk wi)/\Hid (∀k,v.ownBlock=some k->k<wo.heap.size\/wk.heap.size<=k)/\Hid (wk.heap.size<=wi.heap.size)/\Hid (todo'.length+s.length=td.length+s'.length/\s.length<=s'.length)) (fun _ i _=>(zp m x).length - (intOf i).toNat)
     case atStart=>exact ⟨0,s,td,FN _,rfl,f1,hJ,Ao.refl _ _,fun k hk=>by
      have:k=gt:=by simpa [Value.ownBlock] using hk.symm
      subst this;exact .inl f8,Fy _,rfl,Fy _⟩
     clear e1 f1 hJ
     case round=>
      obtain ⟨j,s',todo',hj,rfl,hI,hJ,hS,a6,a3,b1⟩:=hrel;by_cases a9:j<(zp m x).length
      ·obtain ⟨b2,off2,rfl,i4,J⟩:=Ai f0.out a9 a9;have a7:=zo J;have I:=(En (hS.out b2 ⟨i4,a7⟩ a7)).trans J;clear J;have g9:=Co D.out g6 g7 (Fz a9);have M:=zh (hJ.out.skip a9);have b5:=zh (hJ.out.push a9);obtain ⟨y,hy⟩:=zaI ((zp m x)[j]);rw [<-hy] at I g9 M b5;clear hy;obtain ⟨g8,n8⟩:=g9;obtain ⟨m0,m1,m2,m3,m4,m5⟩:=zt hI.out.box;obtain ⟨bf,off3,uf,rfl,_,d5,i5⟩:=AW (h9.out.keep (Ao.of_below hI.out.below)) h7.out ht ht;have U:=h8.out _ (Fz ht);obtain ⟨A4,c4,rfl,i6,g3⟩:=i5;have c6:y.toNat<(m.free[t]).length:=by omega
       obtain ⟨b4,off4,rfl,_,a1⟩:=BS (g3.keep (Ao.of_below hI.out.below)) c6 c6;have a8:(m.free[t])[y.toNat]=zj m t y:=by simp [zj,ht,c6]
       rw [a8] at a1;have l6:=zh a8;clear a8;obtain ⟨nf,e6⟩:=zaI ((m.free[t]).length);rw [<-e6] at d5 c6 U i6;have l7:=zh e6;clear e6;have k6:=zh U;clear U;clear g3;have hset:=hI.out.set;have e0:=HU.out.below hI.out.below;by_cases G:y∈s'
       ·have b0:=look_t hset G;go_wp2;go_roundw
        case rel=>exact ⟨j+1,s',todo',by omega,by go_num,hI,M.out (.inl G),hS,a6,a3,b1⟩
        case measure=>simp [intOf];omega
       ·have b0:=look_f hset G;by_cases hf:zj m t y=true
        ·rw [hf] at a1;by_cases c7:y∈used
         ·have f9:=look_t e0 c7;have HF:=zh hf;clear hf;go_wp2;go_roundw
          case rel=>exact ⟨j+1,s',todo',by omega,by go_num,hI,M.out (.inr (.inr c7)),hS,a6,a3,b1⟩
          case measure=>simp [intOf];omega
         ·have f9:=look_f e0 c7;have HF:=zh hf;clear hf;have i0:=zh (b5.out G HF.out c7);have d8:=Cf hJ.out.nd m.n (fun y hy=>(hJ.out.rp y hy).range D.out);have l2:=hJ.out.ln;have l3:todo'.length<=300:=by unfold MZ.n at d8;omega
          go_wp2_with (at_mapUpdate;refine wpSetAdd rfl _ _ _ _ rfl Tryz.underlying205 (w.heap.size+1) s' y rfl rfl rfl hI.out.set ?_)
          intro wa b6 V;have O:=zh (hI.out.add b6 V)
          have i2:Hid (Ao (fun b=>wo.heap.size<=b/\b<wk.heap.size) wk wa):=fun b hb E=>by
           refine (V.block b (zam E a3.out) (fun e=>?_)).trans (hS.out b hb E);injection e with e;have:=hb.1;omega
          have e9:Hid (wk.heap.size<=wa.heap.size):=FA a3.out V.size;have j1:w.heap.size+2<=wa.heap.size:=O.out.lt;clear b6 V b0 f9 hset e0 m0 m1 m2 m3 m4 m5 d5 a1 I
          go_wp2_with (at_builtin;refine AZ rfl _ _ rfl _ todo' y (w.heap.size+2) wa.heap.size 1 _ rfl rfl (O.out.own.alloc _) ?d1 ?d2 ?d3 ?_)
          (try case d1=>simp)
          case d2=>(first | omega | (simp;omega))
          case d3=>omega
          intro v' wb b3 a0 f5;have e2:=zh ((O.out.alloc _).app b3 a0.out)
          have i1:Hid (∀k,v'.ownBlock=some k->k<wo.heap.size\/wk.heap.size<=k):=fun k hk=>by
           rcases f5.out with e | e
           ·exact a6.out k (e ▸ hk)
           ·have:k=wa.heap.size+1 - 1+1:=by
             rw [e] at hk;simpa using hk.symm
            have:=e9.out;omega
          have i3:Hid (Ao (fun b=>wo.heap.size<=b/\b<wk.heap.size) wk wb):=fun b hb E=>by
           have hz:=e9.out;refine (a0.out.block b (by simp;omega) (fun e=>?_)).trans ((zad wa _ b (by omega)).trans (i2.out b hb E));have h1:=a6.out b e.symm;have h2:=hb.1;omega
          have k5:Hid (wk.heap.size<=wb.heap.size):=by
           have h1:=a0.out.size;have h2:=e9.out;simp at h1;show _<=_;omega
          clear b3 a0 f5;go_wp2;go_roundw
          case rel=>exact ⟨j+1,s'++[y],todo'++[y],by omega,by go_num,by have:=e2.out;rwa [ins_new G] at this,i0,i3,i1,k5,by have h1:=b1.out;show _/\_;simp only [FG,zaG,zaH];omega⟩
          case measure=>simp [intOf];omega
        ·have e4:zj m t y=false:=by simpa using hf
         rw [e4] at a1;have HF:=zh e4;clear hf e4;go_wp2;go_roundw
         case rel=>exact ⟨j+1,s',todo',by omega,by go_num,hI,M.out (.inr (.inl HF.out)),hS,a6,a3,b1⟩
         case measure=>simp [intOf];omega
      ·have e3:=zh (hJ.out.done (by omega));have d8:=Cf e3.out.nd m.n (fun y hy=>(e3.out.rp y hy).range D.out);have n3:=b1.out;go_wp2
       go_roundg (2*(m.n.toNat - s'.length)+todo'.length)
       case measure=>
        have h1:(td.concat x).length=td.length+1:=by simp
        rw [h1];omega
       case rel=>exact ⟨s',todo',rfl,hI,e3⟩
end
end Go.Proofs.YtjomnbdjajjgfaaGreatDoor
