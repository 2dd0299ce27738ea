import Derived.WalkKit
import Derived.Lib.Hide
import Derived.Test.YthbjngbhbbkkgaaGreatRows
import Derived.WalkLawsBesides
import Derived.WalkSpells
import Derived.BigQuiet
import Derived.Deep.QuietTactic
import Derived.ChangeMaps4
import Derived.Maps.RangeRun
import Derived.Deep.RegionHeld
set_option linter.unusedVariables false
set_option linter.unusedSimpArgs false
set_option maxRecDepth 100000
set_option maxHeartbeats 16000000
namespace Go.Proofs.YthbjngbhbbkkgaaGreat
variable {a:Act} {listed:Array Bool} {es:Array MapEntry} {ops:Array Oper} {l:List Int} {B fuel g k:Nat} {o oi:Oper} {P:Program} {v':Value} {b:World}
section
open Go.RowKit
theorem zh {p: Prop} (h : p) : Hid p := Lib.hid h
theorem za {α: Type} : (∀ (xs : List α) (i : Nat) (h : i < xs.toArray.size), xs.toArray[i] = xs[i]'(by simpa using h)) /\ (∀ (a : α) (l : List α) (i : Nat) (h : i + 1 < (a :: l).length), (a :: l)[i+1] = l[i]'(Nat.lt_of_succ_lt_succ h)) /\ (∀ (a : α) (l : List α) (h : 0 < (a :: l).length), (a :: l)[0] = a) /\ (∀ (l : List α) (i : Nat) (a : α), l.toArray.setIfInBounds i a = (l.set i a).toArray) /\ (∀ (a : α) (l : List α) (b : α), (a :: l).set 0 b = b :: l) /\ (∀ (a : α) (l : List α) (i : Nat) (b : α), (a :: l).set (i+1) b = a :: l.set i b) :=
 ⟨fun _ _ h => List.getElem_toArray h, fun _ _ _ _ => List.getElem_cons_succ .., fun _ _ _ => List.getElem_cons_zero .., fun _ _ _ => List.setIfInBounds_toArray .., fun _ _ _ => rfl, fun _ _ _ _ => rfl⟩
abbrev EE := @List.getElem?_eq_getElem
abbrev EF := @List.getD_eq_getElem?_getD
abbrev EG := @Nat.le_refl
abbrev EH := @List.getElem_mem
abbrev EI := @Nat.le_trans
abbrev EJ := @decide_eq_true
abbrev EK := @decide_eq_false
abbrev EL := @List.getElem?_append_left
abbrev EM := @List.getElem?_append_right
abbrev EN := @List.take_succ_eq_append_getElem
abbrev EO := @List.length_append
abbrev EP := @Below.heap_setCell
abbrev EQ := @decide_eq_true_eq
abbrev ER := @List.take_length
abbrev ES := @Bool.and_eq_true
abbrev ET := @beq_eq_false_iff_ne
abbrev EU := @Nat.zero_le
abbrev EV := @World.cell?_of_block
abbrev EW := @wp_region_held_drew
abbrev EX := @List.eq_nil_of_length_eq_zero
abbrev EY := @Below.heap_alloc
abbrev EZ := @List.getElem?_eq_none
abbrev Fa := @List.mem_cons_of_mem
abbrev Fb := @IntKind.wrap_i64
abbrev Fc := @Nat.lt_or_ge
abbrev Fd := @decide_eq_false_iff_not
abbrev Fe := @World.frozen?_of_block
abbrev Ff := @List.length_singleton
abbrev Fg := @AllReadyH.cons
abbrev Fh := @Nat.lt_of_lt_of_le
abbrev Fi := @List.length_filter_le
abbrev Fk := @wpAnyH_done
abbrev Fl := @Option.getD_some
abbrev Fm := @List.getElem_of_mem
abbrev Fo := @List.mem_singleton
abbrev Fp := @List.filter_cons_of_neg
abbrev Fq := @List.getElem?_map
abbrev Fr := @List.length_map
abbrev Fs := @Nat.eq_zero_or_pos
abbrev Ft := @List.mem_cons_self
abbrev Fu := @heap_alloc_new
abbrev Fv := @List.filter_append
abbrev Fw := @List.mem_cons
abbrev Fx := @List.mem_append
abbrev Fy := @Int.toNat_natCast
abbrev Fz := @List.map_append
abbrev FA := @List.length_take
abbrev FB := @List.filter_cons_of_pos
abbrev FC := @bodyPost_ret
abbrev FD := @List.getElem?_eq_some_iff
abbrev FE := @Array.getElem?_eq_some_iff
abbrev FF := @List.not_mem_nil
abbrev FG := @List.mem_filter
abbrev FH := @List.mem_map
abbrev FI := @List.mem_range
abbrev FJ := @List.drop_length
abbrev FK := @Bool.or_eq_true
abbrev FM := @List.any_eq_true
abbrev FN := @List.all_eq_true
abbrev zaa := @of_decide_eq_true
abbrev zab := @List.length_cons
abbrev zac := @List.length_nil
theorem ED : (∀ (t : Array Value) (f : List Deferred) (d : Tmp) (v : Value), Act.put ⟨t, f⟩ (some d) v = ⟨t.setIfInBounds d v, f⟩) /\ (∀ (a : Act) (v : Value), Act.put a none v = a) := ⟨fun _ _ _ _ => rfl, fun _ _ => rfl⟩
theorem zgd {α: Type _} {l: List α} {d: α} (h : k < l.length) : l.getD k d = l[k] := by rw [List.getD_eq_getElem?_getD, List.getElem?_eq_getElem h]; rfl
theorem zad {α: Sort _} (a : α) : ∃ x, x = a := ⟨_, rfl⟩
theorem zae {K: Act -> World -> Prop} {S: World -> Prop} {G: Act -> World -> Prop} (h : Shut (∀ a w, S w -> (S w -> G a w) -> K a w)) {w: World} (s : S w) (g : S w -> G a w) : K a w := h.out a w s g
theorem zf {md: Region.Mode} {Q: Exit -> Act -> World -> Prop} {S: World -> Prop} (i : Nat) {v: Value} {w: World} (z : S w)
 (h : wpAnyH P md ops Q S fuel (listed.setIfInBounds i true) (a.put oi.dst v) w) (G : ops[i]? = some oi := by rfl) (M : ∀ w, S w -> (execOp a.eval oi).run P w = .ok (.value v) w := by (intro w D; go_simp; try with_reducible rfl)) (L : Region.wanted oi (yielded ops a.tmps) = true := by rfl)
 (J : Region.noSelect ops = true := by kernel_rfl) (E : Region.free md ops listed i = true := by kernel_rfl) (I : (Region.ready md ops listed).contains i = true := by kernel_rfl)
 (hQ : ∀ c a w, Q (.panic c) (a.put oi.dst v) w -> Q (.panic c) a w := by exact fun _ _ _ h => h) : wpAnyH P md ops Q S (fuel + 1) listed a w := wpAnyH_take G J E I hQ (.inl ⟨L, M⟩) z h
theorem rtU {md: Region.Mode} {Q: Exit -> Act -> World -> Prop} {S: World -> Prop} (i : Nat) (v : Value) {w: World} (z : S w)
 (L : ∀ w, S w -> (execOp a.eval oi).run P w = .ok (.value v) w) (h : wpAnyH P md ops Q S fuel (listed.setIfInBounds i true) (a.put oi.dst v) w) (E : ops[i]? = some oi := by rfl) (J : Region.wanted oi (yielded ops a.tmps) = true := by rfl)
 (I : Region.noSelect ops = true := by kernel_rfl) (D : Region.free md ops listed i = true := by kernel_rfl) (G : (Region.ready md ops listed).contains i = true := by kernel_rfl)
 (hQ : ∀ c a w, Q (.panic c) (a.put oi.dst v) w -> Q (.panic c) a w := by exact fun _ _ _ h => h) : wpAnyH P md ops Q S (fuel + 1) listed a w := wpAnyH_take E I D G hQ (.inl ⟨J, L⟩) z h
theorem zV {md: Region.Mode} {Q: Exit -> Act -> World -> Prop} {S: World -> Prop} (i : Nat) {w: World} (z : S w)
 (h : wpAnyH P md ops Q S fuel (listed.setIfInBounds i true) (a.put oi.dst undef) w) (E : ops[i]? = some oi := by rfl) (J : Region.wanted oi (yielded ops a.tmps) = false := by rfl)
 (I : Region.noSelect ops = true := by kernel_rfl) (D : Region.free md ops listed i = true := by kernel_rfl) (G : (Region.ready md ops listed).contains i = true := by kernel_rfl)
 (hQ : ∀ c a w, Q (.panic c) (a.put oi.dst undef) w -> Q (.panic c) a w := by exact fun _ _ _ h => h) : wpAnyH P md ops Q S (fuel + 1) listed a w := wpAnyH_take E I D G hQ (.inr ⟨J, rfl⟩) z h
theorem zE {md: Region.Mode} {Q: Exit -> Act -> World -> Prop} {S: World -> Prop} {w: World} (i : Nat)
 (h : ∀ K' : Act -> World -> Prop, Shut (∀ a w, S w -> (S w -> wpAnyH P md ops Q S fuel (listed.setIfInBounds i true) a w) -> K' a w) -> if Region.wanted o (yielded ops a.tmps) = true then Oper.wp P o a w K' Q else K' (a.put o.dst undef) w)
 (z : ops[i]? = some o := by rfl) (D : Region.ready md ops listed = [i] := by kernel_rfl) : wpAnyH P md ops Q S (fuel + 1) listed a w := wpAnyH_ready D (by simp) (.cons z h .nil)
theorem rdA {md: Region.Mode} {Q: Exit -> Act -> World -> Prop} {S: World -> Prop} (rs : List Nat) {w: World}
 (h : AllReadyH P md ops Q S fuel listed a w rs) (D : Region.ready md ops listed = rs := by kernel_rfl) (z : rs ≠ [] := by simp) : wpAnyH P md ops Q S (fuel + 1) listed a w := wpAnyH_ready D z h
structure MZ where
 w:Int
 h:Int
 l:Int
 free:List (List Bool)
 up:List Bool
 tasks:List (List Int×List Int)
theorem zd {w:World} {o:Obj} (h:w.heap[k]?=some o):k<w.heap.size:=by
 rcases Fc k w.heap.size with h1 | h1
 ·exact h1
 ·rw [Array.getElem?_eq_none h1] at h;cases h
theorem zo {w:World} {a:Addr} {v:Value} (h:w.cell? a=some v):a.block<w.heap.size:=by
 unfold World.cell? at h
 cases z:w.heap[a.block]? with
 | none=>simp [z] at h
 | some o=>exact zd z
theorem CK {w w':World} {a:Addr} (h:w'.heap[a.block]?=w.heap[a.block]?):w'.cell? a=w.cell? a:=EV h
def zW (ok:Nat->Prop) (w w':World):Prop:=∀b,ok b->b<w.heap.size->w'.heap[b]?=w.heap[b]?
theorem zW.refl (ok:Nat->Prop) (w:World):zW ok w w:=fun _ _ _=>rfl
theorem zW.of_below {ok:Nat->Prop} {w w':World} (h:Below w.heap.size w w'):zW ok w w':=fun b _ z=>h.block b z
theorem BC {a w w':World} (h:Below B a w) (z:Below w.heap.size w w') (D:B<=a.heap.size):Below B a w':=h.trans (z.mono (EI D h.size))
def Ae (w:World) (ok:Nat->Prop) (size:Nat) (A:Option Addr) (n:Nat) (xs:List Value):Prop:=
 xs.length=n*size/\(0<n->∃b off,A=some ⟨b,off,none⟩/\ok b/\∀j u,xs[j]?=some u->w.cell? ⟨b,off+j,none⟩=some u)
def AI (w:World) (ok:Nat->Prop) (size:Nat) (v:Value) (n:Nat) (xs:List Value):Prop:=
 ∃A c,v=.slice A n c/\n<=c/\Ae w ok size A n xs
section
variable {w w':World} {ok ok':Nat->Prop} {size n:Nat} {A:Option Addr} {v:Value} {xs:List Value}
theorem Ae.keep (h:Ae w ok size A n xs) (E:zW ok w w'):Ae w' ok size A n xs:=
 ⟨h.1,fun G=>by
  obtain ⟨b,off,e,z,D⟩:=h.2 G;refine ⟨b,off,e,z,fun j u I=>?_⟩;have h1:=D j u I;exact (CK (E b z (zo h1))).trans h1⟩
theorem Ae.weaken (h:Ae w ok size A n xs) (E:∀b,ok b->ok' b):Ae w ok' size A n xs:=
 ⟨h.1,fun G=>by
  obtain ⟨b,off,e,z,D⟩:=h.2 G;exact ⟨b,off,e,E b z,D⟩⟩
theorem Ae.nil (w:World) (ok:Nat->Prop) (size:Nat) (A:Option Addr):Ae w ok size A 0 []:=⟨by simp,fun h=>absurd h (by omega)⟩
theorem Ae.at_ (h:Ae w ok 1 A n xs) (G:k<n):∃b off u,A=some ⟨b,off,none⟩/\ok b/\xs[k]?=some u/\w.cell? ⟨b,off+k,none⟩=some u:=by
 obtain ⟨b,off,e,D,E⟩:=h.2 (by omega);have z:k<xs.length:=by have:=h.1;omega
 exact ⟨b,off,xs[k],e,D,EE z,E k _ (EE z)⟩
theorem AI.keep (h:AI w ok size v n xs) (D:zW ok w w'):AI w' ok size v n xs:=by
 obtain ⟨A,c,rfl,z,E⟩:=h;exact ⟨A,c,rfl,z,E.keep D⟩
theorem AI.weaken (h:AI w ok size v n xs) (D:∀b,ok b->ok' b):AI w ok' size v n xs:=by
 obtain ⟨A,c,rfl,z,E⟩:=h;exact ⟨A,c,rfl,z,E.weaken D⟩
theorem AI.below (h:AI w ok size v n xs) (z:Below w.heap.size w w'):AI w' ok size v n xs:=h.keep (zW.of_below z)
theorem AI.of_own {base:Nat} {e:TypeId} (h:w.ownsRow base e size v n xs):AI w (fun b=>base<=b) size v n xs:=by
 obtain ⟨G,⟨rfl,rfl⟩ | ⟨g,cap,cur,rfl,J,L,D,E,I,M⟩⟩:=h
 ·exact ⟨none,0,rfl,EG _,G,fun h=>absurd h (by omega)⟩
 ·refine ⟨some ⟨g,0,none⟩,cap,rfl,D,G,fun _=>⟨g,0,rfl,J,fun j u z=>?_⟩⟩;unfold World.cell?;simp only [L,Nat.zero_add];rw [<-M,List.getElem?_take] at z
  split at z
  ·simpa using z
  ·cases z
end
def zj (w:World) (ok:Nat->Prop) (v:Value) (l:List Int):Prop:=AI w ok 1 v l.length (l.map (Value.int .i64))
def BB (w:World) (ok:Nat->Prop) (v:Value) (l:List Bool):Prop:=AI w ok 1 v l.length (l.map Value.bool)
def Each {α:Type} (R:Value->α->Prop) (w:World) (ok:Nat->Prop) (v:Value) (l:List α):Prop:=
 ∃vs,AI w ok 1 v l.length vs/\∀(i:Nat) x,l[i]?=some x->∃u,vs[i]?=some u/\R u x
def zv (w:World) (ok:Nat->Prop) (v:Value) (l:List (List Int)):Prop:=Each (zj w ok) w ok v l
def Bj (w:World) (ok:Nat->Prop) (v:Value) (l:List (List Bool)):Prop:=Each (BB w ok) w ok v l
def BU (w:World) (ok:Nat->Prop) (v:Value) (l:List (List Int×List Int)):Prop:=
 ∃vs,AI w ok 3 v l.length vs/\∀(i:Nat) x,l[i]?=some x->∃s u1 u2,vs[i*3]?=some (.string s)/\vs[i*3+1]?=some u1/\vs[i*3+2]?=some u2/\zj w ok u1 x.1/\zj w ok u2 x.2
def zw (w:World) (ok:Nat->Prop) (v:Value) (m:MZ):Prop:=
 ∃f u t,v=.agg #[.int .i64 m.w,.int .i64 m.h,.int .i64 m.l,f,u,t]/\Bj w ok f m.free/\BB w ok u m.up/\BU w ok t m.tasks
section
variable {w w':World} {ok ok':Nat->Prop} {v:Value}
theorem zj.keep {l:List Int} (h:zj w ok v l) (z:zW ok w w'):zj w' ok v l:=AI.keep h z
theorem zj.weaken {l:List Int} (h:zj w ok v l) (z:∀b,ok b->ok' b):zj w ok' v l:=AI.weaken h z
theorem zj.below {l:List Int} (h:zj w ok v l) (z:Below w.heap.size w w'):zj w' ok v l:=AI.below h z
theorem BB.keep {l:List Bool} (h:BB w ok v l) (z:zW ok w w'):BB w' ok v l:=AI.keep h z
theorem BB.weaken {l:List Bool} (h:BB w ok v l) (z:∀b,ok b->ok' b):BB w ok' v l:=AI.weaken h z
theorem Each.keep {α:Type} {R R':Value->α->Prop} {l:List α} (h:Each R w ok v l) (E:zW ok w w') (D:∀u x,R u x->R' u x):Each R' w' ok v l:=by
 obtain ⟨vs,z,he⟩:=h;refine ⟨vs,z.keep E,fun i x I=>?_⟩;obtain ⟨u,G,z⟩:=he i x I;exact ⟨u,G,D _ _ z⟩
theorem Each.weaken {α:Type} {R R':Value->α->Prop} {l:List α} (h:Each R w ok v l) (E:∀b,ok b->ok' b) (D:∀u x,R u x->R' u x):Each R' w ok' v l:=by
 obtain ⟨vs,z,he⟩:=h;refine ⟨vs,z.weaken E,fun i x I=>?_⟩;obtain ⟨u,G,z⟩:=he i x I;exact ⟨u,G,D _ _ z⟩
theorem zv.keep {l:List (List Int)} (h:zv w ok v l) (z:zW ok w w'):zv w' ok v l:=Each.keep h z fun _ _ D=>D.keep z
theorem zv.weaken {l:List (List Int)} (h:zv w ok v l) (z:∀b,ok b->ok' b):zv w ok' v l:=Each.weaken h z fun _ _ D=>D.weaken z
theorem Bj.keep {l:List (List Bool)} (h:Bj w ok v l) (z:zW ok w w'):Bj w' ok v l:=Each.keep h z fun _ _ D=>D.keep z
theorem Bj.weaken {l:List (List Bool)} (h:Bj w ok v l) (z:∀b,ok b->ok' b):Bj w ok' v l:=Each.weaken h z fun _ _ D=>D.weaken z
theorem BU.keep {l:List (List Int×List Int)} (h:BU w ok v l) (z:zW ok w w'):BU w' ok v l:=by
 obtain ⟨vs,D,he⟩:=h;refine ⟨vs,D.keep z,fun i x E=>?_⟩;obtain ⟨s,u1,u2,h0,h1,h2,i1,i2⟩:=he i x E;exact ⟨s,u1,u2,h0,h1,h2,i1.keep z,i2.keep z⟩
theorem BU.weaken {l:List (List Int×List Int)} (h:BU w ok v l) (z:∀b,ok b->ok' b):BU w ok' v l:=by
 obtain ⟨vs,D,he⟩:=h;refine ⟨vs,D.weaken z,fun i x E=>?_⟩;obtain ⟨s,u1,u2,h0,h1,h2,i1,i2⟩:=he i x E;exact ⟨s,u1,u2,h0,h1,h2,i1.weaken z,i2.weaken z⟩
theorem zw.keep {m:MZ} (h:zw w ok v m) (z:zW ok w w'):zw w' ok v m:=by
 obtain ⟨f,u,t,rfl,h1,h2,h3⟩:=h;exact ⟨f,u,t,rfl,h1.keep z,h2.keep z,h3.keep z⟩
theorem zw.weaken {m:MZ} (h:zw w ok v m) (z:∀b,ok b->ok' b):zw w ok' v m:=by
 obtain ⟨f,u,t,rfl,h1,h2,h3⟩:=h;exact ⟨f,u,t,rfl,h1.weaken z,h2.weaken z,h3.weaken z⟩
theorem zw.below {m:MZ} (h:zw w ok v m) (z:Below w.heap.size w w'):zw w' ok v m:=h.keep (zW.of_below z)
theorem zv.below {l:List (List Int)} (h:zv w ok v l) (z:Below w.heap.size w w'):zv w' ok v l:=h.keep (zW.of_below z)
theorem BB.below {l:List Bool} (h:BB w ok v l) (z:Below w.heap.size w w'):BB w' ok v l:=h.keep (zW.of_below z)
theorem Bj.below {l:List (List Bool)} (h:Bj w ok v l) (z:Below w.heap.size w w'):Bj w' ok v l:=h.keep (zW.of_below z)
theorem BU.below {l:List (List Int×List Int)} (h:BU w ok v l) (z:Below w.heap.size w w'):BU w' ok v l:=h.keep (zW.of_below z)
theorem zj.open (h:zj w ok v l):∃A c,v=.slice A l.length c/\l.length<=c/\Ae w ok 1 A l.length (l.map (Value.int .i64)):=h
theorem zj.nil (w:World) (ok:Nat->Prop):zj w ok (.slice none 0 0) []:=⟨none,0,rfl,EG _,Ae.nil _ _ _ _⟩
theorem zy {n:Nat} {A:Option Addr} (h:Ae w ok 1 A n (l.map (Value.int .i64))) (G:k<n) (I:k<l.length):
  ∃b off,A=some ⟨b,off,none⟩/\ok b/\w.cell? ⟨b,off+k,none⟩=some (.int .i64 (l[k])):=by
 obtain ⟨b,off,u,e,D,z,E⟩:=h.at_ G;refine ⟨b,off,e,D,?_⟩;rw [Fq,EE I] at z;rw [E,<-z];rfl
theorem Cj {l:List Bool} {n:Nat} {A:Option Addr} (h:Ae w ok 1 A n (l.map Value.bool)) (G:k<n) (I:k<l.length):
  ∃b off,A=some ⟨b,off,none⟩/\ok b/\w.cell? ⟨b,off+k,none⟩=some (.bool (l[k])):=by
 obtain ⟨b,off,u,e,D,z,E⟩:=h.at_ G;refine ⟨b,off,e,D,?_⟩;rw [Fq,EE I] at z;rw [E,<-z];rfl
theorem Ai {α:Type} {R:Value->α->Prop} {l:List α} {vs:List Value} {n:Nat} {A:Option Addr} (h:Ae w ok 1 A n vs) (he:∀(i:Nat) x,l[i]?=some x->∃u,vs[i]?=some u/\R u x) (G:k<n) (I:k<l.length):
  ∃b off u,A=some ⟨b,off,none⟩/\ok b/\w.cell? ⟨b,off+k,none⟩=some u/\R u (l[k]):=by
 obtain ⟨b,off,u,e,D,L,E⟩:=h.at_ G;obtain ⟨u',z,J⟩:=he k _ (EE I);rw [L] at z;injection z with z;subst z;exact ⟨b,off,u,e,D,E,J⟩
end
theorem AW {k:IntKind} {a b:Int} (h:a=b):Ending.returned (.int k a)=.returned (.int k b):=by rw [h]
theorem ze {a b:Bool} (h:a=b):Ending.returned (.bool a)=.returned (.bool b):=by rw [h]
theorem AC (W H L:Int) (f u t:Value) (w:World) (h1:-1000000000<=W*H/\W*H<=1000000000) (h2:-1000000000000000<=W*H*L/\W*H*L<=1000000000000000):
  Calls Tryz.prog 43 #[.agg #[.int .i64 W,.int .i64 H,.int .i64 L,f,u,t]] w fun e w'=>e=.returned (.int .i64 (W*H*L))/\Below w.heap.size w w':=by
 obtain ⟨z,D⟩:=h1;obtain ⟨E,G⟩:=h2
 go_enter Tryz.func43,Tryz.ntmps43
 go_wp2;go_ret;exact ⟨rfl,(Below.refl _ _).alloc (EG _) _⟩
theorem AP (W H L:Int) (f u t:Value) (w:World) (h1:-1000000000<=W*H/\W*H<=1000000000) (h2:-1000000000000000<=W*H*L/\W*H*L<=1000000000000000):
  Calls Tryz.prog 47 #[.agg #[.int .i64 W,.int .i64 H,.int .i64 L,f,u,t]] w fun e w'=>e=.returned (.int .i64 (W*H*L))/\Below w.heap.size w w':=by
 obtain ⟨z,D⟩:=h1;obtain ⟨E,G⟩:=h2
 go_enter Tryz.func47,Tryz.ntmps47
 go_wp2;go_ret;exact ⟨rfl,(Below.refl _ _).alloc (EG _) _⟩
theorem mod_eq (n m:Int) (hm:0<m) (D:m<=1000000):(wrap64 (n.tmod m+m)).tmod m=n % m:=by
 have h1:n.tmod m<m:=Int.tmod_lt_of_pos n hm
 have h2:-m<n.tmod m:=by
  have:=Int.lt_tmod_of_pos n hm;omega
 rw [IntWalk.wrap64_in _ (by omega),Int.tmod_eq_emod_of_nonneg (by omega),Int.add_emod_right];have h3:=Int.tmod_add_mul_tdiv n m;have z:n=n.tmod m+m*n.tdiv m:=h3.symm
 conv=>rhs;rw [z]
 rw [Int.add_mul_emod_self_left]
theorem mod_calls (n m:Int) (w:World) (hm:0<m) (z:m<=1000000):
  Calls Tryz.prog 32 #[.int .i64 n,.int .i64 m] w fun e w'=>e=.returned (.int .i64 (n % m))/\w=w':=by
 have h:=mod_eq n m hm z;have H:=zh h;clear h
 go_enter Tryz.func32,Tryz.ntmps32
 go_wp2;go_ret;exact ⟨AW H.out,rfl⟩
theorem Aa (h:k<l.length) (n:Int):n∈l.take (k+1)↔n∈l.take k\/n=l[k]:=by
 rw [EN h,Fx,Fo]
theorem zU {ok:Nat->Prop} {v:Value} (n:Int) (w:World) (h:zj w ok v l) (V:l.length<=20000000000000):
  Calls Tryz.prog 12 #[v,.int .i64 n] w fun e w'=>e=.returned (.bool (decide (n∈l)))/\w=w':=by
 obtain ⟨A,c,rfl,T,M⟩:=h;have O:=zh M;clear M
 go_enter Tryz.func12,Tryz.ntmps12
 go_wp2
 go_loop [5] (fun i=>∃k:Nat,k<=l.length/\i=.int .i64 k/\Hid (n∉l.take k)) (fun i=>l.length - (intOf i).toNat)
 case atStart=>exact ⟨0,EU _,rfl,by simp [Hid]⟩
 case round=>
  obtain ⟨k,U,rfl,L⟩:=hrel;by_cases G:k<l.length
  ·obtain ⟨b,off,rfl,_,E⟩:=zy O.out G G;obtain ⟨x,I⟩:=zad (l[k]);rw [<-I] at E;have J:=zh I;clear I;by_cases z:x=n
   ·have Q:(x==n)=true:=by simp [z]
    have D:=zh z;clear z;go_wp2;go_ret;exact ⟨ze (by simp only [true_eq_decide_iff];rw [<-D.out,J.out];exact EH _),rfl⟩
   ·have Q:(x==n)=false:=by simp [z]
    have D:=zh z;clear z;go_wp2
    go_round
    case rel=>exact ⟨k+1,by omega,by go_num,fun hm=>by
     rcases (Aa G n).1 hm with h | h
     ·exact L.out h
     ·exact D.out (J.out.trans h.symm)⟩
    case measure=>simp [intOf];omega
  ·obtain rfl:k=l.length:=by omega
   go_wp2;go_ret;exact ⟨ze (by have h:=L.out;rw [ER] at h;simp [h]),rfl⟩
theorem index_calls {ok:Nat->Prop} {v:Value} (n:Int) (w:World) (h:zj w ok v l) (hl:l.length<=20000000000000):
  Calls Tryz.prog 79 #[v,.int .i64 n] w fun e w'=>∃r:Int,e=.returned (.int .i64 r)/\(0<=r↔n∈l)/\-1<=r/\w=w':=by
 obtain ⟨A,c,rfl,U,O⟩:=h;have Q:=zh O;clear O
 go_enter Tryz.func79,Tryz.ntmps79
 go_wp2
 go_loop [8] (fun i=>∃k:Nat,k<=l.length/\i=.int .i64 k/\Hid (n∉l.take k)) (fun i=>l.length - (intOf i).toNat)
 case atStart=>exact ⟨0,EU _,rfl,by simp [Hid]⟩
 case round=>
  obtain ⟨k,V,rfl,M⟩:=hrel;by_cases G:k<l.length
  ·obtain ⟨b,off,rfl,_,E⟩:=zy Q.out G G;obtain ⟨x,I⟩:=zad (l[k]);rw [<-I] at E;have J:=zh I;clear I;by_cases z:n=x
   ·have T:(n==x)=true:=by simp [z]
    have D:=zh z;clear z;go_wp2;go_ret;exact ⟨_,rfl,⟨fun _=>by rw [D.out,J.out];exact EH _,fun _=>by omega⟩,by omega,rfl⟩
   ·have T:(n==x)=false:=by simp [z]
    have D:=zh z;clear z;go_wp2
    go_round
    case rel=>exact ⟨k+1,by omega,by go_num,fun hm=>by
     rcases (Aa G n).1 hm with h | h
     ·exact M.out h
     ·exact D.out (h.trans J.out.symm)⟩
    case measure=>simp [intOf];omega
  ·obtain rfl:k=l.length:=by omega
   go_wp2;go_ret;have h:=M.out;rw [ER] at h;exact ⟨_,rfl,⟨fun L=>by omega,fun L=>absurd L h⟩,by omega,rfl⟩
theorem zB {ok:Nat->Prop} {v:Value} (n:Int) (w:World) (h:zj w ok v l) (G:l.length<=20000000000000):
  Calls Tryz.prog 42 #[v,.int .i64 n] w fun e w'=>e=.returned (.bool (decide (n∈l)))/\w=w':=by
 have z:=index_calls n w h G;obtain ⟨A,c,rfl,J,D⟩:=h;have H:=zh z;clear z;clear D
 go_enter Tryz.func42,Tryz.ntmps42
 go_wp2_with fail
 refine H.out.mono ?_;rintro e w' ⟨r,rfl,D,I,rfl⟩;have E:=zh D;clear D
 go_wp2_with fail
 go_ret;exact ⟨ze (by rw [decide_eq_decide];exact E.out),rfl⟩
theorem CS {a w:World} (h:Below B a w) (n:Nat):Below B a (w.drewN n):=⟨h.os,h.tape,h.output,h.size,h.block⟩
theorem Eb {α:Type} {a b:List α} (z:k<a.length) (D:k<b.length):a.take (k+1)=b.take (k+1)↔a.take k=b.take k/\a[k]=b[k]:=by
 rw [EN z,EN D];constructor
 ·intro h;have E:(a.take k).length=(b.take k).length:=by simp;omega
  have:=List.append_inj h E;simpa using this
 ·rintro ⟨h1,h2⟩;rw [h1,h2]
def zK (w w':World):Prop:=∃n,w'=w.drewN n
theorem zK.refl (w:World):zK w w:=⟨0,rfl⟩
theorem zK.trans {a c:World} (h:zK a b) (z:zK b c):zK a c:=by
 obtain ⟨n,rfl⟩:=h;obtain ⟨m,rfl⟩:=z;exact ⟨n+m,by rw [World.drewN_drewN]⟩
theorem zK.more {a:World} (h:zK a b) (n:Nat):zK a (b.drewN n):=h.trans ⟨n,rfl⟩
theorem zK.same {a:World} (h:zK a b) (ok:Nat->Prop):zW ok a b:=by
 obtain ⟨n,rfl⟩:=h;exact fun _ _ _=>rfl
theorem zK.below {a:World} (h:zK a b) (B:Nat):Below B a b:=by
 obtain ⟨n,rfl⟩:=h;exact CS (Below.refl _ _) n
theorem Ea {ok ok':Nat->Prop} {v:Value} {a b:List Int} (w:World) (h:zj w ok v a) (h':zj w ok' v' b) (hl:a.length<=20000000000000) (a9:b.length<=20000000000000):
  Calls Tryz.prog 13 #[v,v'] w fun e w'=>e=.returned (.bool (decide (a=b)))/\zK w w':=by
 obtain ⟨A,c,rfl,hc,hr⟩:=h;obtain ⟨A',c',rfl,a8,O⟩:=h';have HR:=zh hr;clear hr;have T:=zh O;clear O;by_cases z:a.length=b.length
 ·have V:((a.length:Int) != (b.length:Int))=false:=by simp [z]
  have b0:a.length<=b.length:=by omega
  have a4:b.length<=a.length:=by omega
  have Q:=zh z;clear z
  go_enter Tryz.func13,Tryz.ntmps13
  go_wp2;go_loopw [5] (fun i wr=>∃k:Nat,k<=a.length/\i=.int .i64 k/\Hid (a.take k=b.take k)/\Hid (zK w wr)) (fun i _=>a.length - (intOf i).toNat)
  case atStart=>exact ⟨0,EU _,rfl,by simp [Hid],zK.refl _⟩
  case round=>
   obtain ⟨k,hk,rfl,heq,M⟩:=hrel;by_cases L:k<a.length
   ·have E:k<b.length:=by omega
    obtain ⟨bA,off,rfl,_,J⟩:=zy (HR.out.keep (M.out.same ok)) L L;obtain ⟨bB,off',rfl,_,G⟩:=zy (T.out.keep (M.out.same ok')) E E;obtain ⟨x,hx⟩:=zad (a[k]);obtain ⟨y,hy⟩:=zad (b[k]);rw [<-hx] at J;rw [<-hy] at G;have HX:=zh hx;clear hx;have HY:=zh hy;clear hy;by_cases D:x=y
    ·have U:(x != y)=false:=by simp [D]
     have I:=zh D;clear D;go_wp2;go_quiet (fail)
     go_wp2;go_roundw
     case rel=>exact ⟨k+1,by omega,by go_num,(Eb L E).2 ⟨heq.out,by rw [<-HX.out,<-HY.out,I.out]⟩,M.out.more _⟩
     case measure=>simp [intOf];omega
    ·have U:(x != y)=true:=by simp [D]
     have I:=zh D;clear D;go_wp2;go_quiet (fail)
     go_wp2;go_ret;refine ⟨ze ?_,M.out.more _⟩;rw [eq_comm,Fd];rintro rfl;exact I.out (HX.out.trans HY.out.symm)
   ·obtain rfl:k=a.length:=by omega
    go_wp2;go_ret;refine ⟨ze ?_,M.out⟩;have h:=heq.out;rw [ER,Q.out,ER] at h;simp [h]
 ·have V:((a.length:Int) != (b.length:Int))=true:=by simp only [bne_iff_ne];omega
  have Q:=zh z;clear z
  go_enter Tryz.func13,Tryz.ntmps13
  go_wp2;go_ret;refine ⟨ze ?_,zK.refl _⟩;rw [eq_comm,Fd];rintro rfl;exact Q.out rfl
theorem samePaths_calls {ok ok':Nat->Prop} {v:Value} {a b:List (List Int)} (w:World) (h:zv w ok v a) (h':zv w ok' v' b) (hl:a.length<=20000000000000) (c5:b.length<=20000000000000)
  (ha:∀x∈a,x.length<=20000000000000) (hb:∀x∈b,x.length<=20000000000000):
  Calls Tryz.prog 69 #[v,v'] w fun e w'=>e=.returned (.bool (decide (a=b)))/\zK w w':=by
 obtain ⟨vs,⟨A,c,rfl,hc,hr⟩,he⟩:=h;obtain ⟨vs',⟨A',c',rfl,c4,V⟩,U⟩:=h';have HR:=zh hr;clear hr;have a4:=zh V;clear V;have HE:=zh he;clear he;have a2:=zh U;clear U;have HA:=zh ha;clear ha;have HB:=zh hb;clear hb;by_cases z:a.length=b.length
 ·have a6:((a.length:Int) != (b.length:Int))=false:=by simp [z]
  have c6:a.length<=b.length:=by omega
  have b4:b.length<=a.length:=by omega
  have HL:=zh z;clear z
  go_enter Tryz.func69,Tryz.ntmps69
  go_wp2;go_loopw [5] (fun i wr=>∃k:Nat,k<=a.length/\i=.int .i64 k/\Hid (a.take k=b.take k)/\Hid (zK w wr)) (fun i _=>a.length - (intOf i).toNat)
  case atStart=>exact ⟨0,EU _,rfl,by simp [Hid],zK.refl _⟩
  case round=>
   obtain ⟨k,hk,rfl,heq,Q⟩:=hrel;by_cases L:k<a.length
   ·have E:k<b.length:=by omega
    obtain ⟨bA,off,u,rfl,_,a5,hu⟩:=Ai (HR.out.keep (Q.out.same ok)) HE.out L L;obtain ⟨bB,off',u',rfl,_,a1,T⟩:=Ai (a4.out.keep (Q.out.same ok')) a2.out E E;have O:=HA.out _ (EH L);have J:=HB.out _ (EH E);obtain ⟨x,hx⟩:=zad (a[k]);obtain ⟨y,hy⟩:=zad (b[k]);rw [<-hx] at hu O;rw [<-hy] at T J;have HX:=zh hx;clear hx;have HY:=zh hy;clear hy
    have D:∀n,Calls Tryz.prog 13 #[u,u'] (wr.drewN n) fun e w'=>e=.returned (.bool (decide (x=y)))/\∃m,w'=(wr.drewN n).drewN m:=
     fun n=>Ea (wr.drewN n) (hu.keep ((Q.out.more n).same ok)) (T.keep ((Q.out.more n).same ok')) O J
    have HS:=zh D;clear D hu T O J;by_cases G:x=y
    ·have I:decide (x=y)=true:=by simp [G]
     rw [I] at HS;have M:=zh G;clear G I;go_wp2;go_quiet ((go_at_call 13;exact Calls.quiet_of (HS.out _)))
     go_wp2;go_roundw
     case rel=>exact ⟨k+1,by omega,by go_num,(Eb L E).2 ⟨heq.out,by rw [<-HX.out,<-HY.out,M.out]⟩,Q.out.more _⟩
     case measure=>simp [intOf];omega
    ·have I:decide (x=y)=false:=by simp [G]
     rw [I] at HS;have M:=zh G;clear G I;go_wp2;go_quiet ((go_at_call 13;exact Calls.quiet_of (HS.out _)))
     go_wp2;go_ret;refine ⟨ze ?_,Q.out.more _⟩;rw [eq_comm,Fd];rintro rfl;exact M.out (HX.out.trans HY.out.symm)
   ·obtain rfl:k=a.length:=by omega
    go_wp2;go_ret;refine ⟨ze ?_,Q.out⟩;have h:=heq.out;rw [ER,HL.out,ER] at h;simp [h]
 ·have a6:((a.length:Int) != (b.length:Int))=true:=by simp only [bne_iff_ne];omega
  have HL:=zh z;clear z
  go_enter Tryz.func69,Tryz.ntmps69
  go_wp2;go_ret;refine ⟨ze ?_,zK.refl _⟩;rw [eq_comm,Fd];rintro rfl;exact HL.out rfl
end
section
open Go.RowKit
open Go.ChangeMaps (setBlock)
def zJ:List Int->Nat->List MapEntry
 | [],_=>[]
 | x :: l,b=>{ key:=.int .i64 x,val:=.bool true,born:=b } :: zJ l (b+1)
def mapObj (l:List Int):Obj:=.map (zJ l 0).toArray l.length
def zF (w:World) (g:Nat) (l:List Int):Prop:=w.heap[g]?=some (mapObj l)
def ins (l:List Int) (x:Int):List Int:=if x∈l then l else l++[x]
theorem mem_ins {x y:Int}:y∈ins l x↔y∈l\/y=x:=by
 unfold ins
 split
 ·constructor
  ·exact .inl
  ·rintro (h | rfl)
   ·exact h
   ·assumption
 ·simp
theorem Dn:∀(l:List Int) (b:Nat),(zJ l b).length=l.length
 | [],_=>rfl
 | _ :: l,b=>by simp [zJ,Dn l]
theorem Eg:∀(l l':List Int) (b:Nat),zJ (l++l') b=zJ l b++zJ l' (b+l.length)
 | [],_,_=>by simp [zJ]
 | _ :: l,l',b=>by simp [zJ,Eg l l' (b+1),Nat.add_assoc,Nat.add_comm 1]
theorem CV:∀(l:List Int) (b i:Nat),(zJ l b)[i]?=(l[i]?).map fun x=>{ key:=.int .i64 x,val:=.bool true,born:=b+i }
 | [],_,_=>by simp [zJ]
 | x :: l,b,0=>by simp [zJ]
 | x :: l,b,i+1=>by simp [zJ,CV l (b+1) i,Nat.add_assoc,Nat.add_comm 1]
theorem zF.keep {ok:Nat->Prop} {w w':World} (h:zF w g l) (D:zW ok w w') (z:ok g):zF w' g l:=(D g z (zd h)).trans h
theorem zF.below {w w':World} (h:zF w g l) (z:Below w.heap.size w w'):zF w' g l:=(z.block g (zd h)).trans h
theorem zF.new (w:World):zF (w.alloc (.map #[] 0)) w.heap.size []:=Fu _ _
open Go.Instr in
theorem Eh (x:Int):∀(l:List Int) (b s:Nat),findNow (.int .i64) (.int .i64 x) (zJ l b) s=some (if x∈l then some (s+l.idxOf x,.bool true) else none)
 | [],_,_=>by simp [zJ,findNow]
 | y :: l,b,s=>by
  simp only [zJ,findNow,sameNow,if_true];by_cases h:x=y
  ·subst h;simp
  ·have E:(x==y)=false:=by simpa using h
   have D:(y==x)=false:=by simpa using fun e:y=x=>h e.symm
   simp only [E];rw [Eh x l (b+1) (s+1)];by_cases hm:x∈l
   ·have z:x∈y :: l:=Fa _ hm;rw [if_pos hm,if_pos z,List.idxOf_cons,D];simp only [cond_false,Bool.false_eq_true,if_false];rw [show s+1+l.idxOf x=s+(l.idxOf x+1) by omega]
   ·have z:¬ x∈y :: l:=by simp [h,hm]
    rw [if_neg hm,if_neg z]
theorem CX {w:World} {n:Nat} (h:w.heap[g]?=some (.map es n)):(getObj g).run P w=.ok (.map es n) w:=by simp [getObj,Sem.run,h]
theorem Ev {w:World} {n:Nat} (o':Obj) (h:w.heap[g]?=some (.map es n)):(setObj g o').run P w=.ok () (setBlock w g o'):=by
 simp [setObj,Sem.run,h,setBlock]
open Go.Instr in
theorem CB (b:Bool) (n:Nat) (x:Int) (w:World):(checkKey b (n+1) 3 (.int .i64 x)).run Tryz.prog w=.ok () w:=by
 simp [checkKey,run_underlying Tryz.underlying3]
theorem run_look {w:World} (h:zF w g l) (x:Int) (t:TypeId) (z:Tryz.prog.underlying t=some (.map 3 4)):
  (Instr.lookup t (.map (some g)) (.int .i64 x) false).run Tryz.prog w=.ok (.bool (decide (x∈l))) w:=by
 have D:∀w,(zeroValue 4).run Tryz.prog w=.ok (.bool false) w:=fun w=>by kernel_rfl
 unfold Instr.lookup;simp only [Sem.run_bind,run_underlying z,Result.andThen_ok,CX h,mapObj,Sem.run_pure];rw [show (10000:Nat)=9999+1 from rfl,CB];simp only [Result.andThen_ok,Instr.findKey,Sem.run_bind,run_underlying Tryz.underlying3,List.toList_toArray,Eh];by_cases hm:x∈l
 ·simp [hm]
 ·simp [hm,D]
theorem setBlk_same {w:World} {o o':Obj} (h:w.heap[g]?=some o):(setBlock w g o').heap[g]?=some o':=by
 have:=zd h;simp [setBlock,this]
theorem Dc {w:World} (o:Obj) (h:k≠g):(setBlock w g o).heap[k]?=w.heap[k]?:=by
 simp [setBlock,Ne.symm h]
theorem run_add {w:World} (h:zF w g l) (x:Int) (t:TypeId) (I:Tryz.prog.underlying t=some (.map 3 4)):
  ∃w',(Instr.mapUpdate t (.map (some g)) (.int .i64 x) (.bool true)).run Tryz.prog w=.ok () w'/\zF w' g (ins l x)/\w.grownBy w' (some g):=by
 refine ⟨setBlock w g (mapObj (ins l x)),?_,setBlk_same h,⟨rfl,rfl,rfl,by simp [setBlock],fun k _ E=>Dc _ (fun e=>E (by rw [e]))⟩⟩;unfold Instr.mapUpdate;simp only [Sem.run_bind,run_underlying I,Result.andThen_ok,CX h,mapObj];rw [show (10000:Nat)=9999+1 from rfl,CB];simp only [Result.andThen_ok,Instr.findKey,Sem.run_bind,run_underlying Tryz.underlying3,List.toList_toArray,Eh];by_cases hm:x∈l
 ·simp only [hm,if_true,Sem.run_pure,Result.andThen_ok,Nat.zero_add];have D:l.idxOf x<l.length:=List.idxOf_lt_length_of_mem hm;have G:l[l.idxOf x]=x:=List.getElem_idxOf D
  have E:∀W,(Instr.keyThatStays ((((zJ l 0).toArray[l.idxOf x]?).map (·.key)).getD (.int .i64 x)) (.int .i64 x)).run Tryz.prog W=.ok (.int .i64 x) W:=by
   intro W;rw [List.getElem?_toArray,CV,EE D];simp [Instr.keyThatStays,Instr.sameBits,G]
  rw [Sem.run_bind,E];simp only [Result.andThen_ok]
  have z:(zJ l 0).toArray.modify (l.idxOf x) (fun e=>{ e with key:=.int .i64 x,val:=.bool true })=(zJ l 0).toArray:=by
   apply Array.ext_getElem?;intro i;rw [Array.getElem?_modify]
   split
   ·rename_i e
    subst e;rw [List.getElem?_toArray,CV,EE D];simp [G]
   ·rfl
  rw [z,Ev _ h];have:ins l x=l:=by simp [ins,hm]
  rw [this]
 ·simp only [hm,if_false,Sem.run_pure,Result.andThen_ok];rw [Ev _ h];have:ins l x=l++[x]:=by simp [ins,hm]
  rw [this,Eg];simp [zJ]
theorem CC {rest:List Oper} {w:World} {Q:Exit->Act->World->Prop} (I:o.guard=none) (m y v:Operand) (t:TypeId) (E:o.op=Op.mapUpdate t m y v)
  (L:Tryz.prog.underlying t=some (.map 3 4)) (g:Nat) (l:List Int) (x:Int) (hm:a.eval m=.map (some g)) (O:a.eval y=.int .i64 x) (M:a.eval v=.bool true) (J:zF w g l)
  (G:∀w',zF w' g (ins l x)->w.grownBy w' (some g)->wpList Tryz.prog ops Q rest (a.put o.dst undef) w'):wpList Tryz.prog ops Q (o :: rest) a w:=by
 refine wpList_plain I fun K' D=>?_
 obtain ⟨w',z,h1,h2⟩:=run_add J x t L;unfold Oper.wp;simp [execOp,E,hm,O,M,z,Result.andThen];exact D _ _ (G w' h1 h2)
end
end Go.Proofs.YthbjngbhbbkkgaaGreat
