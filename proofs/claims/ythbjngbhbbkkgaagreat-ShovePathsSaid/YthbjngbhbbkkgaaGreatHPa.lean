import Derived.WalkKit
import Derived.Lib.Hide
import Derived.Test.YthbjngbhbbkkgaaGreatRows
import Derived.WalkLawsBesides
import Derived.WalkSpells
import Derived.BigQuiet
import Derived.Deep.QuietTactic
import Derived.ChangeMaps4
import Derived.Maps.RangeRun
import Derived.Deep.DeepCutAuto
import Derived.Deep.AppendLies
import Derived.Deep.Onto
import Derived.Maps.AppendAt
import Derived.WalkSmall
import Derived.Deep.LoopGhost
import Derived.Deep.AppendSrc
import Derived.Deep.RegionHeld
set_option linter.unusedVariables false
set_option linter.unusedSimpArgs false
set_option maxRecDepth 100000
set_option maxHeartbeats 16000000
namespace Go.Proofs.YthbjngbhbbkkgaaGreat
variable {a:Act} {K:Act->World->Prop} {listed:Array Bool} {es:Array MapEntry} {ops:Array Oper} {c cs i:Array Value} {Q:Exit->Act->World->Prop} {x y:Int} {from_ l used:List Int} {rest:List Oper} {B fuel gb j k t:Nat} {o oi:Oper} {P:Program} {a0 a1 a2 v':Value} {W b w0:World}
section
open Go.RowKit
theorem zh {p: Prop} (h : p) : Hid p := Lib.hid h
theorem za {α: Type} : (∀ (xs : List α) (i : Nat) (h : i < xs.toArray.size), xs.toArray[i] = xs[i]'(by simpa using h)) /\ (∀ (a : α) (l : List α) (i : Nat) (h : i + 1 < (a :: l).length), (a :: l)[i+1] = l[i]'(Nat.lt_of_succ_lt_succ h)) /\ (∀ (a : α) (l : List α) (h : 0 < (a :: l).length), (a :: l)[0] = a) /\ (∀ (l : List α) (i : Nat) (a : α), l.toArray.setIfInBounds i a = (l.set i a).toArray) /\ (∀ (a : α) (l : List α) (b : α), (a :: l).set 0 b = b :: l) /\ (∀ (a : α) (l : List α) (i : Nat) (b : α), (a :: l).set (i+1) b = a :: l.set i b) :=
 ⟨fun _ _ h => List.getElem_toArray h, fun _ _ _ _ => List.getElem_cons_succ .., fun _ _ _ => List.getElem_cons_zero .., fun _ _ _ => List.setIfInBounds_toArray .., fun _ _ _ => rfl, fun _ _ _ _ => rfl⟩
abbrev EL := @List.getElem?_eq_getElem
abbrev EM := @List.getD_eq_getElem?_getD
abbrev EN := @Nat.le_refl
abbrev EO := @List.getElem_mem
abbrev EP := @Nat.le_trans
abbrev EQ := @decide_eq_true
abbrev ER := @decide_eq_false
abbrev ES := @List.getElem?_append_left
abbrev ET := @List.getElem?_append_right
abbrev EU := @List.take_succ_eq_append_getElem
abbrev EV := @List.length_append
abbrev EW := @Below.heap_setCell
abbrev EX := @decide_eq_true_eq
abbrev EY := @List.take_length
abbrev EZ := @Bool.and_eq_true
abbrev Fa := @beq_eq_false_iff_ne
abbrev Fb := @Nat.zero_le
abbrev Fc := @World.cell?_of_block
abbrev Fd := @wp_region_held_drew
abbrev Fe := @List.eq_nil_of_length_eq_zero
abbrev Ff := @Below.heap_alloc
abbrev Fg := @List.getElem?_eq_none
abbrev Fh := @List.mem_cons_of_mem
abbrev Fi := @IntKind.wrap_i64
abbrev Fk := @Nat.lt_or_ge
abbrev Fl := @decide_eq_false_iff_not
abbrev Fm := @World.frozen?_of_block
abbrev Fo := @List.length_singleton
abbrev Fp := @AllReadyH.cons
abbrev Fq := @Nat.lt_of_lt_of_le
abbrev Fr := @List.length_filter_le
abbrev Fs := @wpAnyH_done
abbrev Ft := @Option.getD_some
abbrev Fu := @List.getElem_of_mem
abbrev Fv := @List.mem_singleton
abbrev Fw := @List.filter_cons_of_neg
abbrev Fx := @List.getElem?_map
abbrev Fy := @List.length_map
abbrev Fz := @Nat.eq_zero_or_pos
abbrev FA := @List.mem_cons_self
abbrev FB := @heap_alloc_new
abbrev FC := @List.filter_append
abbrev FD := @List.mem_cons
abbrev FE := @List.mem_append
abbrev FF := @Int.toNat_natCast
abbrev FG := @List.map_append
abbrev FH := @List.length_take
abbrev FJ := @List.filter_cons_of_pos
abbrev FK := @bodyPost_ret
abbrev FM := @List.getElem?_eq_some_iff
abbrev FN := @Array.getElem?_eq_some_iff
abbrev zaa := @List.not_mem_nil
abbrev zab := @List.mem_filter
abbrev zac := @List.mem_map
abbrev zad := @List.mem_range
abbrev zae := @Bool.or_eq_true
abbrev zaf := @List.any_eq_true
abbrev zag := @List.all_eq_true
abbrev zah := @of_decide_eq_true
abbrev zai := @List.length_cons
abbrev zaj := @List.length_nil
theorem EK : (∀ (t : Array Value) (f : List Deferred) (d : Tmp) (v : Value), Act.put ⟨t, f⟩ (some d) v = ⟨t.setIfInBounds d v, f⟩) /\ (∀ (a : Act) (v : Value), Act.put a none v = a) := ⟨fun _ _ _ _ => rfl, fun _ _ => rfl⟩
theorem zgd {α: Type _} {l: List α} {d: α} (h : k < l.length) : l.getD k d = l[k] := by rw [List.getD_eq_getElem?_getD, List.getElem?_eq_getElem h]; rfl
theorem zak {α: Sort _} (a : α) : ∃ x, x = a := ⟨_, rfl⟩
theorem zal {K: Act -> World -> Prop} {S: World -> Prop} {G: Act -> World -> Prop} (h : Shut (∀ a w, S w -> (S w -> G a w) -> K a w)) {w: World} (s : S w) (g : S w -> G a w) : K a w := h.out a w s g
theorem ze {md: Region.Mode} {Q: Exit -> Act -> World -> Prop} {S: World -> Prop} (i : Nat) {v: Value} {w: World} (z : S w)
 (h : wpAnyH P md ops Q S fuel (listed.setIfInBounds i true) (a.put oi.dst v) w) (G : ops[i]? = some oi := by rfl) (M : ∀ w, S w -> (execOp a.eval oi).run P w = .ok (.value v) w := by (intro w D; go_simp; try with_reducible rfl)) (L : Region.wanted oi (yielded ops a.tmps) = true := by rfl)
 (J : Region.noSelect ops = true := by kernel_rfl) (E : Region.free md ops listed i = true := by kernel_rfl) (I : (Region.ready md ops listed).contains i = true := by kernel_rfl)
 (hQ : ∀ c a w, Q (.panic c) (a.put oi.dst v) w -> Q (.panic c) a w := by exact fun _ _ _ h => h) : wpAnyH P md ops Q S (fuel + 1) listed a w := wpAnyH_take G J E I hQ (.inl ⟨L, M⟩) z h
theorem rtU {md: Region.Mode} {Q: Exit -> Act -> World -> Prop} {S: World -> Prop} (i : Nat) (v : Value) {w: World} (z : S w)
 (L : ∀ w, S w -> (execOp a.eval oi).run P w = .ok (.value v) w) (h : wpAnyH P md ops Q S fuel (listed.setIfInBounds i true) (a.put oi.dst v) w) (E : ops[i]? = some oi := by rfl) (J : Region.wanted oi (yielded ops a.tmps) = true := by rfl)
 (I : Region.noSelect ops = true := by kernel_rfl) (D : Region.free md ops listed i = true := by kernel_rfl) (G : (Region.ready md ops listed).contains i = true := by kernel_rfl)
 (hQ : ∀ c a w, Q (.panic c) (a.put oi.dst v) w -> Q (.panic c) a w := by exact fun _ _ _ h => h) : wpAnyH P md ops Q S (fuel + 1) listed a w := wpAnyH_take E I D G hQ (.inl ⟨J, L⟩) z h
theorem AC {md: Region.Mode} {Q: Exit -> Act -> World -> Prop} {S: World -> Prop} (i : Nat) {w: World} (z : S w)
 (h : wpAnyH P md ops Q S fuel (listed.setIfInBounds i true) (a.put oi.dst undef) w) (E : ops[i]? = some oi := by rfl) (J : Region.wanted oi (yielded ops a.tmps) = false := by rfl)
 (I : Region.noSelect ops = true := by kernel_rfl) (D : Region.free md ops listed i = true := by kernel_rfl) (G : (Region.ready md ops listed).contains i = true := by kernel_rfl)
 (hQ : ∀ c a w, Q (.panic c) (a.put oi.dst undef) w -> Q (.panic c) a w := by exact fun _ _ _ h => h) : wpAnyH P md ops Q S (fuel + 1) listed a w := wpAnyH_take E I D G hQ (.inr ⟨J, rfl⟩) z h
theorem zx {md: Region.Mode} {Q: Exit -> Act -> World -> Prop} {S: World -> Prop} {w: World} (i : Nat)
 (h : ∀ K' : Act -> World -> Prop, Shut (∀ a w, S w -> (S w -> wpAnyH P md ops Q S fuel (listed.setIfInBounds i true) a w) -> K' a w) -> if Region.wanted o (yielded ops a.tmps) = true then Oper.wp P o a w K' Q else K' (a.put o.dst undef) w)
 (z : ops[i]? = some o := by rfl) (D : Region.ready md ops listed = [i] := by kernel_rfl) : wpAnyH P md ops Q S (fuel + 1) listed a w := wpAnyH_ready D (by simp) (.cons z h .nil)
theorem rdA {md: Region.Mode} {Q: Exit -> Act -> World -> Prop} {S: World -> Prop} (rs : List Nat) {w: World}
 (h : AllReadyH P md ops Q S fuel listed a w rs) (D : Region.ready md ops listed = rs := by kernel_rfl) (z : rs ≠ [] := by simp) : wpAnyH P md ops Q S (fuel + 1) listed a w := wpAnyH_ready D z h
structure MZ where
 w:Int
 h:Int
 l:Int
 free:List (List Bool)
 up:List Bool
 tasks:List (List Int×List Int)
theorem zd {w:World} {o:Obj} (h:w.heap[k]?=some o):k<w.heap.size:=by
 rcases Fk k w.heap.size with h1 | h1
 ·exact h1
 ·rw [Array.getElem?_eq_none h1] at h;cases h
theorem zp {w:World} {a:Addr} {v:Value} (h:w.cell? a=some v):a.block<w.heap.size:=by
 unfold World.cell? at h
 cases z:w.heap[a.block]? with
 | none=>simp [z] at h
 | some o=>exact zd z
theorem CZ {w w':World} {a:Addr} (h:w'.heap[a.block]?=w.heap[a.block]?):w'.cell? a=w.cell? a:=Fc h
def Ao (ok:Nat->Prop) (w w':World):Prop:=∀b,ok b->b<w.heap.size->w'.heap[b]?=w.heap[b]?
theorem Ao.refl (ok:Nat->Prop) (w:World):Ao ok w w:=fun _ _ _=>rfl
theorem Ao.of_below {ok:Nat->Prop} {w w':World} (h:Below w.heap.size w w'):Ao ok w w':=fun b _ z=>h.block b z
theorem BI {a w w':World} (h:Below B a w) (z:Below w.heap.size w w') (D:B<=a.heap.size):Below B a w':=h.trans (z.mono (EP D h.size))
def zN (w:World) (ok:Nat->Prop) (size:Nat) (A:Option Addr) (n:Nat) (xs:List Value):Prop:=
 xs.length=n*size/\(0<n->∃b off,A=some ⟨b,off,none⟩/\ok b/\∀j u,xs[j]?=some u->w.cell? ⟨b,off+j,none⟩=some u)
def zV (w:World) (ok:Nat->Prop) (size:Nat) (v:Value) (n:Nat) (xs:List Value):Prop:=
 ∃A c,v=.slice A n c/\n<=c/\zN w ok size A n xs
section
variable {w w':World} {ok ok':Nat->Prop} {size n:Nat} {A:Option Addr} {v:Value} {xs:List Value}
theorem zN.keep (h:zN w ok size A n xs) (E:Ao ok w w'):zN w' ok size A n xs:=
 ⟨h.1,fun G=>by
  obtain ⟨b,off,e,z,D⟩:=h.2 G;refine ⟨b,off,e,z,fun j u I=>?_⟩;have h1:=D j u I;exact (CZ (E b z (zp h1))).trans h1⟩
theorem zN.weaken (h:zN w ok size A n xs) (E:∀b,ok b->ok' b):zN w ok' size A n xs:=
 ⟨h.1,fun G=>by
  obtain ⟨b,off,e,z,D⟩:=h.2 G;exact ⟨b,off,e,E b z,D⟩⟩
theorem zN.nil (w:World) (ok:Nat->Prop) (size:Nat) (A:Option Addr):zN w ok size A 0 []:=⟨by simp,fun h=>absurd h (by omega)⟩
theorem zN.at_ (h:zN w ok 1 A n xs) (G:k<n):∃b off u,A=some ⟨b,off,none⟩/\ok b/\xs[k]?=some u/\w.cell? ⟨b,off+k,none⟩=some u:=by
 obtain ⟨b,off,e,D,E⟩:=h.2 (by omega);have z:k<xs.length:=by have:=h.1;omega
 exact ⟨b,off,xs[k],e,D,EL z,E k _ (EL z)⟩
theorem zV.keep (h:zV w ok size v n xs) (D:Ao ok w w'):zV w' ok size v n xs:=by
 obtain ⟨A,c,rfl,z,E⟩:=h;exact ⟨A,c,rfl,z,E.keep D⟩
theorem zV.weaken (h:zV w ok size v n xs) (D:∀b,ok b->ok' b):zV w ok' size v n xs:=by
 obtain ⟨A,c,rfl,z,E⟩:=h;exact ⟨A,c,rfl,z,E.weaken D⟩
theorem zV.below (h:zV w ok size v n xs) (z:Below w.heap.size w w'):zV w' ok size v n xs:=h.keep (Ao.of_below z)
theorem zV.of_own {base:Nat} {e:TypeId} (h:w.ownsRow base e size v n xs):zV w (fun b=>base<=b) size v n xs:=by
 obtain ⟨G,⟨rfl,rfl⟩ | ⟨g,cap,cur,rfl,J,L,D,E,I,M⟩⟩:=h
 ·exact ⟨none,0,rfl,EN _,G,fun h=>absurd h (by omega)⟩
 ·refine ⟨some ⟨g,0,none⟩,cap,rfl,D,G,fun _=>⟨g,0,rfl,J,fun j u z=>?_⟩⟩;unfold World.cell?;simp only [L,Nat.zero_add];rw [<-M,List.getElem?_take] at z
  split at z
  ·simpa using z
  ·cases z
end
def zi (w:World) (ok:Nat->Prop) (v:Value) (l:List Int):Prop:=zV w ok 1 v l.length (l.map (Value.int .i64))
def An (w:World) (ok:Nat->Prop) (v:Value) (l:List Bool):Prop:=zV w ok 1 v l.length (l.map Value.bool)
def Each {α:Type} (R:Value->α->Prop) (w:World) (ok:Nat->Prop) (v:Value) (l:List α):Prop:=
 ∃vs,zV w ok 1 v l.length vs/\∀(i:Nat) x,l[i]?=some x->∃u,vs[i]?=some u/\R u x
def zq (w:World) (ok:Nat->Prop) (v:Value) (l:List (List Int)):Prop:=Each (zi w ok) w ok v l
def Bn (w:World) (ok:Nat->Prop) (v:Value) (l:List (List Bool)):Prop:=Each (An w ok) w ok v l
def BX (w:World) (ok:Nat->Prop) (v:Value) (l:List (List Int×List Int)):Prop:=
 ∃vs,zV w ok 3 v l.length vs/\∀(i:Nat) x,l[i]?=some x->∃s u1 u2,vs[i*3]?=some (.string s)/\vs[i*3+1]?=some u1/\vs[i*3+2]?=some u2/\zi w ok u1 x.1/\zi w ok u2 x.2
def zt (w:World) (ok:Nat->Prop) (v:Value) (m:MZ):Prop:=
 ∃f u t,v=.agg #[.int .i64 m.w,.int .i64 m.h,.int .i64 m.l,f,u,t]/\Bn w ok f m.free/\An w ok u m.up/\BX w ok t m.tasks
section
variable {w w':World} {ok ok':Nat->Prop} {v:Value}
theorem zi.keep {l:List Int} (h:zi w ok v l) (z:Ao ok w w'):zi w' ok v l:=zV.keep h z
theorem zi.weaken {l:List Int} (h:zi w ok v l) (z:∀b,ok b->ok' b):zi w ok' v l:=zV.weaken h z
theorem zi.below {l:List Int} (h:zi w ok v l) (z:Below w.heap.size w w'):zi w' ok v l:=zV.below h z
theorem An.keep {l:List Bool} (h:An w ok v l) (z:Ao ok w w'):An w' ok v l:=zV.keep h z
theorem An.weaken {l:List Bool} (h:An w ok v l) (z:∀b,ok b->ok' b):An w ok' v l:=zV.weaken h z
theorem Each.keep {α:Type} {R R':Value->α->Prop} {l:List α} (h:Each R w ok v l) (E:Ao ok w w') (D:∀u x,R u x->R' u x):Each R' w' ok v l:=by
 obtain ⟨vs,z,he⟩:=h;refine ⟨vs,z.keep E,fun i x I=>?_⟩;obtain ⟨u,G,z⟩:=he i x I;exact ⟨u,G,D _ _ z⟩
theorem Each.weaken {α:Type} {R R':Value->α->Prop} {l:List α} (h:Each R w ok v l) (E:∀b,ok b->ok' b) (D:∀u x,R u x->R' u x):Each R' w ok' v l:=by
 obtain ⟨vs,z,he⟩:=h;refine ⟨vs,z.weaken E,fun i x I=>?_⟩;obtain ⟨u,G,z⟩:=he i x I;exact ⟨u,G,D _ _ z⟩
theorem zq.keep {l:List (List Int)} (h:zq w ok v l) (z:Ao ok w w'):zq w' ok v l:=Each.keep h z fun _ _ D=>D.keep z
theorem zq.weaken {l:List (List Int)} (h:zq w ok v l) (z:∀b,ok b->ok' b):zq w ok' v l:=Each.weaken h z fun _ _ D=>D.weaken z
theorem Bn.keep {l:List (List Bool)} (h:Bn w ok v l) (z:Ao ok w w'):Bn w' ok v l:=Each.keep h z fun _ _ D=>D.keep z
theorem Bn.weaken {l:List (List Bool)} (h:Bn w ok v l) (z:∀b,ok b->ok' b):Bn w ok' v l:=Each.weaken h z fun _ _ D=>D.weaken z
theorem BX.keep {l:List (List Int×List Int)} (h:BX w ok v l) (z:Ao ok w w'):BX w' ok v l:=by
 obtain ⟨vs,D,he⟩:=h;refine ⟨vs,D.keep z,fun i x E=>?_⟩;obtain ⟨s,u1,u2,h0,h1,h2,i1,i2⟩:=he i x E;exact ⟨s,u1,u2,h0,h1,h2,i1.keep z,i2.keep z⟩
theorem BX.weaken {l:List (List Int×List Int)} (h:BX w ok v l) (z:∀b,ok b->ok' b):BX w ok' v l:=by
 obtain ⟨vs,D,he⟩:=h;refine ⟨vs,D.weaken z,fun i x E=>?_⟩;obtain ⟨s,u1,u2,h0,h1,h2,i1,i2⟩:=he i x E;exact ⟨s,u1,u2,h0,h1,h2,i1.weaken z,i2.weaken z⟩
theorem zt.keep {m:MZ} (h:zt w ok v m) (z:Ao ok w w'):zt w' ok v m:=by
 obtain ⟨f,u,t,rfl,h1,h2,h3⟩:=h;exact ⟨f,u,t,rfl,h1.keep z,h2.keep z,h3.keep z⟩
theorem zt.weaken {m:MZ} (h:zt w ok v m) (z:∀b,ok b->ok' b):zt w ok' v m:=by
 obtain ⟨f,u,t,rfl,h1,h2,h3⟩:=h;exact ⟨f,u,t,rfl,h1.weaken z,h2.weaken z,h3.weaken z⟩
theorem zt.below {m:MZ} (h:zt w ok v m) (z:Below w.heap.size w w'):zt w' ok v m:=h.keep (Ao.of_below z)
theorem zq.below {l:List (List Int)} (h:zq w ok v l) (z:Below w.heap.size w w'):zq w' ok v l:=h.keep (Ao.of_below z)
theorem An.below {l:List Bool} (h:An w ok v l) (z:Below w.heap.size w w'):An w' ok v l:=h.keep (Ao.of_below z)
theorem Bn.below {l:List (List Bool)} (h:Bn w ok v l) (z:Below w.heap.size w w'):Bn w' ok v l:=h.keep (Ao.of_below z)
theorem BX.below {l:List (List Int×List Int)} (h:BX w ok v l) (z:Below w.heap.size w w'):BX w' ok v l:=h.keep (Ao.of_below z)
theorem zi.open (h:zi w ok v l):∃A c,v=.slice A l.length c/\l.length<=c/\zN w ok 1 A l.length (l.map (Value.int .i64)):=h
theorem zi.nil (w:World) (ok:Nat->Prop):zi w ok (.slice none 0 0) []:=⟨none,0,rfl,EN _,zN.nil _ _ _ _⟩
theorem zy {n:Nat} {A:Option Addr} (h:zN w ok 1 A n (l.map (Value.int .i64))) (G:k<n) (I:k<l.length):
  ∃b off,A=some ⟨b,off,none⟩/\ok b/\w.cell? ⟨b,off+k,none⟩=some (.int .i64 (l[k])):=by
 obtain ⟨b,off,u,e,D,z,E⟩:=h.at_ G;refine ⟨b,off,e,D,?_⟩;rw [Fx,EL I] at z;rw [E,<-z];rfl
theorem BR {l:List Bool} {n:Nat} {A:Option Addr} (h:zN w ok 1 A n (l.map Value.bool)) (G:k<n) (I:k<l.length):
  ∃b off,A=some ⟨b,off,none⟩/\ok b/\w.cell? ⟨b,off+k,none⟩=some (.bool (l[k])):=by
 obtain ⟨b,off,u,e,D,z,E⟩:=h.at_ G;refine ⟨b,off,e,D,?_⟩;rw [Fx,EL I] at z;rw [E,<-z];rfl
theorem zO {α:Type} {R:Value->α->Prop} {l:List α} {vs:List Value} {n:Nat} {A:Option Addr} (h:zN w ok 1 A n vs) (he:∀(i:Nat) x,l[i]?=some x->∃u,vs[i]?=some u/\R u x) (G:k<n) (I:k<l.length):
  ∃b off u,A=some ⟨b,off,none⟩/\ok b/\w.cell? ⟨b,off+k,none⟩=some u/\R u (l[k]):=by
 obtain ⟨b,off,u,e,D,L,E⟩:=h.at_ G;obtain ⟨u',z,J⟩:=he k _ (EL I);rw [L] at z;injection z with z;subst z;exact ⟨b,off,u,e,D,E,J⟩
end
theorem Bb {k:IntKind} {a b:Int} (h:a=b):Ending.returned (.int k a)=.returned (.int k b):=by rw [h]
theorem zf {a b:Bool} (h:a=b):Ending.returned (.bool a)=.returned (.bool b):=by rw [h]
theorem AN (W H L:Int) (f u t:Value) (w:World) (h1:-1000000000<=W*H/\W*H<=1000000000) (h2:-1000000000000000<=W*H*L/\W*H*L<=1000000000000000):
  Calls Tryz.prog 43 #[.agg #[.int .i64 W,.int .i64 H,.int .i64 L,f,u,t]] w fun e w'=>e=.returned (.int .i64 (W*H*L))/\Below w.heap.size w w':=by
 obtain ⟨z,D⟩:=h1;obtain ⟨E,G⟩:=h2
 go_enter Tryz.func43,Tryz.ntmps43
 go_wp2;go_ret;exact ⟨rfl,(Below.refl _ _).alloc (EN _) _⟩
theorem AA (W H L:Int) (f u t:Value) (w:World) (h1:-1000000000<=W*H/\W*H<=1000000000) (h2:-1000000000000000<=W*H*L/\W*H*L<=1000000000000000):
  Calls Tryz.prog 47 #[.agg #[.int .i64 W,.int .i64 H,.int .i64 L,f,u,t]] w fun e w'=>e=.returned (.int .i64 (W*H*L))/\Below w.heap.size w w':=by
 obtain ⟨z,D⟩:=h1;obtain ⟨E,G⟩:=h2
 go_enter Tryz.func47,Tryz.ntmps47
 go_wp2;go_ret;exact ⟨rfl,(Below.refl _ _).alloc (EN _) _⟩
theorem mod_eq (n m:Int) (hm:0<m) (D:m<=1000000):(wrap64 (n.tmod m+m)).tmod m=n % m:=by
 have h1:n.tmod m<m:=Int.tmod_lt_of_pos n hm
 have h2:-m<n.tmod m:=by
  have:=Int.lt_tmod_of_pos n hm;omega
 rw [IntWalk.wrap64_in _ (by omega),Int.tmod_eq_emod_of_nonneg (by omega),Int.add_emod_right];have h3:=Int.tmod_add_mul_tdiv n m;have z:n=n.tmod m+m*n.tdiv m:=h3.symm
 conv=>rhs;rw [z]
 rw [Int.add_mul_emod_self_left]
theorem mod_calls (n m:Int) (w:World) (hm:0<m) (z:m<=1000000):
  Calls Tryz.prog 32 #[.int .i64 n,.int .i64 m] w fun e w'=>e=.returned (.int .i64 (n % m))/\w=w':=by
 have h:=mod_eq n m hm z;have H:=zh h;clear h
 go_enter Tryz.func32,Tryz.ntmps32
 go_wp2;go_ret;exact ⟨Bb H.out,rfl⟩
theorem Aj (h:k<l.length) (n:Int):n∈l.take (k+1)↔n∈l.take k\/n=l[k]:=by
 rw [EU h,FE,Fv]
theorem zL {ok:Nat->Prop} {v:Value} (n:Int) (w:World) (h:zi w ok v l) (Z:l.length<=20000000000000):
  Calls Tryz.prog 12 #[v,.int .i64 n] w fun e w'=>e=.returned (.bool (decide (n∈l)))/\w=w':=by
 obtain ⟨A,c,rfl,U,M⟩:=h;have O:=zh M;clear M
 go_enter Tryz.func12,Tryz.ntmps12
 go_wp2
 go_loop [5] (fun i=>∃k:Nat,k<=l.length/\i=.int .i64 k/\Hid (n∉l.take k)) (fun i=>l.length - (intOf i).toNat)
 case atStart=>exact ⟨0,Fb _,rfl,by simp [Hid]⟩
 case round=>
  obtain ⟨k,V,rfl,L⟩:=hrel;by_cases G:k<l.length
  ·obtain ⟨b,off,rfl,_,E⟩:=zy O.out G G;obtain ⟨x,I⟩:=zak (l[k]);rw [<-I] at E;have J:=zh I;clear I;by_cases z:x=n
   ·have T:(x==n)=true:=by simp [z]
    have D:=zh z;clear z;go_wp2;go_ret;exact ⟨zf (by simp only [true_eq_decide_iff];rw [<-D.out,J.out];exact EO _),rfl⟩
   ·have T:(x==n)=false:=by simp [z]
    have D:=zh z;clear z;go_wp2
    go_round
    case rel=>exact ⟨k+1,by omega,by go_num,fun hm=>by
     rcases (Aj G n).1 hm with h | h
     ·exact L.out h
     ·exact D.out (J.out.trans h.symm)⟩
    case measure=>simp [intOf];omega
  ·obtain rfl:k=l.length:=by omega
   go_wp2;go_ret;exact ⟨zf (by have h:=L.out;rw [EY] at h;simp [h]),rfl⟩
theorem index_calls {ok:Nat->Prop} {v:Value} (n:Int) (w:World) (h:zi w ok v l) (hl:l.length<=20000000000000):
  Calls Tryz.prog 79 #[v,.int .i64 n] w fun e w'=>∃r:Int,e=.returned (.int .i64 r)/\(0<=r↔n∈l)/\-1<=r/\w=w':=by
 obtain ⟨A,c,rfl,V,O⟩:=h;have T:=zh O;clear O
 go_enter Tryz.func79,Tryz.ntmps79
 go_wp2
 go_loop [8] (fun i=>∃k:Nat,k<=l.length/\i=.int .i64 k/\Hid (n∉l.take k)) (fun i=>l.length - (intOf i).toNat)
 case atStart=>exact ⟨0,Fb _,rfl,by simp [Hid]⟩
 case round=>
  obtain ⟨k,Z,rfl,M⟩:=hrel;by_cases G:k<l.length
  ·obtain ⟨b,off,rfl,_,E⟩:=zy T.out G G;obtain ⟨x,I⟩:=zak (l[k]);rw [<-I] at E;have J:=zh I;clear I;by_cases z:n=x
   ·have U:(n==x)=true:=by simp [z]
    have D:=zh z;clear z;go_wp2;go_ret;exact ⟨_,rfl,⟨fun _=>by rw [D.out,J.out];exact EO _,fun _=>by omega⟩,by omega,rfl⟩
   ·have U:(n==x)=false:=by simp [z]
    have D:=zh z;clear z;go_wp2
    go_round
    case rel=>exact ⟨k+1,by omega,by go_num,fun hm=>by
     rcases (Aj G n).1 hm with h | h
     ·exact M.out h
     ·exact D.out (h.trans J.out.symm)⟩
    case measure=>simp [intOf];omega
  ·obtain rfl:k=l.length:=by omega
   go_wp2;go_ret;have h:=M.out;rw [EY] at h;exact ⟨_,rfl,⟨fun L=>by omega,fun L=>absurd L h⟩,by omega,rfl⟩
theorem zE {ok:Nat->Prop} {v:Value} (n:Int) (w:World) (h:zi w ok v l) (G:l.length<=20000000000000):
  Calls Tryz.prog 42 #[v,.int .i64 n] w fun e w'=>e=.returned (.bool (decide (n∈l)))/\w=w':=by
 have z:=index_calls n w h G;obtain ⟨A,c,rfl,J,D⟩:=h;have H:=zh z;clear z;clear D
 go_enter Tryz.func42,Tryz.ntmps42
 go_wp2_with fail
 refine H.out.mono ?_;rintro e w' ⟨r,rfl,D,I,rfl⟩;have E:=zh D;clear D
 go_wp2_with fail
 go_ret;exact ⟨zf (by rw [decide_eq_decide];exact E.out),rfl⟩
theorem Df {a w:World} (h:Below B a w) (n:Nat):Below B a (w.drewN n):=⟨h.os,h.tape,h.output,h.size,h.block⟩
theorem Em {α:Type} {a b:List α} (z:k<a.length) (D:k<b.length):a.take (k+1)=b.take (k+1)↔a.take k=b.take k/\a[k]=b[k]:=by
 rw [EU z,EU D];constructor
 ·intro h;have E:(a.take k).length=(b.take k).length:=by simp;omega
  have:=List.append_inj h E;simpa using this
 ·rintro ⟨h1,h2⟩;rw [h1,h2]
def zM (w w':World):Prop:=∃n,w'=w.drewN n
theorem zM.refl (w:World):zM w w:=⟨0,rfl⟩
theorem zM.trans {a c:World} (h:zM a b) (z:zM b c):zM a c:=by
 obtain ⟨n,rfl⟩:=h;obtain ⟨m,rfl⟩:=z;exact ⟨n+m,by rw [World.drewN_drewN]⟩
theorem zM.more {a:World} (h:zM a b) (n:Nat):zM a (b.drewN n):=h.trans ⟨n,rfl⟩
theorem zM.same {a:World} (h:zM a b) (ok:Nat->Prop):Ao ok a b:=by
 obtain ⟨n,rfl⟩:=h;exact fun _ _ _=>rfl
theorem zM.below {a:World} (h:zM a b) (B:Nat):Below B a b:=by
 obtain ⟨n,rfl⟩:=h;exact Df (Below.refl _ _) n
theorem Ck {ok ok':Nat->Prop} {v:Value} {a b:List Int} (w:World) (h:zi w ok v a) (h':zi w ok' v' b) (hl:a.length<=20000000000000) (b2:b.length<=20000000000000):
  Calls Tryz.prog 13 #[v,v'] w fun e w'=>e=.returned (.bool (decide (a=b)))/\zM w w':=by
 obtain ⟨A,c,rfl,hc,hr⟩:=h;obtain ⟨A',c',rfl,b1,O⟩:=h';have HR:=zh hr;clear hr;have U:=zh O;clear O;by_cases z:a.length=b.length
 ·have Z:((a.length:Int) != (b.length:Int))=false:=by simp [z]
  have b3:a.length<=b.length:=by omega
  have a7:b.length<=a.length:=by omega
  have T:=zh z;clear z
  go_enter Tryz.func13,Tryz.ntmps13
  go_wp2;go_loopw [5] (fun i wr=>∃k:Nat,k<=a.length/\i=.int .i64 k/\Hid (a.take k=b.take k)/\Hid (zM w wr)) (fun i _=>a.length - (intOf i).toNat)
  case atStart=>exact ⟨0,Fb _,rfl,by simp [Hid],zM.refl _⟩
  case round=>
   obtain ⟨k,hk,rfl,heq,M⟩:=hrel;by_cases L:k<a.length
   ·have E:k<b.length:=by omega
    obtain ⟨bA,off,rfl,_,J⟩:=zy (HR.out.keep (M.out.same ok)) L L;obtain ⟨bB,off',rfl,_,G⟩:=zy (U.out.keep (M.out.same ok')) E E;obtain ⟨x,hx⟩:=zak (a[k]);obtain ⟨y,hy⟩:=zak (b[k]);rw [<-hx] at J;rw [<-hy] at G;have HX:=zh hx;clear hx;have HY:=zh hy;clear hy;by_cases D:x=y
    ·have V:(x != y)=false:=by simp [D]
     have I:=zh D;clear D;go_wp2;go_quiet (fail)
     go_wp2;go_roundw
     case rel=>exact ⟨k+1,by omega,by go_num,(Em L E).2 ⟨heq.out,by rw [<-HX.out,<-HY.out,I.out]⟩,M.out.more _⟩
     case measure=>simp [intOf];omega
    ·have V:(x != y)=true:=by simp [D]
     have I:=zh D;clear D;go_wp2;go_quiet (fail)
     go_wp2;go_ret;refine ⟨zf ?_,M.out.more _⟩;rw [eq_comm,Fl];rintro rfl;exact I.out (HX.out.trans HY.out.symm)
   ·obtain rfl:k=a.length:=by omega
    go_wp2;go_ret;refine ⟨zf ?_,M.out⟩;have h:=heq.out;rw [EY,T.out,EY] at h;simp [h]
 ·have Z:((a.length:Int) != (b.length:Int))=true:=by simp only [bne_iff_ne];omega
  have T:=zh z;clear z
  go_enter Tryz.func13,Tryz.ntmps13
  go_wp2;go_ret;refine ⟨zf ?_,zM.refl _⟩;rw [eq_comm,Fl];rintro rfl;exact T.out rfl
theorem samePaths_calls {ok ok':Nat->Prop} {v:Value} {a b:List (List Int)} (w:World) (h:zq w ok v a) (h':zq w ok' v' b) (hl:a.length<=20000000000000) (c8:b.length<=20000000000000)
  (ha:∀x∈a,x.length<=20000000000000) (hb:∀x∈b,x.length<=20000000000000):
  Calls Tryz.prog 69 #[v,v'] w fun e w'=>e=.returned (.bool (decide (a=b)))/\zM w w':=by
 obtain ⟨vs,⟨A,c,rfl,hc,hr⟩,he⟩:=h;obtain ⟨vs',⟨A',c',rfl,c7,Z⟩,V⟩:=h';have HR:=zh hr;clear hr;have a7:=zh Z;clear Z;have HE:=zh he;clear he;have a5:=zh V;clear V;have HA:=zh ha;clear ha;have HB:=zh hb;clear hb;by_cases z:a.length=b.length
 ·have a9:((a.length:Int) != (b.length:Int))=false:=by simp [z]
  have c9:a.length<=b.length:=by omega
  have b7:b.length<=a.length:=by omega
  have HL:=zh z;clear z
  go_enter Tryz.func69,Tryz.ntmps69
  go_wp2;go_loopw [5] (fun i wr=>∃k:Nat,k<=a.length/\i=.int .i64 k/\Hid (a.take k=b.take k)/\Hid (zM w wr)) (fun i _=>a.length - (intOf i).toNat)
  case atStart=>exact ⟨0,Fb _,rfl,by simp [Hid],zM.refl _⟩
  case round=>
   obtain ⟨k,hk,rfl,heq,T⟩:=hrel;by_cases L:k<a.length
   ·have E:k<b.length:=by omega
    obtain ⟨bA,off,u,rfl,_,a8,hu⟩:=zO (HR.out.keep (T.out.same ok)) HE.out L L;obtain ⟨bB,off',u',rfl,_,a4,U⟩:=zO (a7.out.keep (T.out.same ok')) a5.out E E;have O:=HA.out _ (EO L);have J:=HB.out _ (EO E);obtain ⟨x,hx⟩:=zak (a[k]);obtain ⟨y,hy⟩:=zak (b[k]);rw [<-hx] at hu O;rw [<-hy] at U J;have HX:=zh hx;clear hx;have HY:=zh hy;clear hy
    have D:∀n,Calls Tryz.prog 13 #[u,u'] (wr.drewN n) fun e w'=>e=.returned (.bool (decide (x=y)))/\∃m,w'=(wr.drewN n).drewN m:=
     fun n=>Ck (wr.drewN n) (hu.keep ((T.out.more n).same ok)) (U.keep ((T.out.more n).same ok')) O J
    have HS:=zh D;clear D hu U O J;by_cases G:x=y
    ·have I:decide (x=y)=true:=by simp [G]
     rw [I] at HS;have M:=zh G;clear G I;go_wp2;go_quiet ((go_at_call 13;exact Calls.quiet_of (HS.out _)))
     go_wp2;go_roundw
     case rel=>exact ⟨k+1,by omega,by go_num,(Em L E).2 ⟨heq.out,by rw [<-HX.out,<-HY.out,M.out]⟩,T.out.more _⟩
     case measure=>simp [intOf];omega
    ·have I:decide (x=y)=false:=by simp [G]
     rw [I] at HS;have M:=zh G;clear G I;go_wp2;go_quiet ((go_at_call 13;exact Calls.quiet_of (HS.out _)))
     go_wp2;go_ret;refine ⟨zf ?_,T.out.more _⟩;rw [eq_comm,Fl];rintro rfl;exact M.out (HX.out.trans HY.out.symm)
   ·obtain rfl:k=a.length:=by omega
    go_wp2;go_ret;refine ⟨zf ?_,T.out⟩;have h:=heq.out;rw [EY,HL.out,EY] at h;simp [h]
 ·have a9:((a.length:Int) != (b.length:Int))=true:=by simp only [bne_iff_ne];omega
  have HL:=zh z;clear z
  go_enter Tryz.func69,Tryz.ntmps69
  go_wp2;go_ret;refine ⟨zf ?_,zM.refl _⟩;rw [eq_comm,Fl];rintro rfl;exact HL.out rfl
end
section
open Go.RowKit
open Go.ChangeMaps (setBlock)
def zK:List Int->Nat->List MapEntry
 | [],_=>[]
 | x :: l,b=>{ key:=.int .i64 x,val:=.bool true,born:=b } :: zK l (b+1)
def mapObj (l:List Int):Obj:=.map (zK l 0).toArray l.length
def zD (w:World) (g:Nat) (l:List Int):Prop:=w.heap[g]?=some (mapObj l)
def ins (l:List Int) (x:Int):List Int:=if x∈l then l else l++[x]
theorem mem_ins:y∈ins l x↔y∈l\/y=x:=by
 unfold ins
 split
 ·constructor
  ·exact .inl
  ·rintro (h | rfl)
   ·exact h
   ·assumption
 ·simp
theorem Dw:∀(l:List Int) (b:Nat),(zK l b).length=l.length
 | [],_=>rfl
 | _ :: l,b=>by simp [zK,Dw l]
theorem Es:∀(l l':List Int) (b:Nat),zK (l++l') b=zK l b++zK l' (b+l.length)
 | [],_,_=>by simp [zK]
 | _ :: l,l',b=>by simp [zK,Es l l' (b+1),Nat.add_assoc,Nat.add_comm 1]
theorem Dh:∀(l:List Int) (b i:Nat),(zK l b)[i]?=(l[i]?).map fun x=>{ key:=.int .i64 x,val:=.bool true,born:=b+i }
 | [],_,_=>by simp [zK]
 | x :: l,b,0=>by simp [zK]
 | x :: l,b,i+1=>by simp [zK,Dh l (b+1) i,Nat.add_assoc,Nat.add_comm 1]
theorem zD.keep {ok:Nat->Prop} {w w':World} {g:Nat} (h:zD w g l) (D:Ao ok w w') (z:ok g):zD w' g l:=(D g z (zd h)).trans h
theorem zD.below {w w':World} {g:Nat} (h:zD w g l) (z:Below w.heap.size w w'):zD w' g l:=(z.block g (zd h)).trans h
theorem zD.new (w:World):zD (w.alloc (.map #[] 0)) w.heap.size []:=FB _ _
open Go.Instr in
theorem Et (x:Int):∀(l:List Int) (b s:Nat),findNow (.int .i64) (.int .i64 x) (zK l b) s=some (if x∈l then some (s+l.idxOf x,.bool true) else none)
 | [],_,_=>by simp [zK,findNow]
 | y :: l,b,s=>by
  simp only [zK,findNow,sameNow,if_true];by_cases h:x=y
  ·subst h;simp
  ·have E:(x==y)=false:=by simpa using h
   have D:(y==x)=false:=by simpa using fun e:y=x=>h e.symm
   simp only [E];rw [Et x l (b+1) (s+1)];by_cases hm:x∈l
   ·have z:x∈y :: l:=Fh _ hm;rw [if_pos hm,if_pos z,List.idxOf_cons,D];simp only [cond_false,Bool.false_eq_true,if_false];rw [show s+1+l.idxOf x=s+(l.idxOf x+1) by omega]
   ·have z:¬ x∈y :: l:=by simp [h,hm]
    rw [if_neg hm,if_neg z]
theorem Dk {w:World} {g:Nat} {n:Nat} (h:w.heap[g]?=some (.map es n)):(getObj g).run P w=.ok (.map es n) w:=by simp [getObj,Sem.run,h]
theorem ED {w:World} {g:Nat} {n:Nat} (o':Obj) (h:w.heap[g]?=some (.map es n)):(setObj g o').run P w=.ok () (setBlock w g o'):=by
 simp [setObj,Sem.run,h,setBlock]
open Go.Instr in
theorem CR (b:Bool) (n:Nat) (x:Int) (w:World):(checkKey b (n+1) 3 (.int .i64 x)).run Tryz.prog w=.ok () w:=by
 simp [checkKey,run_underlying Tryz.underlying3]
theorem run_look {w:World} {g:Nat} (h:zD w g l) (x:Int) (t:TypeId) (z:Tryz.prog.underlying t=some (.map 3 4)):
  (Instr.lookup t (.map (some g)) (.int .i64 x) false).run Tryz.prog w=.ok (.bool (decide (x∈l))) w:=by
 have D:∀w,(zeroValue 4).run Tryz.prog w=.ok (.bool false) w:=fun w=>by kernel_rfl
 unfold Instr.lookup;simp only [Sem.run_bind,run_underlying z,Result.andThen_ok,Dk h,mapObj,Sem.run_pure];rw [show (10000:Nat)=9999+1 from rfl,CR];simp only [Result.andThen_ok,Instr.findKey,Sem.run_bind,run_underlying Tryz.underlying3,List.toList_toArray,Et];by_cases hm:x∈l
 ·simp [hm]
 ·simp [hm,D]
theorem setBlk_same {w:World} {g:Nat} {o o':Obj} (h:w.heap[g]?=some o):(setBlock w g o').heap[g]?=some o':=by
 have:=zd h;simp [setBlock,this]
theorem Dp {w:World} {g:Nat} (o:Obj) (h:k≠g):(setBlock w g o).heap[k]?=w.heap[k]?:=by
 simp [setBlock,Ne.symm h]
theorem run_add {w:World} {g:Nat} (h:zD w g l) (x:Int) (t:TypeId) (I:Tryz.prog.underlying t=some (.map 3 4)):
  ∃w',(Instr.mapUpdate t (.map (some g)) (.int .i64 x) (.bool true)).run Tryz.prog w=.ok () w'/\zD w' g (ins l x)/\w.grownBy w' (some g):=by
 refine ⟨setBlock w g (mapObj (ins l x)),?_,setBlk_same h,⟨rfl,rfl,rfl,by simp [setBlock],fun k _ E=>Dp _ (fun e=>E (by rw [e]))⟩⟩;unfold Instr.mapUpdate;simp only [Sem.run_bind,run_underlying I,Result.andThen_ok,Dk h,mapObj];rw [show (10000:Nat)=9999+1 from rfl,CR];simp only [Result.andThen_ok,Instr.findKey,Sem.run_bind,run_underlying Tryz.underlying3,List.toList_toArray,Et];by_cases hm:x∈l
 ·simp only [hm,if_true,Sem.run_pure,Result.andThen_ok,Nat.zero_add];have D:l.idxOf x<l.length:=List.idxOf_lt_length_of_mem hm;have G:l[l.idxOf x]=x:=List.getElem_idxOf D
  have E:∀W,(Instr.keyThatStays ((((zK l 0).toArray[l.idxOf x]?).map (·.key)).getD (.int .i64 x)) (.int .i64 x)).run Tryz.prog W=.ok (.int .i64 x) W:=by
   intro W;rw [List.getElem?_toArray,Dh,EL D];simp [Instr.keyThatStays,Instr.sameBits,G]
  rw [Sem.run_bind,E];simp only [Result.andThen_ok]
  have z:(zK l 0).toArray.modify (l.idxOf x) (fun e=>{ e with key:=.int .i64 x,val:=.bool true })=(zK l 0).toArray:=by
   apply Array.ext_getElem?;intro i;rw [Array.getElem?_modify]
   split
   ·rename_i e
    subst e;rw [List.getElem?_toArray,Dh,EL D];simp [G]
   ·rfl
  rw [z,ED _ h];have:ins l x=l:=by simp [ins,hm]
  rw [this]
 ·simp only [hm,if_false,Sem.run_pure,Result.andThen_ok];rw [ED _ h];have:ins l x=l++[x]:=by simp [ins,hm]
  rw [this,Es];simp [zK]
theorem CS {w:World} (I:o.guard=none) (m y v:Operand) (t:TypeId) (E:o.op=Op.mapUpdate t m y v)
  (L:Tryz.prog.underlying t=some (.map 3 4)) (g:Nat) (l:List Int) (x:Int) (hm:a.eval m=.map (some g)) (O:a.eval y=.int .i64 x) (M:a.eval v=.bool true) (J:zD w g l)
  (G:∀w',zD w' g (ins l x)->w.grownBy w' (some g)->wpList Tryz.prog ops Q rest (a.put o.dst undef) w'):wpList Tryz.prog ops Q (o :: rest) a w:=by
 refine wpList_plain I fun K' D=>?_
 obtain ⟨w',z,h1,h2⟩:=run_add J x t L;unfold Oper.wp;simp [execOp,E,hm,O,M,z,Result.andThen];exact D _ _ (G w' h1 h2)
end
section
open Go.RowKit
theorem Tryz.infoInt:(Tryz.prog.info? 3).map (fun i=>(i.zero,i.size,i.bytes))=some (some (.int .i64 0),1,8):=by kernel_rfl
def ap (c:Bool) (x:Int) (l:List Int):List Int:=if c then l++[x] else l
theorem ap_len (c:Bool) (x:Int) (l:List Int):(ap c x l).length<=l.length+1:=by
 unfold ap;split <;> simp
theorem map_snoc (l:List Int) (x:Int):(l++[x]).map (Value.int .i64)=l.map (Value.int .i64)++[.int .i64 x]:=by simp
def zg (w:World) (g:Nat) (t:TypeId) (cs:Array Value):Prop:=w.heap[g]?=some (.cells cs t (0,0))
theorem zg.ne_ {w:World} {g g':Nat} {t t':TypeId} {cs':Array Value} (h:zg w g t cs) (z:zg w g' t' cs') (D:t≠t'):g≠g':=by
 rintro rfl;unfold zg at h z;rw [h] at z;injection z with z;injection z with _ E;exact D E
theorem zj {w:World} {base:Nat} {e:TypeId} {size n:Nat} {v:Value} {xs:List Value} {g:Nat} {t:TypeId} (h:w.ownsRow base e size v n xs) (D:zg w g t cs) (z:e≠t):v.ownBlock≠some g:=by
 rcases h.2 with ⟨rfl,_⟩ | ⟨g',cap,cur,rfl,_,E,_⟩
 ·simp [Value.ownBlock]
 ·intro he;have:g'=g:=by simpa [Value.ownBlock] using he
  subst this;exact zg.ne_ (t:=e) E D z rfl
def Acc (w0 w:World) (B gb:Nat) (l:List Int):Prop:=
 ∃v,zg w gb 23 #[v]/\w.ownsRow B 3 1 v l.length (l.map (Value.int .i64))/\B<=gb/\Below B w0 w
theorem wpApp1 (E:o.guard=none) (s y:Operand)
  (T:o.op=.call { callee:=.builtin .append,args:=#[s,y],argTypes:=#[23,23] }) (W:World) (l:List Int) (x:Int) (B g c:Nat) (v:Value) (U:a.eval s=v)
  (V:a.eval y=.slice (some ⟨g,0,none⟩) 1 c) (z:W.ownsRow B 3 1 v l.length (l.map (Value.int .i64))) (M:W.cell? ⟨g,0,none⟩=some (.int .i64 x)) (L:B<=W.heap.size) (Z:l.length<=1000000000000)
  (h:∀v' w',w'.ownsRow B 3 1 v' (l++[x]).length ((l++[x]).map (Value.int .i64))->W.grownBy w' v.ownBlock->wpList Tryz.prog ops Q rest (a.put o.dst v') w'):wpList Tryz.prog ops Q (o :: rest) a W:=by
 obtain ⟨i0,O,G,I,J⟩:=info_parts Tryz.infoInt;refine wpList_append_own _ E _ _ 23 T B 3 i0 (.int .i64 0) 1 8 Tryz.underlying23 O G I J rfl (by decide) _ _ _ U z ⟨g,0,none⟩ 1 c [.int .i64 x] V rfl ?_ ?_ ?_ ?_ L ?_
 ·intro j u D
  match j,D with
  | 0,D=>
   have:u=.int .i64 x:=by simpa using D.symm
   rw [this];exact M
 ·intro u D;have:u=.int .i64 x:=by simpa using D
  rw [this];rfl
 ·unfold maxLen;omega
 ·omega
 ·intro v' w' h1 h2 _;refine h v' w' ?_ h2;rw [map_snoc,EV];exact h1
theorem add_calls (w0 w:World) (B gb:Nat) (l:List Int) (c:Bool) (x:Int) (h:Acc w0 w B gb l) (hl:l.length<=1000) (hB:B<=w0.heap.size):
  Calls Tryz.prog 80 #[.bool c,.int .i64 x,.pointer (some ⟨gb,0,none⟩)] w fun e w'=>e=.returned (.tuple #[])/\Acc w0 w' B gb (ap c x l):=by
 have I:=h;obtain ⟨v,O,E,L,Z⟩:=h
 cases c with
 | false=>
  go_enter Tryz.func80,Tryz.ntmps80
  go_wp2
  go_end0
  exact ⟨rfl,I⟩
 | true=>
  have a3:w.cell? ⟨gb,0,none⟩=some v:=by unfold World.cell?;simp only [show w.heap[gb]?=_ from O];rfl
  have a7:=zj E O (by decide);have a6:gb<w.heap.size:=zd O;have V:B<=w.heap.size:=EP hB Z.size;have HG:=zh O;clear O;have HB:=zh Z;clear Z;clear I
  go_enter Tryz.func80,Tryz.ntmps80
  go_wp2_with (at_builtin;refine wpApp1 rfl _ _ rfl _ l x B w.heap.size 1 v rfl rfl (E.alloc _) ?c1 ?c2 ?c3 ?_)
  case c1=>simp
  case c2=>simp;omega
  case c3=>omega
  intro v' w1 D z;obtain ⟨g',cap',rfl,a5,a4⟩:=D.form (by simp);have G:zg w1 gb 23 #[v]:=(z.block gb (by simp;omega) (fun e=>a7 e.symm)).trans ((Ff w _ gb a6).trans HG.out);have T:w1.cell? ⟨gb,0,none⟩=some v:=by unfold World.cell?;simp only [show w1.heap[gb]?=_ from G];rfl
  have hfz:w1.frozen? ⟨gb,0,none⟩=false:=by unfold World.frozen?;simp [show w1.heap[gb]?=_ from G]
  have J:=zh G;clear G;have U:=zh z;clear z;have HO:=zh D;clear D;clear a5 a4;go_wp2
  go_end0
  have M:Below B w0 w1:=(HB.out.alloc V _).grown U.out (by simp;omega) (fun k hk=>by
   have:=(E.lt k hk).1;omega)
  refine ⟨rfl,.slice (some ⟨g',0,none⟩) (l++[x]).length cap',?_,?_,L,M.setCell L _⟩
  ·have:=J.out;unfold zg at this⊢;simp [World.setCell,Array.getElem?_modify,this]
  ·have h:=ownsRow_setCell_other (a:=⟨gb,0,none⟩) HO.out (zj (t:=23) HO.out J.out (by decide)) (.slice (some ⟨g',0,none⟩) (l++[x]).length cap');simpa [ap] using h
def AccK (w0 w:World) (B gb k:Nat) (l:List Int):Prop:=Acc w0 w B gb l/\l.length<=k/\B<=w0.heap.size
theorem addK (w0 w:World) (B gb k:Nat) (l:List Int) (c:Bool) (x:Int) (h:AccK w0 w B gb k l) (E:k<=1000):
  Calls Tryz.prog 80 #[.bool c,.int .i64 x,.pointer (some ⟨gb,0,none⟩)] w fun e w'=>e=.returned (.tuple #[])/\AccK w0 w' B gb (k+1) (ap c x l):=by
 obtain ⟨h,G,z⟩:=h;refine (add_calls w0 w B gb l c x h (by omega) z).mono ?_;rintro e w' ⟨rfl,D⟩;exact ⟨rfl,D,by have:=ap_len c x l;omega,z⟩
theorem AccK.below {w:World} (h:AccK w0 w B gb k l):Below B w0 w:=by
 obtain ⟨⟨v,_,_,_,z⟩,_,_⟩:=h;exact z
theorem zn {w:World} {g:Nat} {t:TypeId} {a3 a4 a5:Value} (h:zg w g t #[a0,a1,a2,a3,a4,a5]):
  w.cell? ⟨g,0,none⟩=some a0/\w.cell? ⟨g,1,none⟩=some a1/\w.cell? ⟨g,2,none⟩=some a2/\w.cell? ⟨g,3,none⟩=some a3/\w.cell? ⟨g,4,none⟩=some a4/\w.cell? ⟨g,5,none⟩=some a5:=by
 unfold zg at h;unfold World.cell?;simp only [h];exact ⟨rfl,rfl,rfl,rfl,rfl,rfl⟩
theorem zg.below {w w':World} {g:Nat} {t:TypeId} (h:zg w g t cs) (z:Below B w w') (D:g<B):zg w' g t cs:=(z.block g D).trans h
theorem zg.alloc {w:World} {g:Nat} {t:TypeId} {cs:Array Value} (h:zg w g t cs) (o:Obj):zg (w.alloc o) g t cs:=(Ff w o g (zd h)).trans h
theorem Acc.new (w1:World):AccK w1 (w1.alloc (.cells #[.slice none 0 0] 23)) w1.heap.size w1.heap.size 0 []:=
 ⟨⟨.slice none 0 0,FB _ _,(World.ownsRow_nil _ _ _ _),EN _,(Below.refl _ _).alloc (EN _) _⟩,EN _,EN _⟩
theorem AccK.end_ {w:World} (h:AccK w0 w B gb k l):∃v,w.cell? ⟨gb,0,none⟩=some v/\w.ownsRow B 3 1 v l.length (l.map (Value.int .i64)):=by
 obtain ⟨⟨v,z,D,_,_⟩,_,_⟩:=h;refine ⟨v,?_,D⟩;unfold zg at z;unfold World.cell?;simp only [z];rfl
theorem AccK.more {w w':World} (h:AccK w0 w B gb k l) (z:Below w.heap.size w w'):AccK w0 w' B gb k l:=by
 obtain ⟨⟨v,I,M,D,E⟩,L,G⟩:=h;exact ⟨⟨v,(z.block gb (zd I)).trans I,M.kept (row:=none) ⟨z.os,z.tape,z.output,z.size,fun i J _=>z.block i J⟩ (by cases h:v.ownBlock <;> simp),D,BI E z G⟩,L,G⟩
theorem next_fin {w:World} {v:Value} {l':List Int} (h:w.ownsRow B 3 1 v l.length (l.map (Value.int .i64))) (e:l'=l):w.ownsRow B 3 1 v l'.length (l'.map (Value.int .i64)):=by
 rw [e];exact h
def zm (m:MZ) (node:Int):List Int:=
 ap (decide (node+m.w*m.h<m.w*m.h*m.l) && m.up.getD node.toNat false) (node+m.w*m.h)
  (ap (decide (node / m.w % m.h+1<m.h)) (node+m.w)
   (ap (decide (node % m.w+1<m.w)) (node+1)
    (ap (decide (0<node % m.w)) (node - 1)
     (ap (decide (0<node / m.w % m.h)) (node - m.w)
      (ap (decide (m.w*m.h<=node) && m.up.getD (node - m.w*m.h).toNat false) (node - m.w*m.h) [])))))
structure EF (m:MZ):Prop where
 w1:1<=m.w
 w2:m.w<=300
 h1:1<=m.h
 h2:m.h<=300
 l1:1<=m.l
 l2:m.l<=300
 n1:m.w*m.h*m.l<=300
 up:(m.up.length:Int)=m.w*m.h*m.l
theorem EF.layer {m:MZ} (d:EF m):1<=m.w*m.h/\m.w*m.h<=m.w*m.h*m.l:=by
 have h1:1<=m.w*m.h:=by
  have:=Int.mul_le_mul d.w1 d.h1 (by omega) (by have:=d.w1;omega);omega
 refine ⟨h1,?_⟩;have:=Int.mul_le_mul_of_nonneg_left d.l1 (show 0<=m.w*m.h by omega);omega
theorem next_eq (m:MZ) (node:Int) (b1 b2:Bool) (h1:b1=(decide (m.w*m.h<=node) && m.up.getD (node - m.w*m.h).toNat false)) (h2:b2=(decide (node+m.w*m.h<m.w*m.h*m.l) && m.up.getD node.toNat false)):
  zm m node=ap b2 (node+m.w*m.h) (ap (decide (node / m.w % m.h+1<m.h)) (node+m.w) (ap (decide (node % m.w+1<m.w)) (node+1) (ap (decide (0<node % m.w)) (node - 1) (ap (decide (0<node / m.w % m.h)) (node - m.w) (ap b1 (node - m.w*m.h) []))))):=by
 rw [h1,h2];rfl
theorem up_true {p:Prop} [Decidable p] {up:List Bool} (hp:p) (h:k<up.length):up[k]=(decide p && up.getD k false):=by
 simp [hp,h]
theorem up_false {p:Prop} [Decidable p] {b:Bool} (hp:¬ p):false=(decide p && b):=by simp [hp]
theorem DC {ok:Nat->Prop} {v:Value} (m:MZ) (node:Int) (w:World) (hm:zt w ok v m) (d:EF m) (h0:0<=node) (h1:node<m.w*m.h*m.l):
  Calls Tryz.prog 44 #[v,.int .i64 node] w fun e w'=>∃v',e=.returned v'/\Below w.heap.size w w'/\w'.ownsRow w.heap.size 3 1 v' (zm m node).length ((zm m node).map (Value.int .i64)):=by
 obtain ⟨f,u,t,rfl,_,hu,_⟩:=hm;obtain ⟨A,c,rfl,c7,c5⟩:=hu;have hl:=d.layer;obtain ⟨d5,d6⟩:=hl;obtain ⟨w1,w2,c8,c9,ll1,ll2,n1,c4⟩:=d;obtain ⟨W,H,L,fr,up,ts⟩:=m;simp only at*;have HU:=zh c5;clear c5;have b5:=zh c4;clear c4
 go_enter Tryz.func44,Tryz.ntmps44
 have d7:0<=node / W:=Int.ediv_nonneg h0 (by omega);have d8:node / W<=node:=Int.ediv_le_self _ h0
 go_wp2_with fail
 go_quiet (fail)
 have d9:0<=node / W % H:=Int.emod_nonneg _ (by omega);have e0:node / W % H<H:=Int.emod_lt_of_pos _ (by omega);have e3:0<=node % W:=Int.emod_nonneg _ (by omega);have e4:node % W<W:=Int.emod_lt_of_pos _ (by omega);generalize b8:((w.alloc (.cells #[.int .i64 W,.int .i64 H,.int .i64 L,f,.slice A up.length c,t] 32)).drewN nq)=w1;have O:Below w.heap.size w w1:=by rw [<-b8];exact Df ((Below.refl _ _).alloc (EN _) _) _
 have c0:zg w1 w.heap.size 32 #[.int .i64 W,.int .i64 H,.int .i64 L,f,.slice A up.length c,t]:=by rw [<-b8];exact FB _ _
 have b4:=zh (HU.out.keep (Ao.of_below O):zN w1 ok 1 A up.length (up.map Value.bool));clear b8 HU;have J:=zh c0;clear c0;have T:=zh O;clear O;by_cases hA:W*H<=node
 ·by_cases hB:node+W*H<W*H*L
  ·have Z:(node - W*H).toNat<up.length:=by have:=b5.out;omega
   obtain ⟨b,off,a8,_,G⟩:=BR b4.out Z Z;have z:=zp G;have a7:node.toNat<up.length:=by have:=b5.out;omega
   obtain ⟨b',off',b3,_,I⟩:=BR b4.out a7 a7;obtain ⟨rfl,rfl⟩:b=b'/\off=off':=by rw [a8] at b3;simpa using b3
   clear b3;subst a8;obtain ⟨b1,O⟩:=zak (up[(node - W*H).toNat]);rw [<-O] at G;have a9:=zh O;clear O;obtain ⟨b2,U⟩:=zak (up[node.toNat]);rw [<-U] at I;have b0:=zh U;clear U;have D:w.heap.size<w1.heap.size:=zd J.out;have E:=fun o=>zn (J.out.alloc o)
   obtain ⟨m0,m1,m2,m3,m4,m5⟩:(∀o,(w1.alloc o).cell? ⟨w.heap.size,0,none⟩=_)/\(∀o,(w1.alloc o).cell? ⟨w.heap.size,1,none⟩=_)/\(∀o,(w1.alloc o).cell? ⟨w.heap.size,2,none⟩=_)/\(∀o,(w1.alloc o).cell? ⟨w.heap.size,3,none⟩=_)/\(∀o,(w1.alloc o).cell? ⟨w.heap.size,4,none⟩=_)/\(∀o,(w1.alloc o).cell? ⟨w.heap.size,5,none⟩=_):=⟨fun o=>(E o).1,fun o=>(E o).2.1,fun o=>(E o).2.2.1,fun o=>(E o).2.2.2.1,fun o=>(E o).2.2.2.2.1,fun o=>(E o).2.2.2.2.2⟩;clear E;have u1:∀o,(w1.alloc o).cell? ⟨b,off+(node - W*H).toNat,none⟩=_:=fun o=>(World.cell?_alloc_lt w1 o ⟨b,off+(node - W*H).toNat,none⟩ z).trans G
   have u2:∀o,(w1.alloc o).cell? ⟨b,off+node.toNat,none⟩=_:=fun o=>(World.cell?_alloc_lt w1 o ⟨b,off+node.toNat,none⟩ z).trans I
   go_wp2_with fail
   refine (addK w1 _ w1.heap.size w1.heap.size 0 _ _ _ (Acc.new w1) (by omega)).mono ?_;rintro e k1 ⟨rfl,a1⟩;clear m0 m1 m2 m3 m4 m5 u1 u2;obtain ⟨m0,m1,m2,m3,m4,m5⟩:=zn (J.out.below a1.below D);have u1:=(a1.below.cell (p:=⟨b,off+(node - W*H).toNat,none⟩) z).trans G;have u2:=(a1.below.cell (p:=⟨b,off+node.toNat,none⟩) z).trans I
   go_wp2_with fail
   refine (addK w1 _ w1.heap.size w1.heap.size 1 _ _ _ (a1) (by omega)).mono ?_;rintro e k2 ⟨rfl,a2⟩;clear m0 m1 m2 m3 m4 m5 u1 u2;obtain ⟨m0,m1,m2,m3,m4,m5⟩:=zn (J.out.below a2.below D);have u1:=(a2.below.cell (p:=⟨b,off+(node - W*H).toNat,none⟩) z).trans G;have u2:=(a2.below.cell (p:=⟨b,off+node.toNat,none⟩) z).trans I
   go_wp2_with fail
   refine (addK w1 _ w1.heap.size w1.heap.size 2 _ _ _ (a2) (by omega)).mono ?_;rintro e k3 ⟨rfl,a3⟩;clear m0 m1 m2 m3 m4 m5 u1 u2;obtain ⟨m0,m1,m2,m3,m4,m5⟩:=zn (J.out.below a3.below D);have u1:=(a3.below.cell (p:=⟨b,off+(node - W*H).toNat,none⟩) z).trans G;have u2:=(a3.below.cell (p:=⟨b,off+node.toNat,none⟩) z).trans I
   go_wp2_with fail
   refine (addK w1 _ w1.heap.size w1.heap.size 3 _ _ _ (a3) (by omega)).mono ?_;rintro e k4 ⟨rfl,a4⟩;clear m0 m1 m2 m3 m4 m5 u1 u2;obtain ⟨m0,m1,m2,m3,m4,m5⟩:=zn (J.out.below a4.below D);have u1:=(a4.below.cell (p:=⟨b,off+(node - W*H).toNat,none⟩) z).trans G;have u2:=(a4.below.cell (p:=⟨b,off+node.toNat,none⟩) z).trans I
   go_wp2_with fail
   refine (addK w1 _ w1.heap.size w1.heap.size 4 _ _ _ (a4) (by omega)).mono ?_;rintro e k5 ⟨rfl,a5⟩;clear m0 m1 m2 m3 m4 m5 u1 u2;obtain ⟨m0,m1,m2,m3,m4,m5⟩:=zn (J.out.below a5.below D);have u1:=(a5.below.cell (p:=⟨b,off+(node - W*H).toNat,none⟩) z).trans G;have u2:=(a5.below.cell (p:=⟨b,off+node.toNat,none⟩) z).trans I
   go_wp2_with fail
   refine (AN W H L _ _ _ _ (by omega) (by omega)).mono ?_;rintro e kn ⟨rfl,V⟩;have a5:=a5.more V;clear m0 m1 m2 m3 m4 m5 u1 u2;obtain ⟨m0,m1,m2,m3,m4,m5⟩:=zn (J.out.below a5.below D);have u1:=(a5.below.cell (p:=⟨b,off+(node - W*H).toNat,none⟩) z).trans G;have u2:=(a5.below.cell (p:=⟨b,off+node.toNat,none⟩) z).trans I
   go_wp2_with fail
   refine (addK w1 _ w1.heap.size w1.heap.size 5 _ _ _ (a5) (by omega)).mono ?_;rintro e k6 ⟨rfl,a6⟩;clear m0 m1 m2 m3 m4 m5 u1 u2;obtain ⟨m0,m1,m2,m3,m4,m5⟩:=zn (J.out.below a6.below D);have u1:=(a6.below.cell (p:=⟨b,off+(node - W*H).toNat,none⟩) z).trans G;have u2:=(a6.below.cell (p:=⟨b,off+node.toNat,none⟩) z).trans I;obtain ⟨vf,b7,M⟩:=a6.end_;have HO:=zh M;clear M
   go_wp2_with fail
   go_ret;refine ⟨vf,rfl,BI T.out (Below.mono a6.below (EN _)) (EN _),?_⟩;exact next_fin (HO.out.mono T.out.size) (next_eq _ _ _ _ (by rw [a9.out];exact up_true hA Z) (by rw [b0.out];exact up_true hB a7))
  ·have Z:(node - W*H).toNat<up.length:=by have:=b5.out;omega
   obtain ⟨b,off,a8,_,G⟩:=BR b4.out Z Z;have z:=zp G;subst a8;obtain ⟨b1,O⟩:=zak (up[(node - W*H).toNat]);rw [<-O] at G;have a9:=zh O;clear O;have D:w.heap.size<w1.heap.size:=zd J.out;have E:=fun o=>zn (J.out.alloc o)
   obtain ⟨m0,m1,m2,m3,m4,m5⟩:(∀o,(w1.alloc o).cell? ⟨w.heap.size,0,none⟩=_)/\(∀o,(w1.alloc o).cell? ⟨w.heap.size,1,none⟩=_)/\(∀o,(w1.alloc o).cell? ⟨w.heap.size,2,none⟩=_)/\(∀o,(w1.alloc o).cell? ⟨w.heap.size,3,none⟩=_)/\(∀o,(w1.alloc o).cell? ⟨w.heap.size,4,none⟩=_)/\(∀o,(w1.alloc o).cell? ⟨w.heap.size,5,none⟩=_):=⟨fun o=>(E o).1,fun o=>(E o).2.1,fun o=>(E o).2.2.1,fun o=>(E o).2.2.2.1,fun o=>(E o).2.2.2.2.1,fun o=>(E o).2.2.2.2.2⟩;clear E;have u1:∀o,(w1.alloc o).cell? ⟨b,off+(node - W*H).toNat,none⟩=_:=fun o=>(World.cell?_alloc_lt w1 o ⟨b,off+(node - W*H).toNat,none⟩ z).trans G
   go_wp2_with fail
   refine (addK w1 _ w1.heap.size w1.heap.size 0 _ _ _ (Acc.new w1) (by omega)).mono ?_;rintro e k1 ⟨rfl,a1⟩;clear m0 m1 m2 m3 m4 m5 u1;obtain ⟨m0,m1,m2,m3,m4,m5⟩:=zn (J.out.below a1.below D);have u1:=(a1.below.cell (p:=⟨b,off+(node - W*H).toNat,none⟩) z).trans G
   go_wp2_with fail
   refine (addK w1 _ w1.heap.size w1.heap.size 1 _ _ _ (a1) (by omega)).mono ?_;rintro e k2 ⟨rfl,a2⟩;clear m0 m1 m2 m3 m4 m5 u1;obtain ⟨m0,m1,m2,m3,m4,m5⟩:=zn (J.out.below a2.below D);have u1:=(a2.below.cell (p:=⟨b,off+(node - W*H).toNat,none⟩) z).trans G
   go_wp2_with fail
   refine (addK w1 _ w1.heap.size w1.heap.size 2 _ _ _ (a2) (by omega)).mono ?_;rintro e k3 ⟨rfl,a3⟩;clear m0 m1 m2 m3 m4 m5 u1;obtain ⟨m0,m1,m2,m3,m4,m5⟩:=zn (J.out.below a3.below D);have u1:=(a3.below.cell (p:=⟨b,off+(node - W*H).toNat,none⟩) z).trans G
   go_wp2_with fail
   refine (addK w1 _ w1.heap.size w1.heap.size 3 _ _ _ (a3) (by omega)).mono ?_;rintro e k4 ⟨rfl,a4⟩;clear m0 m1 m2 m3 m4 m5 u1;obtain ⟨m0,m1,m2,m3,m4,m5⟩:=zn (J.out.below a4.below D);have u1:=(a4.below.cell (p:=⟨b,off+(node - W*H).toNat,none⟩) z).trans G
   go_wp2_with fail
   refine (addK w1 _ w1.heap.size w1.heap.size 4 _ _ _ (a4) (by omega)).mono ?_;rintro e k5 ⟨rfl,a5⟩;clear m0 m1 m2 m3 m4 m5 u1;obtain ⟨m0,m1,m2,m3,m4,m5⟩:=zn (J.out.below a5.below D);have u1:=(a5.below.cell (p:=⟨b,off+(node - W*H).toNat,none⟩) z).trans G
   go_wp2_with fail
   refine (AN W H L _ _ _ _ (by omega) (by omega)).mono ?_;rintro e kn ⟨rfl,V⟩;have a5:=a5.more V;clear m0 m1 m2 m3 m4 m5 u1;obtain ⟨m0,m1,m2,m3,m4,m5⟩:=zn (J.out.below a5.below D);have u1:=(a5.below.cell (p:=⟨b,off+(node - W*H).toNat,none⟩) z).trans G
   go_wp2_with fail
   refine (addK w1 _ w1.heap.size w1.heap.size 5 _ _ _ (a5) (by omega)).mono ?_;rintro e k6 ⟨rfl,a6⟩;clear m0 m1 m2 m3 m4 m5 u1;obtain ⟨m0,m1,m2,m3,m4,m5⟩:=zn (J.out.below a6.below D);have u1:=(a6.below.cell (p:=⟨b,off+(node - W*H).toNat,none⟩) z).trans G;obtain ⟨vf,b7,M⟩:=a6.end_;have HO:=zh M;clear M
   go_wp2_with fail
   go_ret;refine ⟨vf,rfl,BI T.out (Below.mono a6.below (EN _)) (EN _),?_⟩;exact next_fin (HO.out.mono T.out.size) (next_eq _ _ _ _ (by rw [a9.out];exact up_true hA Z) (up_false (Int.not_lt.2 hB)))
 ·by_cases hB:node+W*H<W*H*L
  ·have a7:node.toNat<up.length:=by have:=b5.out;omega
   obtain ⟨b,off,a8,_,I⟩:=BR b4.out a7 a7;have z:=zp I;subst a8;obtain ⟨b2,U⟩:=zak (up[node.toNat]);rw [<-U] at I;have b0:=zh U;clear U;have D:w.heap.size<w1.heap.size:=zd J.out;have E:=fun o=>zn (J.out.alloc o)
   obtain ⟨m0,m1,m2,m3,m4,m5⟩:(∀o,(w1.alloc o).cell? ⟨w.heap.size,0,none⟩=_)/\(∀o,(w1.alloc o).cell? ⟨w.heap.size,1,none⟩=_)/\(∀o,(w1.alloc o).cell? ⟨w.heap.size,2,none⟩=_)/\(∀o,(w1.alloc o).cell? ⟨w.heap.size,3,none⟩=_)/\(∀o,(w1.alloc o).cell? ⟨w.heap.size,4,none⟩=_)/\(∀o,(w1.alloc o).cell? ⟨w.heap.size,5,none⟩=_):=⟨fun o=>(E o).1,fun o=>(E o).2.1,fun o=>(E o).2.2.1,fun o=>(E o).2.2.2.1,fun o=>(E o).2.2.2.2.1,fun o=>(E o).2.2.2.2.2⟩;clear E;have u2:∀o,(w1.alloc o).cell? ⟨b,off+node.toNat,none⟩=_:=fun o=>(World.cell?_alloc_lt w1 o ⟨b,off+node.toNat,none⟩ z).trans I
   go_wp2_with fail
   refine (addK w1 _ w1.heap.size w1.heap.size 0 _ _ _ (Acc.new w1) (by omega)).mono ?_;rintro e k1 ⟨rfl,a1⟩;clear m0 m1 m2 m3 m4 m5 u2;obtain ⟨m0,m1,m2,m3,m4,m5⟩:=zn (J.out.below a1.below D);have u2:=(a1.below.cell (p:=⟨b,off+node.toNat,none⟩) z).trans I
   go_wp2_with fail
   refine (addK w1 _ w1.heap.size w1.heap.size 1 _ _ _ (a1) (by omega)).mono ?_;rintro e k2 ⟨rfl,a2⟩;clear m0 m1 m2 m3 m4 m5 u2;obtain ⟨m0,m1,m2,m3,m4,m5⟩:=zn (J.out.below a2.below D);have u2:=(a2.below.cell (p:=⟨b,off+node.toNat,none⟩) z).trans I
   go_wp2_with fail
   refine (addK w1 _ w1.heap.size w1.heap.size 2 _ _ _ (a2) (by omega)).mono ?_;rintro e k3 ⟨rfl,a3⟩;clear m0 m1 m2 m3 m4 m5 u2;obtain ⟨m0,m1,m2,m3,m4,m5⟩:=zn (J.out.below a3.below D);have u2:=(a3.below.cell (p:=⟨b,off+node.toNat,none⟩) z).trans I
   go_wp2_with fail
   refine (addK w1 _ w1.heap.size w1.heap.size 3 _ _ _ (a3) (by omega)).mono ?_;rintro e k4 ⟨rfl,a4⟩;clear m0 m1 m2 m3 m4 m5 u2;obtain ⟨m0,m1,m2,m3,m4,m5⟩:=zn (J.out.below a4.below D);have u2:=(a4.below.cell (p:=⟨b,off+node.toNat,none⟩) z).trans I
   go_wp2_with fail
   refine (addK w1 _ w1.heap.size w1.heap.size 4 _ _ _ (a4) (by omega)).mono ?_;rintro e k5 ⟨rfl,a5⟩;clear m0 m1 m2 m3 m4 m5 u2;obtain ⟨m0,m1,m2,m3,m4,m5⟩:=zn (J.out.below a5.below D);have u2:=(a5.below.cell (p:=⟨b,off+node.toNat,none⟩) z).trans I
   go_wp2_with fail
   refine (AN W H L _ _ _ _ (by omega) (by omega)).mono ?_;rintro e kn ⟨rfl,V⟩;have a5:=a5.more V;clear m0 m1 m2 m3 m4 m5 u2;obtain ⟨m0,m1,m2,m3,m4,m5⟩:=zn (J.out.below a5.below D);have u2:=(a5.below.cell (p:=⟨b,off+node.toNat,none⟩) z).trans I
   go_wp2_with fail
   refine (addK w1 _ w1.heap.size w1.heap.size 5 _ _ _ (a5) (by omega)).mono ?_;rintro e k6 ⟨rfl,a6⟩;clear m0 m1 m2 m3 m4 m5 u2;obtain ⟨m0,m1,m2,m3,m4,m5⟩:=zn (J.out.below a6.below D);have u2:=(a6.below.cell (p:=⟨b,off+node.toNat,none⟩) z).trans I;obtain ⟨vf,b7,M⟩:=a6.end_;have HO:=zh M;clear M
   go_wp2_with fail
   go_ret;refine ⟨vf,rfl,BI T.out (Below.mono a6.below (EN _)) (EN _),?_⟩;exact next_fin (HO.out.mono T.out.size) (next_eq _ _ _ _ (up_false (Int.not_le.2 hA)) (by rw [b0.out];exact up_true hB a7))
  ·have D:w.heap.size<w1.heap.size:=zd J.out;have E:=fun o=>zn (J.out.alloc o)
   obtain ⟨m0,m1,m2,m3,m4,m5⟩:(∀o,(w1.alloc o).cell? ⟨w.heap.size,0,none⟩=_)/\(∀o,(w1.alloc o).cell? ⟨w.heap.size,1,none⟩=_)/\(∀o,(w1.alloc o).cell? ⟨w.heap.size,2,none⟩=_)/\(∀o,(w1.alloc o).cell? ⟨w.heap.size,3,none⟩=_)/\(∀o,(w1.alloc o).cell? ⟨w.heap.size,4,none⟩=_)/\(∀o,(w1.alloc o).cell? ⟨w.heap.size,5,none⟩=_):=⟨fun o=>(E o).1,fun o=>(E o).2.1,fun o=>(E o).2.2.1,fun o=>(E o).2.2.2.1,fun o=>(E o).2.2.2.2.1,fun o=>(E o).2.2.2.2.2⟩;clear E
   go_wp2_with fail
   refine (addK w1 _ w1.heap.size w1.heap.size 0 _ _ _ (Acc.new w1) (by omega)).mono ?_;rintro e k1 ⟨rfl,a1⟩;clear m0 m1 m2 m3 m4 m5;obtain ⟨m0,m1,m2,m3,m4,m5⟩:=zn (J.out.below a1.below D)
   go_wp2_with fail
   refine (addK w1 _ w1.heap.size w1.heap.size 1 _ _ _ (a1) (by omega)).mono ?_;rintro e k2 ⟨rfl,a2⟩;clear m0 m1 m2 m3 m4 m5;obtain ⟨m0,m1,m2,m3,m4,m5⟩:=zn (J.out.below a2.below D)
   go_wp2_with fail
   refine (addK w1 _ w1.heap.size w1.heap.size 2 _ _ _ (a2) (by omega)).mono ?_;rintro e k3 ⟨rfl,a3⟩;clear m0 m1 m2 m3 m4 m5;obtain ⟨m0,m1,m2,m3,m4,m5⟩:=zn (J.out.below a3.below D)
   go_wp2_with fail
   refine (addK w1 _ w1.heap.size w1.heap.size 3 _ _ _ (a3) (by omega)).mono ?_;rintro e k4 ⟨rfl,a4⟩;clear m0 m1 m2 m3 m4 m5;obtain ⟨m0,m1,m2,m3,m4,m5⟩:=zn (J.out.below a4.below D)
   go_wp2_with fail
   refine (addK w1 _ w1.heap.size w1.heap.size 4 _ _ _ (a4) (by omega)).mono ?_;rintro e k5 ⟨rfl,a5⟩;clear m0 m1 m2 m3 m4 m5;obtain ⟨m0,m1,m2,m3,m4,m5⟩:=zn (J.out.below a5.below D)
   go_wp2_with fail
   refine (AN W H L _ _ _ _ (by omega) (by omega)).mono ?_;rintro e kn ⟨rfl,V⟩;have a5:=a5.more V;clear m0 m1 m2 m3 m4 m5;obtain ⟨m0,m1,m2,m3,m4,m5⟩:=zn (J.out.below a5.below D)
   go_wp2_with fail
   refine (addK w1 _ w1.heap.size w1.heap.size 5 _ _ _ (a5) (by omega)).mono ?_;rintro e k6 ⟨rfl,a6⟩;clear m0 m1 m2 m3 m4 m5;obtain ⟨m0,m1,m2,m3,m4,m5⟩:=zn (J.out.below a6.below D);obtain ⟨vf,b7,M⟩:=a6.end_;have HO:=zh M;clear M
   go_wp2_with fail
   go_ret;refine ⟨vf,rfl,BI T.out (Below.mono a6.below (EN _)) (EN _),?_⟩;exact next_fin (HO.out.mono T.out.size) (next_eq _ _ _ _ (up_false (Int.not_le.2 hA)) (up_false (Int.not_lt.2 hB)))
def MZ.n (m:MZ):Int:=m.w*m.h*m.l
theorem mem_ap {c:Bool}:y∈ap c x l↔y∈l\/(c=true/\y=x):=by
 unfold ap
 cases c <;> simp
theorem row_step {w k:Int} (z:0<w) (D:y<w*k) (E:y % w+1<w):y+1<w*k:=by
 have h1:=Int.emod_add_mul_ediv y w
 have h2:y / w<k:=by
  apply Int.ediv_lt_of_lt_mul z
  rwa [Int.mul_comm]
 have h3:w*(y / w+1)<=w*k:=Int.mul_le_mul_of_nonneg_left (by omega) (by omega);rw [Int.mul_add,Int.mul_one] at h3;omega
theorem layer_step {w h l:Int} (z:0<w) (E:0<h) (J:y<w*h*l) (I:y / w % h+1<h):y+w<w*h*l:=by
 have G:y / w<h*l:=by
  apply Int.ediv_lt_of_lt_mul z;rw [Int.mul_comm,<-Int.mul_assoc];exact J
 have h1:=row_step E G I;have h2:=Int.emod_add_mul_ediv y w;have h3:=Int.emod_lt_of_pos y z;have D:w*(y / w+2)<=w*(h*l):=Int.mul_le_mul_of_nonneg_left (by omega) (by omega);rw [Int.mul_add,<-Int.mul_assoc] at D;omega
theorem AG {m:MZ} (d:EF m) (h0:0<=y) (h1:y<m.n) (h:x∈zm m y):0<=x/\x<m.n:=by
 unfold MZ.n at h1⊢;obtain ⟨l1,l2⟩:=d.layer;have G:=d.w1;have E:=d.h1;simp only [zm,mem_ap,EZ,EX,zaa,false_or] at h;rcases h with ((((( ⟨⟨a,_⟩,rfl⟩) | ⟨a,rfl⟩) | ⟨a,rfl⟩) | ⟨a,rfl⟩) | ⟨a,rfl⟩) | ⟨⟨a,_⟩,rfl⟩
 ·omega
 ·have h2:1<=y / m.w:=by
   have:0<=y / m.w:=Int.ediv_nonneg h0 (by omega);rcases Int.lt_or_le 0 (y / m.w) with h | h
   ·omega
   ·have:y / m.w=0:=by omega
    rw [this] at a;simp at a
  have h3:=Int.emod_add_mul_ediv y m.w;have z:=Int.emod_nonneg y (show m.w≠0 by omega);have D:m.w*1<=m.w*(y / m.w):=Int.mul_le_mul_of_nonneg_left h2 (by omega);omega
 ·have:y≠0:=by rintro rfl;simp at a
  omega
 ·have:=row_step (y:=y) (w:=m.w) (k:=m.h*m.l) (by omega) (by rw [<-Int.mul_assoc];exact h1) a;rw [<-Int.mul_assoc] at this;omega
 ·have:=layer_step (by omega) (by omega) h1 a;omega
 ·omega
def zl (m:MZ) (t:Nat) (x:Int):Bool:=(m.free.getD t []).getD x.toNat false
def RP (m:MZ) (t:Nat) (from_ used:List Int) (x:Int):Prop:=
 ∀S:Int->Prop,(∀y∈from_,0<=y->y<m.n->S y)->(∀y z,S y->z∈zm m y->zl m t z=true->z∉used->S z)->S x
theorem RP.base {m:MZ} (h:x∈from_) (h0:0<=x) (h1:x<m.n):RP m t from_ used x:=fun _ z _=>z x h h0 h1
theorem RP.step {m:MZ} (h:RP m t from_ used y) (I:x∈zm m y) (E:zl m t x=true) (G:x∉used):RP m t from_ used x:=
 fun S D z=>z y x (h S D z) I E G
theorem RP.range {m:MZ} (d:EF m) (h:RP m t from_ used x):0<=x/\x<m.n:=
 h (fun x=>0<=x/\x<m.n) (fun y _ h0 h1=>⟨h0,h1⟩) (fun y z D E _ _=>AG d D.1 D.2 E)
theorem RP.congr {m:MZ} {from' used':List Int} (I:∀x,x∈from_↔x∈from') (J:∀x,x∈used↔x∈used') (h:RP m t from_ used x):RP m t from' used' x:=
 h _ (fun y E h0 h1=>RP.base ((I y).1 E) h0 h1) (fun y z E L G D=>E.step L G (fun h=>D ((J z).2 h)))
theorem nodup_nat:∀(n:Nat) (l:List Nat),l.Nodup->(∀x∈l,x<n)->l.length<=n
 | 0,l,_,h=>by
  cases l with
  | nil=>simp
  | cons a l=>exact absurd (h a (FA ..)) (by omega)
 | n+1,l,D,h=>by
  by_cases hm:n∈l
  ·have h1:=nodup_nat n (l.erase n) (D.erase n) (fun x z=>by
    have h2:=(D.mem_erase_iff).1 z;have h3:=h x h2.2;omega)
   rw [List.length_erase_of_mem hm] at h1;omega
  ·have h1:=nodup_nat n l D (fun x z=>by
    have h3:=h x z;have:x≠n:=by rintro rfl;exact hm z
    omega)
   omega
theorem Bz (L:l.Nodup) (n:Int) (D:∀x∈l,0<=x/\x<n):l.length<=n.toNat:=by
 have z:(l.map Int.toNat).Nodup:=by
  rw [List.nodup_iff_pairwise_ne,List.pairwise_map];refine List.Pairwise.imp_of_mem ?_ (List.nodup_iff_pairwise_ne.1 L);intro a b G J I he;have:=D a G;have:=D b J;omega
 have:=nodup_nat n.toNat (l.map Int.toNat) z (fun x E=>by
  rw [zac] at E;obtain ⟨y,M,rfl⟩:=E;have:=D y M;omega)
 simpa using this
theorem Bj {a w w':World} {g:Nat} (h:Below B a w) (G:w.grownBy w' (some g)) (D:B<=w.heap.size) (E:B<=g):Below B a w':=
 h.grown G D (fun k z=>by injection z with z;omega)
theorem setOf_calls {ok:Nat->Prop} {v:Value} (w:World) (h:zi w ok v l) (hl:l.length<=20000000000000):
  Calls Tryz.prog 60 #[v] w fun e w'=>∃s,e=.returned (.map (some w.heap.size))/\Below w.heap.size w w'/\zD w' w.heap.size s/\∀x,x∈s↔x∈l:=by
 obtain ⟨A,c,rfl,hc,O⟩:=h;have V:=zh O;clear O;have a3:=@run_makeMap Tryz.prog
 go_enter Tryz.func60,Tryz.ntmps60
 go_wp2;go_loopw [9] (fun i wr=>∃k s,k<=l.length/\i=.int .i64 (k:Nat)/\Hid (Below w.heap.size w wr)/\Hid (zD wr w.heap.size s)/\Hid (∀x,x∈s↔x∈l.take k)) (fun i _=>l.length - (intOf i).toNat)
 case atStart=>exact ⟨0,[],Fb _,rfl,(Below.refl _ _).alloc (EN _) _,zD.new w,by simp [Hid]⟩
 case round=>
  obtain ⟨k,s,hk,rfl,I,T,U⟩:=hrel;by_cases D:k<l.length
  ·obtain ⟨b,off,rfl,_,z⟩:=zy (V.out.keep (Ao.of_below I.out)) D D;obtain ⟨y,M⟩:=zak (l[k]);rw [<-M] at z;have Z:=zh M;clear M
   go_wp2_with (at_mapUpdate;refine CS rfl _ _ _ _ rfl Tryz.underlying79 w.heap.size s y rfl rfl rfl T.out ?_)
   intro w1 G E;have L:=zh G;clear G;have J:=zh E;clear E;go_wp2;go_roundw
   case rel=>exact ⟨k+1,ins s y,by omega,by go_num,Bj I.out J.out I.out.size (EN _),L.out,fun x=>by
    rw [mem_ins,Aj D,U.out,Z.out]⟩
   case measure=>simp [intOf];omega
  ·obtain rfl:k=l.length:=by omega
   go_wp2;go_ret;exact ⟨s,rfl,I.out,T.out,fun x=>by have:=U.out x;rwa [EY] at this⟩
def zA (w:World) (B:Nat) (v:Value) (l:List Int):Prop:=w.ownsRow B 3 1 v l.length (l.map (Value.int .i64))
theorem AP (E:o.guard=none) (s y:Operand)
  (T:o.op=.call { callee:=.builtin .append,args:=#[s,y],argTypes:=#[23,23] }) (W:World) (l:List Int) (x:Int) (B g c:Nat) (v:Value) (U:a.eval s=v)
  (V:a.eval y=.slice (some ⟨g,0,none⟩) 1 c) (z:W.ownsRow B 3 1 v l.length (l.map (Value.int .i64))) (M:W.cell? ⟨g,0,none⟩=some (.int .i64 x)) (L:B<=W.heap.size) (Z:l.length<=1000000000000)
  (h:∀v' w',zA w' B v' (l++[x])->Hid (W.grownBy w' v.ownBlock)->Hid (v'.ownBlock=v.ownBlock\/v'.ownBlock=some W.heap.size)->wpList Tryz.prog ops Q rest (a.put o.dst v') w'):wpList Tryz.prog ops Q (o :: rest) a W:=by
 obtain ⟨i0,O,G,I,J⟩:=info_parts Tryz.infoInt;refine wpList_append_own_at _ E _ _ 23 T B 3 i0 (.int .i64 0) 1 8 Tryz.underlying23 O G I J rfl (by decide) _ _ _ U z ⟨g,0,none⟩ 1 c [.int .i64 x] V rfl ?_ ?_ ?_ ?_ L ?_
 ·intro j u D
  match j,D with
  | 0,D=>
   have:u=.int .i64 x:=by simpa using D.symm
   rw [this];exact M
 ·intro u D;have:u=.int .i64 x:=by simpa using D
  rw [this];rfl
 ·unfold maxLen;omega
 ·omega
 ·intro v' w' h1 h2 _ h3;refine h v' w' ?_ h2 h3;unfold zA;rw [map_snoc,EV];exact h1
structure RI (w wr:World) (g:Nat) (mv:Array Value) (s todo:List Int) (v:Value):Prop where
 below:Below w.heap.size w wr
 ge:w.heap.size<=g
 box:zg wr g 32 mv
 set:zD wr (g+1) s
 own:wr.ownsRow (g+2) 3 1 v todo.length (todo.map (Value.int .i64))
section
variable {w wr w':World} {g:Nat} {mv:Array Value} {s todo:List Int} {v:Value}
theorem RI.lt (h:RI w wr g mv s todo v):g+1<wr.heap.size:=zd h.set
theorem RI.call (h:RI w wr g mv s todo v) (z:Below wr.heap.size wr w'):RI w w' g mv s todo v:=
 ⟨BI h.below z (EN _),h.ge,h.box.below z (by have:=h.lt;omega),h.set.below z,
  h.own.kept (row:=none) ⟨z.os,z.tape,z.output,z.size,fun i D _=>z.block i D⟩ (by cases h:v.ownBlock <;> simp)⟩
theorem RI.alloc (h:RI w wr g mv s todo v) (o:Obj):RI w (wr.alloc o) g mv s todo v:=h.call ((Below.refl _ _).alloc (EN _) _)
theorem RI.add (h:RI w wr g mv s todo v) (D:zD w' (g+1) (ins s x)) (z:wr.grownBy w' (some (g+1))):RI w w' g mv (ins s x) todo v:=
 ⟨Bj h.below z h.below.size (by have:=h.ge;omega),h.ge,(z.block g (by have:=h.lt;omega) (fun e=>by injection e;omega)).trans h.box,D,
  h.own.kept z (.inr (fun e=>by have:=(h.own.lt _ e).1;omega))⟩
theorem RI.app (h:RI w wr g mv s todo v) (E:w'.ownsRow (g+2) 3 1 v' (todo++[x]).length ((todo++[x]).map (Value.int .i64))) (z:wr.grownBy w' v.ownBlock):RI w w' g mv s (todo++[x]) v':=
 ⟨h.below.grown z h.below.size (fun k D=>by have:=(h.own.lt _ D).1;have:=h.ge;omega),h.ge,
  (z.block g (by have:=h.lt;omega) (fun e=>by have:=(h.own.lt _ e.symm).1;omega)).trans h.box,
  (z.block (g+1) h.lt (fun e=>by have:=(h.own.lt _ e.symm).1;omega)).trans h.set,E⟩
end
theorem look_t {w:World} {g:Nat} (h:zD w g l) (z:x∈l):(Instr.lookup 79 (.map (some g)) (.int .i64 x) false).run Tryz.prog w=.ok (.bool true) w:=by
 have:=run_look h x 79 Tryz.underlying79
 rwa [EQ z] at this
theorem look_f {w:World} {g:Nat} (h:zD w g l) (z:x∉l):(Instr.lookup 79 (.map (some g)) (.int .i64 x) false).run Tryz.prog w=.ok (.bool false) w:=by
 have:=run_look h x 79 Tryz.underlying79
 rwa [ER z] at this
theorem ins_new (h:x∉l):ins l x=l++[x]:=by simp [ins,h]
theorem nodup_snoc (h:l.Nodup) (E:x∉l):(l++[x]).Nodup:=by
 rw [List.nodup_append]
 exact ⟨h,by simp,fun a z b D=>by
  have:b=x:=by simpa using D
  subst this;rintro rfl;exact E z⟩
structure RO (m:MZ) (t:Nat) (from_ used s todo:List Int):Prop where
 nd:s.Nodup
 rp:∀x∈s,RP m t from_ used x
 fr:∀x∈from_,0<=x->x<m.n->x∈s
 sub:∀x∈todo,x∈s
 cl:∀y∈s,y∉todo->∀z∈zm m y,zl m t z=true->z∉used->z∈s
 ln:todo.length<=s.length
structure RJ (m:MZ) (t:Nat) (from_ used s todo:List Int) (x:Int) (j:Nat):Prop where
 nd:s.Nodup
 rp:∀x∈s,RP m t from_ used x
 fr:∀x∈from_,0<=x->x<m.n->x∈s
 sub:∀x∈todo,x∈s
 xs:x∈s
 cl:∀y∈s,y∉todo->y≠x->∀z∈zm m y,zl m t z=true->z∉used->z∈s
 cx:∀z∈(zm m x).take j,zl m t z=true->z∉used->z∈s
 ln:todo.length<=s.length
theorem RO.pop {m:MZ} {s todo:List Int} (h:RO m t from_ used s (todo++[x])):RJ m t from_ used s todo x 0:=
 ⟨h.nd,h.rp,h.fr,fun y D=>h.sub y (by simp [D]),h.sub x (by simp),fun y D E z=>h.cl y D (by simp [E,z]),by simp,by have:=h.ln;simp at this;omega⟩
theorem RJ.skip {m:MZ} {s todo:List Int} (h:RJ m t from_ used s todo x j) (G:j<(zm m x).length) (I:(zm m x)[j]∈s\/zl m t (zm m x)[j]=false\/(zm m x)[j]∈used):
  RJ m t from_ used s todo x (j+1):=
 ⟨h.nd,h.rp,h.fr,h.sub,h.xs,h.cl,fun z J D E=>by
  rcases (Aj G z).1 J with h1 | h1
  ·exact h.cx z h1 D E
  ·subst h1;rcases I with h2 | h2 | h2
   ·exact h2
   ·rw [D] at h2;cases h2
   ·exact absurd h2 E,h.ln⟩
theorem RJ.push {m:MZ} {s todo:List Int} (h:RJ m t from_ used s todo x j) (L:j<(zm m x).length) (T:(zm m x)[j]∉s) (O:zl m t (zm m x)[j]=true) (U:(zm m x)[j]∉used):
  RJ m t from_ used (s++[(zm m x)[j]]) (todo++[(zm m x)[j]]) x (j+1):=
 ⟨nodup_snoc h.nd T,fun y hy=>by
   rw [FE,Fv] at hy;rcases hy with hy | rfl
   ·exact h.rp y hy
   ·exact (h.rp x h.xs).step (EO L) O U,
  fun y hy h0 h1=>by simp [h.fr y hy h0 h1],
  fun y hy=>by
   rw [FE,Fv] at hy⊢;rcases hy with hy | hy
   ·exact .inl (h.sub y hy)
   ·exact .inr hy,
  by simp [h.xs],
  fun y hy G I z J D E=>by
   rw [FE,Fv] at hy G;rcases hy with hy | hy
   ·simp [h.cl y hy (fun M=>G (.inl M)) I z J D E]
   ·exact absurd (.inr hy) G,
  fun z J D E=>by
   rcases (Aj L z).1 J with h1 | h1
   ·simp [h.cx z h1 D E]
   ·simp [h1],by have:=h.ln;simp;omega⟩
theorem RJ.done {m:MZ} {s todo:List Int} (h:RJ m t from_ used s todo x j) (I:(zm m x).length<=j):RO m t from_ used s todo:=
 ⟨h.nd,h.rp,h.fr,h.sub,fun y L J z M E G=>by
  by_cases D:y=x
  ·subst D;exact h.cx z (by rwa [List.take_of_length_le I]) E G
  ·exact h.cl y L J D z M E G,h.ln⟩
theorem RO.end_ {m:MZ} {s:List Int} (h:RO m t from_ used s []) (x:Int):x∈s↔RP m t from_ used x:=
 ⟨h.rp x,fun E=>E (·∈s) h.fr (fun y z I J D G=>h.cl y I (by simp) z J D G)⟩
theorem BG {w:World} {base:Nat} {e:TypeId} {size g n cap:Nat} {xs:List Value} (h:w.ownsRow base e size (.slice (some ⟨g,0,none⟩) n cap) n xs):n<=cap:=by
 rcases h.2 with ⟨h0,_⟩ | ⟨g',cap',cur,D,_,_,z,_⟩
 ·cases h0
 ·cases D;exact z
theorem Ba (m:MZ) (x:Int):(zm m x).length<=6:=by
 have h (c:Bool) (y:Int) (l:List Int) (k:Nat) (z:l.length<=k):(ap c y l).length<=k+1:=EP (ap_len c y l) (by omega);unfold zm;exact h _ _ _ 5 (h _ _ _ 4 (h _ _ _ 3 (h _ _ _ 2 (h _ _ _ 1 (h _ _ _ 0 (by simp))))))
theorem reach_calls {ok ok':Nat->Prop} {vm vf:Value} {m:MZ} {gu:Nat} (t:Nat) (w:World) (hm:zt w ok vm m) (d:EF m) (ht:t<m.free.length) (f8:∀f∈m.free,(f.length:Int)=m.n)
  (hf:zi w ok' vf from_) (hl:from_.length<=20000000000000) (hu:zD w gu used):
  Calls Tryz.prog 59 #[vm,.int .i64 t,vf,.map (some gu)] w fun e w'=>∃s,e=.returned (.map (some (w.heap.size+1)))/\Below w.heap.size w w'/\zD w' (w.heap.size+1) s/\∀x,x∈s↔RP m t from_ used x:=by
 have g3:=hm;obtain ⟨vfr,vup,vts,rfl,a7,_,_⟩:=hm;obtain ⟨vsf,⟨Af,cf,rfl,l8,g6⟩,f7⟩:=a7;obtain ⟨A,c,rfl,hc,hr⟩:=hf;obtain ⟨m7,m8⟩:=d.layer;have D:=zh d;obtain ⟨w1,w2,l9,m6,ll1,ll2,n1,j6⟩:=d;have HM:=zh g3;clear g3;have i1:=zh g6;clear g6;have h9:=zh f7;clear f7;have HR:=zh hr;clear hr;have HU:=zh hu;clear hu;have i0:=zh f8;clear f8 j6;have hN:0<=m.w*m.h*m.l:=by omega
 have n0:=@run_makeMap Tryz.prog
 go_enter Tryz.func59,Tryz.ntmps59
 go_wp2
 have f3:RI w ((w.alloc (.cells #[.int .i64 m.w,.int .i64 m.h,.int .i64 m.l,.slice Af m.free.length cf,vup,vts] 32)).alloc (.map #[] 0)) w.heap.size #[.int .i64 m.w,.int .i64 m.h,.int .i64 m.l,.slice Af m.free.length cf,vup,vts] [] [] (.slice none 0 0):=by
  refine ⟨((Below.refl _ _).alloc (EN _) _).alloc (by simp) _,EN _,?_,?_,World.ownsRow_nil _ _ _ _⟩
  ·exact zg.alloc (FB w _) _
  ·have:=zD.new (w.alloc (.cells #[.int .i64 m.w,.int .i64 m.h,.int .i64 m.l,.slice Af m.free.length cf,vup,vts] 32));simpa using this
 go_loopw [10,19] (fun v i wr=>∃k s,k<=from_.length/\i=.int .i64 (k:Nat)/\Hid (RI w wr w.heap.size #[.int .i64 m.w,.int .i64 m.h,.int .i64 m.l,.slice Af m.free.length cf,vup,vts] s s v)/\Hid (s.Nodup)/\Hid (∀x,x∈s↔x∈from_.take k/\0<=x/\x<m.n)) (fun _ i _=>from_.length - (intOf i).toNat)
 case atStart=>exact ⟨0,[],Fb _,rfl,f3,List.nodup_nil,by simp [Hid]⟩
 clear f3
 case round=>
  obtain ⟨k,s,hk,rfl,hI,hnd,hx⟩:=hrel;by_cases z:k<from_.length
  ·obtain ⟨b,off,rfl,_,G⟩:=zy (HR.out.keep (Ao.of_below hI.out.below)) z z;obtain ⟨y,hy⟩:=zak (from_[k]);rw [<-hy] at G;have HY:=zh hy;clear hy;obtain ⟨m0,m1,m2,m3,m4,m5⟩:=zn hI.out.box;by_cases h4:0<=y
   ·by_cases j9:y<m.w*m.h*m.l
    ·have c9:∀W:World,Calls Tryz.prog 43 #[.agg #[.int .i64 m.w,.int .i64 m.h,.int .i64 m.l,.slice Af m.free.length cf,vup,vts]] W _:=fun W=>AN m.w m.h m.l _ vup vts W (by omega) (by omega)
     have c8:=zh c9;clear c9;by_cases E:y∈s
     ·go_wp2_with fail
      refine (c8.out _).mono ?_;rintro e w' ⟨rfl,hb⟩;have V:=zh (hI.out.call hb);have a9:=look_t V.out.set E
      go_wp2_with fail
      go_roundw
      case rel=>exact ⟨k+1,s,by omega,by go_num,V,hnd,fun x=>by
       rw [Aj z,hx.out,<-HY.out];constructor
       ·rintro ⟨h1,h2⟩;exact ⟨.inl h1,h2⟩
       ·rintro ⟨h1 | rfl,h2⟩
        ·exact ⟨h1,h2⟩
        ·exact (hx.out x).1 E⟩
      case measure=>simp [intOf];omega
     ·go_wp2_with fail
      refine (c8.out _).mono ?_;rintro e w' ⟨rfl,hb⟩;have V:=zh (hI.out.call hb);have a9:=look_f V.out.set E
      go_wp2_with (at_mapUpdate;refine CS rfl _ _ _ _ rfl Tryz.underlying79 (w.heap.size+1) s y rfl rfl rfl V.out.set ?_)
      intro wa b5 O;have L:=zh (V.out.add b5 O);have Z:wa.heap.size=wa.heap.size:=rfl;have j1:w.heap.size+2<=wa.heap.size:=L.out.lt;have d5:=Bz hnd.out m.n (fun x j8=>((hx.out x).1 j8).2);have j2:s.length<=300:=by unfold MZ.n at d5;omega
      clear b5 O a9 d5
      go_wp2_with (at_builtin;refine AP rfl _ _ rfl _ s y (w.heap.size+2) wa.heap.size 1 _ rfl rfl (L.out.own.alloc _) ?c1 ?c2 ?c3 ?_)
      case c2=>(first | omega | (simp;omega))
      case c3=>omega
      intro v' wb b1 T _;have e3:=zh ((L.out.alloc _).app b1 T.out);clear b1 T;go_wp2;go_roundw
      case rel=>exact ⟨k+1,s++[y],by omega,by go_num,by have:=e3.out;rwa [ins_new E] at this,nodup_snoc hnd.out E,fun x=>by
       rw [FE,Fv,Aj z,hx.out,<-HY.out];constructor
       ·rintro (⟨h1,h2⟩ | rfl)
        ·exact ⟨.inl h1,h2⟩
        ·exact ⟨.inr rfl,h4,j9⟩
       ·rintro ⟨h1 | rfl,h2⟩
        ·exact .inl ⟨h1,h2⟩
        ·exact .inr rfl⟩
      case measure=>simp [intOf];omega
    ·go_wp2_with (go_at_call 43;refine (AN _ _ _ _ _ _ _ (by omega) (by omega)).mono ?_;rintro e w' ⟨rfl,hb⟩)
     go_roundw
     case rel=>exact ⟨k+1,s,by omega,by go_num,hI.out.call ‹_›,hnd,fun x=>by
      rw [Aj z,hx.out,<-HY.out];constructor
      ·rintro ⟨h1,h2⟩;exact ⟨.inl h1,h2⟩
      ·rintro ⟨h1 | rfl,h2,h3⟩
       ·exact ⟨h1,h2,h3⟩
       ·unfold MZ.n at h3;omega⟩
     case measure=>simp [intOf];omega
   ·go_wp2;go_roundw
    case rel=>exact ⟨k+1,s,by omega,by go_num,hI,hnd,fun x=>by
     rw [Aj z,hx.out,<-HY.out];constructor
     ·rintro ⟨h1,h2⟩;exact ⟨.inl h1,h2⟩
     ·rintro ⟨h1 | rfl,h2,h3⟩
      ·exact ⟨h1,h2,h3⟩
      ·omega⟩
    case measure=>simp [intOf];omega
  ·obtain rfl:k=from_.length:=by omega
   have b7:Hid (∀x,x∈s↔x∈from_/\0<=x/\x<m.n):=fun x=>by have:=hx.out x;rwa [EY] at this
   clear hx;have hO:Hid (RO m t from_ used s s):=⟨hnd.out,fun x h=>RP.base ((b7.out x).1 h).1 ((b7.out x).1 h).2.1 ((b7.out x).1 h).2.2,fun x h h0 h1=>(b7.out x).2 ⟨h,h0,h1⟩,fun x h=>h,fun y h hn=>absurd h hn,EN _⟩;clear b7 hnd z hk;go_wp2
   go_loopg [10] (2*(m.n.toNat - s.length)+s.length) (fun gk v wr=>∃s todo,gk=2*(m.n.toNat - s.length)+todo.length/\Hid (RI w wr w.heap.size #[.int .i64 m.w,.int .i64 m.h,.int .i64 m.l,.slice Af m.free.length cf,vup,vts] s todo v)/\Hid (RO m t from_ used s todo))
   case atStart=>exact ⟨s,s,rfl,hI,hO⟩
   clear hI hO
   case round=>
    obtain ⟨s,todo,rfl,hI,hO⟩:=hrel;obtain ⟨wo,rfl⟩:∃wo:World,wo=wr:=⟨_,rfl⟩;rcases List.eq_nil_or_concat todo with rfl | ⟨td,x,rfl⟩
    ·obtain ⟨A0,c0,hv⟩:∃A0 c0,u10=.slice A0 0 c0:=by
      obtain ⟨A0,c0,hv,_⟩:=zV.of_own hI.out.own;exact ⟨A0,c0,hv⟩
     subst hv;go_wp2;go_ret;exact ⟨s,rfl,hI.out.below,hI.out.set,hO.out.end_⟩
    ·rw [List.concat_eq_append] at hI hO;obtain ⟨gt,ct,hv,k5,f9⟩:=hI.out.own.form (by simp);subst hv;have e9:(td++[x]).length=td.length+1:=by simp
     try rw [e9]
     have j0:wo.cell? ⟨gt,td.length,none⟩=some (.int .i64 x):=by
      have:=hI.out.own.cellAt td.length (by simp);rw [this];simp
     have hJ:=zh hO.out.pop;have i9:=BG hI.out.own;rw [e9] at i9;have j4:=(hO.out.rp x (hJ.out.xs)).range D.out;have j5:=Bz hO.out.nd m.n (fun y hy=>(hO.out.rp y hy).range D.out);have n4:=hJ.out.ln;have k8:s.length<=300:=by unfold MZ.n at j5;omega
     obtain ⟨g8,g9⟩:=j4;obtain ⟨m0,m1,m2,m3,m4,m5⟩:=zn hI.out.box
     have e0:Hid (RI w wo w.heap.size #[.int .i64 m.w,.int .i64 m.h,.int .i64 m.l,.slice Af m.free.length cf,vup,vts] s td (.slice (some ⟨gt,0,none⟩) td.length ct)):=by
      have h:=hI.out.own;refine ⟨hI.out.below,hI.out.ge,hI.out.box,hI.out.set,?_⟩;rw [map_snoc,e9] at h;exact ownsRow_pop (by simp) h
     clear hI hO
     go_wp2_with fail
     refine (DC m x wo (HM.out.keep (Ao.of_below e0.out.below)) D.out g8 g9).mono ?_;rintro e wk ⟨v',rfl,f5,e8⟩;have f2:=zh (e0.out.call f5);have g4:=zh (zV.of_own e8);have k6:=zh e8;clear e8;obtain ⟨A2,c2,j7,l7,d6⟩:=g4.out;subst j7;clear g4;have n3:=Ba m x;have j3:=HM.out;have f1:=zh d6;clear d6;clear j3 m0 m1 m2 m3 m4 m5 j0;have l2:wo.heap.size<=wk.heap.size:=f5.size;go_wp2;go_loopw [10,62] (fun v i wi=>∃j s' todo',j<=(zm m x).length/\i=.int .i64 (j:Nat)/\Hid (RI w wi w.heap.size #[.int .i64 m.w,.int .i64 m.h,.int .i64 m.l,.slice Af m.free.length cf,vup,vts] s' todo' v)/\Hid (RJ m t from_ used s' todo' x j)/\Hid (Ao (fun b=>wo.heap.size<=b/\b<wk.heap.size) wk wi)/\Hid (∀k,v.ownBlock=some k->k<wo.heap.size\/wk.heap.size<=k)/\Hid (wk.heap.size<=wi.heap.size)/\Hid (todo'.length+s.length=td.length+s'.length/\s.length<=s'.length)) (fun _ i _=>(zm m x).length - (intOf i).toNat)
     case atStart=>exact ⟨0,s,td,Fb _,rfl,f2,hJ,Ao.refl _ _,fun k hk=>by
      have:k=gt:=by simpa [Value.ownBlock] using hk.symm
      subst this;exact .inl f9,EN _,rfl,EN _⟩
     clear e0 f2 hJ
     case round=>
      obtain ⟨j,s',todo',hj,rfl,hI,hJ,hS,a5,Z,b0⟩:=hrel;by_cases a8:j<(zm m x).length
      ·obtain ⟨b2,off2,rfl,i6,I⟩:=zy f1.out a8 a8;have a6:=zp I;have G:=(CZ (hS.out b2 ⟨i6,a6⟩ a6)).trans I;clear I;have h5:=AG D.out g8 g9 (EO a8);have J:=zh (hJ.out.skip a8);have b3:=zh (hJ.out.push a8);obtain ⟨y,hy⟩:=zak ((zm m x)[j]);rw [<-hy] at G h5 J b3;clear hy;obtain ⟨h4,n5⟩:=h5;obtain ⟨m0,m1,m2,m3,m4,m5⟩:=zn hI.out.box;obtain ⟨bf,off3,uf,rfl,_,d4,i7⟩:=zO (i1.out.keep (Ao.of_below hI.out.below)) h9.out ht ht;have M:=i0.out _ (EO ht);obtain ⟨A4,c4,rfl,i8,g5⟩:=i7;have c6:y.toNat<(m.free[t]).length:=by omega
       obtain ⟨b4,off4,rfl,_,U⟩:=BR (g5.keep (Ao.of_below hI.out.below)) c6 c6;have a7:(m.free[t])[y.toNat]=zl m t y:=by simp [zl,ht,c6]
       rw [a7] at U;have l3:=zh a7;clear a7;obtain ⟨nf,e7⟩:=zak ((m.free[t]).length);rw [<-e7] at d4 c6 M i8;have l4:=zh e7;clear e7;have k3:=zh M;clear M;clear g5;have b6:=hI.out.set;have d9:=HU.out.below hI.out.below;by_cases E:y∈s'
       ·have a9:=look_t b6 E;go_wp2;go_roundw
        case rel=>exact ⟨j+1,s',todo',by omega,by go_num,hI,J.out (.inl E),hS,a5,Z,b0⟩
        case measure=>simp [intOf];omega
       ·have a9:=look_f b6 E;by_cases hf:zl m t y=true
        ·rw [hf] at U;by_cases c7:y∈used
         ·have g0:=look_t d9 c7;have HF:=zh hf;clear hf;go_wp2;go_roundw
          case rel=>exact ⟨j+1,s',todo',by omega,by go_num,hI,J.out (.inr (.inr c7)),hS,a5,Z,b0⟩
          case measure=>simp [intOf];omega
         ·have g0:=look_f d9 c7;have HF:=zh hf;clear hf;have i2:=zh (b3.out E HF.out c7);have d7:=Bz hJ.out.nd m.n (fun y hy=>(hJ.out.rp y hy).range D.out);have k9:=hJ.out.ln;have l0:todo'.length<=300:=by unfold MZ.n at d7;omega
          go_wp2_with (at_mapUpdate;refine CS rfl _ _ _ _ rfl Tryz.underlying79 (w.heap.size+1) s' y rfl rfl rfl hI.out.set ?_)
          intro wa b5 O;have L:=zh (hI.out.add b5 O)
          have i4:Hid (Ao (fun b=>wo.heap.size<=b/\b<wk.heap.size) wk wa):=fun b hb z=>by
           refine (O.block b (Fq z Z.out) (fun e=>?_)).trans (hS.out b hb z);injection e with e;have:=hb.1;omega
          have f0:Hid (wk.heap.size<=wa.heap.size):=EP Z.out O.size;have j1:w.heap.size+2<=wa.heap.size:=L.out.lt;clear b5 O a9 g0 b6 d9 m0 m1 m2 m3 m4 m5 d4 U G
          go_wp2_with (at_builtin;refine AP rfl _ _ rfl _ todo' y (w.heap.size+2) wa.heap.size 1 _ rfl rfl (L.out.own.alloc _) ?d1 ?d2 ?d3 ?_)
          (try case d1=>simp)
          case d2=>(first | omega | (simp;omega))
          case d3=>omega
          intro v' wb b1 T f6;have e3:=zh ((L.out.alloc _).app b1 T.out)
          have i3:Hid (∀k,v'.ownBlock=some k->k<wo.heap.size\/wk.heap.size<=k):=fun k hk=>by
           rcases f6.out with e | e
           ·exact a5.out k (e ▸ hk)
           ·have:k=wa.heap.size+1 - 1+1:=by
             rw [e] at hk;simpa using hk.symm
            have:=f0.out;omega
          have i5:Hid (Ao (fun b=>wo.heap.size<=b/\b<wk.heap.size) wk wb):=fun b hb z=>by
           have hz:=f0.out;refine (T.out.block b (by simp;omega) (fun e=>?_)).trans ((Ff wa _ b (by omega)).trans (i4.out b hb z));have h1:=a5.out b e.symm;have h2:=hb.1;omega
          have k2:Hid (wk.heap.size<=wb.heap.size):=by
           have h1:=T.out.size;have h2:=f0.out;simp at h1;show _<=_;omega
          clear b1 T f6;go_wp2;go_roundw
          case rel=>exact ⟨j+1,s'++[y],todo'++[y],by omega,by go_num,by have:=e3.out;rwa [ins_new E] at this,i2,i5,i3,k2,by have h1:=b0.out;show _/\_;simp only [EV,zai,zaj];omega⟩
          case measure=>simp [intOf];omega
        ·have e5:zl m t y=false:=by simpa using hf
         rw [e5] at U;have HF:=zh e5;clear hf e5;go_wp2;go_roundw
         case rel=>exact ⟨j+1,s',todo',by omega,by go_num,hI,J.out (.inr (.inl HF.out)),hS,a5,Z,b0⟩
         case measure=>simp [intOf];omega
      ·have e4:=zh (hJ.out.done (by omega));have d7:=Bz e4.out.nd m.n (fun y hy=>(e4.out.rp y hy).range D.out);have m9:=b0.out;go_wp2
       go_roundg (2*(m.n.toNat - s'.length)+todo'.length)
       case measure=>
        have h1:(td.concat x).length=td.length+1:=by simp
        rw [h1];omega
       case rel=>exact ⟨s',todo',rfl,hI,e4⟩
theorem BD {α:Type} {l:List α} (p:α->Bool) (h:k<l.length):(l.take (k+1)).any p=((l.take k).any p || p l[k]):=by
 rw [EU h,List.any_append];simp
theorem Bi {n: FuncId} {fn: Func} (h : P.funcs[n]? = some fn) (hn : (fn.name == "runtime.NumGoroutine") = false) (hb : fn.body.isNone = false) (a : Array Value) (w : World) : (callFunc n a).run P w = .ok (.enter n a) w := by
 unfold callFunc;simp only [Sem.run_bind,run_program,Result.andThen_ok,h,hn,hb,Bool.false_eq_true,if_false,Sem.run_pure]
theorem DS {ok:Nat->Prop} {v:Value} (n:FuncId) (caps:Array Value) (p:Int->Bool) (w:World) (h:zi w ok v l) (hl:l.length<=20000000000000)
  (a7:∀(a:Array Value) (w:World),(callFunc n a).run Tryz.prog w=.ok (.enter n a) w)
  (hp:∀x∈l,∀w1,zM w w1->Calls Tryz.prog n (#[.int .i64 x]++caps) w1 fun e w'=>e=.returned (.bool (p x))/\zM w1 w'):
  Calls Tryz.prog 82 #[v,.func (.func n) #[] caps] w fun e w'=>∃r:Int,e=.returned (.int .i64 r)/\(0<=r↔l.any p=true)/\-1<=r/\zM w w':=by
 obtain ⟨A,c,rfl,hc,hr⟩:=h;have HR:=zh hr;clear hr;have HP:=zh hp;clear hp
 go_enter Tryz.func82,Tryz.ntmps82
 go_wp2_with fail
 go_loopw [8] (fun i wr=>∃k:Nat,k<=l.length/\i=.int .i64 k/\Hid ((l.take k).any p=false)/\Hid (zM w wr)) (fun i _=>l.length - (intOf i).toNat)
 case atStart=>exact ⟨0,Fb _,rfl,by simp [Hid],zM.refl _⟩
 case round=>
  obtain ⟨k,hk,rfl,hn,T⟩:=hrel;by_cases M:k<l.length
  ·obtain ⟨b,off,rfl,_,L⟩:=zy (HR.out.keep (T.out.same ok)) M M;obtain ⟨x,V⟩:=zak (l[k]);rw [<-V] at L;have U:x∈l:=by rw [V];exact EO _
   have G:=zh (BD p M);rw [<-V] at G;clear V;have z:=zh (HP.out x U wr T.out);by_cases E:p x=true
   ·go_wp2_with fail
    refine z.out.mono ?_;rintro e w1 ⟨rfl,D⟩;rw [E];have I:=zh (T.out.trans D);clear D;have J:=zh E;clear E
    go_wp2_with fail
    go_ret;refine ⟨_,rfl,⟨fun _=>?_,fun _=>by omega⟩,by omega,I.out⟩;rw [zaf];exact ⟨x,U,J.out⟩
   ·have O:p x=false:=by simpa using E
    clear E
    go_wp2_with fail
    refine z.out.mono ?_;rintro e w1 ⟨rfl,D⟩;rw [O];have I:=zh (T.out.trans D);clear D;have J:=zh O;clear O
    go_wp2_with fail
    go_roundw
    case rel=>exact ⟨k+1,by omega,by go_num,by
     show _=false;rw [G.out,hn.out,J.out];rfl,I⟩
    case measure=>simp [intOf];omega
  ·obtain rfl:k=l.length:=by omega
   go_wp2;go_ret;have h:=hn.out;rw [EY] at h;refine ⟨_,rfl,⟨fun Z=>by omega,fun Z=>?_⟩,by omega,T.out⟩;rw [h] at Z
   cases Z
theorem indexFuncB_calls {ok:Nat->Prop} {v:Value} {l:List (List Bool)} (n:FuncId) (caps:Array Value) (p:List Bool->Bool) (w:World) (h:Each (An w ok) w ok v l) (hl:l.length<=20000000000000)
  (a9:∀(a:Array Value) (w:World),(callFunc n a).run Tryz.prog w=.ok (.enter n a) w)
  (hp:∀x∈l,∀u,An w ok u x->∀w1,zM w w1->Calls Tryz.prog n (#[u]++caps) w1 fun e w'=>e=.returned (.bool (p x))/\zM w1 w'):
  Calls Tryz.prog 102 #[v,.func (.func n) #[] caps] w fun e w'=>∃r:Int,e=.returned (.int .i64 r)/\(0<=r↔l.any p=true)/\-1<=r/\zM w w':=by
 obtain ⟨vs,⟨A,c,rfl,hc,hr⟩,he⟩:=h;have HR:=zh hr;clear hr;have HE:=zh he;clear he;have HP:=zh hp;clear hp
 go_enter Tryz.func102,Tryz.ntmps102
 go_wp2_with fail
 go_loopw [8] (fun i wr=>∃k:Nat,k<=l.length/\i=.int .i64 k/\Hid ((l.take k).any p=false)/\Hid (zM w wr)) (fun i _=>l.length - (intOf i).toNat)
 case atStart=>exact ⟨0,Fb _,rfl,by simp [Hid],zM.refl _⟩
 case round=>
  obtain ⟨k,hk,rfl,hn,O⟩:=hrel;by_cases L:k<l.length
  ·obtain ⟨b,off,u,rfl,_,Z,hu⟩:=zO (HR.out.keep (O.out.same ok)) HE.out L L;obtain ⟨x,U⟩:=zak (l[k]);rw [<-U] at hu;have T:x∈l:=by rw [U];exact EO _
   have G:=zh (BD p L);rw [<-U] at G;clear U;have z:=zh (HP.out x T u hu wr O.out);clear hu;by_cases E:p x=true
   ·go_wp2_with fail
    refine z.out.mono ?_;rintro e w1 ⟨rfl,D⟩;rw [E];have I:=zh (O.out.trans D);clear D;have J:=zh E;clear E
    go_wp2_with fail
    go_ret;refine ⟨_,rfl,⟨fun _=>?_,fun _=>by omega⟩,by omega,I.out⟩;rw [zaf];exact ⟨x,T,J.out⟩
   ·have M:p x=false:=by simpa using E
    clear E
    go_wp2_with fail
    refine z.out.mono ?_;rintro e w1 ⟨rfl,D⟩;rw [M];have I:=zh (O.out.trans D);clear D;have J:=zh M;clear M
    go_wp2_with fail
    go_roundw
    case rel=>exact ⟨k+1,by omega,by go_num,by
     show _=false;rw [G.out,hn.out,J.out];rfl,I⟩
    case measure=>simp [intOf];omega
  ·obtain rfl:k=l.length:=by omega
   go_wp2;go_ret;have h:=hn.out;rw [EY] at h;refine ⟨_,rfl,⟨fun V=>by omega,fun V=>?_⟩,by omega,O.out⟩;rw [h] at V
   cases V
theorem Bh {ok:Nat->Prop} {v:Value} {l:List (Int)} (n:FuncId) (caps:Array Value) (p:Int->Bool) (w:World) (h:zi w ok v l) (J:l.length<=20000000000000) (D:∀(a:Array Value) (w:World),(callFunc n a).run Tryz.prog w=.ok (.enter n a) w)
  (hp:∀x∈l,∀w1,zM w w1->Calls Tryz.prog n (#[.int .i64 x]++caps) w1 fun e w'=>e=.returned (.bool (p x))/\zM w1 w'):
  Calls Tryz.prog 54 #[v,.func (.func n) #[] caps] w fun e w'=>e=.returned (.bool (l.any p))/\zM w w':=by
 have H:=zh (DS n caps p w h J D hp);clear hp;obtain ⟨A,c,rfl,M,z⟩:=h;clear z
 go_enter Tryz.func54,Tryz.ntmps54
 go_wp2_with fail
 refine H.out.mono ?_;rintro e w1 ⟨r,rfl,z,L,E⟩;have I:=zh z;clear z;have G:=zh E;clear E
 go_wp2_with fail
 go_ret;refine ⟨zf ?_,G.out⟩;rw [Bool.eq_iff_iff,decide_eq_true_iff];exact I.out
theorem EG {ok:Nat->Prop} {v:Value} {l:List (List Bool)} (n:FuncId) (caps:Array Value) (p:List Bool->Bool) (w:World) (h:Each (An w ok) w ok v l) (J:l.length<=20000000000000) (D:∀(a:Array Value) (w:World),(callFunc n a).run Tryz.prog w=.ok (.enter n a) w)
  (hp:∀x∈l,∀u,An w ok u x->∀w1,zM w w1->Calls Tryz.prog n (#[u]++caps) w1 fun e w'=>e=.returned (.bool (p x))/\zM w1 w'):
  Calls Tryz.prog 76 #[v,.func (.func n) #[] caps] w fun e w'=>e=.returned (.bool (l.any p))/\zM w w':=by
 have H:=zh (indexFuncB_calls n caps p w h J D hp);clear hp;obtain ⟨vs,⟨A,c,rfl,M,z⟩,he⟩:=h;clear z he
 go_enter Tryz.func76,Tryz.ntmps76
 go_wp2_with fail
 refine H.out.mono ?_;rintro e w1 ⟨r,rfl,z,L,E⟩;have I:=zh z;clear z;have G:=zh E;clear E
 go_wp2_with fail
 go_ret;refine ⟨zf ?_,G.out⟩;rw [Bool.eq_iff_iff,decide_eq_true_iff];exact I.out
def Ag (n x:Int):Bool:=decide (x<0) || decide (n<=x)
def side (x:Int):Bool:=decide (x<1) || decide (300<x)
def AY (m:MZ):Int:=
 if [m.w,m.h,m.l].any side then 2
 else if 300<m.n\/6<m.tasks.length then 2
 else if m.free.length≠m.tasks.length\/(m.up.length:Int)≠m.n\/m.free.any (fun f=>(f.length:Int) != m.n)=true then 1
 else if m.tasks.any (fun t=>t.1.any (Ag m.n) || t.2.any (Ag m.n)) then 50
 else 0
theorem cf51 (a:Array Value) (w:World):(callFunc 77 a).run Tryz.prog w=.ok (.enter 77 a) w:=Bi Tryz.func77 (by kernel_rfl) (by kernel_rfl) a w
theorem cf52 (a:Array Value) (w:World):(callFunc 78 a).run Tryz.prog w=.ok (.enter 78 a) w:=Bi Tryz.func78 (by kernel_rfl) (by kernel_rfl) a w
theorem check1_calls {ok:Nat->Prop} {u:Value} {f:List Bool} (g:Nat) (n:Int) (w:World) (E:An w ok u f) (G:w.cell? ⟨g,0,none⟩=some (.int .i64 n)):
  Calls Tryz.prog 77 #[u,.pointer (some ⟨g,0,none⟩)] w fun e w'=>e=.returned (.bool ((f.length:Int) != n))/\zM w w':=by
 obtain ⟨A,c,rfl,z,D⟩:=E;clear D
 go_enter Tryz.func77,Tryz.ntmps77
 go_wp2;go_ret;exact ⟨rfl,zM.refl _⟩
theorem check2_calls (g:Nat) (n x:Int) (w:World) (D:w.cell? ⟨g,0,none⟩=some (.int .i64 n)):
  Calls Tryz.prog 78 #[.int .i64 x,.pointer (some ⟨g,0,none⟩)] w fun e w'=>e=.returned (.bool (Ag n x))/\zM w w':=by
 by_cases z:x<0
 ·go_enter Tryz.func78,Tryz.ntmps78
  go_wp2;go_ret;exact ⟨zf (by simp [Ag,z]),zM.refl _⟩
 ·go_enter Tryz.func78,Tryz.ntmps78
  go_wp2;go_ret;refine ⟨zf ?_,zM.refl _⟩;simp [Ag];omega
structure Lens (m:MZ):Prop where
 fr:m.free.length<=20000000000000
 up:m.up.length<=20000000000000
 ts:m.tasks.length<=20000000000000
 tl:∀t∈m.tasks,t.1.length<=400000000000/\t.2.length<=400000000000
theorem three_cells {w:World} {g:Nat} {t:TypeId} {a b c:Int} (h:zg w g t #[.int .i64 a,.int .i64 b,.int .i64 c]) (k:Nat) (z:k<3):w.cell? ⟨g,k,none⟩=some (.int .i64 ([a,b,c][k])):=by
 unfold zg at h;unfold World.cell?;simp only [h]
 match k,z with
 | 0,_=>rfl
 | 1,_=>rfl
 | 2,_=>rfl
theorem AO {w:World} {ok:Nat->Prop} {A:Option Addr} {n c:Nat} {l:List (List Int×List Int)} (h:BX w ok (.slice A n c) l) (E:k<l.length):
  ∃b off s u1 u2,A=some ⟨b,off,none⟩/\ok b/\w.cell? ⟨b,off+k*3,none⟩=some (.string s)/\w.cell? ⟨b,off+k*3+1,none⟩=some u1/\w.cell? ⟨b,off+k*3+2,none⟩=some u2/\zi w ok u1 l[k].1/\zi w ok u2 l[k].2:=by
 obtain ⟨vs,⟨A',c',G,_,I,z⟩,he⟩:=h;injection G with e1 e2 e3;subst e1;obtain ⟨b,off,rfl,D,z⟩:=z (by omega);obtain ⟨s,u1,u2,h0,h1,h2,i1,i2⟩:=he k _ (EL E);exact ⟨b,off,s,u1,u2,rfl,D,z _ _ h0,by rw [Nat.add_assoc];exact z _ _ h1,by rw [Nat.add_assoc];exact z _ _ h2,i1,i2⟩
structure CI (w wr:World) (cells:Array Value) (ints:Array Value):Prop where
 below:Below w.heap.size w wr
 box:zg wr w.heap.size 32 cells
 ints:zg wr (w.heap.size+1) 3 ints
theorem CI.call {w wr w':World} (h:CI w wr c i) (z:Below wr.heap.size wr w'):CI w w' c i:=
 ⟨BI h.below z (EN _),h.box.below z (zd h.box),h.ints.below z (zd h.ints)⟩
theorem CI.new (w:World) (c i:Array Value):CI w ((w.alloc (.cells c 32)).alloc (.cells i 3)) c i:=
 ⟨((Below.refl _ _).alloc (EN _) _).alloc (by simp) _,zg.alloc (FB w _) _,by
  have:=FB (w.alloc (.cells c 32)) (.cells i 3);simpa [zg] using this⟩
theorem chk_side {m:MZ} (h:[m.w,m.h,m.l].any side=true):AY m=2:=by
 unfold AY;rw [if_pos h]
structure CJ (w wr:World) (cells:Array Value) (g:Nat) (n:Int):Prop where
 below:Below w.heap.size w wr
 box:zg wr w.heap.size 32 cells
 all:wr.cell? ⟨g,0,none⟩=some (.int .i64 n)
theorem CJ.call {w wr w':World} {g:Nat} {n:Int} (h:CJ w wr c g n) (z:Below wr.heap.size wr w'):CJ w w' c g n:=
 ⟨BI h.below z (EN _),h.box.below z (zd h.box),(CZ (z.block g (zp h.all))).trans h.all⟩
theorem CJ.new {w w':World} (h:CI w w' c i) (n:Int):CJ w (w'.alloc (.cells #[.int .i64 n] 3)) c w'.heap.size n:=
 ⟨h.below.alloc (Nat.le_of_lt (zd h.box)) _,h.box.alloc _,by
  have:=FB w' (.cells #[.int .i64 n] 3);unfold World.cell?;simp only [this];rfl⟩
theorem CJ.alloc {w wr:World} {c:Array Value} {g:Nat} {n:Int} (h:CJ w wr c g n) (o:Obj):CJ w (wr.alloc o) c g n:=
 ⟨h.below.alloc (Nat.le_of_lt (zd h.box)) _,h.box.alloc _,(CZ (Ff wr o g (zp h.all))).trans h.all⟩
theorem cells3 {w:World} {g:Nat} {t:TypeId} (h:zg w g t #[a0,a1,a2]):
  w.cell? ⟨g,0,none⟩=some a0/\w.cell? ⟨g,1,none⟩=some a1/\w.cell? ⟨g,2,none⟩=some a2:=by
 unfold zg at h;unfold World.cell?;simp only [h];exact ⟨rfl,rfl,rfl⟩
theorem sides {m:MZ} (h:[m.w,m.h,m.l].any side=false):(1<=m.w/\m.w<=300)/\(1<=m.h/\m.h<=300)/\(1<=m.l/\m.l<=300):=by
 simp [side] at h;omega
theorem sides_mul {m:MZ} (h:[m.w,m.h,m.l].any side=false):(1<=m.w*m.h/\m.w*m.h<=90000)/\(1<=m.w*m.h*m.l/\m.w*m.h*m.l<=27000000):=by
 obtain ⟨⟨a1,a2⟩,⟨b1,b2⟩,c1,c2⟩:=sides h;have h1:1<=m.w*m.h:=by have:=Int.mul_pos (a:=m.w) (b:=m.h) (by omega) (by omega);omega
 have h2:m.w*m.h<=300*300:=Int.mul_le_mul a2 b2 (by omega) (by omega);have h3:1<=m.w*m.h*m.l:=by have:=Int.mul_pos (a:=m.w*m.h) (b:=m.l) (by omega) (by omega);omega
 have z:m.w*m.h*m.l<=300*300*300:=Int.mul_le_mul h2 c2 (by omega) (by omega);omega
theorem BO {ok:Nat->Prop} {v:Value} {m:MZ} (w:World) (hm:zt w ok v m) (hl:Lens m):
  Calls Tryz.prog 41 #[v] w fun e w'=>e=.returned (.int .i64 (AY m))/\Below w.heap.size w w':=by
 have f3:=hm;obtain ⟨vfr,vup,vts,rfl,f0,f9,f7⟩:=hm;obtain ⟨vsf,⟨Af,cf,rfl,e8,c8⟩,c6⟩:=f0;obtain ⟨Au,cu,rfl,g9,f6⟩:=f9;obtain ⟨vst,⟨At,ct,rfl,e9,c9⟩,c7⟩:=f7;obtain ⟨l1,l2,l3,l4⟩:=hl;have e0:=zh c8;clear c8;have d7:=zh c6;clear c6;have e3:=zh c9;clear c9;have d8:=zh c7;clear c7;have d9:=zh l4;clear l4;clear f6 f3
 go_enter Tryz.func41,Tryz.ntmps41
 go_wp2;have b9:=CI.new w #[.int .i64 m.w,.int .i64 m.h,.int .i64 m.l,.slice Af m.free.length cf,.slice Au m.up.length cu,.slice At m.tasks.length ct] #[.int .i64 m.w,.int .i64 m.h,.int .i64 m.l];go_loopw [17] (fun i wr=>∃k:Nat,k<=3/\i=.int .i64 k/\Hid (([m.w,m.h,m.l].take k).any side=false)/\Hid (CI w wr #[.int .i64 m.w,.int .i64 m.h,.int .i64 m.l,.slice Af m.free.length cf,.slice Au m.up.length cu,.slice At m.tasks.length ct] #[.int .i64 m.w,.int .i64 m.h,.int .i64 m.l])) (fun i _=>3 - (intOf i).toNat)
 case atStart=>exact ⟨0,by omega,rfl,by simp [Hid],b9⟩
 clear b9
 case round=>
  obtain ⟨k,hk,rfl,M,hI⟩:=hrel;by_cases L:k<3
  ·obtain ⟨x,hx⟩:=zak ([m.w,m.h,m.l][k]'L);have a8:=three_cells hI.out.ints k L;rw [<-hx] at a8;have D:=zh (BD (l:=[m.w,m.h,m.l]) side L);rw [<-hx] at D;have HX:=zh (show x∈[m.w,m.h,m.l] by rw [hx];exact EO _);clear hx;by_cases h1:x<1
   ·go_wp2;go_ret;refine ⟨Bb ?_,hI.out.below⟩;rw [chk_side];exact zaf.2 ⟨x,HX.out,by simp [side,h1]⟩
   ·by_cases h2:300<x
    ·go_wp2;go_ret;refine ⟨Bb ?_,hI.out.below⟩;rw [chk_side];exact zaf.2 ⟨x,HX.out,by simp [side,h2]⟩
    ·have HS:=zh (show side x=false by simp [side,h1,h2]);go_wp2;go_roundw
     case rel=>exact ⟨k+1,by omega,by go_num,by
      show _=false;rw [D.out,M.out,HS.out];rfl,hI⟩
     case measure=>simp [intOf];omega
  ·obtain rfl:k=3:=by omega
   have HN:Hid ([m.w,m.h,m.l].any side=false):=M.out;clear M;obtain ⟨m0,m1,m2,m3,m4,m5⟩:=zn hI.out.box;obtain ⟨⟨p1,p2⟩,p3,p4⟩:=sides_mul HN.out
   have T:300<m.n\/6<m.tasks.length->AY m=2:=by
    intro h;unfold AY;rw [if_neg (by rw [HN.out];simp),if_pos h]
   have b6:=zh T;clear T
   go_wp2_with fail
   refine (AN _ _ _ _ _ _ _ (by omega) (by omega)).mono ?_;rintro e w' ⟨rfl,hb⟩;have z:=zh (hI.out.call hb);clear hI m0 m1 m2 m3 m4 m5 hb;have e4:∀o,_:=fun o=>zn (z.out.box.alloc o)
   by_cases M:300<m.w*m.h*m.l
   ·go_wp2;go_ret;exact ⟨Bb (b6.out (.inl M)).symm,z.out.below.alloc (Nat.le_of_lt (zd z.out.box)) _⟩
   by_cases ht:6<m.tasks.length
   ·go_wp2;go_ret;exact ⟨Bb (b6.out (.inr ht)).symm,z.out.below.alloc (Nat.le_of_lt (zd z.out.box)) _⟩
   have O:(m.free.length≠m.tasks.length\/(m.up.length:Int)≠m.n\/m.free.any (fun f=>(f.length:Int) != m.n)=true)->AY m=1:=by
    intro h;unfold AY;rw [if_neg (by rw [HN.out];simp),if_neg (by unfold MZ.n;omega),if_pos h]
   have a4:=zh O;clear O;by_cases hf:m.free.length=m.tasks.length
   case neg=>
    go_wp2;go_ret;exact ⟨Bb (a4.out (.inl hf)).symm,z.out.below.alloc (Nat.le_of_lt (zd z.out.box)) _⟩
   by_cases hu:(m.up.length:Int)=m.w*m.h*m.l
   case neg=>
    go_wp2;go_ret;exact ⟨Bb (a4.out (.inr (.inl hu))).symm,z.out.below.alloc (Nat.le_of_lt (zd z.out.box)) _⟩
   have U:=zh (CJ.new z.out (m.w*m.h*m.l));have h4:w.heap.size<w'.heap.size:=zd z.out.box;clear z
   have b8:Bn w ok (.slice Af m.tasks.length cf) m.free:=by
    rw [<-hf];exact ⟨vsf,⟨Af,cf,rfl,e8,e0.out⟩,d7.out⟩
   go_wp2_with fail
   refine (EG (ok:=ok) 77 _ (fun f=>(f.length:Int) != m.w*m.h*m.l) _ (b8.below U.out.below) l1 cf51 ?hp).mono ?_
   case hp=>exact fun x hx u hu w1 G=>check1_calls w'.heap.size _ w1 (hu.keep (G.same ok)) (U.out.call (G.below _)).all
   rintro e w1 ⟨rfl,G⟩;have E:=zh (U.out.call (G.below _));clear U G e4;by_cases ha:m.free.any (fun f=>(f.length:Int) != m.w*m.h*m.l)=true
   ·rw [ha];go_wp2;go_ret;exact ⟨Bb (a4.out (.inr (.inr ha))).symm,E.out.below⟩
   have a7:=zh (show m.free.any (fun f=>(f.length:Int) != m.w*m.h*m.l)=false by simpa using ha);clear ha;rw [a7.out];obtain ⟨m0,m1,m2,m3,m4,m5⟩:=zn E.out.box;have a6:BX w ok (.slice At m.tasks.length ct) m.tasks:=⟨vst,⟨At,ct,rfl,e9,e3.out⟩,d8.out⟩
   go_wp2_with fail
   go_loopw [62] (fun i wr=>∃k:Nat,k<=m.tasks.length/\i=.int .i64 k/\Hid ((m.tasks.take k).any (fun t=>t.1.any (Ag m.n) || t.2.any (Ag m.n))=false)/\Hid (CJ w wr #[.int .i64 m.w,.int .i64 m.h,.int .i64 m.l,.slice Af m.free.length cf,.slice Au m.up.length cu,.slice At m.tasks.length ct] w'.heap.size (m.w*m.h*m.l))) (fun i _=>m.tasks.length - (intOf i).toNat)
   case atStart=>exact ⟨0,by omega,rfl,by simp [Hid],E⟩
   clear E m0 m1 m2 m3 m4 m5 b8
   case round=>
    obtain ⟨k,hk,rfl,M,hI⟩:=hrel;by_cases L:k<m.tasks.length
    ·obtain ⟨b,off,sn,u1,u2,rfl,_,g8,e6,e7,a9,b0⟩:=AO (a6.below hI.out.below) L;obtain ⟨A1,c1,rfl,c4,f4⟩:=a9.open;obtain ⟨A2,c2,rfl,c5,f5⟩:=b0.open;obtain ⟨f1,f2⟩:=d9.out _ (EO L);clear f4 f5;have b3:=zh a9;clear a9;have b4:=zh b0;clear b0;have g7:=zh a6;clear a6;obtain ⟨t,ht⟩:=zak (m.tasks[k]);rw [<-ht] at b3 b4 e6 e7 c4 c5 f1 f2;have D:=zh (BD (fun t=>t.1.any (Ag m.n) || t.2.any (Ag m.n)) L);rw [<-ht] at D;have HM:=zh (show t∈m.tasks by rw [ht];exact EO _);clear ht;have E:=zh (hI.out.alloc (.cells #[.string sn,.slice A1 t.1.length c1,.slice A2 t.2.length c2] 56));have a5:=zh (FB wr (.cells #[.string sn,.slice A1 t.1.length c1,.slice A2 t.2.length c2] 56))
     have a3:(t.1.any (Ag m.n) || t.2.any (Ag m.n))=true->AY m=50:=by
      intro h;unfold AY;rw [if_neg (by rw [HN.out];simp),if_neg (by unfold MZ.n;omega),if_neg (by unfold MZ.n;rw [a7.out];simp;omega),if_pos (zaf.2 ⟨t,HM.out,h⟩)]
     have Z:=zh a3;clear a3
     go_wp2_with fail
     refine (Bh (ok:=ok) 78 _ (Ag (m.w*m.h*m.l)) _ (b3.out.below ((Below.refl _ _).alloc (EN _) _)) (by omega) cf52 ?hp).mono ?_
     case hp=>exact fun x hx w1 G=>check2_calls w'.heap.size _ x w1 (E.out.call (G.below _)).all
     rintro e w4 ⟨rfl,G⟩;have V:=zh (E.out.call (G.below _));have b7:Hid (zg w4 wr.heap.size 56 _):=zg.below a5.out (G.below _) (zd a5.out);have e5:Hid (Below wr.heap.size wr w4):=((Below.refl _ _).alloc (EN _) _).trans (G.below _);clear G E a5;obtain ⟨q0,q1,q2⟩:=cells3 b7.out;by_cases I:t.1.any (Ag (m.w*m.h*m.l))=true
     ·rw [I];go_wp2;go_ret;exact ⟨Bb (Z.out (by show (t.1.any (Ag (m.w*m.h*m.l)) || _)=true;rw [I];rfl)).symm,V.out.below⟩
     ·have I:t.1.any (Ag (m.w*m.h*m.l))=false:=by simpa using I
      rw [I];have d5:=zh I;clear I
      go_wp2_with fail
      refine (Bh (ok:=ok) 78 _ (Ag (m.w*m.h*m.l)) _ (b4.out.below e5.out) (by omega) cf52 ?hp).mono ?_
      case hp=>exact fun x hx w1 G=>check2_calls w'.heap.size _ x w1 (V.out.call (G.below _)).all
      rintro e w5 ⟨rfl,G⟩;have c0:=zh (V.out.call (G.below _));clear G V b7 q0 q1 q2;by_cases J:t.2.any (Ag (m.w*m.h*m.l))=true
      ·rw [J];go_wp2;go_ret;exact ⟨Bb (Z.out (by show (_ || t.2.any (Ag (m.w*m.h*m.l)))=true;rw [J];simp)).symm,c0.out.below⟩
      ·have J:t.2.any (Ag (m.w*m.h*m.l))=false:=by simpa using J
       rw [J];have d6:=zh J;clear J
       go_wp2_with fail
       go_roundw
       case rel=>exact ⟨k+1,by omega,by go_num,by
        show _=false;rw [D.out,M.out];show (_ || (t.1.any (Ag (m.w*m.h*m.l)) || t.2.any (Ag (m.w*m.h*m.l))))=false;rw [d5.out,d6.out];rfl,c0⟩
       case measure=>simp [intOf];omega
    ·obtain rfl:k=m.tasks.length:=by omega
     go_wp2;go_ret;refine ⟨Bb ?_,hI.out.below⟩;have M:=M.out;rw [EY] at M;unfold AY;rw [if_neg (by rw [HN.out];simp),if_neg (by unfold MZ.n;omega),if_neg (by unfold MZ.n;rw [a7.out];simp;omega),if_neg (by rw [M];simp)]
theorem setCells_nil (w:World) (b off:Nat):w.setCells b off []=w:=by
 unfold World.setCells;rfl
theorem EC {ok:Nat->Prop} (w:World) (base:Nat) (t ty e:TypeId) (i:TypeInfo) (z:Value) (bytes:Nat) (O:Tryz.prog.underlying t=some (.slice e)) (U:Tryz.prog.info? e=some i) (hz:i.zero=some z)
  (D:i.size=1) (M:i.bytes=bytes) (T:z.cells.size=1)
  (v:Value) (n:Nat) (xs:List Value) (I:w.ownsRow base e 1 v n xs) (u:Value) (m:Nat) (news:List Value) (hu:zV w ok 1 u m news) (h1:∀u∈news,u.oneCell'=true)
  (L:n+m<=maxLen) (E:(n+m)*bytes<=140737488355328) (J:base<=w.heap.size):
  ∃v' w',(Builtin.append_ #[t,t] ty #[v,u]).run Tryz.prog w=.ok v' w'/\w'.ownsRow base e 1 v' (n+m) (xs++news)/\w.grownBy w' v.ownBlock/\(v'.ownBlock=v.ownBlock\/v'.ownBlock=some w.heap.size):=by
 obtain ⟨A,c,rfl,hc,hl,G⟩:=hu;rcases A with _ | a
 ·have hm:m=0:=by
   rcases Fz m with h | h
   ·exact h
   ·obtain ⟨b,off,e,_⟩:=G h;cases e
  subst hm;have hn:news=[]:=Fe (by simpa using hl);subst hn;refine ⟨v,w,?_,by simpa using I,⟨rfl,rfl,rfl,EN _,fun _ _ _=>rfl⟩,.inl rfl⟩;rcases I.2 with ⟨rfl,rfl⟩ | ⟨g,cap,cur,rfl,a8,hg,b2,a9,b0,a5⟩
  ·simp [Builtin.append_,run_underlying O,sizeOf,typeInfo,U,D,Builtin.lenOf,Builtin.firstCells,loadCells,loadCellsFrom]
  ·have h:=run_append_room_src (P:=Tryz.prog) w t t ty e i O U g 0 n cap (.slice none 0 c) 0 [] (by rw [D];exact Src.ofNil w O c) (by omega) (by simp) (by simp);rw [setCells_nil] at h;simpa using h
 ·rcases Fz m with h0 | hpos
  ·subst h0;have hn:news=[]:=Fe (by simpa using hl);subst hn;obtain ⟨v',w',h1,h2,h3,h4,V⟩:=run_append_own_at (P:=Tryz.prog) w base t ty e i z 1 bytes O U hz D M T (by decide) v n xs I a 0 c [] (by simp) (by simp) (by simp) L E J;exact ⟨v',w',h1,h2,h3,V⟩
  ·obtain ⟨b,off,he,_,Z⟩:=G hpos;injection he with he;subst he;obtain ⟨v',w',h1,h2,h3,h4,V⟩:=run_append_own_at (P:=Tryz.prog) w base t ty e i z 1 bytes O U hz D M T (by decide) v n xs I ⟨b,off,none⟩ m c news (by simpa using hl) (fun j u hj=>by rw [Addr.add_lit];exact Z j u hj) h1 L E J;exact ⟨v',w',h1,h2,h3,V⟩
theorem CT {ok:Nat->Prop} (W:World) (s x:Operand)
  (O:o.op=.call { callee:=.builtin .append,args:=#[s,x],argTypes:=#[23,23] }) (base:Nat) (l l2:List Int) (v u:Value) (U:a.eval s=v) (V:a.eval x=u)
  (D:zA W base v l) (E:zi W ok u l2) (z:base<=W.heap.size) (Z:l.length+l2.length<=1000000000000)
  (h:∀v' w',zA w' base v' (l++l2)->Hid (W.grownBy w' v.ownBlock)->Hid (v'.ownBlock=v.ownBlock\/v'.ownBlock=some W.heap.size)->K (a.put o.dst v') w'):Oper.wp Tryz.prog o a W K Q:=by
 obtain ⟨i0,M,G,I,J⟩:=info_parts Tryz.infoInt
 obtain ⟨v',w',T,h2,h3,L⟩:=EC (ok:=ok) W base 23 o.type 3 i0 (.int .i64 0) 8 Tryz.underlying23 M G I J rfl v _ _ D u _ _ E (by
  intro u E;obtain ⟨_,_,rfl⟩:=zac.1 E;rfl) (by unfold maxLen;omega) (by omega) z
 unfold Oper.wp execOp;simp only [O,resolve,invoke,builtin,Sem.run_bind,Sem.run_pure,Result.andThen_ok,List.map_toArray,List.map_cons,List.map_nil,U,V,T];refine h v' w' ?_ h3 L;unfold zA;rw [FG,EV];exact h2
theorem Bl {ok:Nat->Prop} {E:Prop} (G:o.guard=none) (W:World) (s x:Operand)
  (J:o.op=.call { callee:=.builtin .append,args:=#[s,x],argTypes:=#[23,23] }) (base:Nat) (l l2:List Int) (v u:Value) (L:a.eval s=v) (T:a.eval x=u)
  (D:zA W base v l) (M:zi W ok u l2) (z:base<=W.heap.size) (I:l.length+l2.length<=1000000000000)
  (h:∀v' w',zA w' base v' (l++l2)->Hid (W.grownBy w' v.ownBlock)->Hid (v'.ownBlock=v.ownBlock\/v'.ownBlock=some W.heap.size)->K (a.put o.dst v') w'):
  if Region.wanted o (yielded ops a.tmps)=true then Oper.wp Tryz.prog o a W K Q else E:=by
 have O:Region.wanted o (yielded ops a.tmps)=true:=by simp [Region.wanted,G]
 rw [if_pos O];exact CT W s x J base l l2 v u L T D M z I h
theorem BV {ok:Nat->Prop} (E:o.guard=none) (W:World) (s x:Operand)
  (J:o.op=.call { callee:=.builtin .append,args:=#[s,x],argTypes:=#[23,23] }) (base:Nat) (l l2:List Int) (v u:Value) (L:a.eval s=v) (O:a.eval x=u)
  (D:zA W base v l) (M:zi W ok u l2) (z:base<=W.heap.size) (I:l.length+l2.length<=1000000000000)
  (h:∀v' w',zA w' base v' (l++l2)->Hid (W.grownBy w' v.ownBlock)->Hid (v'.ownBlock=v.ownBlock\/v'.ownBlock=some W.heap.size)->wpList Tryz.prog ops Q rest (a.put o.dst v') w'):wpList Tryz.prog ops Q (o :: rest) a W:=by
 refine wpList_plain E fun K G=>?_
 exact CT W s x J base l l2 v u L O D M z I fun v' w' h1 h2 h3=>G _ _ (h v' w' h1 h2 h3)
theorem Bq {v:Value} (h:zA W B v l) (z:v.ownBlock=some k):B<=k:=by
 rcases h.2 with ⟨rfl,_⟩ | ⟨g,cap,cur,rfl,D,_⟩
 ·cases z
 ·have z:some g=some k:=z;injection z with z;omega
theorem Dr (W:World) (B:Nat) (z:B<=W.heap.size):zA (W.alloc (.cells #[] 3)) B (.slice (some ⟨W.heap.size,0,none⟩) 0 0) []:=
 ⟨rfl,.inr ⟨W.heap.size,0,#[],rfl,z,FB W _,EN _,by decide,rfl,rfl⟩⟩
theorem Ae {a w':World} {v:Value} (h:Below B a W) (D:Hid (W.grownBy w' v.ownBlock)) (z:B<=W.heap.size) (E:∀k,v.ownBlock=some k->B<=k):Below B a w':=h.grown D.out z E
end
end Go.Proofs.YthbjngbhbbkkgaaGreat
