import Derived.WalkKit
import Derived.Lib.Hide
import Derived.Test.YtjomnbdjajjgfaaGreatDoorRows
import Derived.WalkLawsBesides
import Derived.WalkSpells
import Derived.BigQuiet
import Derived.Deep.QuietTactic
import Derived.ChangeMaps4
import Derived.Maps.RangeRun
import Derived.Deep.DeepCutAuto
import Derived.Deep.AppendLies
import Derived.Deep.Onto
import Derived.Deep.RegionHeld
set_option linter.unusedVariables false
set_option linter.unusedSimpArgs false
set_option maxRecDepth 100000
set_option maxHeartbeats 16000000
namespace Go.Proofs.YtjomnbdjajjgfaaGreatDoor
variable {a:Act} {listed:Array Bool} {es:Array MapEntry} {ops:Array Oper} {cs:Array Value} {Q:Exit->Act->World->Prop} {x y:Int} {from_ l used:List Int} {rest:List Oper} {B fuel g gb k t:Nat} {o oi:Oper} {P:Program} {v':Value} {b w0:World}
section
open Go.RowKit
theorem zh {p: Prop} (h : p) : Hid p := Lib.hid h
theorem zd {α: Type} : (∀ (xs : List α) (i : Nat) (h : i < xs.toArray.size), xs.toArray[i] = xs[i]'(by simpa using h)) /\ (∀ (a : α) (l : List α) (i : Nat) (h : i + 1 < (a :: l).length), (a :: l)[i+1] = l[i]'(Nat.lt_of_succ_lt_succ h)) /\ (∀ (a : α) (l : List α) (h : 0 < (a :: l).length), (a :: l)[0] = a) /\ (∀ (l : List α) (i : Nat) (a : α), l.toArray.setIfInBounds i a = (l.set i a).toArray) /\ (∀ (a : α) (l : List α) (b : α), (a :: l).set 0 b = b :: l) /\ (∀ (a : α) (l : List α) (i : Nat) (b : α), (a :: l).set (i+1) b = a :: l.set i b) :=
 ⟨fun _ _ h => List.getElem_toArray h, fun _ _ _ _ => List.getElem_cons_succ .., fun _ _ _ => List.getElem_cons_zero .., fun _ _ _ => List.setIfInBounds_toArray .., fun _ _ _ => rfl, fun _ _ _ _ => rfl⟩
abbrev DW := @List.getElem?_eq_getElem
abbrev DX := @List.getD_eq_getElem?_getD
abbrev DY := @Nat.le_refl
abbrev DZ := @List.getElem_mem
abbrev Ea := @Nat.le_trans
abbrev Eb := @decide_eq_true
abbrev Ec := @decide_eq_false
abbrev Ed := @List.getElem?_append_left
abbrev Ee := @List.getElem?_append_right
abbrev Ef := @List.take_succ_eq_append_getElem
abbrev Eg := @List.length_append
abbrev Eh := @Below.heap_setCell
abbrev Ei := @decide_eq_true_eq
abbrev Ej := @List.take_length
abbrev Ek := @Bool.and_eq_true
abbrev El := @beq_eq_false_iff_ne
abbrev Em := @Nat.zero_le
abbrev En := @World.cell?_of_block
abbrev Eo := @wp_region_held_drew
abbrev Ep := @List.eq_nil_of_length_eq_zero
abbrev Er := @Below.heap_alloc
abbrev Es := @List.getElem?_eq_none
abbrev Et := @List.mem_cons_of_mem
abbrev Eu := @IntKind.wrap_i64
abbrev Ev := @Nat.lt_or_ge
abbrev Ew := @decide_eq_false_iff_not
abbrev Ex := @World.frozen?_of_block
abbrev Ey := @List.length_singleton
abbrev Ez := @AllReadyH.cons
abbrev EA := @Nat.lt_of_lt_of_le
abbrev EB := @List.length_filter_le
abbrev EC := @wpAnyH_done
abbrev ED := @Option.getD_some
abbrev EE := @List.getElem_of_mem
abbrev EF := @List.mem_singleton
abbrev EG := @List.filter_cons_of_neg
abbrev EH := @List.getElem?_map
abbrev EI := @List.length_map
abbrev EJ := @Nat.eq_zero_or_pos
abbrev EK := @List.mem_cons_self
abbrev EL := @heap_alloc_new
abbrev EM := @List.mem_cons
abbrev EN := @List.mem_append
abbrev EO := @Int.toNat_natCast
abbrev EP := @List.map_append
abbrev EQ := @List.length_take
abbrev ER := @bodyPost_ret
abbrev ES := @List.getElem?_eq_some_iff
abbrev ET := @Array.getElem?_eq_some_iff
abbrev EU := @List.not_mem_nil
abbrev EV := @List.mem_filter
abbrev EW := @List.mem_range
abbrev EX := @List.length_drop
abbrev EY := @Bool.or_eq_true
abbrev EZ := @List.any_eq_true
abbrev Fa := @List.all_eq_true
abbrev Fb := @List.length_cons
abbrev Fc := @List.length_nil
theorem DV : (∀ (t : Array Value) (f : List Deferred) (d : Tmp) (v : Value), Act.put ⟨t, f⟩ (some d) v = ⟨t.setIfInBounds d v, f⟩) /\ (∀ (a : Act) (v : Value), Act.put a none v = a) := ⟨fun _ _ _ _ => rfl, fun _ _ => rfl⟩
theorem zgd {α: Type _} {l: List α} {d: α} (h : k < l.length) : l.getD k d = l[k] := by rw [List.getD_eq_getElem?_getD, List.getElem?_eq_getElem h]; rfl
theorem Fd {α: Sort _} (a : α) : ∃ x, x = a := ⟨_, rfl⟩
theorem Fe {K: Act -> World -> Prop} {S: World -> Prop} {G: Act -> World -> Prop} (h : Shut (∀ a w, S w -> (S w -> G a w) -> K a w)) {w: World} (s : S w) (g : S w -> G a w) : K a w := h.out a w s g
theorem z6 {md: Region.Mode} {Q: Exit -> Act -> World -> Prop} {S: World -> Prop} (i : Nat) {v: Value} {w: World} (d : S w)
 (h : wpAnyH P md ops Q S fuel (listed.setIfInBounds i true) (a.put oi.dst v) w) (E : ops[i]? = some oi := by rfl) (K : ∀ w, S w -> (execOp a.eval oi).run P w = .ok (.value v) w := by (intro w D; go_simp; try with_reducible rfl)) (J : Region.wanted oi (yielded ops a.tmps) = true := by rfl)
 (I : Region.noSelect ops = true := by kernel_rfl) (hf : Region.free md ops listed i = true := by kernel_rfl) (G : (Region.ready md ops listed).contains i = true := by kernel_rfl)
 (hQ : ∀ c a w, Q (.panic c) (a.put oi.dst v) w -> Q (.panic c) a w := by exact fun _ _ _ h => h) : wpAnyH P md ops Q S (fuel + 1) listed a w := wpAnyH_take E I hf G hQ (.inl ⟨J, K⟩) d h
theorem rtU {md: Region.Mode} {Q: Exit -> Act -> World -> Prop} {S: World -> Prop} (i : Nat) (v : Value) {w: World} (d : S w)
 (J : ∀ w, S w -> (execOp a.eval oi).run P w = .ok (.value v) w) (h : wpAnyH P md ops Q S fuel (listed.setIfInBounds i true) (a.put oi.dst v) w) (D : ops[i]? = some oi := by rfl) (I : Region.wanted oi (yielded ops a.tmps) = true := by rfl)
 (G : Region.noSelect ops = true := by kernel_rfl) (hf : Region.free md ops listed i = true := by kernel_rfl) (E : (Region.ready md ops listed).contains i = true := by kernel_rfl)
 (hQ : ∀ c a w, Q (.panic c) (a.put oi.dst v) w -> Q (.panic c) a w := by exact fun _ _ _ h => h) : wpAnyH P md ops Q S (fuel + 1) listed a w := wpAnyH_take D G hf E hQ (.inl ⟨I, J⟩) d h
theorem rtN {md: Region.Mode} {Q: Exit -> Act -> World -> Prop} {S: World -> Prop} (i : Nat) {w: World} (d : S w)
 (h : wpAnyH P md ops Q S fuel (listed.setIfInBounds i true) (a.put oi.dst undef) w) (D : ops[i]? = some oi := by rfl) (I : Region.wanted oi (yielded ops a.tmps) = false := by rfl)
 (G : Region.noSelect ops = true := by kernel_rfl) (hf : Region.free md ops listed i = true := by kernel_rfl) (E : (Region.ready md ops listed).contains i = true := by kernel_rfl)
 (hQ : ∀ c a w, Q (.panic c) (a.put oi.dst undef) w -> Q (.panic c) a w := by exact fun _ _ _ h => h) : wpAnyH P md ops Q S (fuel + 1) listed a w := wpAnyH_take D G hf E hQ (.inr ⟨I, rfl⟩) d h
theorem AB {md: Region.Mode} {Q: Exit -> Act -> World -> Prop} {S: World -> Prop} {w: World} (i : Nat)
 (h : ∀ K' : Act -> World -> Prop, Shut (∀ a w, S w -> (S w -> wpAnyH P md ops Q S fuel (listed.setIfInBounds i true) a w) -> K' a w) -> if Region.wanted o (yielded ops a.tmps) = true then Oper.wp P o a w K' Q else K' (a.put o.dst undef) w)
 (d : ops[i]? = some o := by rfl) (D : Region.ready md ops listed = [i] := by kernel_rfl) : wpAnyH P md ops Q S (fuel + 1) listed a w := wpAnyH_ready D (by simp) (.cons d h .nil)
theorem rdA {md: Region.Mode} {Q: Exit -> Act -> World -> Prop} {S: World -> Prop} (rs : List Nat) {w: World}
 (h : AllReadyH P md ops Q S fuel listed a w rs) (D : Region.ready md ops listed = rs := by kernel_rfl) (d : rs ≠ [] := by simp) : wpAnyH P md ops Q S (fuel + 1) listed a w := wpAnyH_ready D d h
structure MZ where
 w:Int
 h:Int
 l:Int
 free:List (List Bool)
 up:List Bool
 tasks:List (List Int×List Int)
theorem zc {w:World} {o:Obj} (h:w.heap[k]?=some o):k<w.heap.size:=by
 rcases Ev k w.heap.size with h1 | h1
 ·exact h1
 ·rw [Array.getElem?_eq_none h1] at h;cases h
theorem zn {w:World} {a:Addr} {v:Value} (h:w.cell? a=some v):a.block<w.heap.size:=by
 unfold World.cell? at h
 cases hh:w.heap[a.block]? with
 | none=>simp [hh] at h
 | some o=>exact zc hh
theorem cell_same {w w':World} {a:Addr} (h:w'.heap[a.block]?=w.heap[a.block]?):w'.cell? a=w.cell? a:=En h
def Ar (ok:Nat->Prop) (w w':World):Prop:=∀b,ok b->b<w.heap.size->w'.heap[b]?=w.heap[b]?
theorem Ar.refl (ok:Nat->Prop) (w:World):Ar ok w w:=fun _ _ _=>rfl
theorem Ar.of_below {ok:Nat->Prop} {w w':World} (h:Below w.heap.size w w'):Ar ok w w':=fun b _ d=>h.block b d
theorem AZ {a w w':World} (h:Below B a w) (d:Below w.heap.size w w') (D:B<=a.heap.size):Below B a w':=h.trans (d.mono (Ea D h.size))
def AT (w:World) (ok:Nat->Prop) (size:Nat) (A:Option Addr) (n:Nat) (xs:List Value):Prop:=
 xs.length=n*size/\(0<n->∃b off,A=some ⟨b,off,none⟩/\ok b/\∀j u,xs[j]?=some u->w.cell? ⟨b,off+j,none⟩=some u)
def Bv (w:World) (ok:Nat->Prop) (size:Nat) (v:Value) (n:Nat) (xs:List Value):Prop:=
 ∃A c,v=.slice A n c/\n<=c/\AT w ok size A n xs
section
variable {w w':World} {ok ok':Nat->Prop} {size n:Nat} {A:Option Addr} {v:Value} {xs:List Value}
theorem AT.keep (h:AT w ok size A n xs) (E:Ar ok w w'):AT w' ok size A n xs:=
 ⟨h.1,fun G=>by
  obtain ⟨b,off,e,d,D⟩:=h.2 G;refine ⟨b,off,e,d,fun j u I=>?_⟩;have h1:=D j u I;exact (cell_same (E b d (zn h1))).trans h1⟩
theorem AT.weaken (h:AT w ok size A n xs) (E:∀b,ok b->ok' b):AT w ok' size A n xs:=
 ⟨h.1,fun G=>by
  obtain ⟨b,off,e,d,D⟩:=h.2 G;exact ⟨b,off,e,E b d,D⟩⟩
theorem AT.nil (w:World) (ok:Nat->Prop) (size:Nat) (A:Option Addr):AT w ok size A 0 []:=⟨by simp,fun h=>absurd h (by omega)⟩
theorem AT.at_ (h:AT w ok 1 A n xs) (G:k<n):∃b off u,A=some ⟨b,off,none⟩/\ok b/\xs[k]?=some u/\w.cell? ⟨b,off+k,none⟩=some u:=by
 obtain ⟨b,off,e,D,E⟩:=h.2 (by omega);have d:k<xs.length:=by have:=h.1;omega
 exact ⟨b,off,xs[k],e,D,DW d,E k _ (DW d)⟩
theorem Bv.keep (h:Bv w ok size v n xs) (D:Ar ok w w'):Bv w' ok size v n xs:=by
 obtain ⟨A,c,rfl,d,E⟩:=h;exact ⟨A,c,rfl,d,E.keep D⟩
theorem Bv.weaken (h:Bv w ok size v n xs) (D:∀b,ok b->ok' b):Bv w ok' size v n xs:=by
 obtain ⟨A,c,rfl,d,E⟩:=h;exact ⟨A,c,rfl,d,E.weaken D⟩
theorem Bv.below (h:Bv w ok size v n xs) (d:Below w.heap.size w w'):Bv w' ok size v n xs:=h.keep (Ar.of_below d)
theorem Bv.of_own {base:Nat} {e:TypeId} (h:w.ownsRow base e size v n xs):Bv w (fun b=>base<=b) size v n xs:=by
 obtain ⟨G,⟨rfl,rfl⟩ | ⟨g,cap,cur,rfl,J,hh,D,E,I,ht⟩⟩:=h
 ·exact ⟨none,0,rfl,DY _,G,fun h=>absurd h (by omega)⟩
 ·refine ⟨some ⟨g,0,none⟩,cap,rfl,D,G,fun _=>⟨g,0,rfl,J,fun j u d=>?_⟩⟩;unfold World.cell?;simp only [hh,Nat.zero_add];rw [<-ht,List.getElem?_take] at d
  split at d
  ·simpa using d
  ·cases d
end
def zk (w:World) (ok:Nat->Prop) (v:Value) (l:List Int):Prop:=Bv w ok 1 v l.length (l.map (Value.int .i64))
def Be (w:World) (ok:Nat->Prop) (v:Value) (l:List Bool):Prop:=Bv w ok 1 v l.length (l.map Value.bool)
def Each {α:Type} (R:Value->α->Prop) (w:World) (ok:Nat->Prop) (v:Value) (l:List α):Prop:=
 ∃vs,Bv w ok 1 v l.length vs/\∀(i:Nat) x,l[i]?=some x->∃u,vs[i]?=some u/\R u x
def Aa (w:World) (ok:Nat->Prop) (v:Value) (l:List (List Int)):Prop:=Each (zk w ok) w ok v l
def Bw (w:World) (ok:Nat->Prop) (v:Value) (l:List (List Bool)):Prop:=Each (Be w ok) w ok v l
def BR (w:World) (ok:Nat->Prop) (v:Value) (l:List (List Int×List Int)):Prop:=
 ∃vs,Bv w ok 3 v l.length vs/\∀(i:Nat) x,l[i]?=some x->∃s u1 u2,vs[i*3]?=some (.string s)/\vs[i*3+1]?=some u1/\vs[i*3+2]?=some u2/\zk w ok u1 x.1/\zk w ok u2 x.2
def zY (w:World) (ok:Nat->Prop) (v:Value) (m:MZ):Prop:=
 ∃f u t,v=.agg #[.int .i64 m.w,.int .i64 m.h,.int .i64 m.l,f,u,t]/\Bw w ok f m.free/\Be w ok u m.up/\BR w ok t m.tasks
section
variable {w w':World} {ok ok':Nat->Prop} {v:Value}
theorem zk.keep {l:List Int} (h:zk w ok v l) (d:Ar ok w w'):zk w' ok v l:=Bv.keep h d
theorem zk.weaken {l:List Int} (h:zk w ok v l) (d:∀b,ok b->ok' b):zk w ok' v l:=Bv.weaken h d
theorem zk.below {l:List Int} (h:zk w ok v l) (d:Below w.heap.size w w'):zk w' ok v l:=Bv.below h d
theorem Be.keep {l:List Bool} (h:Be w ok v l) (d:Ar ok w w'):Be w' ok v l:=Bv.keep h d
theorem Be.weaken {l:List Bool} (h:Be w ok v l) (d:∀b,ok b->ok' b):Be w ok' v l:=Bv.weaken h d
theorem Each.keep {α:Type} {R R':Value->α->Prop} {l:List α} (h:Each R w ok v l) (E:Ar ok w w') (D:∀u x,R u x->R' u x):Each R' w' ok v l:=by
 obtain ⟨vs,d,he⟩:=h;refine ⟨vs,d.keep E,fun i x I=>?_⟩;obtain ⟨u,G,d⟩:=he i x I;exact ⟨u,G,D _ _ d⟩
theorem Each.weaken {α:Type} {R R':Value->α->Prop} {l:List α} (h:Each R w ok v l) (E:∀b,ok b->ok' b) (D:∀u x,R u x->R' u x):Each R' w ok' v l:=by
 obtain ⟨vs,d,he⟩:=h;refine ⟨vs,d.weaken E,fun i x I=>?_⟩;obtain ⟨u,G,d⟩:=he i x I;exact ⟨u,G,D _ _ d⟩
theorem Aa.keep {l:List (List Int)} (h:Aa w ok v l) (d:Ar ok w w'):Aa w' ok v l:=Each.keep h d fun _ _ D=>D.keep d
theorem Aa.weaken {l:List (List Int)} (h:Aa w ok v l) (d:∀b,ok b->ok' b):Aa w ok' v l:=Each.weaken h d fun _ _ D=>D.weaken d
theorem Bw.keep {l:List (List Bool)} (h:Bw w ok v l) (d:Ar ok w w'):Bw w' ok v l:=Each.keep h d fun _ _ D=>D.keep d
theorem Bw.weaken {l:List (List Bool)} (h:Bw w ok v l) (d:∀b,ok b->ok' b):Bw w ok' v l:=Each.weaken h d fun _ _ D=>D.weaken d
theorem BR.keep {l:List (List Int×List Int)} (h:BR w ok v l) (d:Ar ok w w'):BR w' ok v l:=by
 obtain ⟨vs,D,he⟩:=h;refine ⟨vs,D.keep d,fun i x E=>?_⟩;obtain ⟨s,u1,u2,h0,h1,h2,i1,i2⟩:=he i x E;exact ⟨s,u1,u2,h0,h1,h2,i1.keep d,i2.keep d⟩
theorem BR.weaken {l:List (List Int×List Int)} (h:BR w ok v l) (d:∀b,ok b->ok' b):BR w ok' v l:=by
 obtain ⟨vs,D,he⟩:=h;refine ⟨vs,D.weaken d,fun i x E=>?_⟩;obtain ⟨s,u1,u2,h0,h1,h2,i1,i2⟩:=he i x E;exact ⟨s,u1,u2,h0,h1,h2,i1.weaken d,i2.weaken d⟩
theorem zY.keep {m:MZ} (h:zY w ok v m) (d:Ar ok w w'):zY w' ok v m:=by
 obtain ⟨f,u,t,rfl,h1,h2,h3⟩:=h;exact ⟨f,u,t,rfl,h1.keep d,h2.keep d,h3.keep d⟩
theorem zY.weaken {m:MZ} (h:zY w ok v m) (d:∀b,ok b->ok' b):zY w ok' v m:=by
 obtain ⟨f,u,t,rfl,h1,h2,h3⟩:=h;exact ⟨f,u,t,rfl,h1.weaken d,h2.weaken d,h3.weaken d⟩
theorem zY.below {m:MZ} (h:zY w ok v m) (d:Below w.heap.size w w'):zY w' ok v m:=h.keep (Ar.of_below d)
theorem Aa.below {l:List (List Int)} (h:Aa w ok v l) (d:Below w.heap.size w w'):Aa w' ok v l:=h.keep (Ar.of_below d)
theorem Be.below {l:List Bool} (h:Be w ok v l) (d:Below w.heap.size w w'):Be w' ok v l:=h.keep (Ar.of_below d)
theorem Bw.below {l:List (List Bool)} (h:Bw w ok v l) (d:Below w.heap.size w w'):Bw w' ok v l:=h.keep (Ar.of_below d)
theorem BR.below {l:List (List Int×List Int)} (h:BR w ok v l) (d:Below w.heap.size w w'):BR w' ok v l:=h.keep (Ar.of_below d)
theorem zk.open (h:zk w ok v l):∃A c,v=.slice A l.length c/\l.length<=c/\AT w ok 1 A l.length (l.map (Value.int .i64)):=h
theorem zk.nil (w:World) (ok:Nat->Prop):zk w ok (.slice none 0 0) []:=⟨none,0,rfl,DY _,AT.nil _ _ _ _⟩
theorem AH {n:Nat} {A:Option Addr} (h:AT w ok 1 A n (l.map (Value.int .i64))) (G:k<n) (I:k<l.length):
  ∃b off,A=some ⟨b,off,none⟩/\ok b/\w.cell? ⟨b,off+k,none⟩=some (.int .i64 (l[k])):=by
 obtain ⟨b,off,u,e,D,d,E⟩:=h.at_ G;refine ⟨b,off,e,D,?_⟩;rw [EH,DW I] at d;rw [E,<-d];rfl
theorem Bu {l:List Bool} {n:Nat} {A:Option Addr} (h:AT w ok 1 A n (l.map Value.bool)) (G:k<n) (I:k<l.length):
  ∃b off,A=some ⟨b,off,none⟩/\ok b/\w.cell? ⟨b,off+k,none⟩=some (.bool (l[k])):=by
 obtain ⟨b,off,u,e,D,d,E⟩:=h.at_ G;refine ⟨b,off,e,D,?_⟩;rw [EH,DW I] at d;rw [E,<-d];rfl
theorem AX {α:Type} {R:Value->α->Prop} {l:List α} {vs:List Value} {n:Nat} {A:Option Addr} (h:AT w ok 1 A n vs) (he:∀(i:Nat) x,l[i]?=some x->∃u,vs[i]?=some u/\R u x) (G:k<n) (I:k<l.length):
  ∃b off u,A=some ⟨b,off,none⟩/\ok b/\w.cell? ⟨b,off+k,none⟩=some u/\R u (l[k]):=by
 obtain ⟨b,off,u,e,D,K,E⟩:=h.at_ G;obtain ⟨u',d,J⟩:=he k _ (DW I);rw [K] at d;injection d with d;subst d;exact ⟨b,off,u,e,D,E,J⟩
end
theorem AF {k:IntKind} {a b:Int} (h:a=b):Ending.returned (.int k a)=.returned (.int k b):=by rw [h]
theorem zo {a b:Bool} (h:a=b):Ending.returned (.bool a)=.returned (.bool b):=by rw [h]
theorem Bk (W H L:Int) (f u t:Value) (w:World) (h1:-1000000000<=W*H/\W*H<=1000000000) (h2:-1000000000000000<=W*H*L/\W*H*L<=1000000000000000):
  Calls Tryz.prog 124 #[.agg #[.int .i64 W,.int .i64 H,.int .i64 L,f,u,t]] w fun e w'=>e=.returned (.int .i64 (W*H*L))/\Below w.heap.size w w':=by
 obtain ⟨d,D⟩:=h1;obtain ⟨E,G⟩:=h2
 go_enter Tryz.func124,Tryz.ntmps124
 go_wp2;go_ret;exact ⟨rfl,(Below.refl _ _).alloc (DY _) _⟩
theorem Ai (W H L:Int) (f u t:Value) (w:World) (h1:-1000000000<=W*H/\W*H<=1000000000) (h2:-1000000000000000<=W*H*L/\W*H*L<=1000000000000000):
  Calls Tryz.prog 41 #[.agg #[.int .i64 W,.int .i64 H,.int .i64 L,f,u,t]] w fun e w'=>e=.returned (.int .i64 (W*H*L))/\Below w.heap.size w w':=by
 obtain ⟨d,D⟩:=h1;obtain ⟨E,G⟩:=h2
 go_enter Tryz.func41,Tryz.ntmps41
 go_wp2;go_ret;exact ⟨rfl,(Below.refl _ _).alloc (DY _) _⟩
theorem mod_eq (n m:Int) (hm:0<m) (D:m<=1000000):(wrap64 (n.tmod m+m)).tmod m=n % m:=by
 have h1:n.tmod m<m:=Int.tmod_lt_of_pos n hm
 have h2:-m<n.tmod m:=by
  have:=Int.lt_tmod_of_pos n hm;omega
 rw [IntWalk.wrap64_in _ (by omega),Int.tmod_eq_emod_of_nonneg (by omega),Int.add_emod_right];have h3:=Int.tmod_add_mul_tdiv n m;have d:n=n.tmod m+m*n.tdiv m:=h3.symm
 conv=>rhs;rw [d]
 rw [Int.add_mul_emod_self_left]
theorem mod_calls (n m:Int) (w:World) (hm:0<m) (d:m<=1000000):
  Calls Tryz.prog 40 #[.int .i64 n,.int .i64 m] w fun e w'=>e=.returned (.int .i64 (n % m))/\w=w':=by
 have h:=mod_eq n m hm d;have H:=zh h;clear h
 go_enter Tryz.func40,Tryz.ntmps40
 go_wp2;go_ret;exact ⟨AF H.out,rfl⟩
theorem zv (h:k<l.length) (n:Int):n∈l.take (k+1)↔n∈l.take k\/n=l[k]:=by
 rw [Ef h,EN,EF]
theorem AK {ok:Nat->Prop} {v:Value} (n:Int) (w:World) (h:zk w ok v l) (hl:l.length<=20000000000000):
  Calls Tryz.prog 73 #[v,.int .i64 n] w fun e w'=>e=.returned (.bool (decide (n∈l)))/\w=w':=by
 obtain ⟨A,c,rfl,V,M⟩:=h;have O:=zh M;clear M
 go_enter Tryz.func73,Tryz.ntmps73
 go_wp2
 go_loop [5] (fun i=>∃k:Nat,k<=l.length/\i=.int .i64 k/\Hid (n∉l.take k)) (fun i=>l.length - (intOf i).toNat)
 case atStart=>exact ⟨0,Em _,rfl,by simp [Hid]⟩
 case round=>
  obtain ⟨k,hk,rfl,K⟩:=hrel;by_cases G:k<l.length
  ·obtain ⟨b,off,rfl,_,E⟩:=AH O.out G G;obtain ⟨x,I⟩:=Fd (l[k]);rw [<-I] at E;have J:=zh I;clear I;by_cases d:x=n
   ·have U:(x==n)=true:=by simp [d]
    have D:=zh d;clear d;go_wp2;go_ret;exact ⟨zo (by simp only [true_eq_decide_iff];rw [<-D.out,J.out];exact DZ _),rfl⟩
   ·have U:(x==n)=false:=by simp [d]
    have D:=zh d;clear d;go_wp2
    go_round
    case rel=>exact ⟨k+1,by omega,by go_num,fun hm=>by
     rcases (zv G n).1 hm with h | h
     ·exact K.out h
     ·exact D.out (J.out.trans h.symm)⟩
    case measure=>simp [intOf];omega
  ·obtain rfl:k=l.length:=by omega
   go_wp2;go_ret;exact ⟨zo (by have h:=K.out;rw [Ej] at h;simp [h]),rfl⟩
theorem index_calls {ok:Nat->Prop} {v:Value} (n:Int) (w:World) (h:zk w ok v l) (hl:l.length<=20000000000000):
  Calls Tryz.prog 187 #[v,.int .i64 n] w fun e w'=>∃r:Int,e=.returned (.int .i64 r)/\(0<=r↔n∈l)/\-1<=r/\w=w':=by
 obtain ⟨A,c,rfl,hc,O⟩:=h;have U:=zh O;clear O
 go_enter Tryz.func187,Tryz.ntmps187
 go_wp2
 go_loop [8] (fun i=>∃k:Nat,k<=l.length/\i=.int .i64 k/\Hid (n∉l.take k)) (fun i=>l.length - (intOf i).toNat)
 case atStart=>exact ⟨0,Em _,rfl,by simp [Hid]⟩
 case round=>
  obtain ⟨k,hk,rfl,M⟩:=hrel;by_cases G:k<l.length
  ·obtain ⟨b,off,rfl,_,E⟩:=AH U.out G G;obtain ⟨x,I⟩:=Fd (l[k]);rw [<-I] at E;have J:=zh I;clear I;by_cases d:n=x
   ·have V:(n==x)=true:=by simp [d]
    have D:=zh d;clear d;go_wp2;go_ret;exact ⟨_,rfl,⟨fun _=>by rw [D.out,J.out];exact DZ _,fun _=>by omega⟩,by omega,rfl⟩
   ·have V:(n==x)=false:=by simp [d]
    have D:=zh d;clear d;go_wp2
    go_round
    case rel=>exact ⟨k+1,by omega,by go_num,fun hm=>by
     rcases (zv G n).1 hm with h | h
     ·exact M.out h
     ·exact D.out (h.trans J.out.symm)⟩
    case measure=>simp [intOf];omega
  ·obtain rfl:k=l.length:=by omega
   go_wp2;go_ret;have h:=M.out;rw [Ej] at h;exact ⟨_,rfl,⟨fun K=>by omega,fun K=>absurd K h⟩,by omega,rfl⟩
theorem CW {ok:Nat->Prop} {v:Value} (n:Int) (w:World) (h:zk w ok v l) (G:l.length<=20000000000000):
  Calls Tryz.prog 130 #[v,.int .i64 n] w fun e w'=>e=.returned (.bool (decide (n∈l)))/\w=w':=by
 have d:=index_calls n w h G;obtain ⟨A,c,rfl,J,D⟩:=h;have H:=zh d;clear d;clear D
 go_enter Tryz.func130,Tryz.ntmps130
 go_wp2_with fail
 refine H.out.mono ?_;rintro e w' ⟨r,rfl,D,I,rfl⟩;have E:=zh D;clear D
 go_wp2_with fail
 go_ret;exact ⟨zo (by rw [decide_eq_decide];exact E.out),rfl⟩
theorem Cx {a w:World} (h:Below B a w) (n:Nat):Below B a (w.drewN n):=⟨h.os,h.tape,h.output,h.size,h.block⟩
theorem take_succ_eq {α:Type} {a b:List α} (d:k<a.length) (D:k<b.length):a.take (k+1)=b.take (k+1)↔a.take k=b.take k/\a[k]=b[k]:=by
 rw [Ef d,Ef D];constructor
 ·intro h;have E:(a.take k).length=(b.take k).length:=by simp;omega
  have:=List.append_inj h E;simpa using this
 ·rintro ⟨h1,h2⟩;rw [h1,h2]
def z8 (w w':World):Prop:=∃n,w'=w.drewN n
theorem z8.refl (w:World):z8 w w:=⟨0,rfl⟩
theorem z8.trans {a c:World} (h:z8 a b) (d:z8 b c):z8 a c:=by
 obtain ⟨n,rfl⟩:=h;obtain ⟨m,rfl⟩:=d;exact ⟨n+m,by rw [World.drewN_drewN]⟩
theorem z8.more {a:World} (h:z8 a b) (n:Nat):z8 a (b.drewN n):=h.trans ⟨n,rfl⟩
theorem z8.same {a:World} (h:z8 a b) (ok:Nat->Prop):Ar ok a b:=by
 obtain ⟨n,rfl⟩:=h;exact fun _ _ _=>rfl
theorem z8.below {a:World} (h:z8 a b) (B:Nat):Below B a b:=by
 obtain ⟨n,rfl⟩:=h;exact Cx (Below.refl _ _) n
theorem same_calls {ok ok':Nat->Prop} {v:Value} {a b:List Int} (w:World) (h:zk w ok v a) (h':zk w ok' v' b) (hl:a.length<=20000000000000) (b1:b.length<=20000000000000):
  Calls Tryz.prog 15 #[v,v'] w fun e w'=>e=.returned (.bool (decide (a=b)))/\z8 w w':=by
 obtain ⟨A,c,rfl,hc,hr⟩:=h;obtain ⟨A',c',rfl,b0,O⟩:=h';have HR:=zh hr;clear hr;have V:=zh O;clear O;by_cases d:a.length=b.length
 ·have a1:((a.length:Int) != (b.length:Int))=false:=by simp [d]
  have b2:a.length<=b.length:=by omega
  have a6:b.length<=a.length:=by omega
  have U:=zh d;clear d
  go_enter Tryz.func15,Tryz.ntmps15
  go_wp2;go_loopw [5] (fun i wr=>∃k:Nat,k<=a.length/\i=.int .i64 k/\Hid (a.take k=b.take k)/\Hid (z8 w wr)) (fun i _=>a.length - (intOf i).toNat)
  case atStart=>exact ⟨0,Em _,rfl,by simp [Hid],z8.refl _⟩
  case round=>
   obtain ⟨k,hk,rfl,heq,M⟩:=hrel;by_cases K:k<a.length
   ·have E:k<b.length:=by omega
    obtain ⟨bA,off,rfl,_,J⟩:=AH (HR.out.keep (M.out.same ok)) K K;obtain ⟨bB,off',rfl,_,G⟩:=AH (V.out.keep (M.out.same ok')) E E;obtain ⟨x,hx⟩:=Fd (a[k]);obtain ⟨y,hy⟩:=Fd (b[k]);rw [<-hx] at J;rw [<-hy] at G;have HX:=zh hx;clear hx;have HY:=zh hy;clear hy;by_cases D:x=y
    ·have a0:(x != y)=false:=by simp [D]
     have I:=zh D;clear D;go_wp2;go_quiet (fail)
     go_wp2;go_roundw
     case rel=>exact ⟨k+1,by omega,by go_num,(take_succ_eq K E).2 ⟨heq.out,by rw [<-HX.out,<-HY.out,I.out]⟩,M.out.more _⟩
     case measure=>simp [intOf];omega
    ·have a0:(x != y)=true:=by simp [D]
     have I:=zh D;clear D;go_wp2;go_quiet (fail)
     go_wp2;go_ret;refine ⟨zo ?_,M.out.more _⟩;rw [eq_comm,Ew];rintro rfl;exact I.out (HX.out.trans HY.out.symm)
   ·obtain rfl:k=a.length:=by omega
    go_wp2;go_ret;refine ⟨zo ?_,M.out⟩;have h:=heq.out;rw [Ej,U.out,Ej] at h;simp [h]
 ·have a1:((a.length:Int) != (b.length:Int))=true:=by simp only [bne_iff_ne];omega
  have U:=zh d;clear d
  go_enter Tryz.func15,Tryz.ntmps15
  go_wp2;go_ret;refine ⟨zo ?_,z8.refl _⟩;rw [eq_comm,Ew];rintro rfl;exact U.out rfl
theorem samePaths_calls {ok ok':Nat->Prop} {v:Value} {a b:List (List Int)} (w:World) (h:Aa w ok v a) (h':Aa w ok' v' b) (hl:a.length<=20000000000000) (c9:b.length<=20000000000000)
  (ha:∀x∈a,x.length<=20000000000000) (hb:∀x∈b,x.length<=20000000000000):
  Calls Tryz.prog 14 #[v,v'] w fun e w'=>e=.returned (.bool (decide (a=b)))/\z8 w w':=by
 obtain ⟨vs,⟨A,c,rfl,hc,hr⟩,he⟩:=h;obtain ⟨vs',⟨A',c',rfl,c8,a1⟩,a0⟩:=h';have HR:=zh hr;clear hr;have a6:=zh a1;clear a1;have HE:=zh he;clear he;have a4:=zh a0;clear a0;have HA:=zh ha;clear ha;have HB:=zh hb;clear hb;by_cases d:a.length=b.length
 ·have a8:((a.length:Int) != (b.length:Int))=false:=by simp [d]
  have d4:a.length<=b.length:=by omega
  have b6:b.length<=a.length:=by omega
  have HL:=zh d;clear d
  go_enter Tryz.func14,Tryz.ntmps14
  go_wp2;go_loopw [5] (fun i wr=>∃k:Nat,k<=a.length/\i=.int .i64 k/\Hid (a.take k=b.take k)/\Hid (z8 w wr)) (fun i _=>a.length - (intOf i).toNat)
  case atStart=>exact ⟨0,Em _,rfl,by simp [Hid],z8.refl _⟩
  case round=>
   obtain ⟨k,hk,rfl,heq,U⟩:=hrel;by_cases K:k<a.length
   ·have E:k<b.length:=by omega
    obtain ⟨bA,off,u,rfl,_,a7,hu⟩:=AX (HR.out.keep (U.out.same ok)) HE.out K K;obtain ⟨bB,off',u',rfl,_,a3,V⟩:=AX (a6.out.keep (U.out.same ok')) a4.out E E;have O:=HA.out _ (DZ K);have J:=HB.out _ (DZ E);obtain ⟨x,hx⟩:=Fd (a[k]);obtain ⟨y,hy⟩:=Fd (b[k]);rw [<-hx] at hu O;rw [<-hy] at V J;have HX:=zh hx;clear hx;have HY:=zh hy;clear hy
    have D:∀n,Calls Tryz.prog 15 #[u,u'] (wr.drewN n) fun e w'=>e=.returned (.bool (decide (x=y)))/\∃m,w'=(wr.drewN n).drewN m:=
     fun n=>same_calls (wr.drewN n) (hu.keep ((U.out.more n).same ok)) (V.keep ((U.out.more n).same ok')) O J
    have HS:=zh D;clear D hu V O J;by_cases G:x=y
    ·have I:decide (x=y)=true:=by simp [G]
     rw [I] at HS;have M:=zh G;clear G I;go_wp2;go_quiet ((go_at_call 15;exact Calls.quiet_of (HS.out _)))
     go_wp2;go_roundw
     case rel=>exact ⟨k+1,by omega,by go_num,(take_succ_eq K E).2 ⟨heq.out,by rw [<-HX.out,<-HY.out,M.out]⟩,U.out.more _⟩
     case measure=>simp [intOf];omega
    ·have I:decide (x=y)=false:=by simp [G]
     rw [I] at HS;have M:=zh G;clear G I;go_wp2;go_quiet ((go_at_call 15;exact Calls.quiet_of (HS.out _)))
     go_wp2;go_ret;refine ⟨zo ?_,U.out.more _⟩;rw [eq_comm,Ew];rintro rfl;exact M.out (HX.out.trans HY.out.symm)
   ·obtain rfl:k=a.length:=by omega
    go_wp2;go_ret;refine ⟨zo ?_,U.out⟩;have h:=heq.out;rw [Ej,HL.out,Ej] at h;simp [h]
 ·have a8:((a.length:Int) != (b.length:Int))=true:=by simp only [bne_iff_ne];omega
  have HL:=zh d;clear d
  go_enter Tryz.func14,Tryz.ntmps14
  go_wp2;go_ret;refine ⟨zo ?_,z8.refl _⟩;rw [eq_comm,Ew];rintro rfl;exact HL.out rfl
end
section
open Go.RowKit
open Go.ChangeMaps (setBlock)
def zy:List Int->Nat->List MapEntry
 | [],_=>[]
 | x :: l,b=>{ key:=.int .i64 x,val:=.bool true,born:=b } :: zy l (b+1)
def mapObj (l:List Int):Obj:=.map (zy l 0).toArray l.length
def zF (w:World) (g:Nat) (l:List Int):Prop:=w.heap[g]?=some (mapObj l)
def ins (l:List Int) (x:Int):List Int:=if x∈l then l else l++[x]
theorem mem_ins:y∈ins l x↔y∈l\/y=x:=by
 unfold ins
 split
 ·constructor
  ·exact .inl
  ·rintro (h | rfl)
   ·exact h
   ·assumption
 ·simp
theorem CX:∀(l:List Int) (b:Nat),(zy l b).length=l.length
 | [],_=>rfl
 | _ :: l,b=>by simp [zy,CX l]
theorem DJ:∀(l l':List Int) (b:Nat),zy (l++l') b=zy l b++zy l' (b+l.length)
 | [],_,_=>by simp [zy]
 | _ :: l,l',b=>by simp [zy,DJ l l' (b+1),Nat.add_assoc,Nat.add_comm 1]
theorem Cy:∀(l:List Int) (b i:Nat),(zy l b)[i]?=(l[i]?).map fun x=>{ key:=.int .i64 x,val:=.bool true,born:=b+i }
 | [],_,_=>by simp [zy]
 | x :: l,b,0=>by simp [zy]
 | x :: l,b,i+1=>by simp [zy,Cy l (b+1) i,Nat.add_assoc,Nat.add_comm 1]
theorem zF.keep {ok:Nat->Prop} {w w':World} (h:zF w g l) (D:Ar ok w w') (d:ok g):zF w' g l:=(D g d (zc h)).trans h
theorem zF.below {w w':World} (h:zF w g l) (d:Below w.heap.size w w'):zF w' g l:=(d.block g (zc h)).trans h
theorem zF.new (w:World):zF (w.alloc (.map #[] 0)) w.heap.size []:=EL _ _
open Go.Instr in
theorem DK (x:Int):∀(l:List Int) (b s:Nat),findNow (.int .i64) (.int .i64 x) (zy l b) s=some (if x∈l then some (s+l.idxOf x,.bool true) else none)
 | [],_,_=>by simp [zy,findNow]
 | y :: l,b,s=>by
  simp only [zy,findNow,sameNow,if_true];by_cases h:x=y
  ·subst h;simp
  ·have E:(x==y)=false:=by simpa using h
   have D:(y==x)=false:=by simpa using fun e:y=x=>h e.symm
   simp only [E];rw [DK x l (b+1) (s+1)];by_cases hm:x∈l
   ·have d:x∈y :: l:=Et _ hm;rw [if_pos hm,if_pos d,List.idxOf_cons,D];simp only [cond_false,Bool.false_eq_true,if_false];rw [show s+1+l.idxOf x=s+(l.idxOf x+1) by omega]
   ·have d:¬ x∈y :: l:=by simp [h,hm]
    rw [if_neg hm,if_neg d]
theorem run_getObj' {w:World} {n:Nat} (h:w.heap[g]?=some (.map es n)):(getObj g).run P w=.ok (.map es n) w:=by simp [getObj,Sem.run,h]
theorem run_setObj' {w:World} {n:Nat} (o':Obj) (h:w.heap[g]?=some (.map es n)):(setObj g o').run P w=.ok () (setBlock w g o'):=by
 simp [setObj,Sem.run,h,setBlock]
open Go.Instr in
theorem run_checkKey (b:Bool) (n:Nat) (x:Int) (w:World):(checkKey b (n+1) 3 (.int .i64 x)).run Tryz.prog w=.ok () w:=by
 simp [checkKey,run_underlying Tryz.underlying3]
theorem run_look {w:World} (h:zF w g l) (x:Int) (t:TypeId) (ht:Tryz.prog.underlying t=some (.map 3 4)):
  (Instr.lookup t (.map (some g)) (.int .i64 x) false).run Tryz.prog w=.ok (.bool (decide (x∈l))) w:=by
 have d:∀w,(zeroValue 4).run Tryz.prog w=.ok (.bool false) w:=fun w=>by kernel_rfl
 unfold Instr.lookup;simp only [Sem.run_bind,run_underlying ht,Result.andThen_ok,run_getObj' h,mapObj,Sem.run_pure];rw [show (10000:Nat)=9999+1 from rfl,run_checkKey];simp only [Result.andThen_ok,Instr.findKey,Sem.run_bind,run_underlying Tryz.underlying3,List.toList_toArray,DK];by_cases hm:x∈l
 ·simp [hm]
 ·simp [hm,d]
theorem setBlk_same {w:World} {o o':Obj} (h:w.heap[g]?=some o):(setBlock w g o').heap[g]?=some o':=by
 have:=zc h;simp [setBlock,this]
theorem DA {w:World} (o:Obj) (h:k≠g):(setBlock w g o).heap[k]?=w.heap[k]?:=by
 simp [setBlock,Ne.symm h]
theorem run_add {w:World} (h:zF w g l) (x:Int) (t:TypeId) (ht:Tryz.prog.underlying t=some (.map 3 4)):
  ∃w',(Instr.mapUpdate t (.map (some g)) (.int .i64 x) (.bool true)).run Tryz.prog w=.ok () w'/\zF w' g (ins l x)/\w.grownBy w' (some g):=by
 refine ⟨setBlock w g (mapObj (ins l x)),?_,setBlk_same h,⟨rfl,rfl,rfl,by simp [setBlock],fun k _ E=>DA _ (fun e=>E (by rw [e]))⟩⟩;unfold Instr.mapUpdate;simp only [Sem.run_bind,run_underlying ht,Result.andThen_ok,run_getObj' h,mapObj];rw [show (10000:Nat)=9999+1 from rfl,run_checkKey];simp only [Result.andThen_ok,Instr.findKey,Sem.run_bind,run_underlying Tryz.underlying3,List.toList_toArray,DK];by_cases hm:x∈l
 ·simp only [hm,if_true,Sem.run_pure,Result.andThen_ok,Nat.zero_add];have D:l.idxOf x<l.length:=List.idxOf_lt_length_of_mem hm;have G:l[l.idxOf x]=x:=List.getElem_idxOf D
  have E:∀W,(Instr.keyThatStays ((((zy l 0).toArray[l.idxOf x]?).map (·.key)).getD (.int .i64 x)) (.int .i64 x)).run Tryz.prog W=.ok (.int .i64 x) W:=by
   intro W;rw [List.getElem?_toArray,Cy,DW D];simp [Instr.keyThatStays,Instr.sameBits,G]
  rw [Sem.run_bind,E];simp only [Result.andThen_ok]
  have d:(zy l 0).toArray.modify (l.idxOf x) (fun e=>{ e with key:=.int .i64 x,val:=.bool true })=(zy l 0).toArray:=by
   apply Array.ext_getElem?;intro i;rw [Array.getElem?_modify]
   split
   ·rename_i e
    subst e;rw [List.getElem?_toArray,Cy,DW D];simp [G]
   ·rfl
  rw [d,run_setObj' _ h];have:ins l x=l:=by simp [ins,hm]
  rw [this]
 ·simp only [hm,if_false,Sem.run_pure,Result.andThen_ok];rw [run_setObj' _ h];have:ins l x=l++[x]:=by simp [ins,hm]
  rw [this,DJ];simp [zy]
theorem wpSetAdd {w:World} (I:o.guard=none) (m y v:Operand) (t:TypeId) (E:o.op=Op.mapUpdate t m y v)
  (ht:Tryz.prog.underlying t=some (.map 3 4)) (g:Nat) (l:List Int) (x:Int) (hm:a.eval m=.map (some g)) (M:a.eval y=.int .i64 x) (K:a.eval v=.bool true) (J:zF w g l)
  (G:∀w',zF w' g (ins l x)->w.grownBy w' (some g)->wpList Tryz.prog ops Q rest (a.put o.dst undef) w'):wpList Tryz.prog ops Q (o :: rest) a w:=by
 refine wpList_plain I fun K' D=>?_
 obtain ⟨w',d,h1,h2⟩:=run_add J x t ht;unfold Oper.wp;simp [execOp,E,hm,M,K,d,Result.andThen];exact D _ _ (G w' h1 h2)
end
section
open Go.RowKit
theorem Tryz.infoInt:(Tryz.prog.info? 3).map (fun i=>(i.zero,i.size,i.bytes))=some (some (.int .i64 0),1,8):=by kernel_rfl
def ap (c:Bool) (x:Int) (l:List Int):List Int:=if c then l++[x] else l
theorem ap_len (c:Bool) (x:Int) (l:List Int):(ap c x l).length<=l.length+1:=by
 unfold ap;split <;> simp
theorem map_snoc (l:List Int) (x:Int):(l++[x]).map (Value.int .i64)=l.map (Value.int .i64)++[.int .i64 x]:=by simp
def zl (w:World) (g:Nat) (t:TypeId) (cs:Array Value):Prop:=w.heap[g]?=some (.cells cs t (0,0))
theorem zl.ne_ {w:World} {g':Nat} {t t':TypeId} {cs':Array Value} (h:zl w g t cs) (d:zl w g' t' cs') (D:t≠t'):g≠g':=by
 rintro rfl;unfold zl at h d;rw [h] at d;injection d with d;injection d with _ ht;exact D ht
theorem zf {w:World} {base:Nat} {e:TypeId} {size n:Nat} {v:Value} {xs:List Value} {t:TypeId} (h:w.ownsRow base e size v n xs) (D:zl w g t cs) (d:e≠t):v.ownBlock≠some g:=by
 rcases h.2 with ⟨rfl,_⟩ | ⟨g',cap,cur,rfl,_,hh,_⟩
 ·simp [Value.ownBlock]
 ·intro he;have:g'=g:=by simpa [Value.ownBlock] using he
  subst this;exact zl.ne_ (t:=e) hh D d rfl
def Acc (w0 w:World) (B gb:Nat) (l:List Int):Prop:=
 ∃v,zl w gb 23 #[v]/\w.ownsRow B 3 1 v l.length (l.map (Value.int .i64))/\B<=gb/\Below B w0 w
theorem wpApp1 (E:o.guard=none) (s y:Operand)
  (U:o.op=.call { callee:=.builtin .append,args:=#[s,y],argTypes:=#[23,23] }) (W:World) (l:List Int) (x:Int) (B g c:Nat) (v:Value) (V:a.eval s=v)
  (hy:a.eval y=.slice (some ⟨g,0,none⟩) 1 c) (d:W.ownsRow B 3 1 v l.length (l.map (Value.int .i64))) (M:W.cell? ⟨g,0,none⟩=some (.int .i64 x)) (K:B<=W.heap.size) (hl:l.length<=1000000000000)
  (h:∀v' w',w'.ownsRow B 3 1 v' (l++[x]).length ((l++[x]).map (Value.int .i64))->W.grownBy w' v.ownBlock->wpList Tryz.prog ops Q rest (a.put o.dst v') w'):wpList Tryz.prog ops Q (o :: rest) a W:=by
 obtain ⟨i0,O,G,I,J⟩:=info_parts Tryz.infoInt;refine wpList_append_own _ E _ _ 23 U B 3 i0 (.int .i64 0) 1 8 Tryz.underlying23 O G I J rfl (by decide) _ _ _ V d ⟨g,0,none⟩ 1 c [.int .i64 x] hy rfl ?_ ?_ ?_ ?_ K ?_
 ·intro j u D
  match j,D with
  | 0,D=>
   have:u=.int .i64 x:=by simpa using D.symm
   rw [this];exact M
 ·intro u D;have:u=.int .i64 x:=by simpa using D
  rw [this];rfl
 ·unfold maxLen;omega
 ·omega
 ·intro v' w' h1 h2 _;refine h v' w' ?_ h2;rw [map_snoc,Eg];exact h1
theorem add_calls (w0 w:World) (B gb:Nat) (l:List Int) (c:Bool) (x:Int) (h:Acc w0 w B gb l) (hl:l.length<=1000) (hB:B<=w0.heap.size):
  Calls Tryz.prog 214 #[.bool c,.int .i64 x,.pointer (some ⟨gb,0,none⟩)] w fun e w'=>e=.returned (.tuple #[])/\Acc w0 w' B gb (ap c x l):=by
 have I:=h;obtain ⟨v,O,E,K,hb⟩:=h
 cases c with
 | false=>
  go_enter Tryz.func214,Tryz.ntmps214
  go_wp2
  go_end0
  exact ⟨rfl,I⟩
 | true=>
  have a2:w.cell? ⟨gb,0,none⟩=some v:=by unfold World.cell?;simp only [show w.heap[gb]?=_ from O];rfl
  have a6:=zf E O (by decide);have a5:gb<w.heap.size:=zc O;have a0:B<=w.heap.size:=Ea hB hb.size;have HG:=zh O;clear O;have HB:=zh hb;clear hb;clear I
  go_enter Tryz.func214,Tryz.ntmps214
  go_wp2_with (at_builtin;refine wpApp1 rfl _ _ rfl _ l x B w.heap.size 1 v rfl rfl (E.alloc _) ?c1 ?c2 ?c3 ?_)
  case c1=>simp
  case c2=>simp;omega
  case c3=>omega
  intro v' w1 D d;obtain ⟨g',cap',rfl,a4,a3⟩:=D.form (by simp);have G:zl w1 gb 23 #[v]:=(d.block gb (by simp;omega) (fun e=>a6 e.symm)).trans ((Er w _ gb a5).trans HG.out);have U:w1.cell? ⟨gb,0,none⟩=some v:=by unfold World.cell?;simp only [show w1.heap[gb]?=_ from G];rfl
  have hfz:w1.frozen? ⟨gb,0,none⟩=false:=by unfold World.frozen?;simp [show w1.heap[gb]?=_ from G]
  have J:=zh G;clear G;have V:=zh d;clear d;have HO:=zh D;clear D;clear a4 a3;go_wp2
  go_end0
  have M:Below B w0 w1:=(HB.out.alloc a0 _).grown V.out (by simp;omega) (fun k hk=>by
   have:=(E.lt k hk).1;omega)
  refine ⟨rfl,.slice (some ⟨g',0,none⟩) (l++[x]).length cap',?_,?_,K,M.setCell K _⟩
  ·have:=J.out;unfold zl at this⊢;simp [World.setCell,Array.getElem?_modify,this]
  ·have h:=ownsRow_setCell_other (a:=⟨gb,0,none⟩) HO.out (zf (t:=23) HO.out J.out (by decide)) (.slice (some ⟨g',0,none⟩) (l++[x]).length cap');simpa [ap] using h
def AccK (w0 w:World) (B gb k:Nat) (l:List Int):Prop:=Acc w0 w B gb l/\l.length<=k/\B<=w0.heap.size
theorem addK (w0 w:World) (B gb k:Nat) (l:List Int) (c:Bool) (x:Int) (h:AccK w0 w B gb k l) (E:k<=1000):
  Calls Tryz.prog 214 #[.bool c,.int .i64 x,.pointer (some ⟨gb,0,none⟩)] w fun e w'=>e=.returned (.tuple #[])/\AccK w0 w' B gb (k+1) (ap c x l):=by
 obtain ⟨h,G,d⟩:=h;refine (add_calls w0 w B gb l c x h (by omega) d).mono ?_;rintro e w' ⟨rfl,D⟩;exact ⟨rfl,D,by have:=ap_len c x l;omega,d⟩
theorem AccK.below {w:World} (h:AccK w0 w B gb k l):Below B w0 w:=by
 obtain ⟨⟨v,_,_,_,d⟩,_,_⟩:=h;exact d
theorem zt {w:World} {t:TypeId} {a0 a1 a2 a3 a4 a5:Value} (h:zl w g t #[a0,a1,a2,a3,a4,a5]):
  w.cell? ⟨g,0,none⟩=some a0/\w.cell? ⟨g,1,none⟩=some a1/\w.cell? ⟨g,2,none⟩=some a2/\w.cell? ⟨g,3,none⟩=some a3/\w.cell? ⟨g,4,none⟩=some a4/\w.cell? ⟨g,5,none⟩=some a5:=by
 unfold zl at h;unfold World.cell?;simp only [h];exact ⟨rfl,rfl,rfl,rfl,rfl,rfl⟩
theorem zl.below {w w':World} {t:TypeId} (h:zl w g t cs) (d:Below B w w') (D:g<B):zl w' g t cs:=(d.block g D).trans h
theorem zl.alloc {w:World} {g:Nat} {t:TypeId} {cs:Array Value} (h:zl w g t cs) (o:Obj):zl (w.alloc o) g t cs:=(Er w o g (zc h)).trans h
theorem Acc.new (w1:World):AccK w1 (w1.alloc (.cells #[.slice none 0 0] 23)) w1.heap.size w1.heap.size 0 []:=
 ⟨⟨.slice none 0 0,EL _ _,(World.ownsRow_nil _ _ _ _),DY _,(Below.refl _ _).alloc (DY _) _⟩,DY _,DY _⟩
theorem AccK.end_ {w:World} (h:AccK w0 w B gb k l):∃v,w.cell? ⟨gb,0,none⟩=some v/\w.ownsRow B 3 1 v l.length (l.map (Value.int .i64)):=by
 obtain ⟨⟨v,d,D,_,_⟩,_,_⟩:=h;refine ⟨v,?_,D⟩;unfold zl at d;unfold World.cell?;simp only [d];rfl
theorem AccK.more {w w':World} (h:AccK w0 w B gb k l) (d:Below w.heap.size w w'):AccK w0 w' B gb k l:=by
 obtain ⟨⟨v,I,M,D,E⟩,K,G⟩:=h;exact ⟨⟨v,(d.block gb (zc I)).trans I,M.kept (row:=none) ⟨d.os,d.tape,d.output,d.size,fun i J _=>d.block i J⟩ (by cases h:v.ownBlock <;> simp),D,AZ E d G⟩,K,G⟩
theorem next_fin {w:World} {v:Value} {l':List Int} (h:w.ownsRow B 3 1 v l.length (l.map (Value.int .i64))) (e:l'=l):w.ownsRow B 3 1 v l'.length (l'.map (Value.int .i64)):=by
 rw [e];exact h
def zm (m:MZ) (node:Int):List Int:=
 ap (decide (node+m.w*m.h<m.w*m.h*m.l) && m.up.getD node.toNat false) (node+m.w*m.h)
  (ap (decide (node / m.w % m.h+1<m.h)) (node+m.w)
   (ap (decide (node % m.w+1<m.w)) (node+1)
    (ap (decide (0<node % m.w)) (node - 1)
     (ap (decide (0<node / m.w % m.h)) (node - m.w)
      (ap (decide (m.w*m.h<=node) && m.up.getD (node - m.w*m.h).toNat false) (node - m.w*m.h) [])))))
structure Dim (m:MZ):Prop where
 w1:1<=m.w
 w2:m.w<=300
 h1:1<=m.h
 h2:m.h<=300
 l1:1<=m.l
 l2:m.l<=300
 n1:m.w*m.h*m.l<=300
 up:(m.up.length:Int)=m.w*m.h*m.l
theorem Dim.layer {m:MZ} (d:Dim m):1<=m.w*m.h/\m.w*m.h<=m.w*m.h*m.l:=by
 have h1:1<=m.w*m.h:=by
  have:=Int.mul_le_mul d.w1 d.h1 (by omega) (by have:=d.w1;omega);omega
 refine ⟨h1,?_⟩;have:=Int.mul_le_mul_of_nonneg_left d.l1 (show 0<=m.w*m.h by omega);omega
theorem next_eq (m:MZ) (node:Int) (b1 b2:Bool) (h1:b1=(decide (m.w*m.h<=node) && m.up.getD (node - m.w*m.h).toNat false)) (h2:b2=(decide (node+m.w*m.h<m.w*m.h*m.l) && m.up.getD node.toNat false)):
  zm m node=ap b2 (node+m.w*m.h) (ap (decide (node / m.w % m.h+1<m.h)) (node+m.w) (ap (decide (node % m.w+1<m.w)) (node+1) (ap (decide (0<node % m.w)) (node - 1) (ap (decide (0<node / m.w % m.h)) (node - m.w) (ap b1 (node - m.w*m.h) []))))):=by
 rw [h1,h2];rfl
theorem up_true {p:Prop} [Decidable p] {up:List Bool} (hp:p) (h:k<up.length):up[k]=(decide p && up.getD k false):=by
 simp [hp,h]
theorem up_false {p:Prop} [Decidable p] {b:Bool} (hp:¬ p):false=(decide p && b):=by simp [hp]
theorem next_calls {ok:Nat->Prop} {v:Value} (m:MZ) (node:Int) (w:World) (hm:zY w ok v m) (d:Dim m) (h0:0<=node) (h1:node<m.w*m.h*m.l):
  Calls Tryz.prog 161 #[v,.int .i64 node] w fun e w'=>∃v',e=.returned v'/\Below w.heap.size w w'/\w'.ownsRow w.heap.size 3 1 v' (zm m node).length ((zm m node).map (Value.int .i64)):=by
 obtain ⟨f,u,t,rfl,_,hu,_⟩:=hm;obtain ⟨A,c,rfl,d4,c8⟩:=hu;have hl:=d.layer;obtain ⟨d8,d9⟩:=hl;obtain ⟨w1,w2,d5,d6,ll1,ll2,n1,c7⟩:=d;obtain ⟨W,H,L,fr,up,ts⟩:=m;simp only at*;have HU:=zh c8;clear c8;have b6:=zh c7;clear c7
 go_enter Tryz.func161,Tryz.ntmps161
 have e0:0<=node / W:=Int.ediv_nonneg h0 (by omega);have e1:node / W<=node:=Int.ediv_le_self _ h0
 go_wp2_with fail
 go_quiet (fail)
 have e2:0<=node / W % H:=Int.emod_nonneg _ (by omega);have e3:node / W % H<H:=Int.emod_lt_of_pos _ (by omega);have e4:0<=node % W:=Int.emod_nonneg _ (by omega);have e5:node % W<W:=Int.emod_lt_of_pos _ (by omega);generalize b9:((w.alloc (.cells #[.int .i64 W,.int .i64 H,.int .i64 L,f,.slice A up.length c,t] 32)).drewN nq)=w1;have O:Below w.heap.size w w1:=by rw [<-b9];exact Cx ((Below.refl _ _).alloc (DY _) _) _
 have c6:zl w1 w.heap.size 32 #[.int .i64 W,.int .i64 H,.int .i64 L,f,.slice A up.length c,t]:=by rw [<-b9];exact EL _ _
 have b5:=zh (HU.out.keep (Ar.of_below O):AT w1 ok 1 A up.length (up.map Value.bool));clear b9 HU;have K:=zh c6;clear c6;have U:=zh O;clear O;by_cases hA:W*H<=node
 ·by_cases hB:node+W*H<W*H*L
  ·have a7:(node - W*H).toNat<up.length:=by have:=b6.out;omega
   obtain ⟨b,off,a9,_,I⟩:=Bu b5.out a7 a7;have D:=zn I;have a8:node.toNat<up.length:=by have:=b6.out;omega
   obtain ⟨b',off',b4,_,J⟩:=Bu b5.out a8 a8;obtain ⟨rfl,rfl⟩:b=b'/\off=off':=by rw [a9] at b4;simpa using b4
   clear b4;subst a9;obtain ⟨b1,O⟩:=Fd (up[(node - W*H).toNat]);rw [<-O] at I;have b0:=zh O;clear O;obtain ⟨b2,V⟩:=Fd (up[node.toNat]);rw [<-V] at J;have b3:=zh V;clear V;have E:w.heap.size<w1.heap.size:=zc K.out;have G:=fun o=>zt (K.out.alloc o)
   obtain ⟨m0,m1,m2,m3,m4,m5⟩:(∀o,(w1.alloc o).cell? ⟨w.heap.size,0,none⟩=_)/\(∀o,(w1.alloc o).cell? ⟨w.heap.size,1,none⟩=_)/\(∀o,(w1.alloc o).cell? ⟨w.heap.size,2,none⟩=_)/\(∀o,(w1.alloc o).cell? ⟨w.heap.size,3,none⟩=_)/\(∀o,(w1.alloc o).cell? ⟨w.heap.size,4,none⟩=_)/\(∀o,(w1.alloc o).cell? ⟨w.heap.size,5,none⟩=_):=⟨fun o=>(G o).1,fun o=>(G o).2.1,fun o=>(G o).2.2.1,fun o=>(G o).2.2.2.1,fun o=>(G o).2.2.2.2.1,fun o=>(G o).2.2.2.2.2⟩;clear G;have u1:∀o,(w1.alloc o).cell? ⟨b,off+(node - W*H).toNat,none⟩=_:=fun o=>(World.cell?_alloc_lt w1 o ⟨b,off+(node - W*H).toNat,none⟩ D).trans I
   have u2:∀o,(w1.alloc o).cell? ⟨b,off+node.toNat,none⟩=_:=fun o=>(World.cell?_alloc_lt w1 o ⟨b,off+node.toNat,none⟩ D).trans J
   go_wp2_with fail
   refine (addK w1 _ w1.heap.size w1.heap.size 0 _ _ _ (Acc.new w1) (by omega)).mono ?_;rintro e k1 ⟨rfl,a1⟩;clear m0 m1 m2 m3 m4 m5 u1 u2;obtain ⟨m0,m1,m2,m3,m4,m5⟩:=zt (K.out.below a1.below E);have u1:=(a1.below.cell (p:=⟨b,off+(node - W*H).toNat,none⟩) D).trans I;have u2:=(a1.below.cell (p:=⟨b,off+node.toNat,none⟩) D).trans J
   go_wp2_with fail
   refine (addK w1 _ w1.heap.size w1.heap.size 1 _ _ _ (a1) (by omega)).mono ?_;rintro e k2 ⟨rfl,a2⟩;clear m0 m1 m2 m3 m4 m5 u1 u2;obtain ⟨m0,m1,m2,m3,m4,m5⟩:=zt (K.out.below a2.below E);have u1:=(a2.below.cell (p:=⟨b,off+(node - W*H).toNat,none⟩) D).trans I;have u2:=(a2.below.cell (p:=⟨b,off+node.toNat,none⟩) D).trans J
   go_wp2_with fail
   refine (addK w1 _ w1.heap.size w1.heap.size 2 _ _ _ (a2) (by omega)).mono ?_;rintro e k3 ⟨rfl,a3⟩;clear m0 m1 m2 m3 m4 m5 u1 u2;obtain ⟨m0,m1,m2,m3,m4,m5⟩:=zt (K.out.below a3.below E);have u1:=(a3.below.cell (p:=⟨b,off+(node - W*H).toNat,none⟩) D).trans I;have u2:=(a3.below.cell (p:=⟨b,off+node.toNat,none⟩) D).trans J
   go_wp2_with fail
   refine (addK w1 _ w1.heap.size w1.heap.size 3 _ _ _ (a3) (by omega)).mono ?_;rintro e k4 ⟨rfl,a4⟩;clear m0 m1 m2 m3 m4 m5 u1 u2;obtain ⟨m0,m1,m2,m3,m4,m5⟩:=zt (K.out.below a4.below E);have u1:=(a4.below.cell (p:=⟨b,off+(node - W*H).toNat,none⟩) D).trans I;have u2:=(a4.below.cell (p:=⟨b,off+node.toNat,none⟩) D).trans J
   go_wp2_with fail
   refine (addK w1 _ w1.heap.size w1.heap.size 4 _ _ _ (a4) (by omega)).mono ?_;rintro e k5 ⟨rfl,a5⟩;clear m0 m1 m2 m3 m4 m5 u1 u2;obtain ⟨m0,m1,m2,m3,m4,m5⟩:=zt (K.out.below a5.below E);have u1:=(a5.below.cell (p:=⟨b,off+(node - W*H).toNat,none⟩) D).trans I;have u2:=(a5.below.cell (p:=⟨b,off+node.toNat,none⟩) D).trans J
   go_wp2_with fail
   refine (Bk W H L _ _ _ _ (by omega) (by omega)).mono ?_;rintro e kn ⟨rfl,a0⟩;have a5:=a5.more a0;clear m0 m1 m2 m3 m4 m5 u1 u2;obtain ⟨m0,m1,m2,m3,m4,m5⟩:=zt (K.out.below a5.below E);have u1:=(a5.below.cell (p:=⟨b,off+(node - W*H).toNat,none⟩) D).trans I;have u2:=(a5.below.cell (p:=⟨b,off+node.toNat,none⟩) D).trans J
   go_wp2_with fail
   refine (addK w1 _ w1.heap.size w1.heap.size 5 _ _ _ (a5) (by omega)).mono ?_;rintro e k6 ⟨rfl,a6⟩;clear m0 m1 m2 m3 m4 m5 u1 u2;obtain ⟨m0,m1,m2,m3,m4,m5⟩:=zt (K.out.below a6.below E);have u1:=(a6.below.cell (p:=⟨b,off+(node - W*H).toNat,none⟩) D).trans I;have u2:=(a6.below.cell (p:=⟨b,off+node.toNat,none⟩) D).trans J;obtain ⟨vf,b8,M⟩:=a6.end_;have HO:=zh M;clear M
   go_wp2_with fail
   go_ret;refine ⟨vf,rfl,AZ U.out (Below.mono a6.below (DY _)) (DY _),?_⟩;exact next_fin (HO.out.mono U.out.size) (next_eq _ _ _ _ (by rw [b0.out];exact up_true hA a7) (by rw [b3.out];exact up_true hB a8))
  ·have a7:(node - W*H).toNat<up.length:=by have:=b6.out;omega
   obtain ⟨b,off,a9,_,I⟩:=Bu b5.out a7 a7;have D:=zn I;subst a9;obtain ⟨b1,O⟩:=Fd (up[(node - W*H).toNat]);rw [<-O] at I;have b0:=zh O;clear O;have E:w.heap.size<w1.heap.size:=zc K.out;have G:=fun o=>zt (K.out.alloc o)
   obtain ⟨m0,m1,m2,m3,m4,m5⟩:(∀o,(w1.alloc o).cell? ⟨w.heap.size,0,none⟩=_)/\(∀o,(w1.alloc o).cell? ⟨w.heap.size,1,none⟩=_)/\(∀o,(w1.alloc o).cell? ⟨w.heap.size,2,none⟩=_)/\(∀o,(w1.alloc o).cell? ⟨w.heap.size,3,none⟩=_)/\(∀o,(w1.alloc o).cell? ⟨w.heap.size,4,none⟩=_)/\(∀o,(w1.alloc o).cell? ⟨w.heap.size,5,none⟩=_):=⟨fun o=>(G o).1,fun o=>(G o).2.1,fun o=>(G o).2.2.1,fun o=>(G o).2.2.2.1,fun o=>(G o).2.2.2.2.1,fun o=>(G o).2.2.2.2.2⟩;clear G;have u1:∀o,(w1.alloc o).cell? ⟨b,off+(node - W*H).toNat,none⟩=_:=fun o=>(World.cell?_alloc_lt w1 o ⟨b,off+(node - W*H).toNat,none⟩ D).trans I
   go_wp2_with fail
   refine (addK w1 _ w1.heap.size w1.heap.size 0 _ _ _ (Acc.new w1) (by omega)).mono ?_;rintro e k1 ⟨rfl,a1⟩;clear m0 m1 m2 m3 m4 m5 u1;obtain ⟨m0,m1,m2,m3,m4,m5⟩:=zt (K.out.below a1.below E);have u1:=(a1.below.cell (p:=⟨b,off+(node - W*H).toNat,none⟩) D).trans I
   go_wp2_with fail
   refine (addK w1 _ w1.heap.size w1.heap.size 1 _ _ _ (a1) (by omega)).mono ?_;rintro e k2 ⟨rfl,a2⟩;clear m0 m1 m2 m3 m4 m5 u1;obtain ⟨m0,m1,m2,m3,m4,m5⟩:=zt (K.out.below a2.below E);have u1:=(a2.below.cell (p:=⟨b,off+(node - W*H).toNat,none⟩) D).trans I
   go_wp2_with fail
   refine (addK w1 _ w1.heap.size w1.heap.size 2 _ _ _ (a2) (by omega)).mono ?_;rintro e k3 ⟨rfl,a3⟩;clear m0 m1 m2 m3 m4 m5 u1;obtain ⟨m0,m1,m2,m3,m4,m5⟩:=zt (K.out.below a3.below E);have u1:=(a3.below.cell (p:=⟨b,off+(node - W*H).toNat,none⟩) D).trans I
   go_wp2_with fail
   refine (addK w1 _ w1.heap.size w1.heap.size 3 _ _ _ (a3) (by omega)).mono ?_;rintro e k4 ⟨rfl,a4⟩;clear m0 m1 m2 m3 m4 m5 u1;obtain ⟨m0,m1,m2,m3,m4,m5⟩:=zt (K.out.below a4.below E);have u1:=(a4.below.cell (p:=⟨b,off+(node - W*H).toNat,none⟩) D).trans I
   go_wp2_with fail
   refine (addK w1 _ w1.heap.size w1.heap.size 4 _ _ _ (a4) (by omega)).mono ?_;rintro e k5 ⟨rfl,a5⟩;clear m0 m1 m2 m3 m4 m5 u1;obtain ⟨m0,m1,m2,m3,m4,m5⟩:=zt (K.out.below a5.below E);have u1:=(a5.below.cell (p:=⟨b,off+(node - W*H).toNat,none⟩) D).trans I
   go_wp2_with fail
   refine (Bk W H L _ _ _ _ (by omega) (by omega)).mono ?_;rintro e kn ⟨rfl,a0⟩;have a5:=a5.more a0;clear m0 m1 m2 m3 m4 m5 u1;obtain ⟨m0,m1,m2,m3,m4,m5⟩:=zt (K.out.below a5.below E);have u1:=(a5.below.cell (p:=⟨b,off+(node - W*H).toNat,none⟩) D).trans I
   go_wp2_with fail
   refine (addK w1 _ w1.heap.size w1.heap.size 5 _ _ _ (a5) (by omega)).mono ?_;rintro e k6 ⟨rfl,a6⟩;clear m0 m1 m2 m3 m4 m5 u1;obtain ⟨m0,m1,m2,m3,m4,m5⟩:=zt (K.out.below a6.below E);have u1:=(a6.below.cell (p:=⟨b,off+(node - W*H).toNat,none⟩) D).trans I;obtain ⟨vf,b8,M⟩:=a6.end_;have HO:=zh M;clear M
   go_wp2_with fail
   go_ret;refine ⟨vf,rfl,AZ U.out (Below.mono a6.below (DY _)) (DY _),?_⟩;exact next_fin (HO.out.mono U.out.size) (next_eq _ _ _ _ (by rw [b0.out];exact up_true hA a7) (up_false (Int.not_lt.2 hB)))
 ·by_cases hB:node+W*H<W*H*L
  ·have a8:node.toNat<up.length:=by have:=b6.out;omega
   obtain ⟨b,off,a9,_,J⟩:=Bu b5.out a8 a8;have D:=zn J;subst a9;obtain ⟨b2,V⟩:=Fd (up[node.toNat]);rw [<-V] at J;have b3:=zh V;clear V;have E:w.heap.size<w1.heap.size:=zc K.out;have G:=fun o=>zt (K.out.alloc o)
   obtain ⟨m0,m1,m2,m3,m4,m5⟩:(∀o,(w1.alloc o).cell? ⟨w.heap.size,0,none⟩=_)/\(∀o,(w1.alloc o).cell? ⟨w.heap.size,1,none⟩=_)/\(∀o,(w1.alloc o).cell? ⟨w.heap.size,2,none⟩=_)/\(∀o,(w1.alloc o).cell? ⟨w.heap.size,3,none⟩=_)/\(∀o,(w1.alloc o).cell? ⟨w.heap.size,4,none⟩=_)/\(∀o,(w1.alloc o).cell? ⟨w.heap.size,5,none⟩=_):=⟨fun o=>(G o).1,fun o=>(G o).2.1,fun o=>(G o).2.2.1,fun o=>(G o).2.2.2.1,fun o=>(G o).2.2.2.2.1,fun o=>(G o).2.2.2.2.2⟩;clear G;have u2:∀o,(w1.alloc o).cell? ⟨b,off+node.toNat,none⟩=_:=fun o=>(World.cell?_alloc_lt w1 o ⟨b,off+node.toNat,none⟩ D).trans J
   go_wp2_with fail
   refine (addK w1 _ w1.heap.size w1.heap.size 0 _ _ _ (Acc.new w1) (by omega)).mono ?_;rintro e k1 ⟨rfl,a1⟩;clear m0 m1 m2 m3 m4 m5 u2;obtain ⟨m0,m1,m2,m3,m4,m5⟩:=zt (K.out.below a1.below E);have u2:=(a1.below.cell (p:=⟨b,off+node.toNat,none⟩) D).trans J
   go_wp2_with fail
   refine (addK w1 _ w1.heap.size w1.heap.size 1 _ _ _ (a1) (by omega)).mono ?_;rintro e k2 ⟨rfl,a2⟩;clear m0 m1 m2 m3 m4 m5 u2;obtain ⟨m0,m1,m2,m3,m4,m5⟩:=zt (K.out.below a2.below E);have u2:=(a2.below.cell (p:=⟨b,off+node.toNat,none⟩) D).trans J
   go_wp2_with fail
   refine (addK w1 _ w1.heap.size w1.heap.size 2 _ _ _ (a2) (by omega)).mono ?_;rintro e k3 ⟨rfl,a3⟩;clear m0 m1 m2 m3 m4 m5 u2;obtain ⟨m0,m1,m2,m3,m4,m5⟩:=zt (K.out.below a3.below E);have u2:=(a3.below.cell (p:=⟨b,off+node.toNat,none⟩) D).trans J
   go_wp2_with fail
   refine (addK w1 _ w1.heap.size w1.heap.size 3 _ _ _ (a3) (by omega)).mono ?_;rintro e k4 ⟨rfl,a4⟩;clear m0 m1 m2 m3 m4 m5 u2;obtain ⟨m0,m1,m2,m3,m4,m5⟩:=zt (K.out.below a4.below E);have u2:=(a4.below.cell (p:=⟨b,off+node.toNat,none⟩) D).trans J
   go_wp2_with fail
   refine (addK w1 _ w1.heap.size w1.heap.size 4 _ _ _ (a4) (by omega)).mono ?_;rintro e k5 ⟨rfl,a5⟩;clear m0 m1 m2 m3 m4 m5 u2;obtain ⟨m0,m1,m2,m3,m4,m5⟩:=zt (K.out.below a5.below E);have u2:=(a5.below.cell (p:=⟨b,off+node.toNat,none⟩) D).trans J
   go_wp2_with fail
   refine (Bk W H L _ _ _ _ (by omega) (by omega)).mono ?_;rintro e kn ⟨rfl,a0⟩;have a5:=a5.more a0;clear m0 m1 m2 m3 m4 m5 u2;obtain ⟨m0,m1,m2,m3,m4,m5⟩:=zt (K.out.below a5.below E);have u2:=(a5.below.cell (p:=⟨b,off+node.toNat,none⟩) D).trans J
   go_wp2_with fail
   refine (addK w1 _ w1.heap.size w1.heap.size 5 _ _ _ (a5) (by omega)).mono ?_;rintro e k6 ⟨rfl,a6⟩;clear m0 m1 m2 m3 m4 m5 u2;obtain ⟨m0,m1,m2,m3,m4,m5⟩:=zt (K.out.below a6.below E);have u2:=(a6.below.cell (p:=⟨b,off+node.toNat,none⟩) D).trans J;obtain ⟨vf,b8,M⟩:=a6.end_;have HO:=zh M;clear M
   go_wp2_with fail
   go_ret;refine ⟨vf,rfl,AZ U.out (Below.mono a6.below (DY _)) (DY _),?_⟩;exact next_fin (HO.out.mono U.out.size) (next_eq _ _ _ _ (up_false (Int.not_le.2 hA)) (by rw [b3.out];exact up_true hB a8))
  ·have E:w.heap.size<w1.heap.size:=zc K.out;have G:=fun o=>zt (K.out.alloc o)
   obtain ⟨m0,m1,m2,m3,m4,m5⟩:(∀o,(w1.alloc o).cell? ⟨w.heap.size,0,none⟩=_)/\(∀o,(w1.alloc o).cell? ⟨w.heap.size,1,none⟩=_)/\(∀o,(w1.alloc o).cell? ⟨w.heap.size,2,none⟩=_)/\(∀o,(w1.alloc o).cell? ⟨w.heap.size,3,none⟩=_)/\(∀o,(w1.alloc o).cell? ⟨w.heap.size,4,none⟩=_)/\(∀o,(w1.alloc o).cell? ⟨w.heap.size,5,none⟩=_):=⟨fun o=>(G o).1,fun o=>(G o).2.1,fun o=>(G o).2.2.1,fun o=>(G o).2.2.2.1,fun o=>(G o).2.2.2.2.1,fun o=>(G o).2.2.2.2.2⟩;clear G
   go_wp2_with fail
   refine (addK w1 _ w1.heap.size w1.heap.size 0 _ _ _ (Acc.new w1) (by omega)).mono ?_;rintro e k1 ⟨rfl,a1⟩;clear m0 m1 m2 m3 m4 m5;obtain ⟨m0,m1,m2,m3,m4,m5⟩:=zt (K.out.below a1.below E)
   go_wp2_with fail
   refine (addK w1 _ w1.heap.size w1.heap.size 1 _ _ _ (a1) (by omega)).mono ?_;rintro e k2 ⟨rfl,a2⟩;clear m0 m1 m2 m3 m4 m5;obtain ⟨m0,m1,m2,m3,m4,m5⟩:=zt (K.out.below a2.below E)
   go_wp2_with fail
   refine (addK w1 _ w1.heap.size w1.heap.size 2 _ _ _ (a2) (by omega)).mono ?_;rintro e k3 ⟨rfl,a3⟩;clear m0 m1 m2 m3 m4 m5;obtain ⟨m0,m1,m2,m3,m4,m5⟩:=zt (K.out.below a3.below E)
   go_wp2_with fail
   refine (addK w1 _ w1.heap.size w1.heap.size 3 _ _ _ (a3) (by omega)).mono ?_;rintro e k4 ⟨rfl,a4⟩;clear m0 m1 m2 m3 m4 m5;obtain ⟨m0,m1,m2,m3,m4,m5⟩:=zt (K.out.below a4.below E)
   go_wp2_with fail
   refine (addK w1 _ w1.heap.size w1.heap.size 4 _ _ _ (a4) (by omega)).mono ?_;rintro e k5 ⟨rfl,a5⟩;clear m0 m1 m2 m3 m4 m5;obtain ⟨m0,m1,m2,m3,m4,m5⟩:=zt (K.out.below a5.below E)
   go_wp2_with fail
   refine (Bk W H L _ _ _ _ (by omega) (by omega)).mono ?_;rintro e kn ⟨rfl,a0⟩;have a5:=a5.more a0;clear m0 m1 m2 m3 m4 m5;obtain ⟨m0,m1,m2,m3,m4,m5⟩:=zt (K.out.below a5.below E)
   go_wp2_with fail
   refine (addK w1 _ w1.heap.size w1.heap.size 5 _ _ _ (a5) (by omega)).mono ?_;rintro e k6 ⟨rfl,a6⟩;clear m0 m1 m2 m3 m4 m5;obtain ⟨m0,m1,m2,m3,m4,m5⟩:=zt (K.out.below a6.below E);obtain ⟨vf,b8,M⟩:=a6.end_;have HO:=zh M;clear M
   go_wp2_with fail
   go_ret;refine ⟨vf,rfl,AZ U.out (Below.mono a6.below (DY _)) (DY _),?_⟩;exact next_fin (HO.out.mono U.out.size) (next_eq _ _ _ _ (up_false (Int.not_le.2 hA)) (up_false (Int.not_lt.2 hB)))
def MZ.n (m:MZ):Int:=m.w*m.h*m.l
theorem mem_ap {c:Bool}:y∈ap c x l↔y∈l\/(c=true/\y=x):=by
 unfold ap
 cases c <;> simp
theorem row_step {w k:Int} (d:0<w) (D:y<w*k) (E:y % w+1<w):y+1<w*k:=by
 have h1:=Int.emod_add_mul_ediv y w
 have h2:y / w<k:=by
  apply Int.ediv_lt_of_lt_mul d
  rwa [Int.mul_comm]
 have h3:w*(y / w+1)<=w*k:=Int.mul_le_mul_of_nonneg_left (by omega) (by omega);rw [Int.mul_add,Int.mul_one] at h3;omega
theorem layer_step {w h l:Int} (d:0<w) (hh:0<h) (I:y<w*h*l) (G:y / w % h+1<h):y+w<w*h*l:=by
 have E:y / w<h*l:=by
  apply Int.ediv_lt_of_lt_mul d;rw [Int.mul_comm,<-Int.mul_assoc];exact I
 have h1:=row_step hh E G;have h2:=Int.emod_add_mul_ediv y w;have h3:=Int.emod_lt_of_pos y d;have D:w*(y / w+2)<=w*(h*l):=Int.mul_le_mul_of_nonneg_left (by omega) (by omega);rw [Int.mul_add,<-Int.mul_assoc] at D;omega
theorem Bz {m:MZ} (d:Dim m) (h0:0<=y) (h1:y<m.n) (h:x∈zm m y):0<=x/\x<m.n:=by
 unfold MZ.n at h1⊢;obtain ⟨l1,l2⟩:=d.layer;have G:=d.w1;have hh:=d.h1;simp only [zm,mem_ap,Ek,Ei,EU,false_or] at h;rcases h with ((((( ⟨⟨a,_⟩,rfl⟩) | ⟨a,rfl⟩) | ⟨a,rfl⟩) | ⟨a,rfl⟩) | ⟨a,rfl⟩) | ⟨⟨a,_⟩,rfl⟩
 ·omega
 ·have h2:1<=y / m.w:=by
   have:0<=y / m.w:=Int.ediv_nonneg h0 (by omega);rcases Int.lt_or_le 0 (y / m.w) with h | h
   ·omega
   ·have:y / m.w=0:=by omega
    rw [this] at a;simp at a
  have h3:=Int.emod_add_mul_ediv y m.w;have D:=Int.emod_nonneg y (show m.w≠0 by omega);have E:m.w*1<=m.w*(y / m.w):=Int.mul_le_mul_of_nonneg_left h2 (by omega);omega
 ·have:y≠0:=by rintro rfl;simp at a
  omega
 ·have:=row_step (y:=y) (w:=m.w) (k:=m.h*m.l) (by omega) (by rw [<-Int.mul_assoc];exact h1) a;rw [<-Int.mul_assoc] at this;omega
 ·have:=layer_step (by omega) (by omega) h1 a;omega
 ·omega
def zi (m:MZ) (t:Nat) (x:Int):Bool:=(m.free.getD t []).getD x.toNat false
def RP (m:MZ) (t:Nat) (from_ used:List Int) (x:Int):Prop:=
 ∀S:Int->Prop,(∀y∈from_,0<=y->y<m.n->S y)->(∀y z,S y->z∈zm m y->zi m t z=true->z∉used->S z)->S x
theorem RP.base {m:MZ} (h:x∈from_) (h0:0<=x) (h1:x<m.n):RP m t from_ used x:=fun _ d _=>d x h h0 h1
theorem RP.step {m:MZ} (h:RP m t from_ used y) (G:x∈zm m y) (hf:zi m t x=true) (E:x∉used):RP m t from_ used x:=
 fun S D d=>d y x (h S D d) G hf E
theorem RP.range {m:MZ} (d:Dim m) (h:RP m t from_ used x):0<=x/\x<m.n:=
 h (fun x=>0<=x/\x<m.n) (fun y _ h0 h1=>⟨h0,h1⟩) (fun y z D E _ _=>Bz d D.1 D.2 E)
theorem RP.congr {m:MZ} {from' used':List Int} (hf:∀x,x∈from_↔x∈from') (G:∀x,x∈used↔x∈used') (h:RP m t from_ used x):RP m t from' used' x:=
 h _ (fun y D h0 h1=>RP.base ((hf y).1 D) h0 h1) (fun y z D I E d=>D.step I E (fun h=>d ((G z).2 h)))
theorem nodup_nat:∀(n:Nat) (l:List Nat),l.Nodup->(∀x∈l,x<n)->l.length<=n
 | 0,l,_,h=>by
  cases l with
  | nil=>simp
  | cons a l=>exact absurd (h a (EK ..)) (by omega)
 | n+1,l,D,h=>by
  by_cases hm:n∈l
  ·have h1:=nodup_nat n (l.erase n) (D.erase n) (fun x d=>by
    have h2:=(D.mem_erase_iff).1 d;have h3:=h x h2.2;omega)
   rw [List.length_erase_of_mem hm] at h1;omega
  ·have h1:=nodup_nat n l D (fun x d=>by
    have h3:=h x d;have:x≠n:=by rintro rfl;exact hm d
    omega)
   omega
theorem Bp (K:l.Nodup) (n:Int) (D:∀x∈l,0<=x/\x<n):l.length<=n.toNat:=by
 have d:(l.map Int.toNat).Nodup:=by
  rw [List.nodup_iff_pairwise_ne,List.pairwise_map];refine List.Pairwise.imp_of_mem ?_ (List.nodup_iff_pairwise_ne.1 K);intro a b G J I he;have:=D a G;have:=D b J;omega
 have:=nodup_nat n.toNat (l.map Int.toNat) d (fun x E=>by
  rw [List.mem_map] at E;obtain ⟨y,M,rfl⟩:=E;have:=D y M;omega)
 simpa using this
end
end Go.Proofs.YtjomnbdjajjgfaaGreatDoor
