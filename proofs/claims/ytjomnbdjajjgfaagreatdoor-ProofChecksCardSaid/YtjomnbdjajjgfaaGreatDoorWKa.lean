import Derived.WalkKit
import Derived.Lib.Hide
import Derived.Test.YtjomnbdjajjgfaaGreatDoorRows
import Derived.WalkLawsBesides
import Derived.WalkSpells
import Derived.BigQuiet
import Derived.Deep.QuietTactic
import Derived.ChangeMaps4
import Derived.Maps.RangeRun
import Derived.Deep.DeepCutAuto
import Derived.Deep.AppendLies
import Derived.Deep.Onto
import Derived.Deep.RegionHeld
set_option linter.unusedVariables false
set_option linter.unusedSimpArgs false
set_option maxRecDepth 100000
set_option maxHeartbeats 16000000
namespace Go.Proofs.YtjomnbdjajjgfaaGreatDoor
variable {a:Act} {listed:Array Bool} {es:Array MapEntry} {ops:Array Oper} {cs:Array Value} {Q:Exit->Act->World->Prop} {x y:Int} {from_ l used:List Int} {rest:List Oper} {B fuel g gb k t:Nat} {o oi:Oper} {P:Program} {b w0:World}
section
open Go.RowKit
theorem zh {p: Prop} (h : p) : Hid p := Lib.hid h
theorem zb {α: Type} : (∀ (xs : List α) (i : Nat) (h : i < xs.toArray.size), xs.toArray[i] = xs[i]'(by simpa using h)) /\ (∀ (a : α) (l : List α) (i : Nat) (h : i + 1 < (a :: l).length), (a :: l)[i+1] = l[i]'(Nat.lt_of_succ_lt_succ h)) /\ (∀ (a : α) (l : List α) (h : 0 < (a :: l).length), (a :: l)[0] = a) /\ (∀ (l : List α) (i : Nat) (a : α), l.toArray.setIfInBounds i a = (l.set i a).toArray) /\ (∀ (a : α) (l : List α) (b : α), (a :: l).set 0 b = b :: l) /\ (∀ (a : α) (l : List α) (i : Nat) (b : α), (a :: l).set (i+1) b = a :: l.set i b) :=
 ⟨fun _ _ h => List.getElem_toArray h, fun _ _ _ _ => List.getElem_cons_succ .., fun _ _ _ => List.getElem_cons_zero .., fun _ _ _ => List.setIfInBounds_toArray .., fun _ _ _ => rfl, fun _ _ _ _ => rfl⟩
abbrev DO := @List.getElem?_eq_getElem
abbrev DP := @List.getD_eq_getElem?_getD
abbrev DR := @Nat.le_refl
abbrev DS := @List.getElem_mem
abbrev DT := @Nat.le_trans
abbrev DU := @decide_eq_true
abbrev DV := @decide_eq_false
abbrev DW := @List.getElem?_append_left
abbrev DX := @List.getElem?_append_right
abbrev DY := @List.take_succ_eq_append_getElem
abbrev DZ := @List.length_append
abbrev Ea := @Below.heap_setCell
abbrev Eb := @decide_eq_true_eq
abbrev Ec := @List.take_length
abbrev Ed := @Bool.and_eq_true
abbrev Ee := @beq_eq_false_iff_ne
abbrev Ef := @Nat.zero_le
abbrev Eg := @World.cell?_of_block
abbrev Eh := @wp_region_held_drew
abbrev Ei := @List.eq_nil_of_length_eq_zero
abbrev Ej := @Below.heap_alloc
abbrev Ek := @List.getElem?_eq_none
abbrev El := @List.mem_cons_of_mem
abbrev Em := @IntKind.wrap_i64
abbrev En := @Nat.lt_or_ge
abbrev Eo := @decide_eq_false_iff_not
abbrev Ep := @World.frozen?_of_block
abbrev Er := @List.length_singleton
abbrev Es := @AllReadyH.cons
abbrev Et := @Nat.lt_of_lt_of_le
abbrev Eu := @List.length_filter_le
abbrev Ev := @wpAnyH_done
abbrev Ew := @Option.getD_some
abbrev Ex := @List.getElem_of_mem
abbrev Ey := @List.mem_singleton
abbrev Ez := @List.filter_cons_of_neg
abbrev EA := @List.getElem?_map
abbrev EB := @List.length_map
abbrev EC := @Nat.eq_zero_or_pos
abbrev ED := @List.mem_cons_self
abbrev EE := @heap_alloc_new
abbrev EF := @List.filter_append
abbrev EG := @List.mem_cons
abbrev EH := @List.mem_append
abbrev EI := @List.map_append
abbrev EJ := @List.length_take
abbrev EK := @List.filter_cons_of_pos
abbrev EL := @bodyPost_ret
abbrev EM := @Array.getElem?_eq_some_iff
abbrev EN := @List.not_mem_nil
abbrev EO := @List.mem_filter
abbrev EP := @List.mem_map
abbrev EQ := @List.mem_range
abbrev ER := @List.length_drop
abbrev ES := @Bool.or_eq_true
abbrev ET := @List.any_eq_true
abbrev EU := @List.all_eq_true
abbrev EV := @of_decide_eq_true
abbrev EW := @List.length_cons
abbrev EX := @List.length_nil
theorem DN : (∀ (t : Array Value) (f : List Deferred) (d : Tmp) (v : Value), Act.put ⟨t, f⟩ (some d) v = ⟨t.setIfInBounds d v, f⟩) /\ (∀ (a : Act) (v : Value), Act.put a none v = a) := ⟨fun _ _ _ _ => rfl, fun _ _ => rfl⟩
theorem zgd {α: Type _} {l: List α} {d: α} (h : k < l.length) : l.getD k d = l[k] := by rw [List.getD_eq_getElem?_getD, List.getElem?_eq_getElem h]; rfl
theorem EY {α: Sort _} (a : α) : ∃ x, x = a := ⟨_, rfl⟩
theorem EZ {K: Act -> World -> Prop} {S: World -> Prop} {G: Act -> World -> Prop} (h : Shut (∀ a w, S w -> (S w -> G a w) -> K a w)) {w: World} (s : S w) (g : S w -> G a w) : K a w := h.out a w s g
theorem zg {md: Region.Mode} {Q: Exit -> Act -> World -> Prop} {S: World -> Prop} (i : Nat) {v: Value} {w: World} (D : S w)
 (h : wpAnyH P md ops Q S fuel (listed.setIfInBounds i true) (a.put oi.dst v) w) (G : ops[i]? = some oi := by rfl) (L : ∀ w, S w -> (execOp a.eval oi).run P w = .ok (.value v) w := by (intro w E; go_simp; try with_reducible rfl)) (K : Region.wanted oi (yielded ops a.tmps) = true := by rfl)
 (J : Region.noSelect ops = true := by kernel_rfl) (hf : Region.free md ops listed i = true := by kernel_rfl) (I : (Region.ready md ops listed).contains i = true := by kernel_rfl)
 (hQ : ∀ c a w, Q (.panic c) (a.put oi.dst v) w -> Q (.panic c) a w := by exact fun _ _ _ h => h) : wpAnyH P md ops Q S (fuel + 1) listed a w := wpAnyH_take G J hf I hQ (.inl ⟨K, L⟩) D h
theorem rtU {md: Region.Mode} {Q: Exit -> Act -> World -> Prop} {S: World -> Prop} (i : Nat) (v : Value) {w: World} (D : S w)
 (K : ∀ w, S w -> (execOp a.eval oi).run P w = .ok (.value v) w) (h : wpAnyH P md ops Q S fuel (listed.setIfInBounds i true) (a.put oi.dst v) w) (E : ops[i]? = some oi := by rfl) (J : Region.wanted oi (yielded ops a.tmps) = true := by rfl)
 (I : Region.noSelect ops = true := by kernel_rfl) (hf : Region.free md ops listed i = true := by kernel_rfl) (G : (Region.ready md ops listed).contains i = true := by kernel_rfl)
 (hQ : ∀ c a w, Q (.panic c) (a.put oi.dst v) w -> Q (.panic c) a w := by exact fun _ _ _ h => h) : wpAnyH P md ops Q S (fuel + 1) listed a w := wpAnyH_take E I hf G hQ (.inl ⟨J, K⟩) D h
theorem Cp {md: Region.Mode} {Q: Exit -> Act -> World -> Prop} {S: World -> Prop} (i : Nat) {w: World} (D : S w)
 (h : wpAnyH P md ops Q S fuel (listed.setIfInBounds i true) (a.put oi.dst undef) w) (E : ops[i]? = some oi := by rfl) (J : Region.wanted oi (yielded ops a.tmps) = false := by rfl)
 (I : Region.noSelect ops = true := by kernel_rfl) (hf : Region.free md ops listed i = true := by kernel_rfl) (G : (Region.ready md ops listed).contains i = true := by kernel_rfl)
 (hQ : ∀ c a w, Q (.panic c) (a.put oi.dst undef) w -> Q (.panic c) a w := by exact fun _ _ _ h => h) : wpAnyH P md ops Q S (fuel + 1) listed a w := wpAnyH_take E I hf G hQ (.inr ⟨J, rfl⟩) D h
theorem AD {md: Region.Mode} {Q: Exit -> Act -> World -> Prop} {S: World -> Prop} {w: World} (i : Nat)
 (h : ∀ K' : Act -> World -> Prop, Shut (∀ a w, S w -> (S w -> wpAnyH P md ops Q S fuel (listed.setIfInBounds i true) a w) -> K' a w) -> if Region.wanted o (yielded ops a.tmps) = true then Oper.wp P o a w K' Q else K' (a.put o.dst undef) w)
 (D : ops[i]? = some o := by rfl) (E : Region.ready md ops listed = [i] := by kernel_rfl) : wpAnyH P md ops Q S (fuel + 1) listed a w := wpAnyH_ready E (by simp) (.cons D h .nil)
theorem rdA {md: Region.Mode} {Q: Exit -> Act -> World -> Prop} {S: World -> Prop} (rs : List Nat) {w: World}
 (h : AllReadyH P md ops Q S fuel listed a w rs) (E : Region.ready md ops listed = rs := by kernel_rfl) (D : rs ≠ [] := by simp) : wpAnyH P md ops Q S (fuel + 1) listed a w := wpAnyH_ready E D h
structure MZ where
 w:Int
 h:Int
 l:Int
 free:List (List Bool)
 up:List Bool
 tasks:List (List Int×List Int)
theorem zc {w:World} {o:Obj} (h:w.heap[k]?=some o):k<w.heap.size:=by
 rcases En k w.heap.size with h1 | h1
 ·exact h1
 ·rw [Array.getElem?_eq_none h1] at h;cases h
theorem zA {w:World} {a:Addr} {v:Value} (h:w.cell? a=some v):a.block<w.heap.size:=by
 unfold World.cell? at h
 cases hh:w.heap[a.block]? with
 | none=>simp [hh] at h
 | some o=>exact zc hh
theorem CY {w w':World} {a:Addr} (h:w'.heap[a.block]?=w.heap[a.block]?):w'.cell? a=w.cell? a:=Eg h
def zK (ok:Nat->Prop) (w w':World):Prop:=∀b,ok b->b<w.heap.size->w'.heap[b]?=w.heap[b]?
theorem zK.refl (ok:Nat->Prop) (w:World):zK ok w w:=fun _ _ _=>rfl
theorem zK.of_below {ok:Nat->Prop} {w w':World} (h:Below w.heap.size w w'):zK ok w w':=fun b _ D=>h.block b D
theorem Ba {a w w':World} (h:Below B a w) (D:Below w.heap.size w w') (E:B<=a.heap.size):Below B a w':=h.trans (D.mono (DT E h.size))
def AE (w:World) (ok:Nat->Prop) (size:Nat) (A:Option Addr) (n:Nat) (xs:List Value):Prop:=
 xs.length=n*size/\(0<n->∃b off,A=some ⟨b,off,none⟩/\ok b/\∀j u,xs[j]?=some u->w.cell? ⟨b,off+j,none⟩=some u)
def Ae (w:World) (ok:Nat->Prop) (size:Nat) (v:Value) (n:Nat) (xs:List Value):Prop:=
 ∃A c,v=.slice A n c/\n<=c/\AE w ok size A n xs
section
variable {w w':World} {ok ok':Nat->Prop} {size n:Nat} {A:Option Addr} {v:Value} {xs:List Value}
theorem AE.keep (h:AE w ok size A n xs) (G:zK ok w w'):AE w' ok size A n xs:=
 ⟨h.1,fun I=>by
  obtain ⟨b,off,e,D,E⟩:=h.2 I;refine ⟨b,off,e,D,fun j u J=>?_⟩;have h1:=E j u J;exact (CY (G b D (zA h1))).trans h1⟩
theorem AE.weaken (h:AE w ok size A n xs) (G:∀b,ok b->ok' b):AE w ok' size A n xs:=
 ⟨h.1,fun I=>by
  obtain ⟨b,off,e,D,E⟩:=h.2 I;exact ⟨b,off,e,G b D,E⟩⟩
theorem AE.nil (w:World) (ok:Nat->Prop) (size:Nat) (A:Option Addr):AE w ok size A 0 []:=⟨by simp,fun h=>absurd h (by omega)⟩
theorem AE.at_ (h:AE w ok 1 A n xs) (I:k<n):∃b off u,A=some ⟨b,off,none⟩/\ok b/\xs[k]?=some u/\w.cell? ⟨b,off+k,none⟩=some u:=by
 obtain ⟨b,off,e,E,G⟩:=h.2 (by omega);have D:k<xs.length:=by have:=h.1;omega
 exact ⟨b,off,xs[k],e,E,DO D,G k _ (DO D)⟩
theorem Ae.keep (h:Ae w ok size v n xs) (E:zK ok w w'):Ae w' ok size v n xs:=by
 obtain ⟨A,c,rfl,D,G⟩:=h;exact ⟨A,c,rfl,D,G.keep E⟩
theorem Ae.weaken (h:Ae w ok size v n xs) (E:∀b,ok b->ok' b):Ae w ok' size v n xs:=by
 obtain ⟨A,c,rfl,D,G⟩:=h;exact ⟨A,c,rfl,D,G.weaken E⟩
theorem Ae.below (h:Ae w ok size v n xs) (D:Below w.heap.size w w'):Ae w' ok size v n xs:=h.keep (zK.of_below D)
theorem Ae.of_own {base:Nat} {e:TypeId} (h:w.ownsRow base e size v n xs):Ae w (fun b=>base<=b) size v n xs:=by
 obtain ⟨I,⟨rfl,rfl⟩ | ⟨g,cap,cur,rfl,K,hh,E,G,J,ht⟩⟩:=h
 ·exact ⟨none,0,rfl,DR _,I,fun h=>absurd h (by omega)⟩
 ·refine ⟨some ⟨g,0,none⟩,cap,rfl,E,I,fun _=>⟨g,0,rfl,K,fun j u D=>?_⟩⟩;unfold World.cell?;simp only [hh,Nat.zero_add];rw [<-ht,List.getElem?_take] at D
  split at D
  ·simpa using D
  ·cases D
end
def zk (w:World) (ok:Nat->Prop) (v:Value) (l:List Int):Prop:=Ae w ok 1 v l.length (l.map (Value.int .i64))
def Bo (w:World) (ok:Nat->Prop) (v:Value) (l:List Bool):Prop:=Ae w ok 1 v l.length (l.map Value.bool)
def Each {α:Type} (R:Value->α->Prop) (w:World) (ok:Nat->Prop) (v:Value) (l:List α):Prop:=
 ∃vs,Ae w ok 1 v l.length vs/\∀(i:Nat) x,l[i]?=some x->∃u,vs[i]?=some u/\R u x
def zR (w:World) (ok:Nat->Prop) (v:Value) (l:List (List Int)):Prop:=Each (zk w ok) w ok v l
def Bi (w:World) (ok:Nat->Prop) (v:Value) (l:List (List Bool)):Prop:=Each (Bo w ok) w ok v l
def Bz (w:World) (ok:Nat->Prop) (v:Value) (l:List (List Int×List Int)):Prop:=
 ∃vs,Ae w ok 3 v l.length vs/\∀(i:Nat) x,l[i]?=some x->∃s u1 u2,vs[i*3]?=some (.string s)/\vs[i*3+1]?=some u1/\vs[i*3+2]?=some u2/\zk w ok u1 x.1/\zk w ok u2 x.2
def zt (w:World) (ok:Nat->Prop) (v:Value) (m:MZ):Prop:=
 ∃f u t,v=.agg #[.int .i64 m.w,.int .i64 m.h,.int .i64 m.l,f,u,t]/\Bi w ok f m.free/\Bo w ok u m.up/\Bz w ok t m.tasks
section
variable {w w':World} {ok ok':Nat->Prop} {v:Value}
theorem zk.keep {l:List Int} (h:zk w ok v l) (D:zK ok w w'):zk w' ok v l:=Ae.keep h D
theorem zk.weaken {l:List Int} (h:zk w ok v l) (D:∀b,ok b->ok' b):zk w ok' v l:=Ae.weaken h D
theorem zk.below {l:List Int} (h:zk w ok v l) (D:Below w.heap.size w w'):zk w' ok v l:=Ae.below h D
theorem Bo.keep {l:List Bool} (h:Bo w ok v l) (D:zK ok w w'):Bo w' ok v l:=Ae.keep h D
theorem Bo.weaken {l:List Bool} (h:Bo w ok v l) (D:∀b,ok b->ok' b):Bo w ok' v l:=Ae.weaken h D
theorem Each.keep {α:Type} {R R':Value->α->Prop} {l:List α} (h:Each R w ok v l) (G:zK ok w w') (E:∀u x,R u x->R' u x):Each R' w' ok v l:=by
 obtain ⟨vs,D,he⟩:=h;refine ⟨vs,D.keep G,fun i x J=>?_⟩;obtain ⟨u,I,D⟩:=he i x J;exact ⟨u,I,E _ _ D⟩
theorem Each.weaken {α:Type} {R R':Value->α->Prop} {l:List α} (h:Each R w ok v l) (G:∀b,ok b->ok' b) (E:∀u x,R u x->R' u x):Each R' w ok' v l:=by
 obtain ⟨vs,D,he⟩:=h;refine ⟨vs,D.weaken G,fun i x J=>?_⟩;obtain ⟨u,I,D⟩:=he i x J;exact ⟨u,I,E _ _ D⟩
theorem zR.keep {l:List (List Int)} (h:zR w ok v l) (D:zK ok w w'):zR w' ok v l:=Each.keep h D fun _ _ E=>E.keep D
theorem zR.weaken {l:List (List Int)} (h:zR w ok v l) (D:∀b,ok b->ok' b):zR w ok' v l:=Each.weaken h D fun _ _ E=>E.weaken D
theorem Bi.keep {l:List (List Bool)} (h:Bi w ok v l) (D:zK ok w w'):Bi w' ok v l:=Each.keep h D fun _ _ E=>E.keep D
theorem Bi.weaken {l:List (List Bool)} (h:Bi w ok v l) (D:∀b,ok b->ok' b):Bi w ok' v l:=Each.weaken h D fun _ _ E=>E.weaken D
theorem Bz.keep {l:List (List Int×List Int)} (h:Bz w ok v l) (D:zK ok w w'):Bz w' ok v l:=by
 obtain ⟨vs,E,he⟩:=h;refine ⟨vs,E.keep D,fun i x G=>?_⟩;obtain ⟨s,u1,u2,h0,h1,h2,i1,i2⟩:=he i x G;exact ⟨s,u1,u2,h0,h1,h2,i1.keep D,i2.keep D⟩
theorem Bz.weaken {l:List (List Int×List Int)} (h:Bz w ok v l) (D:∀b,ok b->ok' b):Bz w ok' v l:=by
 obtain ⟨vs,E,he⟩:=h;refine ⟨vs,E.weaken D,fun i x G=>?_⟩;obtain ⟨s,u1,u2,h0,h1,h2,i1,i2⟩:=he i x G;exact ⟨s,u1,u2,h0,h1,h2,i1.weaken D,i2.weaken D⟩
theorem zt.keep {m:MZ} (h:zt w ok v m) (D:zK ok w w'):zt w' ok v m:=by
 obtain ⟨f,u,t,rfl,h1,h2,h3⟩:=h;exact ⟨f,u,t,rfl,h1.keep D,h2.keep D,h3.keep D⟩
theorem zt.weaken {m:MZ} (h:zt w ok v m) (D:∀b,ok b->ok' b):zt w ok' v m:=by
 obtain ⟨f,u,t,rfl,h1,h2,h3⟩:=h;exact ⟨f,u,t,rfl,h1.weaken D,h2.weaken D,h3.weaken D⟩
theorem zt.below {m:MZ} (h:zt w ok v m) (D:Below w.heap.size w w'):zt w' ok v m:=h.keep (zK.of_below D)
theorem zR.below {l:List (List Int)} (h:zR w ok v l) (D:Below w.heap.size w w'):zR w' ok v l:=h.keep (zK.of_below D)
theorem Bo.below {l:List Bool} (h:Bo w ok v l) (D:Below w.heap.size w w'):Bo w' ok v l:=h.keep (zK.of_below D)
theorem Bi.below {l:List (List Bool)} (h:Bi w ok v l) (D:Below w.heap.size w w'):Bi w' ok v l:=h.keep (zK.of_below D)
theorem Bz.below {l:List (List Int×List Int)} (h:Bz w ok v l) (D:Below w.heap.size w w'):Bz w' ok v l:=h.keep (zK.of_below D)
theorem zk.open (h:zk w ok v l):∃A c,v=.slice A l.length c/\l.length<=c/\AE w ok 1 A l.length (l.map (Value.int .i64)):=h
theorem zk.nil (w:World) (ok:Nat->Prop):zk w ok (.slice none 0 0) []:=⟨none,0,rfl,DR _,AE.nil _ _ _ _⟩
theorem zE {n:Nat} {A:Option Addr} (h:AE w ok 1 A n (l.map (Value.int .i64))) (I:k<n) (J:k<l.length):
  ∃b off,A=some ⟨b,off,none⟩/\ok b/\w.cell? ⟨b,off+k,none⟩=some (.int .i64 (l[k])):=by
 obtain ⟨b,off,u,e,E,D,G⟩:=h.at_ I;refine ⟨b,off,e,E,?_⟩;rw [EA,DO J] at D;rw [G,<-D];rfl
theorem BP {l:List Bool} {n:Nat} {A:Option Addr} (h:AE w ok 1 A n (l.map Value.bool)) (I:k<n) (J:k<l.length):
  ∃b off,A=some ⟨b,off,none⟩/\ok b/\w.cell? ⟨b,off+k,none⟩=some (.bool (l[k])):=by
 obtain ⟨b,off,u,e,E,D,G⟩:=h.at_ I;refine ⟨b,off,e,E,?_⟩;rw [EA,DO J] at D;rw [G,<-D];rfl
theorem Br {α:Type} {R:Value->α->Prop} {l:List α} {vs:List Value} {n:Nat} {A:Option Addr} (h:AE w ok 1 A n vs) (he:∀(i:Nat) x,l[i]?=some x->∃u,vs[i]?=some u/\R u x) (I:k<n) (J:k<l.length):
  ∃b off u,A=some ⟨b,off,none⟩/\ok b/\w.cell? ⟨b,off+k,none⟩=some u/\R u (l[k]):=by
 obtain ⟨b,off,u,e,E,L,G⟩:=h.at_ I;obtain ⟨u',D,K⟩:=he k _ (DO J);rw [L] at D;injection D with D;subst D;exact ⟨b,off,u,e,E,G,K⟩
end
theorem AB {k:IntKind} {a b:Int} (h:a=b):Ending.returned (.int k a)=.returned (.int k b):=by rw [h]
theorem zi {a b:Bool} (h:a=b):Ending.returned (.bool a)=.returned (.bool b):=by rw [h]
theorem Ah (W H L:Int) (f u t:Value) (w:World) (h1:-1000000000<=W*H/\W*H<=1000000000) (h2:-1000000000000000<=W*H*L/\W*H*L<=1000000000000000):
  Calls Tryz.prog 124 #[.agg #[.int .i64 W,.int .i64 H,.int .i64 L,f,u,t]] w fun e w'=>e=.returned (.int .i64 (W*H*L))/\Below w.heap.size w w':=by
 obtain ⟨D,E⟩:=h1;obtain ⟨G,I⟩:=h2
 go_enter Tryz.func124,Tryz.ntmps124
 go_wp2;go_ret;exact ⟨rfl,(Below.refl _ _).alloc (DR _) _⟩
theorem zQ (W H L:Int) (f u t:Value) (w:World) (h1:-1000000000<=W*H/\W*H<=1000000000) (h2:-1000000000000000<=W*H*L/\W*H*L<=1000000000000000):
  Calls Tryz.prog 41 #[.agg #[.int .i64 W,.int .i64 H,.int .i64 L,f,u,t]] w fun e w'=>e=.returned (.int .i64 (W*H*L))/\Below w.heap.size w w':=by
 obtain ⟨D,E⟩:=h1;obtain ⟨G,I⟩:=h2
 go_enter Tryz.func41,Tryz.ntmps41
 go_wp2;go_ret;exact ⟨rfl,(Below.refl _ _).alloc (DR _) _⟩
theorem mod_eq (n m:Int) (hm:0<m) (E:m<=1000000):(wrap64 (n.tmod m+m)).tmod m=n % m:=by
 have h1:n.tmod m<m:=Int.tmod_lt_of_pos n hm
 have h2:-m<n.tmod m:=by
  have:=Int.lt_tmod_of_pos n hm;omega
 rw [IntWalk.wrap64_in _ (by omega),Int.tmod_eq_emod_of_nonneg (by omega),Int.add_emod_right];have h3:=Int.tmod_add_mul_tdiv n m;have D:n=n.tmod m+m*n.tdiv m:=h3.symm
 conv=>rhs;rw [D]
 rw [Int.add_mul_emod_self_left]
theorem mod_calls (n m:Int) (w:World) (hm:0<m) (D:m<=1000000):
  Calls Tryz.prog 40 #[.int .i64 n,.int .i64 m] w fun e w'=>e=.returned (.int .i64 (n % m))/\w=w':=by
 have h:=mod_eq n m hm D;have H:=zh h;clear h
 go_enter Tryz.func40,Tryz.ntmps40
 go_wp2;go_ret;exact ⟨AB H.out,rfl⟩
theorem zr (h:k<l.length) (n:Int):n∈l.take (k+1)↔n∈l.take k\/n=l[k]:=by
 rw [DY h,EH,Ey]
theorem zL {ok:Nat->Prop} {v:Value} (n:Int) (w:World) (h:zk w ok v l) (hl:l.length<=20000000000000):
  Calls Tryz.prog 73 #[v,.int .i64 n] w fun e w'=>e=.returned (.bool (decide (n∈l)))/\w=w':=by
 obtain ⟨A,c,rfl,V,M⟩:=h;have O:=zh M;clear M
 go_enter Tryz.func73,Tryz.ntmps73
 go_wp2
 go_loop [5] (fun i=>∃k:Nat,k<=l.length/\i=.int .i64 k/\Hid (n∉l.take k)) (fun i=>l.length - (intOf i).toNat)
 case atStart=>exact ⟨0,Ef _,rfl,by simp [Hid]⟩
 case round=>
  obtain ⟨k,hk,rfl,L⟩:=hrel;by_cases I:k<l.length
  ·obtain ⟨b,off,rfl,_,G⟩:=zE O.out I I;obtain ⟨x,J⟩:=EY (l[k]);rw [<-J] at G;have K:=zh J;clear J;by_cases D:x=n
   ·have U:(x==n)=true:=by simp [D]
    have E:=zh D;clear D;go_wp2;go_ret;exact ⟨zi (by simp only [true_eq_decide_iff];rw [<-E.out,K.out];exact DS _),rfl⟩
   ·have U:(x==n)=false:=by simp [D]
    have E:=zh D;clear D;go_wp2
    go_round
    case rel=>exact ⟨k+1,by omega,by go_num,fun hm=>by
     rcases (zr I n).1 hm with h | h
     ·exact L.out h
     ·exact E.out (K.out.trans h.symm)⟩
    case measure=>simp [intOf];omega
  ·obtain rfl:k=l.length:=by omega
   go_wp2;go_ret;exact ⟨zi (by have h:=L.out;rw [Ec] at h;simp [h]),rfl⟩
theorem index_calls {ok:Nat->Prop} {v:Value} (n:Int) (w:World) (h:zk w ok v l) (hl:l.length<=20000000000000):
  Calls Tryz.prog 187 #[v,.int .i64 n] w fun e w'=>∃r:Int,e=.returned (.int .i64 r)/\(0<=r↔n∈l)/\-1<=r/\w=w':=by
 obtain ⟨A,c,rfl,hc,O⟩:=h;have U:=zh O;clear O
 go_enter Tryz.func187,Tryz.ntmps187
 go_wp2
 go_loop [8] (fun i=>∃k:Nat,k<=l.length/\i=.int .i64 k/\Hid (n∉l.take k)) (fun i=>l.length - (intOf i).toNat)
 case atStart=>exact ⟨0,Ef _,rfl,by simp [Hid]⟩
 case round=>
  obtain ⟨k,hk,rfl,M⟩:=hrel;by_cases I:k<l.length
  ·obtain ⟨b,off,rfl,_,G⟩:=zE U.out I I;obtain ⟨x,J⟩:=EY (l[k]);rw [<-J] at G;have K:=zh J;clear J;by_cases D:n=x
   ·have V:(n==x)=true:=by simp [D]
    have E:=zh D;clear D;go_wp2;go_ret;exact ⟨_,rfl,⟨fun _=>by rw [E.out,K.out];exact DS _,fun _=>by omega⟩,by omega,rfl⟩
   ·have V:(n==x)=false:=by simp [D]
    have E:=zh D;clear D;go_wp2
    go_round
    case rel=>exact ⟨k+1,by omega,by go_num,fun hm=>by
     rcases (zr I n).1 hm with h | h
     ·exact M.out h
     ·exact E.out (h.trans K.out.symm)⟩
    case measure=>simp [intOf];omega
  ·obtain rfl:k=l.length:=by omega
   go_wp2;go_ret;have h:=M.out;rw [Ec] at h;exact ⟨_,rfl,⟨fun L=>by omega,fun L=>absurd L h⟩,by omega,rfl⟩
theorem Ai {ok:Nat->Prop} {v:Value} (n:Int) (w:World) (h:zk w ok v l) (I:l.length<=20000000000000):
  Calls Tryz.prog 130 #[v,.int .i64 n] w fun e w'=>e=.returned (.bool (decide (n∈l)))/\w=w':=by
 have D:=index_calls n w h I;obtain ⟨A,c,rfl,K,E⟩:=h;have H:=zh D;clear D;clear E
 go_enter Tryz.func130,Tryz.ntmps130
 go_wp2_with fail
 refine H.out.mono ?_;rintro e w' ⟨r,rfl,E,J,rfl⟩;have G:=zh E;clear E
 go_wp2_with fail
 go_ret;exact ⟨zi (by rw [decide_eq_decide];exact G.out),rfl⟩
theorem Cq {a w:World} (h:Below B a w) (n:Nat):Below B a (w.drewN n):=⟨h.os,h.tape,h.output,h.size,h.block⟩
theorem take_succ_eq {α:Type} {a b:List α} (D:k<a.length) (E:k<b.length):a.take (k+1)=b.take (k+1)↔a.take k=b.take k/\a[k]=b[k]:=by
 rw [DY D,DY E];constructor
 ·intro h;have G:(a.take k).length=(b.take k).length:=by simp;omega
  have:=List.append_inj h G;simpa using this
 ·rintro ⟨h1,h2⟩;rw [h1,h2]
def zZ (w w':World):Prop:=∃n,w'=w.drewN n
theorem zZ.refl (w:World):zZ w w:=⟨0,rfl⟩
theorem zZ.trans {a c:World} (h:zZ a b) (D:zZ b c):zZ a c:=by
 obtain ⟨n,rfl⟩:=h;obtain ⟨m,rfl⟩:=D;exact ⟨n+m,by rw [World.drewN_drewN]⟩
theorem zZ.more {a:World} (h:zZ a b) (n:Nat):zZ a (b.drewN n):=h.trans ⟨n,rfl⟩
theorem zZ.same {a:World} (h:zZ a b) (ok:Nat->Prop):zK ok a b:=by
 obtain ⟨n,rfl⟩:=h;exact fun _ _ _=>rfl
theorem zZ.below {a:World} (h:zZ a b) (B:Nat):Below B a b:=by
 obtain ⟨n,rfl⟩:=h;exact Cq (Below.refl _ _) n
theorem same_calls {ok ok':Nat->Prop} {v v':Value} {a b:List Int} (w:World) (h:zk w ok v a) (h':zk w ok' v' b) (hl:a.length<=20000000000000) (b1:b.length<=20000000000000):
  Calls Tryz.prog 15 #[v,v'] w fun e w'=>e=.returned (.bool (decide (a=b)))/\zZ w w':=by
 obtain ⟨A,c,rfl,hc,hr⟩:=h;obtain ⟨A',c',rfl,b0,O⟩:=h';have HR:=zh hr;clear hr;have V:=zh O;clear O;by_cases D:a.length=b.length
 ·have a1:((a.length:Int) != (b.length:Int))=false:=by simp [D]
  have b2:a.length<=b.length:=by omega
  have a6:b.length<=a.length:=by omega
  have U:=zh D;clear D
  go_enter Tryz.func15,Tryz.ntmps15
  go_wp2;go_loopw [5] (fun i wr=>∃k:Nat,k<=a.length/\i=.int .i64 k/\Hid (a.take k=b.take k)/\Hid (zZ w wr)) (fun i _=>a.length - (intOf i).toNat)
  case atStart=>exact ⟨0,Ef _,rfl,by simp [Hid],zZ.refl _⟩
  case round=>
   obtain ⟨k,hk,rfl,heq,M⟩:=hrel;by_cases L:k<a.length
   ·have G:k<b.length:=by omega
    obtain ⟨bA,off,rfl,_,K⟩:=zE (HR.out.keep (M.out.same ok)) L L;obtain ⟨bB,off',rfl,_,I⟩:=zE (V.out.keep (M.out.same ok')) G G;obtain ⟨x,hx⟩:=EY (a[k]);obtain ⟨y,hy⟩:=EY (b[k]);rw [<-hx] at K;rw [<-hy] at I;have HX:=zh hx;clear hx;have HY:=zh hy;clear hy;by_cases E:x=y
    ·have a0:(x != y)=false:=by simp [E]
     have J:=zh E;clear E;go_wp2;go_quiet (fail)
     go_wp2;go_roundw
     case rel=>exact ⟨k+1,by omega,by go_num,(take_succ_eq L G).2 ⟨heq.out,by rw [<-HX.out,<-HY.out,J.out]⟩,M.out.more _⟩
     case measure=>simp [intOf];omega
    ·have a0:(x != y)=true:=by simp [E]
     have J:=zh E;clear E;go_wp2;go_quiet (fail)
     go_wp2;go_ret;refine ⟨zi ?_,M.out.more _⟩;rw [eq_comm,Eo];rintro rfl;exact J.out (HX.out.trans HY.out.symm)
   ·obtain rfl:k=a.length:=by omega
    go_wp2;go_ret;refine ⟨zi ?_,M.out⟩;have h:=heq.out;rw [Ec,U.out,Ec] at h;simp [h]
 ·have a1:((a.length:Int) != (b.length:Int))=true:=by simp only [bne_iff_ne];omega
  have U:=zh D;clear D
  go_enter Tryz.func15,Tryz.ntmps15
  go_wp2;go_ret;refine ⟨zi ?_,zZ.refl _⟩;rw [eq_comm,Eo];rintro rfl;exact U.out rfl
end
section
open Go.RowKit
open Go.ChangeMaps (setBlock)
def zx:List Int->Nat->List MapEntry
 | [],_=>[]
 | x :: l,b=>{ key:=.int .i64 x,val:=.bool true,born:=b } :: zx l (b+1)
def mapObj (l:List Int):Obj:=.map (zx l 0).toArray l.length
def zG (w:World) (g:Nat) (l:List Int):Prop:=w.heap[g]?=some (mapObj l)
def ins (l:List Int) (x:Int):List Int:=if x∈l then l else l++[x]
theorem mem_ins:y∈ins l x↔y∈l\/y=x:=by
 unfold ins
 split
 ·constructor
  ·exact .inl
  ·rintro (h | rfl)
   ·exact h
   ·assumption
 ·simp
theorem CH:∀(l:List Int) (b:Nat),(zx l b).length=l.length
 | [],_=>rfl
 | _ :: l,b=>by simp [zx,CH l]
theorem Dx:∀(l l':List Int) (b:Nat),zx (l++l') b=zx l b++zx l' (b+l.length)
 | [],_,_=>by simp [zx]
 | _ :: l,l',b=>by simp [zx,Dx l l' (b+1),Nat.add_assoc,Nat.add_comm 1]
theorem Cs:∀(l:List Int) (b i:Nat),(zx l b)[i]?=(l[i]?).map fun x=>{ key:=.int .i64 x,val:=.bool true,born:=b+i }
 | [],_,_=>by simp [zx]
 | x :: l,b,0=>by simp [zx]
 | x :: l,b,i+1=>by simp [zx,Cs l (b+1) i,Nat.add_assoc,Nat.add_comm 1]
theorem zG.keep {ok:Nat->Prop} {w w':World} (h:zG w g l) (E:zK ok w w') (D:ok g):zG w' g l:=(E g D (zc h)).trans h
theorem zG.below {w w':World} (h:zG w g l) (D:Below w.heap.size w w'):zG w' g l:=(D.block g (zc h)).trans h
theorem zG.new (w:World):zG (w.alloc (.map #[] 0)) w.heap.size []:=EE _ _
open Go.Instr in
theorem Dy (x:Int):∀(l:List Int) (b s:Nat),findNow (.int .i64) (.int .i64 x) (zx l b) s=some (if x∈l then some (s+l.idxOf x,.bool true) else none)
 | [],_,_=>by simp [zx,findNow]
 | y :: l,b,s=>by
  simp only [zx,findNow,sameNow,if_true];by_cases h:x=y
  ·subst h;simp
  ·have G:(x==y)=false:=by simpa using h
   have E:(y==x)=false:=by simpa using fun e:y=x=>h e.symm
   simp only [G];rw [Dy x l (b+1) (s+1)];by_cases hm:x∈l
   ·have D:x∈y :: l:=El _ hm;rw [if_pos hm,if_pos D,List.idxOf_cons,E];simp only [cond_false,Bool.false_eq_true,if_false];rw [show s+1+l.idxOf x=s+(l.idxOf x+1) by omega]
   ·have D:¬ x∈y :: l:=by simp [h,hm]
    rw [if_neg hm,if_neg D]
theorem run_getObj' {w:World} {n:Nat} (h:w.heap[g]?=some (.map es n)):(getObj g).run P w=.ok (.map es n) w:=by simp [getObj,Sem.run,h]
theorem run_setObj' {w:World} {n:Nat} (o':Obj) (h:w.heap[g]?=some (.map es n)):(setObj g o').run P w=.ok () (setBlock w g o'):=by
 simp [setObj,Sem.run,h,setBlock]
open Go.Instr in
theorem run_checkKey (b:Bool) (n:Nat) (x:Int) (w:World):(checkKey b (n+1) 3 (.int .i64 x)).run Tryz.prog w=.ok () w:=by
 simp [checkKey,run_underlying Tryz.underlying3]
theorem run_look {w:World} (h:zG w g l) (x:Int) (t:TypeId) (ht:Tryz.prog.underlying t=some (.map 3 4)):
  (Instr.lookup t (.map (some g)) (.int .i64 x) false).run Tryz.prog w=.ok (.bool (decide (x∈l))) w:=by
 have D:∀w,(zeroValue 4).run Tryz.prog w=.ok (.bool false) w:=fun w=>by kernel_rfl
 unfold Instr.lookup;simp only [Sem.run_bind,run_underlying ht,Result.andThen_ok,run_getObj' h,mapObj,Sem.run_pure];rw [show (10000:Nat)=9999+1 from rfl,run_checkKey];simp only [Result.andThen_ok,Instr.findKey,Sem.run_bind,run_underlying Tryz.underlying3,List.toList_toArray,Dy];by_cases hm:x∈l
 ·simp [hm]
 ·simp [hm,D]
theorem setBlk_same {w:World} {o o':Obj} (h:w.heap[g]?=some o):(setBlock w g o').heap[g]?=some o':=by
 have:=zc h;simp [setBlock,this]
theorem Dp {w:World} (o:Obj) (h:k≠g):(setBlock w g o).heap[k]?=w.heap[k]?:=by
 simp [setBlock,Ne.symm h]
theorem run_add {w:World} (h:zG w g l) (x:Int) (t:TypeId) (ht:Tryz.prog.underlying t=some (.map 3 4)):
  ∃w',(Instr.mapUpdate t (.map (some g)) (.int .i64 x) (.bool true)).run Tryz.prog w=.ok () w'/\zG w' g (ins l x)/\w.grownBy w' (some g):=by
 refine ⟨setBlock w g (mapObj (ins l x)),?_,setBlk_same h,⟨rfl,rfl,rfl,by simp [setBlock],fun k _ G=>Dp _ (fun e=>G (by rw [e]))⟩⟩;unfold Instr.mapUpdate;simp only [Sem.run_bind,run_underlying ht,Result.andThen_ok,run_getObj' h,mapObj];rw [show (10000:Nat)=9999+1 from rfl,run_checkKey];simp only [Result.andThen_ok,Instr.findKey,Sem.run_bind,run_underlying Tryz.underlying3,List.toList_toArray,Dy];by_cases hm:x∈l
 ·simp only [hm,if_true,Sem.run_pure,Result.andThen_ok,Nat.zero_add];have E:l.idxOf x<l.length:=List.idxOf_lt_length_of_mem hm;have I:l[l.idxOf x]=x:=List.getElem_idxOf E
  have G:∀W,(Instr.keyThatStays ((((zx l 0).toArray[l.idxOf x]?).map (·.key)).getD (.int .i64 x)) (.int .i64 x)).run Tryz.prog W=.ok (.int .i64 x) W:=by
   intro W;rw [List.getElem?_toArray,Cs,DO E];simp [Instr.keyThatStays,Instr.sameBits,I]
  rw [Sem.run_bind,G];simp only [Result.andThen_ok]
  have D:(zx l 0).toArray.modify (l.idxOf x) (fun e=>{ e with key:=.int .i64 x,val:=.bool true })=(zx l 0).toArray:=by
   apply Array.ext_getElem?;intro i;rw [Array.getElem?_modify]
   split
   ·rename_i e
    subst e;rw [List.getElem?_toArray,Cs,DO E];simp [I]
   ·rfl
  rw [D,run_setObj' _ h];have:ins l x=l:=by simp [ins,hm]
  rw [this]
 ·simp only [hm,if_false,Sem.run_pure,Result.andThen_ok];rw [run_setObj' _ h];have:ins l x=l++[x]:=by simp [ins,hm]
  rw [this,Dx];simp [zx]
theorem wpSetAdd {w:World} (J:o.guard=none) (m y v:Operand) (t:TypeId) (G:o.op=Op.mapUpdate t m y v)
  (ht:Tryz.prog.underlying t=some (.map 3 4)) (g:Nat) (l:List Int) (x:Int) (hm:a.eval m=.map (some g)) (M:a.eval y=.int .i64 x) (L:a.eval v=.bool true) (K:zG w g l)
  (I:∀w',zG w' g (ins l x)->w.grownBy w' (some g)->wpList Tryz.prog ops Q rest (a.put o.dst undef) w'):wpList Tryz.prog ops Q (o :: rest) a w:=by
 refine wpList_plain J fun K' E=>?_
 obtain ⟨w',D,h1,h2⟩:=run_add K x t ht;unfold Oper.wp;simp [execOp,G,hm,M,L,D,Result.andThen];exact E _ _ (I w' h1 h2)
end
section
open Go.RowKit
theorem Tryz.infoInt:(Tryz.prog.info? 3).map (fun i=>(i.zero,i.size,i.bytes))=some (some (.int .i64 0),1,8):=by kernel_rfl
def ap (c:Bool) (x:Int) (l:List Int):List Int:=if c then l++[x] else l
theorem ap_len (c:Bool) (x:Int) (l:List Int):(ap c x l).length<=l.length+1:=by
 unfold ap;split <;> simp
theorem map_snoc (l:List Int) (x:Int):(l++[x]).map (Value.int .i64)=l.map (Value.int .i64)++[.int .i64 x]:=by simp
def zd (w:World) (g:Nat) (t:TypeId) (cs:Array Value):Prop:=w.heap[g]?=some (.cells cs t (0,0))
theorem zd.ne_ {w:World} {g':Nat} {t t':TypeId} {cs':Array Value} (h:zd w g t cs) (D:zd w g' t' cs') (E:t≠t'):g≠g':=by
 rintro rfl;unfold zd at h D;rw [h] at D;injection D with D;injection D with _ ht;exact E ht
theorem zl {w:World} {base:Nat} {e:TypeId} {size n:Nat} {v:Value} {xs:List Value} {t:TypeId} (h:w.ownsRow base e size v n xs) (E:zd w g t cs) (D:e≠t):v.ownBlock≠some g:=by
 rcases h.2 with ⟨rfl,_⟩ | ⟨g',cap,cur,rfl,_,hh,_⟩
 ·simp [Value.ownBlock]
 ·intro he;have:g'=g:=by simpa [Value.ownBlock] using he
  subst this;exact zd.ne_ (t:=e) hh E D rfl
def Acc (w0 w:World) (B gb:Nat) (l:List Int):Prop:=
 ∃v,zd w gb 23 #[v]/\w.ownsRow B 3 1 v l.length (l.map (Value.int .i64))/\B<=gb/\Below B w0 w
theorem wpApp1 (G:o.guard=none) (s y:Operand)
  (U:o.op=.call { callee:=.builtin .append,args:=#[s,y],argTypes:=#[23,23] }) (W:World) (l:List Int) (x:Int) (B g c:Nat) (v:Value) (V:a.eval s=v)
  (hy:a.eval y=.slice (some ⟨g,0,none⟩) 1 c) (D:W.ownsRow B 3 1 v l.length (l.map (Value.int .i64))) (M:W.cell? ⟨g,0,none⟩=some (.int .i64 x)) (L:B<=W.heap.size) (hl:l.length<=1000000000000)
  (h:∀v' w',w'.ownsRow B 3 1 v' (l++[x]).length ((l++[x]).map (Value.int .i64))->W.grownBy w' v.ownBlock->wpList Tryz.prog ops Q rest (a.put o.dst v') w'):wpList Tryz.prog ops Q (o :: rest) a W:=by
 obtain ⟨i0,O,I,J,K⟩:=info_parts Tryz.infoInt;refine wpList_append_own _ G _ _ 23 U B 3 i0 (.int .i64 0) 1 8 Tryz.underlying23 O I J K rfl (by decide) _ _ _ V D ⟨g,0,none⟩ 1 c [.int .i64 x] hy rfl ?_ ?_ ?_ ?_ L ?_
 ·intro j u E
  match j,E with
  | 0,E=>
   have:u=.int .i64 x:=by simpa using E.symm
   rw [this];exact M
 ·intro u E;have:u=.int .i64 x:=by simpa using E
  rw [this];rfl
 ·unfold maxLen;omega
 ·omega
 ·intro v' w' h1 h2 _;refine h v' w' ?_ h2;rw [map_snoc,DZ];exact h1
theorem add_calls (w0 w:World) (B gb:Nat) (l:List Int) (c:Bool) (x:Int) (h:Acc w0 w B gb l) (hl:l.length<=1000) (hB:B<=w0.heap.size):
  Calls Tryz.prog 214 #[.bool c,.int .i64 x,.pointer (some ⟨gb,0,none⟩)] w fun e w'=>e=.returned (.tuple #[])/\Acc w0 w' B gb (ap c x l):=by
 have J:=h;obtain ⟨v,O,G,L,hb⟩:=h
 cases c with
 | false=>
  go_enter Tryz.func214,Tryz.ntmps214
  go_wp2
  go_end0
  exact ⟨rfl,J⟩
 | true=>
  have a2:w.cell? ⟨gb,0,none⟩=some v:=by unfold World.cell?;simp only [show w.heap[gb]?=_ from O];rfl
  have a6:=zl G O (by decide);have a5:gb<w.heap.size:=zc O;have a0:B<=w.heap.size:=DT hB hb.size;have HG:=zh O;clear O;have HB:=zh hb;clear hb;clear J
  go_enter Tryz.func214,Tryz.ntmps214
  go_wp2_with (at_builtin;refine wpApp1 rfl _ _ rfl _ l x B w.heap.size 1 v rfl rfl (G.alloc _) ?c1 ?c2 ?c3 ?_)
  case c1=>simp
  case c2=>simp;omega
  case c3=>omega
  intro v' w1 E D;obtain ⟨g',cap',rfl,a4,a3⟩:=E.form (by simp);have I:zd w1 gb 23 #[v]:=(D.block gb (by simp;omega) (fun e=>a6 e.symm)).trans ((Ej w _ gb a5).trans HG.out);have U:w1.cell? ⟨gb,0,none⟩=some v:=by unfold World.cell?;simp only [show w1.heap[gb]?=_ from I];rfl
  have hfz:w1.frozen? ⟨gb,0,none⟩=false:=by unfold World.frozen?;simp [show w1.heap[gb]?=_ from I]
  have K:=zh I;clear I;have V:=zh D;clear D;have HO:=zh E;clear E;clear a4 a3;go_wp2
  go_end0
  have M:Below B w0 w1:=(HB.out.alloc a0 _).grown V.out (by simp;omega) (fun k hk=>by
   have:=(G.lt k hk).1;omega)
  refine ⟨rfl,.slice (some ⟨g',0,none⟩) (l++[x]).length cap',?_,?_,L,M.setCell L _⟩
  ·have:=K.out;unfold zd at this⊢;simp [World.setCell,Array.getElem?_modify,this]
  ·have h:=ownsRow_setCell_other (a:=⟨gb,0,none⟩) HO.out (zl (t:=23) HO.out K.out (by decide)) (.slice (some ⟨g',0,none⟩) (l++[x]).length cap');simpa [ap] using h
def AccK (w0 w:World) (B gb k:Nat) (l:List Int):Prop:=Acc w0 w B gb l/\l.length<=k/\B<=w0.heap.size
theorem addK (w0 w:World) (B gb k:Nat) (l:List Int) (c:Bool) (x:Int) (h:AccK w0 w B gb k l) (G:k<=1000):
  Calls Tryz.prog 214 #[.bool c,.int .i64 x,.pointer (some ⟨gb,0,none⟩)] w fun e w'=>e=.returned (.tuple #[])/\AccK w0 w' B gb (k+1) (ap c x l):=by
 obtain ⟨h,I,D⟩:=h;refine (add_calls w0 w B gb l c x h (by omega) D).mono ?_;rintro e w' ⟨rfl,E⟩;exact ⟨rfl,E,by have:=ap_len c x l;omega,D⟩
theorem AccK.below {w:World} (h:AccK w0 w B gb k l):Below B w0 w:=by
 obtain ⟨⟨v,_,_,_,D⟩,_,_⟩:=h;exact D
theorem zq {w:World} {t:TypeId} {a0 a1 a2 a3 a4 a5:Value} (h:zd w g t #[a0,a1,a2,a3,a4,a5]):
  w.cell? ⟨g,0,none⟩=some a0/\w.cell? ⟨g,1,none⟩=some a1/\w.cell? ⟨g,2,none⟩=some a2/\w.cell? ⟨g,3,none⟩=some a3/\w.cell? ⟨g,4,none⟩=some a4/\w.cell? ⟨g,5,none⟩=some a5:=by
 unfold zd at h;unfold World.cell?;simp only [h];exact ⟨rfl,rfl,rfl,rfl,rfl,rfl⟩
theorem zd.below {w w':World} {t:TypeId} (h:zd w g t cs) (D:Below B w w') (E:g<B):zd w' g t cs:=(D.block g E).trans h
theorem zd.alloc {w:World} {g:Nat} {t:TypeId} {cs:Array Value} (h:zd w g t cs) (o:Obj):zd (w.alloc o) g t cs:=(Ej w o g (zc h)).trans h
theorem Acc.new (w1:World):AccK w1 (w1.alloc (.cells #[.slice none 0 0] 23)) w1.heap.size w1.heap.size 0 []:=
 ⟨⟨.slice none 0 0,EE _ _,(World.ownsRow_nil _ _ _ _),DR _,(Below.refl _ _).alloc (DR _) _⟩,DR _,DR _⟩
theorem AccK.end_ {w:World} (h:AccK w0 w B gb k l):∃v,w.cell? ⟨gb,0,none⟩=some v/\w.ownsRow B 3 1 v l.length (l.map (Value.int .i64)):=by
 obtain ⟨⟨v,D,E,_,_⟩,_,_⟩:=h;refine ⟨v,?_,E⟩;unfold zd at D;unfold World.cell?;simp only [D];rfl
theorem AccK.more {w w':World} (h:AccK w0 w B gb k l) (D:Below w.heap.size w w'):AccK w0 w' B gb k l:=by
 obtain ⟨⟨v,J,M,E,G⟩,L,I⟩:=h;exact ⟨⟨v,(D.block gb (zc J)).trans J,M.kept (row:=none) ⟨D.os,D.tape,D.output,D.size,fun i K _=>D.block i K⟩ (by cases h:v.ownBlock <;> simp),E,Ba G D I⟩,L,I⟩
theorem next_fin {w:World} {v:Value} {l':List Int} (h:w.ownsRow B 3 1 v l.length (l.map (Value.int .i64))) (e:l'=l):w.ownsRow B 3 1 v l'.length (l'.map (Value.int .i64)):=by
 rw [e];exact h
def zo (m:MZ) (node:Int):List Int:=
 ap (decide (node+m.w*m.h<m.w*m.h*m.l) && m.up.getD node.toNat false) (node+m.w*m.h)
  (ap (decide (node / m.w % m.h+1<m.h)) (node+m.w)
   (ap (decide (node % m.w+1<m.w)) (node+1)
    (ap (decide (0<node % m.w)) (node - 1)
     (ap (decide (0<node / m.w % m.h)) (node - m.w)
      (ap (decide (m.w*m.h<=node) && m.up.getD (node - m.w*m.h).toNat false) (node - m.w*m.h) [])))))
structure Dim (m:MZ):Prop where
 w1:1<=m.w
 w2:m.w<=300
 h1:1<=m.h
 h2:m.h<=300
 l1:1<=m.l
 l2:m.l<=300
 n1:m.w*m.h*m.l<=300
 up:(m.up.length:Int)=m.w*m.h*m.l
theorem Dim.layer {m:MZ} (d:Dim m):1<=m.w*m.h/\m.w*m.h<=m.w*m.h*m.l:=by
 have h1:1<=m.w*m.h:=by
  have:=Int.mul_le_mul d.w1 d.h1 (by omega) (by have:=d.w1;omega);omega
 refine ⟨h1,?_⟩;have:=Int.mul_le_mul_of_nonneg_left d.l1 (show 0<=m.w*m.h by omega);omega
theorem next_eq (m:MZ) (node:Int) (b1 b2:Bool) (h1:b1=(decide (m.w*m.h<=node) && m.up.getD (node - m.w*m.h).toNat false)) (h2:b2=(decide (node+m.w*m.h<m.w*m.h*m.l) && m.up.getD node.toNat false)):
  zo m node=ap b2 (node+m.w*m.h) (ap (decide (node / m.w % m.h+1<m.h)) (node+m.w) (ap (decide (node % m.w+1<m.w)) (node+1) (ap (decide (0<node % m.w)) (node - 1) (ap (decide (0<node / m.w % m.h)) (node - m.w) (ap b1 (node - m.w*m.h) []))))):=by
 rw [h1,h2];rfl
theorem up_true {p:Prop} [Decidable p] {up:List Bool} (hp:p) (h:k<up.length):up[k]=(decide p && up.getD k false):=by
 simp [hp,h]
theorem up_false {p:Prop} [Decidable p] {b:Bool} (hp:¬ p):false=(decide p && b):=by simp [hp]
theorem Dl {ok:Nat->Prop} {v:Value} (m:MZ) (node:Int) (w:World) (hm:zt w ok v m) (d:Dim m) (h0:0<=node) (h1:node<m.w*m.h*m.l):
  Calls Tryz.prog 161 #[v,.int .i64 node] w fun e w'=>∃v',e=.returned v'/\Below w.heap.size w w'/\w'.ownsRow w.heap.size 3 1 v' (zo m node).length ((zo m node).map (Value.int .i64)):=by
 obtain ⟨f,u,t,rfl,_,hu,_⟩:=hm;obtain ⟨A,c,rfl,d4,c8⟩:=hu;have hl:=d.layer;obtain ⟨d8,d9⟩:=hl;obtain ⟨w1,w2,d5,d6,ll1,ll2,n1,c7⟩:=d;obtain ⟨W,H,L,fr,up,ts⟩:=m;simp only at*;have HU:=zh c8;clear c8;have b6:=zh c7;clear c7
 go_enter Tryz.func161,Tryz.ntmps161
 have e0:0<=node / W:=Int.ediv_nonneg h0 (by omega);have e1:node / W<=node:=Int.ediv_le_self _ h0
 go_wp2_with fail
 go_quiet (fail)
 have e2:0<=node / W % H:=Int.emod_nonneg _ (by omega);have e3:node / W % H<H:=Int.emod_lt_of_pos _ (by omega);have e4:0<=node % W:=Int.emod_nonneg _ (by omega);have e5:node % W<W:=Int.emod_lt_of_pos _ (by omega);generalize b9:((w.alloc (.cells #[.int .i64 W,.int .i64 H,.int .i64 L,f,.slice A up.length c,t] 32)).drewN nq)=w1;have O:Below w.heap.size w w1:=by rw [<-b9];exact Cq ((Below.refl _ _).alloc (DR _) _) _
 have c6:zd w1 w.heap.size 32 #[.int .i64 W,.int .i64 H,.int .i64 L,f,.slice A up.length c,t]:=by rw [<-b9];exact EE _ _
 have b5:=zh (HU.out.keep (zK.of_below O):AE w1 ok 1 A up.length (up.map Value.bool));clear b9 HU;have K:=zh c6;clear c6;have U:=zh O;clear O;by_cases hA:W*H<=node
 ·by_cases hB:node+W*H<W*H*L
  ·have a7:(node - W*H).toNat<up.length:=by have:=b6.out;omega
   obtain ⟨b,off,a9,_,I⟩:=BP b5.out a7 a7;have D:=zA I;have a8:node.toNat<up.length:=by have:=b6.out;omega
   obtain ⟨b',off',b4,_,J⟩:=BP b5.out a8 a8;obtain ⟨rfl,rfl⟩:b=b'/\off=off':=by rw [a9] at b4;simpa using b4
   clear b4;subst a9;obtain ⟨b1,O⟩:=EY (up[(node - W*H).toNat]);rw [<-O] at I;have b0:=zh O;clear O;obtain ⟨b2,V⟩:=EY (up[node.toNat]);rw [<-V] at J;have b3:=zh V;clear V;have E:w.heap.size<w1.heap.size:=zc K.out;have G:=fun o=>zq (K.out.alloc o)
   obtain ⟨m0,m1,m2,m3,m4,m5⟩:(∀o,(w1.alloc o).cell? ⟨w.heap.size,0,none⟩=_)/\(∀o,(w1.alloc o).cell? ⟨w.heap.size,1,none⟩=_)/\(∀o,(w1.alloc o).cell? ⟨w.heap.size,2,none⟩=_)/\(∀o,(w1.alloc o).cell? ⟨w.heap.size,3,none⟩=_)/\(∀o,(w1.alloc o).cell? ⟨w.heap.size,4,none⟩=_)/\(∀o,(w1.alloc o).cell? ⟨w.heap.size,5,none⟩=_):=⟨fun o=>(G o).1,fun o=>(G o).2.1,fun o=>(G o).2.2.1,fun o=>(G o).2.2.2.1,fun o=>(G o).2.2.2.2.1,fun o=>(G o).2.2.2.2.2⟩;clear G;have u1:∀o,(w1.alloc o).cell? ⟨b,off+(node - W*H).toNat,none⟩=_:=fun o=>(World.cell?_alloc_lt w1 o ⟨b,off+(node - W*H).toNat,none⟩ D).trans I
   have u2:∀o,(w1.alloc o).cell? ⟨b,off+node.toNat,none⟩=_:=fun o=>(World.cell?_alloc_lt w1 o ⟨b,off+node.toNat,none⟩ D).trans J
   go_wp2_with fail
   refine (addK w1 _ w1.heap.size w1.heap.size 0 _ _ _ (Acc.new w1) (by omega)).mono ?_;rintro e k1 ⟨rfl,a1⟩;clear m0 m1 m2 m3 m4 m5 u1 u2;obtain ⟨m0,m1,m2,m3,m4,m5⟩:=zq (K.out.below a1.below E);have u1:=(a1.below.cell (p:=⟨b,off+(node - W*H).toNat,none⟩) D).trans I;have u2:=(a1.below.cell (p:=⟨b,off+node.toNat,none⟩) D).trans J
   go_wp2_with fail
   refine (addK w1 _ w1.heap.size w1.heap.size 1 _ _ _ (a1) (by omega)).mono ?_;rintro e k2 ⟨rfl,a2⟩;clear m0 m1 m2 m3 m4 m5 u1 u2;obtain ⟨m0,m1,m2,m3,m4,m5⟩:=zq (K.out.below a2.below E);have u1:=(a2.below.cell (p:=⟨b,off+(node - W*H).toNat,none⟩) D).trans I;have u2:=(a2.below.cell (p:=⟨b,off+node.toNat,none⟩) D).trans J
   go_wp2_with fail
   refine (addK w1 _ w1.heap.size w1.heap.size 2 _ _ _ (a2) (by omega)).mono ?_;rintro e k3 ⟨rfl,a3⟩;clear m0 m1 m2 m3 m4 m5 u1 u2;obtain ⟨m0,m1,m2,m3,m4,m5⟩:=zq (K.out.below a3.below E);have u1:=(a3.below.cell (p:=⟨b,off+(node - W*H).toNat,none⟩) D).trans I;have u2:=(a3.below.cell (p:=⟨b,off+node.toNat,none⟩) D).trans J
   go_wp2_with fail
   refine (addK w1 _ w1.heap.size w1.heap.size 3 _ _ _ (a3) (by omega)).mono ?_;rintro e k4 ⟨rfl,a4⟩;clear m0 m1 m2 m3 m4 m5 u1 u2;obtain ⟨m0,m1,m2,m3,m4,m5⟩:=zq (K.out.below a4.below E);have u1:=(a4.below.cell (p:=⟨b,off+(node - W*H).toNat,none⟩) D).trans I;have u2:=(a4.below.cell (p:=⟨b,off+node.toNat,none⟩) D).trans J
   go_wp2_with fail
   refine (addK w1 _ w1.heap.size w1.heap.size 4 _ _ _ (a4) (by omega)).mono ?_;rintro e k5 ⟨rfl,a5⟩;clear m0 m1 m2 m3 m4 m5 u1 u2;obtain ⟨m0,m1,m2,m3,m4,m5⟩:=zq (K.out.below a5.below E);have u1:=(a5.below.cell (p:=⟨b,off+(node - W*H).toNat,none⟩) D).trans I;have u2:=(a5.below.cell (p:=⟨b,off+node.toNat,none⟩) D).trans J
   go_wp2_with fail
   refine (Ah W H L _ _ _ _ (by omega) (by omega)).mono ?_;rintro e kn ⟨rfl,a0⟩;have a5:=a5.more a0;clear m0 m1 m2 m3 m4 m5 u1 u2;obtain ⟨m0,m1,m2,m3,m4,m5⟩:=zq (K.out.below a5.below E);have u1:=(a5.below.cell (p:=⟨b,off+(node - W*H).toNat,none⟩) D).trans I;have u2:=(a5.below.cell (p:=⟨b,off+node.toNat,none⟩) D).trans J
   go_wp2_with fail
   refine (addK w1 _ w1.heap.size w1.heap.size 5 _ _ _ (a5) (by omega)).mono ?_;rintro e k6 ⟨rfl,a6⟩;clear m0 m1 m2 m3 m4 m5 u1 u2;obtain ⟨m0,m1,m2,m3,m4,m5⟩:=zq (K.out.below a6.below E);have u1:=(a6.below.cell (p:=⟨b,off+(node - W*H).toNat,none⟩) D).trans I;have u2:=(a6.below.cell (p:=⟨b,off+node.toNat,none⟩) D).trans J;obtain ⟨vf,b8,M⟩:=a6.end_;have HO:=zh M;clear M
   go_wp2_with fail
   go_ret;refine ⟨vf,rfl,Ba U.out (Below.mono a6.below (DR _)) (DR _),?_⟩;exact next_fin (HO.out.mono U.out.size) (next_eq _ _ _ _ (by rw [b0.out];exact up_true hA a7) (by rw [b3.out];exact up_true hB a8))
  ·have a7:(node - W*H).toNat<up.length:=by have:=b6.out;omega
   obtain ⟨b,off,a9,_,I⟩:=BP b5.out a7 a7;have D:=zA I;subst a9;obtain ⟨b1,O⟩:=EY (up[(node - W*H).toNat]);rw [<-O] at I;have b0:=zh O;clear O;have E:w.heap.size<w1.heap.size:=zc K.out;have G:=fun o=>zq (K.out.alloc o)
   obtain ⟨m0,m1,m2,m3,m4,m5⟩:(∀o,(w1.alloc o).cell? ⟨w.heap.size,0,none⟩=_)/\(∀o,(w1.alloc o).cell? ⟨w.heap.size,1,none⟩=_)/\(∀o,(w1.alloc o).cell? ⟨w.heap.size,2,none⟩=_)/\(∀o,(w1.alloc o).cell? ⟨w.heap.size,3,none⟩=_)/\(∀o,(w1.alloc o).cell? ⟨w.heap.size,4,none⟩=_)/\(∀o,(w1.alloc o).cell? ⟨w.heap.size,5,none⟩=_):=⟨fun o=>(G o).1,fun o=>(G o).2.1,fun o=>(G o).2.2.1,fun o=>(G o).2.2.2.1,fun o=>(G o).2.2.2.2.1,fun o=>(G o).2.2.2.2.2⟩;clear G;have u1:∀o,(w1.alloc o).cell? ⟨b,off+(node - W*H).toNat,none⟩=_:=fun o=>(World.cell?_alloc_lt w1 o ⟨b,off+(node - W*H).toNat,none⟩ D).trans I
   go_wp2_with fail
   refine (addK w1 _ w1.heap.size w1.heap.size 0 _ _ _ (Acc.new w1) (by omega)).mono ?_;rintro e k1 ⟨rfl,a1⟩;clear m0 m1 m2 m3 m4 m5 u1;obtain ⟨m0,m1,m2,m3,m4,m5⟩:=zq (K.out.below a1.below E);have u1:=(a1.below.cell (p:=⟨b,off+(node - W*H).toNat,none⟩) D).trans I
   go_wp2_with fail
   refine (addK w1 _ w1.heap.size w1.heap.size 1 _ _ _ (a1) (by omega)).mono ?_;rintro e k2 ⟨rfl,a2⟩;clear m0 m1 m2 m3 m4 m5 u1;obtain ⟨m0,m1,m2,m3,m4,m5⟩:=zq (K.out.below a2.below E);have u1:=(a2.below.cell (p:=⟨b,off+(node - W*H).toNat,none⟩) D).trans I
   go_wp2_with fail
   refine (addK w1 _ w1.heap.size w1.heap.size 2 _ _ _ (a2) (by omega)).mono ?_;rintro e k3 ⟨rfl,a3⟩;clear m0 m1 m2 m3 m4 m5 u1;obtain ⟨m0,m1,m2,m3,m4,m5⟩:=zq (K.out.below a3.below E);have u1:=(a3.below.cell (p:=⟨b,off+(node - W*H).toNat,none⟩) D).trans I
   go_wp2_with fail
   refine (addK w1 _ w1.heap.size w1.heap.size 3 _ _ _ (a3) (by omega)).mono ?_;rintro e k4 ⟨rfl,a4⟩;clear m0 m1 m2 m3 m4 m5 u1;obtain ⟨m0,m1,m2,m3,m4,m5⟩:=zq (K.out.below a4.below E);have u1:=(a4.below.cell (p:=⟨b,off+(node - W*H).toNat,none⟩) D).trans I
   go_wp2_with fail
   refine (addK w1 _ w1.heap.size w1.heap.size 4 _ _ _ (a4) (by omega)).mono ?_;rintro e k5 ⟨rfl,a5⟩;clear m0 m1 m2 m3 m4 m5 u1;obtain ⟨m0,m1,m2,m3,m4,m5⟩:=zq (K.out.below a5.below E);have u1:=(a5.below.cell (p:=⟨b,off+(node - W*H).toNat,none⟩) D).trans I
   go_wp2_with fail
   refine (Ah W H L _ _ _ _ (by omega) (by omega)).mono ?_;rintro e kn ⟨rfl,a0⟩;have a5:=a5.more a0;clear m0 m1 m2 m3 m4 m5 u1;obtain ⟨m0,m1,m2,m3,m4,m5⟩:=zq (K.out.below a5.below E);have u1:=(a5.below.cell (p:=⟨b,off+(node - W*H).toNat,none⟩) D).trans I
   go_wp2_with fail
   refine (addK w1 _ w1.heap.size w1.heap.size 5 _ _ _ (a5) (by omega)).mono ?_;rintro e k6 ⟨rfl,a6⟩;clear m0 m1 m2 m3 m4 m5 u1;obtain ⟨m0,m1,m2,m3,m4,m5⟩:=zq (K.out.below a6.below E);have u1:=(a6.below.cell (p:=⟨b,off+(node - W*H).toNat,none⟩) D).trans I;obtain ⟨vf,b8,M⟩:=a6.end_;have HO:=zh M;clear M
   go_wp2_with fail
   go_ret;refine ⟨vf,rfl,Ba U.out (Below.mono a6.below (DR _)) (DR _),?_⟩;exact next_fin (HO.out.mono U.out.size) (next_eq _ _ _ _ (by rw [b0.out];exact up_true hA a7) (up_false (Int.not_lt.2 hB)))
 ·by_cases hB:node+W*H<W*H*L
  ·have a8:node.toNat<up.length:=by have:=b6.out;omega
   obtain ⟨b,off,a9,_,J⟩:=BP b5.out a8 a8;have D:=zA J;subst a9;obtain ⟨b2,V⟩:=EY (up[node.toNat]);rw [<-V] at J;have b3:=zh V;clear V;have E:w.heap.size<w1.heap.size:=zc K.out;have G:=fun o=>zq (K.out.alloc o)
   obtain ⟨m0,m1,m2,m3,m4,m5⟩:(∀o,(w1.alloc o).cell? ⟨w.heap.size,0,none⟩=_)/\(∀o,(w1.alloc o).cell? ⟨w.heap.size,1,none⟩=_)/\(∀o,(w1.alloc o).cell? ⟨w.heap.size,2,none⟩=_)/\(∀o,(w1.alloc o).cell? ⟨w.heap.size,3,none⟩=_)/\(∀o,(w1.alloc o).cell? ⟨w.heap.size,4,none⟩=_)/\(∀o,(w1.alloc o).cell? ⟨w.heap.size,5,none⟩=_):=⟨fun o=>(G o).1,fun o=>(G o).2.1,fun o=>(G o).2.2.1,fun o=>(G o).2.2.2.1,fun o=>(G o).2.2.2.2.1,fun o=>(G o).2.2.2.2.2⟩;clear G;have u2:∀o,(w1.alloc o).cell? ⟨b,off+node.toNat,none⟩=_:=fun o=>(World.cell?_alloc_lt w1 o ⟨b,off+node.toNat,none⟩ D).trans J
   go_wp2_with fail
   refine (addK w1 _ w1.heap.size w1.heap.size 0 _ _ _ (Acc.new w1) (by omega)).mono ?_;rintro e k1 ⟨rfl,a1⟩;clear m0 m1 m2 m3 m4 m5 u2;obtain ⟨m0,m1,m2,m3,m4,m5⟩:=zq (K.out.below a1.below E);have u2:=(a1.below.cell (p:=⟨b,off+node.toNat,none⟩) D).trans J
   go_wp2_with fail
   refine (addK w1 _ w1.heap.size w1.heap.size 1 _ _ _ (a1) (by omega)).mono ?_;rintro e k2 ⟨rfl,a2⟩;clear m0 m1 m2 m3 m4 m5 u2;obtain ⟨m0,m1,m2,m3,m4,m5⟩:=zq (K.out.below a2.below E);have u2:=(a2.below.cell (p:=⟨b,off+node.toNat,none⟩) D).trans J
   go_wp2_with fail
   refine (addK w1 _ w1.heap.size w1.heap.size 2 _ _ _ (a2) (by omega)).mono ?_;rintro e k3 ⟨rfl,a3⟩;clear m0 m1 m2 m3 m4 m5 u2;obtain ⟨m0,m1,m2,m3,m4,m5⟩:=zq (K.out.below a3.below E);have u2:=(a3.below.cell (p:=⟨b,off+node.toNat,none⟩) D).trans J
   go_wp2_with fail
   refine (addK w1 _ w1.heap.size w1.heap.size 3 _ _ _ (a3) (by omega)).mono ?_;rintro e k4 ⟨rfl,a4⟩;clear m0 m1 m2 m3 m4 m5 u2;obtain ⟨m0,m1,m2,m3,m4,m5⟩:=zq (K.out.below a4.below E);have u2:=(a4.below.cell (p:=⟨b,off+node.toNat,none⟩) D).trans J
   go_wp2_with fail
   refine (addK w1 _ w1.heap.size w1.heap.size 4 _ _ _ (a4) (by omega)).mono ?_;rintro e k5 ⟨rfl,a5⟩;clear m0 m1 m2 m3 m4 m5 u2;obtain ⟨m0,m1,m2,m3,m4,m5⟩:=zq (K.out.below a5.below E);have u2:=(a5.below.cell (p:=⟨b,off+node.toNat,none⟩) D).trans J
   go_wp2_with fail
   refine (Ah W H L _ _ _ _ (by omega) (by omega)).mono ?_;rintro e kn ⟨rfl,a0⟩;have a5:=a5.more a0;clear m0 m1 m2 m3 m4 m5 u2;obtain ⟨m0,m1,m2,m3,m4,m5⟩:=zq (K.out.below a5.below E);have u2:=(a5.below.cell (p:=⟨b,off+node.toNat,none⟩) D).trans J
   go_wp2_with fail
   refine (addK w1 _ w1.heap.size w1.heap.size 5 _ _ _ (a5) (by omega)).mono ?_;rintro e k6 ⟨rfl,a6⟩;clear m0 m1 m2 m3 m4 m5 u2;obtain ⟨m0,m1,m2,m3,m4,m5⟩:=zq (K.out.below a6.below E);have u2:=(a6.below.cell (p:=⟨b,off+node.toNat,none⟩) D).trans J;obtain ⟨vf,b8,M⟩:=a6.end_;have HO:=zh M;clear M
   go_wp2_with fail
   go_ret;refine ⟨vf,rfl,Ba U.out (Below.mono a6.below (DR _)) (DR _),?_⟩;exact next_fin (HO.out.mono U.out.size) (next_eq _ _ _ _ (up_false (Int.not_le.2 hA)) (by rw [b3.out];exact up_true hB a8))
  ·have E:w.heap.size<w1.heap.size:=zc K.out;have G:=fun o=>zq (K.out.alloc o)
   obtain ⟨m0,m1,m2,m3,m4,m5⟩:(∀o,(w1.alloc o).cell? ⟨w.heap.size,0,none⟩=_)/\(∀o,(w1.alloc o).cell? ⟨w.heap.size,1,none⟩=_)/\(∀o,(w1.alloc o).cell? ⟨w.heap.size,2,none⟩=_)/\(∀o,(w1.alloc o).cell? ⟨w.heap.size,3,none⟩=_)/\(∀o,(w1.alloc o).cell? ⟨w.heap.size,4,none⟩=_)/\(∀o,(w1.alloc o).cell? ⟨w.heap.size,5,none⟩=_):=⟨fun o=>(G o).1,fun o=>(G o).2.1,fun o=>(G o).2.2.1,fun o=>(G o).2.2.2.1,fun o=>(G o).2.2.2.2.1,fun o=>(G o).2.2.2.2.2⟩;clear G
   go_wp2_with fail
   refine (addK w1 _ w1.heap.size w1.heap.size 0 _ _ _ (Acc.new w1) (by omega)).mono ?_;rintro e k1 ⟨rfl,a1⟩;clear m0 m1 m2 m3 m4 m5;obtain ⟨m0,m1,m2,m3,m4,m5⟩:=zq (K.out.below a1.below E)
   go_wp2_with fail
   refine (addK w1 _ w1.heap.size w1.heap.size 1 _ _ _ (a1) (by omega)).mono ?_;rintro e k2 ⟨rfl,a2⟩;clear m0 m1 m2 m3 m4 m5;obtain ⟨m0,m1,m2,m3,m4,m5⟩:=zq (K.out.below a2.below E)
   go_wp2_with fail
   refine (addK w1 _ w1.heap.size w1.heap.size 2 _ _ _ (a2) (by omega)).mono ?_;rintro e k3 ⟨rfl,a3⟩;clear m0 m1 m2 m3 m4 m5;obtain ⟨m0,m1,m2,m3,m4,m5⟩:=zq (K.out.below a3.below E)
   go_wp2_with fail
   refine (addK w1 _ w1.heap.size w1.heap.size 3 _ _ _ (a3) (by omega)).mono ?_;rintro e k4 ⟨rfl,a4⟩;clear m0 m1 m2 m3 m4 m5;obtain ⟨m0,m1,m2,m3,m4,m5⟩:=zq (K.out.below a4.below E)
   go_wp2_with fail
   refine (addK w1 _ w1.heap.size w1.heap.size 4 _ _ _ (a4) (by omega)).mono ?_;rintro e k5 ⟨rfl,a5⟩;clear m0 m1 m2 m3 m4 m5;obtain ⟨m0,m1,m2,m3,m4,m5⟩:=zq (K.out.below a5.below E)
   go_wp2_with fail
   refine (Ah W H L _ _ _ _ (by omega) (by omega)).mono ?_;rintro e kn ⟨rfl,a0⟩;have a5:=a5.more a0;clear m0 m1 m2 m3 m4 m5;obtain ⟨m0,m1,m2,m3,m4,m5⟩:=zq (K.out.below a5.below E)
   go_wp2_with fail
   refine (addK w1 _ w1.heap.size w1.heap.size 5 _ _ _ (a5) (by omega)).mono ?_;rintro e k6 ⟨rfl,a6⟩;clear m0 m1 m2 m3 m4 m5;obtain ⟨m0,m1,m2,m3,m4,m5⟩:=zq (K.out.below a6.below E);obtain ⟨vf,b8,M⟩:=a6.end_;have HO:=zh M;clear M
   go_wp2_with fail
   go_ret;refine ⟨vf,rfl,Ba U.out (Below.mono a6.below (DR _)) (DR _),?_⟩;exact next_fin (HO.out.mono U.out.size) (next_eq _ _ _ _ (up_false (Int.not_le.2 hA)) (up_false (Int.not_lt.2 hB)))
def MZ.n (m:MZ):Int:=m.w*m.h*m.l
theorem mem_ap {c:Bool}:y∈ap c x l↔y∈l\/(c=true/\y=x):=by
 unfold ap
 cases c <;> simp
theorem row_step {w k:Int} (D:0<w) (E:y<w*k) (G:y % w+1<w):y+1<w*k:=by
 have h1:=Int.emod_add_mul_ediv y w
 have h2:y / w<k:=by
  apply Int.ediv_lt_of_lt_mul D
  rwa [Int.mul_comm]
 have h3:w*(y / w+1)<=w*k:=Int.mul_le_mul_of_nonneg_left (by omega) (by omega);rw [Int.mul_add,Int.mul_one] at h3;omega
theorem layer_step {w h l:Int} (D:0<w) (hh:0<h) (J:y<w*h*l) (I:y / w % h+1<h):y+w<w*h*l:=by
 have G:y / w<h*l:=by
  apply Int.ediv_lt_of_lt_mul D;rw [Int.mul_comm,<-Int.mul_assoc];exact J
 have h1:=row_step hh G I;have h2:=Int.emod_add_mul_ediv y w;have h3:=Int.emod_lt_of_pos y D;have E:w*(y / w+2)<=w*(h*l):=Int.mul_le_mul_of_nonneg_left (by omega) (by omega);rw [Int.mul_add,<-Int.mul_assoc] at E;omega
theorem Bg {m:MZ} (d:Dim m) (h0:0<=y) (h1:y<m.n) (h:x∈zo m y):0<=x/\x<m.n:=by
 unfold MZ.n at h1⊢;obtain ⟨l1,l2⟩:=d.layer;have G:=d.w1;have hh:=d.h1;simp only [zo,mem_ap,Ed,Eb,EN,false_or] at h;rcases h with ((((( ⟨⟨a,_⟩,rfl⟩) | ⟨a,rfl⟩) | ⟨a,rfl⟩) | ⟨a,rfl⟩) | ⟨a,rfl⟩) | ⟨⟨a,_⟩,rfl⟩
 ·omega
 ·have h2:1<=y / m.w:=by
   have:0<=y / m.w:=Int.ediv_nonneg h0 (by omega);rcases Int.lt_or_le 0 (y / m.w) with h | h
   ·omega
   ·have:y / m.w=0:=by omega
    rw [this] at a;simp at a
  have h3:=Int.emod_add_mul_ediv y m.w;have D:=Int.emod_nonneg y (show m.w≠0 by omega);have E:m.w*1<=m.w*(y / m.w):=Int.mul_le_mul_of_nonneg_left h2 (by omega);omega
 ·have:y≠0:=by rintro rfl;simp at a
  omega
 ·have:=row_step (y:=y) (w:=m.w) (k:=m.h*m.l) (by omega) (by rw [<-Int.mul_assoc];exact h1) a;rw [<-Int.mul_assoc] at this;omega
 ·have:=layer_step (by omega) (by omega) h1 a;omega
 ·omega
def ze (m:MZ) (t:Nat) (x:Int):Bool:=(m.free.getD t []).getD x.toNat false
def RP (m:MZ) (t:Nat) (from_ used:List Int) (x:Int):Prop:=
 ∀S:Int->Prop,(∀y∈from_,0<=y->y<m.n->S y)->(∀y z,S y->z∈zo m y->ze m t z=true->z∉used->S z)->S x
theorem RP.base {m:MZ} (h:x∈from_) (h0:0<=x) (h1:x<m.n):RP m t from_ used x:=fun _ D _=>D x h h0 h1
theorem RP.step {m:MZ} (h:RP m t from_ used y) (I:x∈zo m y) (hf:ze m t x=true) (G:x∉used):RP m t from_ used x:=
 fun S E D=>D y x (h S E D) I hf G
theorem RP.range {m:MZ} (d:Dim m) (h:RP m t from_ used x):0<=x/\x<m.n:=
 h (fun x=>0<=x/\x<m.n) (fun y _ h0 h1=>⟨h0,h1⟩) (fun y z D E _ _=>Bg d D.1 D.2 E)
theorem RP.congr {m:MZ} {from' used':List Int} (hf:∀x,x∈from_↔x∈from') (I:∀x,x∈used↔x∈used') (h:RP m t from_ used x):RP m t from' used' x:=
 h _ (fun y E h0 h1=>RP.base ((hf y).1 E) h0 h1) (fun y z E J G D=>E.step J G (fun h=>D ((I z).2 h)))
theorem nodup_nat:∀(n:Nat) (l:List Nat),l.Nodup->(∀x∈l,x<n)->l.length<=n
 | 0,l,_,h=>by
  cases l with
  | nil=>simp
  | cons a l=>exact absurd (h a (ED ..)) (by omega)
 | n+1,l,E,h=>by
  by_cases hm:n∈l
  ·have h1:=nodup_nat n (l.erase n) (E.erase n) (fun x D=>by
    have h2:=(E.mem_erase_iff).1 D;have h3:=h x h2.2;omega)
   rw [List.length_erase_of_mem hm] at h1;omega
  ·have h1:=nodup_nat n l E (fun x D=>by
    have h3:=h x D;have:x≠n:=by rintro rfl;exact hm D
    omega)
   omega
theorem Bp (L:l.Nodup) (n:Int) (E:∀x∈l,0<=x/\x<n):l.length<=n.toNat:=by
 have D:(l.map Int.toNat).Nodup:=by
  rw [List.nodup_iff_pairwise_ne,List.pairwise_map];refine List.Pairwise.imp_of_mem ?_ (List.nodup_iff_pairwise_ne.1 L);intro a b I K J he;have:=E a I;have:=E b K;omega
 have:=nodup_nat n.toNat (l.map Int.toNat) D (fun x G=>by
  rw [EP] at G;obtain ⟨y,M,rfl⟩:=G;have:=E y M;omega)
 simpa using this
end
end Go.Proofs.YtjomnbdjajjgfaaGreatDoor
