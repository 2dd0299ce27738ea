/- RtHeap RtA RtB RtMap RtC RtPl -/
import Derived.WalkKit
import Derived.Lib.Hide
import Derived.Test.YthbjngbhbbkkgaaGreatRows
import Derived.WalkLawsBesides
import Derived.WalkSpells
import Derived.BigQuiet
import Derived.Deep.QuietTactic
import Derived.ChangeMaps4
import Derived.Maps.RangeRun
import Derived.Deep.DeepCutAuto
import Derived.Deep.AppendLies
import Derived.Deep.Onto
import Derived.Deep.RegionHeld
set_option linter.unusedVariables false
set_option linter.unusedSimpArgs false
set_option maxRecDepth 100000
set_option maxHeartbeats 16000000
namespace Go.Proofs.YthbjngbhbbkkgaaGreat
open Go.RowKit
theorem zh {p : Prop} (h : p) : Hid p := Lib.hid h
theorem za {α : Type} : (∀ (xs : List α) (i : Nat) (h : i < xs.toArray.size), xs.toArray[i] = xs[i]'(by simpa using h)) ∧ (∀ (a : α) (l : List α) (i : Nat) (h : i + 1 < (a :: l).length), (a :: l)[i+1] = l[i]'(Nat.lt_of_succ_lt_succ h)) ∧ (∀ (a : α) (l : List α) (h : 0 < (a :: l).length), (a :: l)[0] = a) ∧ (∀ (l : List α) (i : Nat) (a : α), l.toArray.setIfInBounds i a = (l.set i a).toArray) ∧ (∀ (a : α) (l : List α) (b : α), (a :: l).set 0 b = b :: l) ∧ (∀ (a : α) (l : List α) (i : Nat) (b : α), (a :: l).set (i+1) b = a :: l.set i b) :=
 ⟨fun _ _ h => List.getElem_toArray h, fun _ _ _ _ => List.getElem_cons_succ .., fun _ _ _ => List.getElem_cons_zero .., fun _ _ _ => List.setIfInBounds_toArray .., fun _ _ _ => rfl, fun _ _ _ _ => rfl⟩
theorem rtT {P : Program} {md : Region.Mode} {ops : Array Oper} {Q : Exit → Act → World → Prop} {S : World → Prop} (i : Nat) {oi : Oper} {v : Value} {fuel : Nat} {listed : Array Bool} {a : Act} {w : World} (hS : S w)
 (h : wpAnyH P md ops Q S fuel (listed.setIfInBounds i true) (a.put oi.dst v) w) (hi : ops[i]? = some oi := by rfl) (hy : ∀ w, S w → (execOp a.eval oi).run P w = .ok (.value v) w := by (intro w hSw; go_simp; try with_reducible rfl)) (hw : Region.wanted oi (yielded ops a.tmps) = true := by rfl)
 (hs : Region.noSelect ops = true := by kernel_rfl) (hf : Region.free md ops listed i = true := by kernel_rfl) (hr : (Region.ready md ops listed).contains i = true := by kernel_rfl)
 (hQ : ∀ c a w, Q (.panic c) (a.put oi.dst v) w → Q (.panic c) a w := by exact fun _ _ _ h => h) : wpAnyH P md ops Q S (fuel + 1) listed a w := wpAnyH_take hi hs hf hr hQ (.inl ⟨hw, hy⟩) hS h
theorem rtU {P : Program} {md : Region.Mode} {ops : Array Oper} {Q : Exit → Act → World → Prop} {S : World → Prop} (i : Nat) {oi : Oper} (v : Value) {fuel : Nat} {listed : Array Bool} {a : Act} {w : World} (hS : S w)
 (hy : ∀ w, S w → (execOp a.eval oi).run P w = .ok (.value v) w) (h : wpAnyH P md ops Q S fuel (listed.setIfInBounds i true) (a.put oi.dst v) w) (hi : ops[i]? = some oi := by rfl) (hw : Region.wanted oi (yielded ops a.tmps) = true := by rfl)
 (hs : Region.noSelect ops = true := by kernel_rfl) (hf : Region.free md ops listed i = true := by kernel_rfl) (hr : (Region.ready md ops listed).contains i = true := by kernel_rfl)
 (hQ : ∀ c a w, Q (.panic c) (a.put oi.dst v) w → Q (.panic c) a w := by exact fun _ _ _ h => h) : wpAnyH P md ops Q S (fuel + 1) listed a w := wpAnyH_take hi hs hf hr hQ (.inl ⟨hw, hy⟩) hS h
theorem rtN {P : Program} {md : Region.Mode} {ops : Array Oper} {Q : Exit → Act → World → Prop} {S : World → Prop} (i : Nat) {oi : Oper} {fuel : Nat} {listed : Array Bool} {a : Act} {w : World} (hS : S w)
 (h : wpAnyH P md ops Q S fuel (listed.setIfInBounds i true) (a.put oi.dst undef) w) (hi : ops[i]? = some oi := by rfl) (hw : Region.wanted oi (yielded ops a.tmps) = false := by rfl)
 (hs : Region.noSelect ops = true := by kernel_rfl) (hf : Region.free md ops listed i = true := by kernel_rfl) (hr : (Region.ready md ops listed).contains i = true := by kernel_rfl)
 (hQ : ∀ c a w, Q (.panic c) (a.put oi.dst undef) w → Q (.panic c) a w := by exact fun _ _ _ h => h) : wpAnyH P md ops Q S (fuel + 1) listed a w := wpAnyH_take hi hs hf hr hQ (.inr ⟨hw, rfl⟩) hS h
theorem rtR {P : Program} {md : Region.Mode} {ops : Array Oper} {Q : Exit → Act → World → Prop} {S : World → Prop} {fuel : Nat} {listed : Array Bool} {a : Act} {w : World} (i : Nat) {o : Oper}
 (h : ∀ K' : Act → World → Prop, Shut (∀ a w, S w → (S w → wpAnyH P md ops Q S fuel (listed.setIfInBounds i true) a w) → K' a w) → if Region.wanted o (yielded ops a.tmps) = true then Oper.wp P o a w K' Q else K' (a.put o.dst undef) w)
 (ho : ops[i]? = some o := by rfl) (hr : Region.ready md ops listed = [i] := by kernel_rfl) : wpAnyH P md ops Q S (fuel + 1) listed a w := wpAnyH_ready hr (by simp) (.cons ho h .nil)
theorem rdA {P : Program} {md : Region.Mode} {ops : Array Oper} {Q : Exit → Act → World → Prop} {S : World → Prop} (rs : List Nat) {fuel : Nat} {listed : Array Bool} {a : Act} {w : World}
 (h : AllReadyH P md ops Q S fuel listed a w rs) (hr : Region.ready md ops listed = rs := by kernel_rfl) (hne : rs ≠ [] := by simp) : wpAnyH P md ops Q S (fuel + 1) listed a w := wpAnyH_ready hr hne h
structure MZ where
 w:Int
 h:Int
 l:Int
 free:List (List Bool)
 up:List Bool
 tasks:List (List Int×List Int)
theorem zb {w:World} {k:Nat} {o:Obj} (h:w.heap[k]?=some o):k<w.heap.size:=by
 rcases Nat.lt_or_ge k w.heap.size with h1 | h1
 ·exact h1
 ·rw [Array.getElem?_eq_none h1] at h;cases h
theorem zl {w:World} {a:Addr} {v:Value} (h:w.cell? a=some v):a.block<w.heap.size:=by
 unfold World.cell? at h
 cases hh:w.heap[a.block]? with
 | none=>simp [hh] at h
 | some o=>exact zb hh
theorem zbI {w w':World} {a:Addr} (h:w'.heap[a.block]?=w.heap[a.block]?):w'.cell? a=w.cell? a:=World.cell?_of_block h
def zX (ok:Nat→Prop) (w w':World):Prop:=∀b,ok b→b<w.heap.size→w'.heap[b]?=w.heap[b]?
theorem zX.refl (ok:Nat→Prop) (w:World):zX ok w w:=fun _ _ _=>rfl
theorem zX.of_below {ok:Nat→Prop} {w w':World} (h:Below w.heap.size w w'):zX ok w w':=fun b _ hb=>h.block b hb
theorem zaR {B:Nat} {a w w':World} (h:Below B a w) (h':Below w.heap.size w w') (hB:B≤a.heap.size):Below B a w':=h.trans (h'.mono (Nat.le_trans hB h.size))
def zY (w:World) (ok:Nat→Prop) (size:Nat) (A:Option Addr) (n:Nat) (xs:List Value):Prop:=
 xs.length=n*size∧(0<n→∃b off,A=some ⟨b,off,none⟩∧ok b∧∀j u,xs[j]?=some u→w.cell? ⟨b,off+j,none⟩=some u)
def Row (w:World) (ok:Nat→Prop) (size:Nat) (v:Value) (n:Nat) (xs:List Value):Prop:=
 ∃A c,v=.slice A n c∧n≤c∧zY w ok size A n xs
section
variable {w w':World} {ok ok':Nat→Prop} {size n:Nat} {A:Option Addr} {v:Value} {xs:List Value}
theorem zY.keep (h:zY w ok size A n xs) (hk:zX ok w w'):zY w' ok size A n xs:=
 ⟨h.1,fun hn=>by
  obtain ⟨b,off,e,hb,hc⟩:=h.2 hn;refine ⟨b,off,e,hb,fun j u hu=>?_⟩;have h1:=hc j u hu;exact (zbI (hk b hb (zl h1))).trans h1⟩
theorem zY.weaken (h:zY w ok size A n xs) (hk:∀b,ok b→ok' b):zY w ok' size A n xs:=
 ⟨h.1,fun hn=>by
  obtain ⟨b,off,e,hb,hc⟩:=h.2 hn;exact ⟨b,off,e,hk b hb,hc⟩⟩
theorem zY.nil (w:World) (ok:Nat→Prop) (size:Nat) (A:Option Addr):zY w ok size A 0 []:=⟨by simp,fun h=>absurd h (by omega)⟩
theorem zY.at_ (h:zY w ok 1 A n xs) {k:Nat} (hk:k<n):∃b off u,A=some ⟨b,off,none⟩∧ok b∧xs[k]?=some u∧w.cell? ⟨b,off+k,none⟩=some u:=by
 obtain ⟨b,off,e,hb,hc⟩:=h.2 (by omega);have hl:k<xs.length:=by have:=h.1;omega
 exact ⟨b,off,xs[k],e,hb,List.getElem?_eq_getElem hl,hc k _ (List.getElem?_eq_getElem hl)⟩
theorem Row.keep (h:Row w ok size v n xs) (hk:zX ok w w'):Row w' ok size v n xs:=by
 obtain ⟨A,c,rfl,hc,hr⟩:=h;exact ⟨A,c,rfl,hc,hr.keep hk⟩
theorem Row.weaken (h:Row w ok size v n xs) (hk:∀b,ok b→ok' b):Row w ok' size v n xs:=by
 obtain ⟨A,c,rfl,hc,hr⟩:=h;exact ⟨A,c,rfl,hc,hr.weaken hk⟩
theorem Row.below (h:Row w ok size v n xs) (hb:Below w.heap.size w w'):Row w' ok size v n xs:=h.keep (zX.of_below hb)
theorem Row.of_own {base:Nat} {e:TypeId} (h:w.ownsRow base e size v n xs):Row w (fun b=>base≤b) size v n xs:=by
 obtain ⟨hl,⟨rfl,rfl⟩ | ⟨g,cap,cur,rfl,hg,hh,hnc,hcap,hcs,ht⟩⟩:=h
 ·exact ⟨none,0,rfl,Nat.le_refl _,hl,fun h=>absurd h (by omega)⟩
 ·refine ⟨some ⟨g,0,none⟩,cap,rfl,hnc,hl,fun _=>⟨g,0,rfl,hg,fun j u hu=>?_⟩⟩;unfold World.cell?;simp only [hh,Nat.zero_add];rw [←ht,List.getElem?_take] at hu
  split at hu
  ·simpa using hu
  ·cases hu
end
def zf (w:World) (ok:Nat→Prop) (v:Value) (l:List Int):Prop:=Row w ok 1 v l.length (l.map (Value.int .i64))
def zaQ (w:World) (ok:Nat→Prop) (v:Value) (l:List Bool):Prop:=Row w ok 1 v l.length (l.map Value.bool)
def Each {α:Type} (R:Value→α→Prop) (w:World) (ok:Nat→Prop) (v:Value) (l:List α):Prop:=
 ∃vs,Row w ok 1 v l.length vs∧∀(i:Nat) x,l[i]?=some x→∃u,vs[i]?=some u∧R u x
def zo (w:World) (ok:Nat→Prop) (v:Value) (l:List (List Int)):Prop:=Each (zf w ok) w ok v l
def zaG (w:World) (ok:Nat→Prop) (v:Value) (l:List (List Bool)):Prop:=Each (zaQ w ok) w ok v l
def zbh (w:World) (ok:Nat→Prop) (v:Value) (l:List (List Int×List Int)):Prop:=
 ∃vs,Row w ok 3 v l.length vs∧∀(i:Nat) x,l[i]?=some x→∃s u1 u2,vs[i*3]?=some (.string s)∧vs[i*3+1]?=some u1∧vs[i*3+2]?=some u2∧zf w ok u1 x.1∧zf w ok u2 x.2
def zr (w:World) (ok:Nat→Prop) (v:Value) (m:MZ):Prop:=
 ∃f u t,v=.agg #[.int .i64 m.w,.int .i64 m.h,.int .i64 m.l,f,u,t]∧zaG w ok f m.free∧zaQ w ok u m.up∧zbh w ok t m.tasks
section
variable {w w':World} {ok ok':Nat→Prop} {v:Value}
theorem zf.keep {l:List Int} (h:zf w ok v l) (hk:zX ok w w'):zf w' ok v l:=Row.keep h hk
theorem zf.weaken {l:List Int} (h:zf w ok v l) (hk:∀b,ok b→ok' b):zf w ok' v l:=Row.weaken h hk
theorem zf.below {l:List Int} (h:zf w ok v l) (hb:Below w.heap.size w w'):zf w' ok v l:=Row.below h hb
theorem zaQ.keep {l:List Bool} (h:zaQ w ok v l) (hk:zX ok w w'):zaQ w' ok v l:=Row.keep h hk
theorem zaQ.weaken {l:List Bool} (h:zaQ w ok v l) (hk:∀b,ok b→ok' b):zaQ w ok' v l:=Row.weaken h hk
theorem Each.keep {α:Type} {R R':Value→α→Prop} {l:List α} (h:Each R w ok v l) (hk:zX ok w w') (hR:∀u x,R u x→R' u x):Each R' w' ok v l:=by
 obtain ⟨vs,hr,he⟩:=h;refine ⟨vs,hr.keep hk,fun i x hx=>?_⟩;obtain ⟨u,hu,hr⟩:=he i x hx;exact ⟨u,hu,hR _ _ hr⟩
theorem Each.weaken {α:Type} {R R':Value→α→Prop} {l:List α} (h:Each R w ok v l) (hk:∀b,ok b→ok' b) (hR:∀u x,R u x→R' u x):Each R' w ok' v l:=by
 obtain ⟨vs,hr,he⟩:=h;refine ⟨vs,hr.weaken hk,fun i x hx=>?_⟩;obtain ⟨u,hu,hr⟩:=he i x hx;exact ⟨u,hu,hR _ _ hr⟩
theorem zo.keep {l:List (List Int)} (h:zo w ok v l) (hk:zX ok w w'):zo w' ok v l:=Each.keep h hk fun _ _ hr=>hr.keep hk
theorem zo.weaken {l:List (List Int)} (h:zo w ok v l) (hk:∀b,ok b→ok' b):zo w ok' v l:=Each.weaken h hk fun _ _ hr=>hr.weaken hk
theorem zaG.keep {l:List (List Bool)} (h:zaG w ok v l) (hk:zX ok w w'):zaG w' ok v l:=Each.keep h hk fun _ _ hr=>hr.keep hk
theorem zaG.weaken {l:List (List Bool)} (h:zaG w ok v l) (hk:∀b,ok b→ok' b):zaG w ok' v l:=Each.weaken h hk fun _ _ hr=>hr.weaken hk
theorem zbh.keep {l:List (List Int×List Int)} (h:zbh w ok v l) (hk:zX ok w w'):zbh w' ok v l:=by
 obtain ⟨vs,hr,he⟩:=h;refine ⟨vs,hr.keep hk,fun i x hx=>?_⟩;obtain ⟨s,u1,u2,h0,h1,h2,i1,i2⟩:=he i x hx;exact ⟨s,u1,u2,h0,h1,h2,i1.keep hk,i2.keep hk⟩
theorem zbh.weaken {l:List (List Int×List Int)} (h:zbh w ok v l) (hk:∀b,ok b→ok' b):zbh w ok' v l:=by
 obtain ⟨vs,hr,he⟩:=h;refine ⟨vs,hr.weaken hk,fun i x hx=>?_⟩;obtain ⟨s,u1,u2,h0,h1,h2,i1,i2⟩:=he i x hx;exact ⟨s,u1,u2,h0,h1,h2,i1.weaken hk,i2.weaken hk⟩
theorem zr.keep {m:MZ} (h:zr w ok v m) (hk:zX ok w w'):zr w' ok v m:=by
 obtain ⟨f,u,t,rfl,h1,h2,h3⟩:=h;exact ⟨f,u,t,rfl,h1.keep hk,h2.keep hk,h3.keep hk⟩
theorem zr.weaken {m:MZ} (h:zr w ok v m) (hk:∀b,ok b→ok' b):zr w ok' v m:=by
 obtain ⟨f,u,t,rfl,h1,h2,h3⟩:=h;exact ⟨f,u,t,rfl,h1.weaken hk,h2.weaken hk,h3.weaken hk⟩
theorem zr.below {m:MZ} (h:zr w ok v m) (hb:Below w.heap.size w w'):zr w' ok v m:=h.keep (zX.of_below hb)
theorem zo.below {l:List (List Int)} (h:zo w ok v l) (hb:Below w.heap.size w w'):zo w' ok v l:=h.keep (zX.of_below hb)
theorem zaQ.below {l:List Bool} (h:zaQ w ok v l) (hb:Below w.heap.size w w'):zaQ w' ok v l:=h.keep (zX.of_below hb)
theorem zaG.below {l:List (List Bool)} (h:zaG w ok v l) (hb:Below w.heap.size w w'):zaG w' ok v l:=h.keep (zX.of_below hb)
theorem zbh.below {l:List (List Int×List Int)} (h:zbh w ok v l) (hb:Below w.heap.size w w'):zbh w' ok v l:=h.keep (zX.of_below hb)
theorem zf.open {l:List Int} (h:zf w ok v l):∃A c,v=.slice A l.length c∧l.length≤c∧zY w ok 1 A l.length (l.map (Value.int .i64)):=h
theorem zf.nil (w:World) (ok:Nat→Prop):zf w ok (.slice none 0 0) []:=⟨none,0,rfl,Nat.le_refl _,zY.nil _ _ _ _⟩
theorem zt {l:List Int} {n:Nat} {A:Option Addr} (h:zY w ok 1 A n (l.map (Value.int .i64))) {k:Nat} (hk:k<n) (hl:k<l.length):
  ∃b off,A=some ⟨b,off,none⟩∧ok b∧w.cell? ⟨b,off+k,none⟩=some (.int .i64 (l[k])):=by
 obtain ⟨b,off,u,e,hb,hu,hc⟩:=h.at_ hk;refine ⟨b,off,e,hb,?_⟩;rw [List.getElem?_map,List.getElem?_eq_getElem hl] at hu;rw [hc,←hu];rfl
theorem zbn {l:List Bool} {n:Nat} {A:Option Addr} (h:zY w ok 1 A n (l.map Value.bool)) {k:Nat} (hk:k<n) (hl:k<l.length):
  ∃b off,A=some ⟨b,off,none⟩∧ok b∧w.cell? ⟨b,off+k,none⟩=some (.bool (l[k])):=by
 obtain ⟨b,off,u,e,hb,hu,hc⟩:=h.at_ hk;refine ⟨b,off,e,hb,?_⟩;rw [List.getElem?_map,List.getElem?_eq_getElem hl] at hu;rw [hc,←hu];rfl
theorem zP {α:Type} {R:Value→α→Prop} {l:List α} {vs:List Value} {n:Nat} {A:Option Addr} (h:zY w ok 1 A n vs) (he:∀(i:Nat) x,l[i]?=some x→∃u,vs[i]?=some u∧R u x) {k:Nat} (hk:k<n) (hl:k<l.length):
  ∃b off u,A=some ⟨b,off,none⟩∧ok b∧w.cell? ⟨b,off+k,none⟩=some u∧R u (l[k]):=by
 obtain ⟨b,off,u,e,hb,hu,hc⟩:=h.at_ hk;obtain ⟨u',hu',hr⟩:=he k _ (List.getElem?_eq_getElem hl);rw [hu] at hu';injection hu' with hu';subst hu';exact ⟨b,off,u,e,hb,hc,hr⟩
end
theorem zaz {k:IntKind} {a b:Int} (h:a=b):Ending.returned (.int k a)=.returned (.int k b):=by rw [h]
theorem zd {a b:Bool} (h:a=b):Ending.returned (.bool a)=.returned (.bool b):=by rw [h]
theorem zal (W H L:Int) (f u t:Value) (w:World) (h1:-1000000000≤W*H∧W*H≤1000000000) (h2:-1000000000000000≤W*H*L∧W*H*L≤1000000000000000):
  Calls Tryz.prog 43 #[.agg #[.int .i64 W,.int .i64 H,.int .i64 L,f,u,t]] w fun e w'=>e=.returned (.int .i64 (W*H*L))∧Below w.heap.size w w':=by
 obtain ⟨h1a,h1b⟩:=h1;obtain ⟨h2a,h2b⟩:=h2
 go_enter Tryz.func43,Tryz.ntmps43
 go_wp2;go_ret;exact ⟨rfl,(Below.refl _ _).alloc (Nat.le_refl _) _⟩
theorem zax (W H L:Int) (f u t:Value) (w:World) (h1:-1000000000≤W*H∧W*H≤1000000000) (h2:-1000000000000000≤W*H*L∧W*H*L≤1000000000000000):
  Calls Tryz.prog 47 #[.agg #[.int .i64 W,.int .i64 H,.int .i64 L,f,u,t]] w fun e w'=>e=.returned (.int .i64 (W*H*L))∧Below w.heap.size w w':=by
 obtain ⟨h1a,h1b⟩:=h1;obtain ⟨h2a,h2b⟩:=h2
 go_enter Tryz.func47,Tryz.ntmps47
 go_wp2;go_ret;exact ⟨rfl,(Below.refl _ _).alloc (Nat.le_refl _) _⟩
theorem mod_eq (n m:Int) (hm:0<m) (hm2:m≤1000000):(wrap64 (n.tmod m+m)).tmod m=n % m:=by
 have h1:n.tmod m<m:=Int.tmod_lt_of_pos n hm
 have h2:-m<n.tmod m:=by
  have:=Int.lt_tmod_of_pos n hm;omega
 rw [IntWalk.wrap64_in _ (by omega),Int.tmod_eq_emod_of_nonneg (by omega),Int.add_emod_right];have h3:=Int.tmod_add_mul_tdiv n m;have h4:n=n.tmod m+m*n.tdiv m:=h3.symm
 conv=>rhs;rw [h4]
 rw [Int.add_mul_emod_self_left]
theorem mod_calls (n m:Int) (w:World) (hm:0<m) (hm2:m≤1000000):
  Calls Tryz.prog 32 #[.int .i64 n,.int .i64 m] w fun e w'=>e=.returned (.int .i64 (n % m))∧w=w':=by
 have h:=mod_eq n m hm hm2;have H:=zh h;clear h
 go_enter Tryz.func32,Tryz.ntmps32
 go_wp2;go_ret;exact ⟨zaz H.out,rfl⟩
theorem zW {l:List Int} {k:Nat} (h:k<l.length) (n:Int):n∈l.take (k+1)↔n∈l.take k∨n=l[k]:=by
 rw [List.take_succ_eq_append_getElem h,List.mem_append,List.mem_singleton]
theorem zE {ok:Nat→Prop} {v:Value} {l:List Int} (n:Int) (w:World) (h:zf w ok v l) (hl:l.length≤20000000000000):
  Calls Tryz.prog 12 #[v,.int .i64 n] w fun e w'=>e=.returned (.bool (decide (n∈l)))∧w=w':=by
 obtain ⟨A,c,rfl,hc,hr⟩:=h;have HR:=zh hr;clear hr
 go_enter Tryz.func12,Tryz.ntmps12
 go_wp2
 go_loop [5] (fun i=>∃k:Nat,k≤l.length∧i=.int .i64 k∧Hid (n∉l.take k)) (fun i=>l.length - (intOf i).toNat)
 case atStart=>exact ⟨0,Nat.zero_le _,rfl,by simp [Hid]⟩
 case round=>
  obtain ⟨k,hk,rfl,hn⟩:=hrel;by_cases hlt:k<l.length
  ·obtain ⟨b,off,rfl,_,hcell⟩:=zt HR.out hlt hlt;obtain ⟨x,hx⟩:∃x,x=l[k]:=⟨_,rfl⟩;rw [←hx] at hcell;have HX:=zh hx;clear hx;by_cases hxn:x=n
   ·have hb:(x==n)=true:=by simp [hxn]
    have HXN:=zh hxn;clear hxn;go_wp2;go_ret;exact ⟨zd (by simp only [true_eq_decide_iff];rw [←HXN.out,HX.out];exact List.getElem_mem _),rfl⟩
   ·have hb:(x==n)=false:=by simp [hxn]
    have HXN:=zh hxn;clear hxn;go_wp2
    go_round
    case rel=>exact ⟨k+1,by omega,by go_num,fun hm=>by
     rcases (zW hlt n).1 hm with h | h
     ·exact hn.out h
     ·exact HXN.out (HX.out.trans h.symm)⟩
    case measure=>simp [intOf];omega
  ·obtain rfl:k=l.length:=by omega
   go_wp2;go_ret;exact ⟨zd (by have h:=hn.out;rw [List.take_length] at h;simp [h]),rfl⟩
theorem index_calls {ok:Nat→Prop} {v:Value} {l:List Int} (n:Int) (w:World) (h:zf w ok v l) (hl:l.length≤20000000000000):
  Calls Tryz.prog 79 #[v,.int .i64 n] w fun e w'=>∃r:Int,e=.returned (.int .i64 r)∧(0≤r↔n∈l)∧-1≤r∧w=w':=by
 obtain ⟨A,c,rfl,hc,hr⟩:=h;have HR:=zh hr;clear hr
 go_enter Tryz.func79,Tryz.ntmps79
 go_wp2
 go_loop [8] (fun i=>∃k:Nat,k≤l.length∧i=.int .i64 k∧Hid (n∉l.take k)) (fun i=>l.length - (intOf i).toNat)
 case atStart=>exact ⟨0,Nat.zero_le _,rfl,by simp [Hid]⟩
 case round=>
  obtain ⟨k,hk,rfl,hn⟩:=hrel;by_cases hlt:k<l.length
  ·obtain ⟨b,off,rfl,_,hcell⟩:=zt HR.out hlt hlt;obtain ⟨x,hx⟩:∃x,x=l[k]:=⟨_,rfl⟩;rw [←hx] at hcell;have HX:=zh hx;clear hx;by_cases hxn:n=x
   ·have hb:(n==x)=true:=by simp [hxn]
    have HXN:=zh hxn;clear hxn;go_wp2;go_ret;exact ⟨_,rfl,⟨fun _=>by rw [HXN.out,HX.out];exact List.getElem_mem _,fun _=>by omega⟩,by omega,rfl⟩
   ·have hb:(n==x)=false:=by simp [hxn]
    have HXN:=zh hxn;clear hxn;go_wp2
    go_round
    case rel=>exact ⟨k+1,by omega,by go_num,fun hm=>by
     rcases (zW hlt n).1 hm with h | h
     ·exact hn.out h
     ·exact HXN.out (h.trans HX.out.symm)⟩
    case measure=>simp [intOf];omega
  ·obtain rfl:k=l.length:=by omega
   go_wp2;go_ret;have h:=hn.out;rw [List.take_length] at h;exact ⟨_,rfl,⟨fun h'=>by omega,fun h'=>absurd h' h⟩,by omega,rfl⟩
theorem zv {ok:Nat→Prop} {v:Value} {l:List Int} (n:Int) (w:World) (h:zf w ok v l) (hl:l.length≤20000000000000):
  Calls Tryz.prog 42 #[v,.int .i64 n] w fun e w'=>e=.returned (.bool (decide (n∈l)))∧w=w':=by
 have hcall:=index_calls n w h hl;obtain ⟨A,c,rfl,hc,hr⟩:=h;have H:=zh hcall;clear hcall;clear hr
 go_enter Tryz.func42,Tryz.ntmps42
 go_wp2_with fail
 refine H.out.mono ?_;rintro e w' ⟨r,rfl,hr,hr1,rfl⟩;have HR:=zh hr;clear hr
 go_wp2_with fail
 go_ret;exact ⟨zd (by rw [decide_eq_decide];exact HR.out),rfl⟩
theorem zbQ {B:Nat} {a w:World} (h:Below B a w) (n:Nat):Below B a (w.drewN n):=⟨h.os,h.tape,h.output,h.size,h.block⟩
theorem zcR {α:Type} {a b:List α} {k:Nat} (ha:k<a.length) (hb:k<b.length):a.take (k+1)=b.take (k+1)↔a.take k=b.take k∧a[k]=b[k]:=by
 rw [List.take_succ_eq_append_getElem ha,List.take_succ_eq_append_getElem hb];constructor
 ·intro h;have hl:(a.take k).length=(b.take k).length:=by simp;omega
  have:=List.append_inj h hl;simpa using this
 ·rintro ⟨h1,h2⟩;rw [h1,h2]
def zG (w w':World):Prop:=∃n,w'=w.drewN n
theorem zG.refl (w:World):zG w w:=⟨0,rfl⟩
theorem zG.trans {a b c:World} (h:zG a b) (h':zG b c):zG a c:=by
 obtain ⟨n,rfl⟩:=h;obtain ⟨m,rfl⟩:=h';exact ⟨n+m,by rw [World.drewN_drewN]⟩
theorem zG.more {a b:World} (h:zG a b) (n:Nat):zG a (b.drewN n):=h.trans ⟨n,rfl⟩
theorem zG.same {a b:World} (h:zG a b) (ok:Nat→Prop):zX ok a b:=by
 obtain ⟨n,rfl⟩:=h;exact fun _ _ _=>rfl
theorem zG.below {a b:World} (h:zG a b) (B:Nat):Below B a b:=by
 obtain ⟨n,rfl⟩:=h;exact zbQ (Below.refl _ _) n
theorem zcs {ok ok':Nat→Prop} {v v':Value} {a b:List Int} (w:World) (h:zf w ok v a) (h':zf w ok' v' b) (hl:a.length≤20000000000000) (hl':b.length≤20000000000000):
  Calls Tryz.prog 13 #[v,v'] w fun e w'=>e=.returned (.bool (decide (a=b)))∧zG w w':=by
 obtain ⟨A,c,rfl,hc,hr⟩:=h;obtain ⟨A',c',rfl,hc',hr'⟩:=h';have HR:=zh hr;clear hr;have HR':=zh hr';clear hr';by_cases hlen:a.length=b.length
 ·have hlb:((a.length:Int) != (b.length:Int))=false:=by simp [hlen]
  have hle:a.length≤b.length:=by omega
  have hle':b.length≤a.length:=by omega
  have HL:=zh hlen;clear hlen
  go_enter Tryz.func13,Tryz.ntmps13
  go_wp2;go_loopw [5] (fun i wr=>∃k:Nat,k≤a.length∧i=.int .i64 k∧Hid (a.take k=b.take k)∧Hid (zG w wr)) (fun i _=>a.length - (intOf i).toNat)
  case atStart=>exact ⟨0,Nat.zero_le _,rfl,by simp [Hid],zG.refl _⟩
  case round=>
   obtain ⟨k,hk,rfl,heq,hq⟩:=hrel;by_cases hlt:k<a.length
   ·have hlt':k<b.length:=by omega
    obtain ⟨bA,off,rfl,_,hcell⟩:=zt (HR.out.keep (hq.out.same ok)) hlt hlt;obtain ⟨bB,off',rfl,_,hcell'⟩:=zt (HR'.out.keep (hq.out.same ok')) hlt' hlt';obtain ⟨x,hx⟩:∃x,x=a[k]:=⟨_,rfl⟩;obtain ⟨y,hy⟩:∃y,y=b[k]:=⟨_,rfl⟩;rw [←hx] at hcell;rw [←hy] at hcell';have HX:=zh hx;clear hx;have HY:=zh hy;clear hy;by_cases hxy:x=y
    ·have hbt:(x != y)=false:=by simp [hxy]
     have HXY:=zh hxy;clear hxy;go_wp2;go_quiet (fail)
     go_wp2;go_roundw
     case rel=>exact ⟨k+1,by omega,by go_num,(zcR hlt hlt').2 ⟨heq.out,by rw [←HX.out,←HY.out,HXY.out]⟩,hq.out.more _⟩
     case measure=>simp [intOf];omega
    ·have hbt:(x != y)=true:=by simp [hxy]
     have HXY:=zh hxy;clear hxy;go_wp2;go_quiet (fail)
     go_wp2;go_ret;refine ⟨zd ?_,hq.out.more _⟩;rw [eq_comm,decide_eq_false_iff_not];rintro rfl;exact HXY.out (HX.out.trans HY.out.symm)
   ·obtain rfl:k=a.length:=by omega
    go_wp2;go_ret;refine ⟨zd ?_,hq.out⟩;have h:=heq.out;rw [List.take_length,HL.out,List.take_length] at h;simp [h]
 ·have hlb:((a.length:Int) != (b.length:Int))=true:=by simp only [bne_iff_ne];omega
  have HL:=zh hlen;clear hlen
  go_enter Tryz.func13,Tryz.ntmps13
  go_wp2;go_ret;refine ⟨zd ?_,zG.refl _⟩;rw [eq_comm,decide_eq_false_iff_not];rintro rfl;exact HL.out rfl
theorem samePaths_calls {ok ok':Nat→Prop} {v v':Value} {a b:List (List Int)} (w:World) (h:zo w ok v a) (h':zo w ok' v' b) (hl:a.length≤20000000000000) (hl':b.length≤20000000000000)
  (ha:∀x∈a,x.length≤20000000000000) (hb:∀x∈b,x.length≤20000000000000):
  Calls Tryz.prog 69 #[v,v'] w fun e w'=>e=.returned (.bool (decide (a=b)))∧zG w w':=by
 obtain ⟨vs,⟨A,c,rfl,hc,hr⟩,he⟩:=h;obtain ⟨vs',⟨A',c',rfl,hc',hr'⟩,he'⟩:=h';have HR:=zh hr;clear hr;have HR':=zh hr';clear hr';have HE:=zh he;clear he;have HE':=zh he';clear he';have HA:=zh ha;clear ha;have HB:=zh hb;clear hb;by_cases hlen:a.length=b.length
 ·have hlb:((a.length:Int) != (b.length:Int))=false:=by simp [hlen]
  have hle:a.length≤b.length:=by omega
  have hle':b.length≤a.length:=by omega
  have HL:=zh hlen;clear hlen
  go_enter Tryz.func69,Tryz.ntmps69
  go_wp2;go_loopw [5] (fun i wr=>∃k:Nat,k≤a.length∧i=.int .i64 k∧Hid (a.take k=b.take k)∧Hid (zG w wr)) (fun i _=>a.length - (intOf i).toNat)
  case atStart=>exact ⟨0,Nat.zero_le _,rfl,by simp [Hid],zG.refl _⟩
  case round=>
   obtain ⟨k,hk,rfl,heq,hq⟩:=hrel;by_cases hlt:k<a.length
   ·have hlt':k<b.length:=by omega
    obtain ⟨bA,off,u,rfl,_,hcell,hu⟩:=zP (HR.out.keep (hq.out.same ok)) HE.out hlt hlt;obtain ⟨bB,off',u',rfl,_,hcell',hu'⟩:=zP (HR'.out.keep (hq.out.same ok')) HE'.out hlt' hlt';have hla:=HA.out _ (List.getElem_mem hlt);have hlb2:=HB.out _ (List.getElem_mem hlt');obtain ⟨x,hx⟩:∃x,x=a[k]:=⟨_,rfl⟩;obtain ⟨y,hy⟩:∃y,y=b[k]:=⟨_,rfl⟩;rw [←hx] at hu hla;rw [←hy] at hu' hlb2;have HX:=zh hx;clear hx;have HY:=zh hy;clear hy
    have hcallS:∀n,Calls Tryz.prog 13 #[u,u'] (wr.drewN n) fun e w'=>e=.returned (.bool (decide (x=y)))∧∃m,w'=(wr.drewN n).drewN m:=
     fun n=>zcs (wr.drewN n) (hu.keep ((hq.out.more n).same ok)) (hu'.keep ((hq.out.more n).same ok')) hla hlb2
    have HS:=zh hcallS;clear hcallS hu hu' hla hlb2;by_cases hxy:x=y
    ·have hbt:decide (x=y)=true:=by simp [hxy]
     rw [hbt] at HS;have HXY:=zh hxy;clear hxy hbt;go_wp2;go_quiet ((go_at_call 13;exact Calls.quiet_of (HS.out _)))
     go_wp2;go_roundw
     case rel=>exact ⟨k+1,by omega,by go_num,(zcR hlt hlt').2 ⟨heq.out,by rw [←HX.out,←HY.out,HXY.out]⟩,hq.out.more _⟩
     case measure=>simp [intOf];omega
    ·have hbt:decide (x=y)=false:=by simp [hxy]
     rw [hbt] at HS;have HXY:=zh hxy;clear hxy hbt;go_wp2;go_quiet ((go_at_call 13;exact Calls.quiet_of (HS.out _)))
     go_wp2;go_ret;refine ⟨zd ?_,hq.out.more _⟩;rw [eq_comm,decide_eq_false_iff_not];rintro rfl;exact HXY.out (HX.out.trans HY.out.symm)
   ·obtain rfl:k=a.length:=by omega
    go_wp2;go_ret;refine ⟨zd ?_,hq.out⟩;have h:=heq.out;rw [List.take_length,HL.out,List.take_length] at h;simp [h]
 ·have hlb:((a.length:Int) != (b.length:Int))=true:=by simp only [bne_iff_ne];omega
  have HL:=zh hlen;clear hlen
  go_enter Tryz.func69,Tryz.ntmps69
  go_wp2;go_ret;refine ⟨zd ?_,zG.refl _⟩;rw [eq_comm,decide_eq_false_iff_not];rintro rfl;exact HL.out rfl
end Go.Proofs.YthbjngbhbbkkgaaGreat
namespace Go.Proofs.YthbjngbhbbkkgaaGreat
open Go.RowKit
open Go.ChangeMaps (setBlock)
def zF:List Int→Nat→List MapEntry
 | [],_=>[]
 | x :: l,b=>{ key:=.int .i64 x,val:=.bool true,born:=b } :: zF l (b+1)
def mapObj (l:List Int):Obj:=.map (zF l 0).toArray l.length
def zA (w:World) (g:Nat) (l:List Int):Prop:=w.heap[g]?=some (mapObj l)
def ins (l:List Int) (x:Int):List Int:=if x∈l then l else l++[x]
theorem mem_ins {l:List Int} {x y:Int}:y∈ins l x↔y∈l∨y=x:=by
 unfold ins
 split
 ·constructor
  ·exact .inl
  ·rintro (h | rfl)
   ·exact h
   ·assumption
 ·simp
theorem zck:∀(l:List Int) (b:Nat),(zF l b).length=l.length
 | [],_=>rfl
 | _ :: l,b=>by simp [zF,zck l]
theorem zcW:∀(l l':List Int) (b:Nat),zF (l++l') b=zF l b++zF l' (b+l.length)
 | [],_,_=>by simp [zF]
 | _ :: l,l',b=>by simp [zF,zcW l l' (b+1),Nat.add_assoc,Nat.add_comm 1]
theorem zbT:∀(l:List Int) (b i:Nat),(zF l b)[i]?=(l[i]?).map fun x=>{ key:=.int .i64 x,val:=.bool true,born:=b+i }
 | [],_,_=>by simp [zF]
 | x :: l,b,0=>by simp [zF]
 | x :: l,b,i+1=>by simp [zF,zbT l (b+1) i,Nat.add_assoc,Nat.add_comm 1]
theorem zA.keep {ok:Nat→Prop} {w w':World} {g:Nat} {l:List Int} (h:zA w g l) (hk:zX ok w w') (hg:ok g):zA w' g l:=(hk g hg (zb h)).trans h
theorem zA.below {w w':World} {g:Nat} {l:List Int} (h:zA w g l) (hb:Below w.heap.size w w'):zA w' g l:=(hb.block g (zb h)).trans h
theorem zA.new (w:World):zA (w.alloc (.map #[] 0)) w.heap.size []:=heap_alloc_new _ _
open Go.Instr in
theorem zcX (x:Int):∀(l:List Int) (b s:Nat),findNow (.int .i64) (.int .i64 x) (zF l b) s=some (if x∈l then some (s+l.idxOf x,.bool true) else none)
 | [],_,_=>by simp [zF,findNow]
 | y :: l,b,s=>by
  simp only [zF,findNow,sameNow,if_true];by_cases h:x=y
  ·subst h;simp
  ·have hb:(x==y)=false:=by simpa using h
   have hb':(y==x)=false:=by simpa using fun e:y=x=>h e.symm
   simp only [hb];rw [zcX x l (b+1) (s+1)];by_cases hm:x∈l
   ·have hm':x∈y :: l:=List.mem_cons_of_mem _ hm;rw [if_pos hm,if_pos hm',List.idxOf_cons,hb'];simp only [cond_false,Bool.false_eq_true,if_false];rw [show s+1+l.idxOf x=s+(l.idxOf x+1) by omega]
   ·have hm':¬ x∈y :: l:=by simp [h,hm]
    rw [if_neg hm,if_neg hm']
theorem zbU {P:Program} {w:World} {g:Nat} {es:Array MapEntry} {n:Nat} (h:w.heap[g]?=some (.map es n)):(getObj g).run P w=.ok (.map es n) w:=by simp [getObj,Sem.run,h]
theorem zdj {P:Program} {w:World} {g:Nat} {es:Array MapEntry} {n:Nat} (o':Obj) (h:w.heap[g]?=some (.map es n)):(setObj g o').run P w=.ok () (setBlock w g o'):=by
 simp [setObj,Sem.run,h,setBlock]
open Go.Instr in
theorem zbC (b:Bool) (n:Nat) (x:Int) (w:World):(checkKey b (n+1) 3 (.int .i64 x)).run Tryz.prog w=.ok () w:=by
 simp [checkKey,run_underlying Tryz.underlying3]
theorem run_look {w:World} {g:Nat} {l:List Int} (h:zA w g l) (x:Int) (t:TypeId) (ht:Tryz.prog.underlying t=some (.map 3 4)):
  (Instr.lookup t (.map (some g)) (.int .i64 x) false).run Tryz.prog w=.ok (.bool (decide (x∈l))) w:=by
 have hz:∀w,(zeroValue 4).run Tryz.prog w=.ok (.bool false) w:=fun w=>by kernel_rfl
 unfold Instr.lookup;simp only [Sem.run_bind,run_underlying ht,Result.andThen_ok,zbU h,mapObj,Sem.run_pure];rw [show (10000:Nat)=9999+1 from rfl,zbC];simp only [Result.andThen_ok,Instr.findKey,Sem.run_bind,run_underlying Tryz.underlying3,List.toList_toArray,zcX];by_cases hm:x∈l
 ·simp [hm]
 ·simp [hm,hz]
theorem setBlk_same {w:World} {g:Nat} {o o':Obj} (h:w.heap[g]?=some o):(setBlock w g o').heap[g]?=some o':=by
 have:=zb h;simp [setBlock,this]
theorem zcb {w:World} {g k:Nat} (o:Obj) (h:k≠g):(setBlock w g o).heap[k]?=w.heap[k]?:=by
 simp [setBlock,Ne.symm h]
theorem run_add {w:World} {g:Nat} {l:List Int} (h:zA w g l) (x:Int) (t:TypeId) (ht:Tryz.prog.underlying t=some (.map 3 4)):
  ∃w',(Instr.mapUpdate t (.map (some g)) (.int .i64 x) (.bool true)).run Tryz.prog w=.ok () w'∧zA w' g (ins l x)∧w.grownBy w' (some g):=by
 refine ⟨setBlock w g (mapObj (ins l x)),?_,setBlk_same h,⟨rfl,rfl,rfl,by simp [setBlock],fun k _ hk=>zcb _ (fun e=>hk (by rw [e]))⟩⟩;unfold Instr.mapUpdate;simp only [Sem.run_bind,run_underlying ht,Result.andThen_ok,zbU h,mapObj];rw [show (10000:Nat)=9999+1 from rfl,zbC];simp only [Result.andThen_ok,Instr.findKey,Sem.run_bind,run_underlying Tryz.underlying3,List.toList_toArray,zcX];by_cases hm:x∈l
 ·simp only [hm,if_true,Sem.run_pure,Result.andThen_ok,Nat.zero_add];have hi:l.idxOf x<l.length:=List.idxOf_lt_length_of_mem hm;have hx:l[l.idxOf x]=x:=List.getElem_idxOf hi
  have hk:∀W,(Instr.keyThatStays ((((zF l 0).toArray[l.idxOf x]?).map (·.key)).getD (.int .i64 x)) (.int .i64 x)).run Tryz.prog W=.ok (.int .i64 x) W:=by
   intro W;rw [List.getElem?_toArray,zbT,List.getElem?_eq_getElem hi];simp [Instr.keyThatStays,Instr.sameBits,hx]
  rw [Sem.run_bind,hk];simp only [Result.andThen_ok]
  have hmod:(zF l 0).toArray.modify (l.idxOf x) (fun e=>{ e with key:=.int .i64 x,val:=.bool true })=(zF l 0).toArray:=by
   apply Array.ext_getElem?;intro i;rw [Array.getElem?_modify]
   split
   ·rename_i e
    subst e;rw [List.getElem?_toArray,zbT,List.getElem?_eq_getElem hi];simp [hx]
   ·rfl
  rw [hmod,zdj _ h];have:ins l x=l:=by simp [ins,hm]
  rw [this]
 ·simp only [hm,if_false,Sem.run_pure,Result.andThen_ok];rw [zdj _ h];have:ins l x=l++[x]:=by simp [ins,hm]
  rw [this,zcW];simp [zF]
theorem zbD {ops:Array Oper} {rest:List Oper} {o:Oper} {a:Act} {w:World} {Q:Exit→Act→World→Prop} (hg:o.guard=none) (m y v:Operand) (t:TypeId) (hop:o.op=Op.mapUpdate t m y v)
  (ht:Tryz.prog.underlying t=some (.map 3 4)) (g:Nat) (l:List Int) (x:Int) (hm:a.eval m=.map (some g)) (hy:a.eval y=.int .i64 x) (hv:a.eval v=.bool true) (hs:zA w g l)
  (hK:∀w',zA w' g (ins l x)→w.grownBy w' (some g)→wpList Tryz.prog ops Q rest (a.put o.dst undef) w'):wpList Tryz.prog ops Q (o :: rest) a w:=by
 refine wpList_plain hg fun K' hK'=>?_
 obtain ⟨w',hrun,h1,h2⟩:=run_add hs x t ht;unfold Oper.wp;simp [execOp,hop,hm,hy,hv,hrun,Result.andThen];exact hK' _ _ (hK w' h1 h2)
end Go.Proofs.YthbjngbhbbkkgaaGreat
namespace Go.Proofs.YthbjngbhbbkkgaaGreat
open Go.RowKit
theorem Tryz.infoInt:(Tryz.prog.info? 3).map (fun i=>(i.zero,i.size,i.bytes))=some (some (.int .i64 0),1,8):=by kernel_rfl
def ap (c:Bool) (x:Int) (l:List Int):List Int:=if c then l++[x] else l
theorem ap_len (c:Bool) (x:Int) (l:List Int):(ap c x l).length≤l.length+1:=by
 unfold ap;split <;> simp
theorem map_snoc (l:List Int) (x:Int):(l++[x]).map (Value.int .i64)=l.map (Value.int .i64)++[.int .i64 x]:=by simp
def Blk (w:World) (g:Nat) (t:TypeId) (cs:Array Value):Prop:=w.heap[g]?=some (.cells cs t (0,0))
theorem Blk.ne_ {w:World} {g g':Nat} {t t':TypeId} {cs cs':Array Value} (h:Blk w g t cs) (h':Blk w g' t' cs') (hne:t≠t'):g≠g':=by
 rintro rfl;unfold Blk at h h';rw [h] at h';injection h' with h';injection h' with _ ht;exact hne ht
theorem zj {w:World} {base:Nat} {e:TypeId} {size n:Nat} {v:Value} {xs:List Value} {g:Nat} {t:TypeId} {cs:Array Value} (h:w.ownsRow base e size v n xs) (hg:Blk w g t cs) (hne:e≠t):v.ownBlock≠some g:=by
 rcases h.2 with ⟨rfl,_⟩ | ⟨g',cap,cur,rfl,_,hh,_⟩
 ·simp [Value.ownBlock]
 ·intro he;have:g'=g:=by simpa [Value.ownBlock] using he
  subst this;exact Blk.ne_ (t:=e) hh hg hne rfl
def Acc (w0 w:World) (B gb:Nat) (l:List Int):Prop:=
 ∃v,Blk w gb 23 #[v]∧w.ownsRow B 3 1 v l.length (l.map (Value.int .i64))∧B≤gb∧Below B w0 w
theorem wpApp1 {ops:Array Oper} {rest:List Oper} {o:Oper} {a:Act} {Q:Exit→Act→World→Prop} (hgd:o.guard=none) (s y:Operand)
  (ho:o.op=.call { callee:=.builtin .append,args:=#[s,y],argTypes:=#[23,23] }) (W:World) (l:List Int) (x:Int) (B g c:Nat) (v:Value) (hs:a.eval s=v)
  (hy:a.eval y=.slice (some ⟨g,0,none⟩) 1 c) (hown:W.ownsRow B 3 1 v l.length (l.map (Value.int .i64))) (hc:W.cell? ⟨g,0,none⟩=some (.int .i64 x)) (hB:B≤W.heap.size) (hl:l.length≤1000000000000)
  (h:∀v' w',w'.ownsRow B 3 1 v' (l++[x]).length ((l++[x]).map (Value.int .i64))→W.grownBy w' v.ownBlock→wpList Tryz.prog ops Q rest (a.put o.dst v') w'):wpList Tryz.prog ops Q (o :: rest) a W:=by
 obtain ⟨i0,hi,hz0,hz1,hz2⟩:=info_parts Tryz.infoInt;refine wpList_append_own _ hgd _ _ 23 ho B 3 i0 (.int .i64 0) 1 8 Tryz.underlying23 hi hz0 hz1 hz2 rfl (by decide) _ _ _ hs hown ⟨g,0,none⟩ 1 c [.int .i64 x] hy rfl ?_ ?_ ?_ ?_ hB ?_
 ·intro j u hu
  match j,hu with
  | 0,hu=>
   have:u=.int .i64 x:=by simpa using hu.symm
   rw [this];exact hc
 ·intro u hu;have:u=.int .i64 x:=by simpa using hu
  rw [this];rfl
 ·unfold maxLen;omega
 ·omega
 ·intro v' w' h1 h2 _;refine h v' w' ?_ h2;rw [map_snoc,List.length_append];exact h1
theorem add_calls (w0 w:World) (B gb:Nat) (l:List Int) (c:Bool) (x:Int) (h:Acc w0 w B gb l) (hl:l.length≤1000) (hB:B≤w0.heap.size):
  Calls Tryz.prog 80 #[.bool c,.int .i64 x,.pointer (some ⟨gb,0,none⟩)] w fun e w'=>e=.returned (.tuple #[])∧Acc w0 w' B gb (ap c x l):=by
 have hacc:=h;obtain ⟨v,hg,hown,hBg,hb⟩:=h
 cases c with
 | false=>
  go_enter Tryz.func80,Tryz.ntmps80
  go_wp2
  go_end0
  exact ⟨rfl,hacc⟩
 | true=>
  have hcell:w.cell? ⟨gb,0,none⟩=some v:=by unfold World.cell?;simp only [show w.heap[gb]?=_ from hg];rfl
  have hne:=zj hown hg (by decide);have hlt:gb<w.heap.size:=zb hg;have hBs:B≤w.heap.size:=Nat.le_trans hB hb.size;have HG:=zh hg;clear hg;have HB:=zh hb;clear hb;clear hacc
  go_enter Tryz.func80,Tryz.ntmps80
  go_wp2_with (at_builtin;refine wpApp1 rfl _ _ rfl _ l x B w.heap.size 1 v rfl rfl (hown.alloc _) ?c1 ?c2 ?c3 ?_)
  case c1=>simp
  case c2=>simp;omega
  case c3=>omega
  intro v' w1 hown' hgrow;obtain ⟨g',cap',rfl,hgB,hg'⟩:=hown'.form (by simp);have hg1:Blk w1 gb 23 #[v]:=(hgrow.block gb (by simp;omega) (fun e=>hne e.symm)).trans ((Below.heap_alloc w _ gb hlt).trans HG.out);have hcell1:w1.cell? ⟨gb,0,none⟩=some v:=by unfold World.cell?;simp only [show w1.heap[gb]?=_ from hg1];rfl
  have hfz:w1.frozen? ⟨gb,0,none⟩=false:=by unfold World.frozen?;simp [show w1.heap[gb]?=_ from hg1]
  have HG1:=zh hg1;clear hg1;have HGR:=zh hgrow;clear hgrow;have HO:=zh hown';clear hown';clear hgB hg';go_wp2
  go_end0
  have hbw1:Below B w0 w1:=(HB.out.alloc hBs _).grown HGR.out (by simp;omega) (fun k hk=>by
   have:=(hown.lt k hk).1;omega)
  refine ⟨rfl,.slice (some ⟨g',0,none⟩) (l++[x]).length cap',?_,?_,hBg,hbw1.setCell hBg _⟩
  ·have:=HG1.out;unfold Blk at this⊢;simp [World.setCell,Array.getElem?_modify,this]
  ·have h:=ownsRow_setCell_other (a:=⟨gb,0,none⟩) HO.out (zj (t:=23) HO.out HG1.out (by decide)) (.slice (some ⟨g',0,none⟩) (l++[x]).length cap');simpa [ap] using h
def AccK (w0 w:World) (B gb k:Nat) (l:List Int):Prop:=Acc w0 w B gb l∧l.length≤k∧B≤w0.heap.size
theorem addK (w0 w:World) (B gb k:Nat) (l:List Int) (c:Bool) (x:Int) (h:AccK w0 w B gb k l) (hk:k≤1000):
  Calls Tryz.prog 80 #[.bool c,.int .i64 x,.pointer (some ⟨gb,0,none⟩)] w fun e w'=>e=.returned (.tuple #[])∧AccK w0 w' B gb (k+1) (ap c x l):=by
 obtain ⟨h,hl,hB⟩:=h;refine (add_calls w0 w B gb l c x h (by omega) hB).mono ?_;rintro e w' ⟨rfl,h'⟩;exact ⟨rfl,h',by have:=ap_len c x l;omega,hB⟩
theorem AccK.below {w0 w:World} {B gb k:Nat} {l:List Int} (h:AccK w0 w B gb k l):Below B w0 w:=by
 obtain ⟨⟨v,_,_,_,hb⟩,_,_⟩:=h;exact hb
theorem zw {w:World} {g:Nat} {t:TypeId} {a0 a1 a2 a3 a4 a5:Value} (h:Blk w g t #[a0,a1,a2,a3,a4,a5]):
  w.cell? ⟨g,0,none⟩=some a0∧w.cell? ⟨g,1,none⟩=some a1∧w.cell? ⟨g,2,none⟩=some a2∧w.cell? ⟨g,3,none⟩=some a3∧w.cell? ⟨g,4,none⟩=some a4∧w.cell? ⟨g,5,none⟩=some a5:=by
 unfold Blk at h;unfold World.cell?;simp only [h];exact ⟨rfl,rfl,rfl,rfl,rfl,rfl⟩
theorem Blk.below {w w':World} {g B:Nat} {t:TypeId} {cs:Array Value} (h:Blk w g t cs) (hb:Below B w w') (hg:g<B):Blk w' g t cs:=(hb.block g hg).trans h
theorem Blk.alloc {w:World} {g:Nat} {t:TypeId} {cs:Array Value} (h:Blk w g t cs) (o:Obj):Blk (w.alloc o) g t cs:=(Below.heap_alloc w o g (zb h)).trans h
theorem Acc.new (w1:World):AccK w1 (w1.alloc (.cells #[.slice none 0 0] 23)) w1.heap.size w1.heap.size 0 []:=
 ⟨⟨.slice none 0 0,heap_alloc_new _ _,(World.ownsRow_nil _ _ _ _),Nat.le_refl _,(Below.refl _ _).alloc (Nat.le_refl _) _⟩,Nat.le_refl _,Nat.le_refl _⟩
theorem AccK.end_ {w0 w:World} {B gb k:Nat} {l:List Int} (h:AccK w0 w B gb k l):∃v,w.cell? ⟨gb,0,none⟩=some v∧w.ownsRow B 3 1 v l.length (l.map (Value.int .i64)):=by
 obtain ⟨⟨v,hg,ho,_,_⟩,_,_⟩:=h;refine ⟨v,?_,ho⟩;unfold Blk at hg;unfold World.cell?;simp only [hg];rfl
theorem AccK.more {w0 w w':World} {B gb k:Nat} {l:List Int} (h:AccK w0 w B gb k l) (hb:Below w.heap.size w w'):AccK w0 w' B gb k l:=by
 obtain ⟨⟨v,hg,ho,hBg,hbl⟩,hl,hB⟩:=h;exact ⟨⟨v,(hb.block gb (zb hg)).trans hg,ho.kept (row:=none) ⟨hb.os,hb.tape,hb.output,hb.size,fun i hi _=>hb.block i hi⟩ (by cases h:v.ownBlock <;> simp),hBg,zaR hbl hb hB⟩,hl,hB⟩
theorem next_fin {w:World} {B:Nat} {v:Value} {l l':List Int} (h:w.ownsRow B 3 1 v l.length (l.map (Value.int .i64))) (e:l'=l):w.ownsRow B 3 1 v l'.length (l'.map (Value.int .i64)):=by
 rw [e];exact h
def zi (m:MZ) (node:Int):List Int:=
 ap (decide (node+m.w*m.h<m.w*m.h*m.l) && m.up.getD node.toNat false) (node+m.w*m.h)
  (ap (decide (node / m.w % m.h+1<m.h)) (node+m.w)
   (ap (decide (node % m.w+1<m.w)) (node+1)
    (ap (decide (0<node % m.w)) (node - 1)
     (ap (decide (0<node / m.w % m.h)) (node - m.w)
      (ap (decide (m.w*m.h≤node) && m.up.getD (node - m.w*m.h).toNat false) (node - m.w*m.h) [])))))
structure Dim (m:MZ):Prop where
 w1:1≤m.w
 w2:m.w≤300
 h1:1≤m.h
 h2:m.h≤300
 l1:1≤m.l
 l2:m.l≤300
 n1:m.w*m.h*m.l≤300
 up:(m.up.length:Int)=m.w*m.h*m.l
theorem Dim.layer {m:MZ} (d:Dim m):1≤m.w*m.h∧m.w*m.h≤m.w*m.h*m.l:=by
 have h1:1≤m.w*m.h:=by
  have:=Int.mul_le_mul d.w1 d.h1 (by omega) (by have:=d.w1;omega);omega
 refine ⟨h1,?_⟩;have:=Int.mul_le_mul_of_nonneg_left d.l1 (show 0≤m.w*m.h by omega);omega
theorem next_eq (m:MZ) (node:Int) (b1 b2:Bool) (h1:b1=(decide (m.w*m.h≤node) && m.up.getD (node - m.w*m.h).toNat false)) (h2:b2=(decide (node+m.w*m.h<m.w*m.h*m.l) && m.up.getD node.toNat false)):
  zi m node=ap b2 (node+m.w*m.h) (ap (decide (node / m.w % m.h+1<m.h)) (node+m.w) (ap (decide (node % m.w+1<m.w)) (node+1) (ap (decide (0<node % m.w)) (node - 1) (ap (decide (0<node / m.w % m.h)) (node - m.w) (ap b1 (node - m.w*m.h) []))))):=by
 rw [h1,h2];rfl
theorem up_true {p:Prop} [Decidable p] {up:List Bool} {k:Nat} (hp:p) (h:k<up.length):up[k]=(decide p && up.getD k false):=by
 simp [hp,h]
theorem up_false {p:Prop} [Decidable p] {b:Bool} (hp:¬ p):false=(decide p && b):=by simp [hp]
theorem zcq {ok:Nat→Prop} {v:Value} (m:MZ) (node:Int) (w:World) (hm:zr w ok v m) (d:Dim m) (h0:0≤node) (h1:node<m.w*m.h*m.l):
  Calls Tryz.prog 44 #[v,.int .i64 node] w fun e w'=>∃v',e=.returned v'∧Below w.heap.size w w'∧w'.ownsRow w.heap.size 3 1 v' (zi m node).length ((zi m node).map (Value.int .i64)):=by
 obtain ⟨f,u,t,rfl,_,hu,_⟩:=hm;obtain ⟨A,c,rfl,hcc,hur⟩:=hu;have hl:=d.layer;obtain ⟨hl1,hl2⟩:=hl;obtain ⟨w1,w2,hh1,hh2,ll1,ll2,n1,hup⟩:=d;obtain ⟨W,H,L,fr,up,ts⟩:=m;simp only at*;have HU:=zh hur;clear hur;have HUP:=zh hup;clear hup
 go_enter Tryz.func44,Tryz.ntmps44
 have hq0:0≤node / W:=Int.ediv_nonneg h0 (by omega);have hq1:node / W≤node:=Int.ediv_le_self _ h0
 go_wp2_with fail
 go_quiet (fail)
 have hr0:0≤node / W % H:=Int.emod_nonneg _ (by omega);have hr1:node / W % H<H:=Int.emod_lt_of_pos _ (by omega);have hr2:0≤node % W:=Int.emod_nonneg _ (by omega);have hr3:node % W<W:=Int.emod_lt_of_pos _ (by omega);generalize hw1:((w.alloc (.cells #[.int .i64 W,.int .i64 H,.int .i64 L,f,.slice A up.length c,t] 32)).drewN nq)=w1;have hb1:Below w.heap.size w w1:=by rw [←hw1];exact zbQ ((Below.refl _ _).alloc (Nat.le_refl _) _) _
 have hgm:Blk w1 w.heap.size 32 #[.int .i64 W,.int .i64 H,.int .i64 L,f,.slice A up.length c,t]:=by rw [←hw1];exact heap_alloc_new _ _
 have HU1:=zh (HU.out.keep (zX.of_below hb1):zY w1 ok 1 A up.length (up.map Value.bool));clear hw1 HU;have HM:=zh hgm;clear hgm;have HB1:=zh hb1;clear hb1;by_cases hA:W*H≤node
 ·by_cases hB:node+W*H<W*H*L
  ·have hi1:(node - W*H).toNat<up.length:=by have:=HUP.out;omega
   obtain ⟨b,off,hAe,_,hc1⟩:=zbn HU1.out hi1 hi1;have hblt:=zl hc1;have hi2:node.toNat<up.length:=by have:=HUP.out;omega
   obtain ⟨b',off',hAe',_,hc2⟩:=zbn HU1.out hi2 hi2;obtain ⟨rfl,rfl⟩:b=b'∧off=off':=by rw [hAe] at hAe';simpa using hAe'
   clear hAe';subst hAe;obtain ⟨b1,hb1⟩:∃b1,b1=up[(node - W*H).toNat]:=⟨_,rfl⟩;rw [←hb1] at hc1;have HB1v:=zh hb1;clear hb1;obtain ⟨b2,hb2⟩:∃b2,b2=up[node.toNat]:=⟨_,rfl⟩;rw [←hb2] at hc2;have HB2v:=zh hb2;clear hb2;have hglt:w.heap.size<w1.heap.size:=zb HM.out;have hm6:=fun o=>zw (HM.out.alloc o)
   obtain ⟨m0,m1,m2,m3,m4,m5⟩:(∀o,(w1.alloc o).cell? ⟨w.heap.size,0,none⟩=_)∧(∀o,(w1.alloc o).cell? ⟨w.heap.size,1,none⟩=_)∧(∀o,(w1.alloc o).cell? ⟨w.heap.size,2,none⟩=_)∧(∀o,(w1.alloc o).cell? ⟨w.heap.size,3,none⟩=_)∧(∀o,(w1.alloc o).cell? ⟨w.heap.size,4,none⟩=_)∧(∀o,(w1.alloc o).cell? ⟨w.heap.size,5,none⟩=_):=⟨fun o=>(hm6 o).1,fun o=>(hm6 o).2.1,fun o=>(hm6 o).2.2.1,fun o=>(hm6 o).2.2.2.1,fun o=>(hm6 o).2.2.2.2.1,fun o=>(hm6 o).2.2.2.2.2⟩;clear hm6;have u1:∀o,(w1.alloc o).cell? ⟨b,off+(node - W*H).toNat,none⟩=_:=fun o=>(World.cell?_alloc_lt w1 o ⟨b,off+(node - W*H).toNat,none⟩ hblt).trans hc1
   have u2:∀o,(w1.alloc o).cell? ⟨b,off+node.toNat,none⟩=_:=fun o=>(World.cell?_alloc_lt w1 o ⟨b,off+node.toNat,none⟩ hblt).trans hc2
   go_wp2_with fail
   refine (addK w1 _ w1.heap.size w1.heap.size 0 _ _ _ (Acc.new w1) (by omega)).mono ?_;rintro e k1 ⟨rfl,a1⟩;clear m0 m1 m2 m3 m4 m5 u1 u2;obtain ⟨m0,m1,m2,m3,m4,m5⟩:=zw (HM.out.below a1.below hglt);have u1:=(a1.below.cell (p:=⟨b,off+(node - W*H).toNat,none⟩) hblt).trans hc1;have u2:=(a1.below.cell (p:=⟨b,off+node.toNat,none⟩) hblt).trans hc2
   go_wp2_with fail
   refine (addK w1 _ w1.heap.size w1.heap.size 1 _ _ _ (a1) (by omega)).mono ?_;rintro e k2 ⟨rfl,a2⟩;clear m0 m1 m2 m3 m4 m5 u1 u2;obtain ⟨m0,m1,m2,m3,m4,m5⟩:=zw (HM.out.below a2.below hglt);have u1:=(a2.below.cell (p:=⟨b,off+(node - W*H).toNat,none⟩) hblt).trans hc1;have u2:=(a2.below.cell (p:=⟨b,off+node.toNat,none⟩) hblt).trans hc2
   go_wp2_with fail
   refine (addK w1 _ w1.heap.size w1.heap.size 2 _ _ _ (a2) (by omega)).mono ?_;rintro e k3 ⟨rfl,a3⟩;clear m0 m1 m2 m3 m4 m5 u1 u2;obtain ⟨m0,m1,m2,m3,m4,m5⟩:=zw (HM.out.below a3.below hglt);have u1:=(a3.below.cell (p:=⟨b,off+(node - W*H).toNat,none⟩) hblt).trans hc1;have u2:=(a3.below.cell (p:=⟨b,off+node.toNat,none⟩) hblt).trans hc2
   go_wp2_with fail
   refine (addK w1 _ w1.heap.size w1.heap.size 3 _ _ _ (a3) (by omega)).mono ?_;rintro e k4 ⟨rfl,a4⟩;clear m0 m1 m2 m3 m4 m5 u1 u2;obtain ⟨m0,m1,m2,m3,m4,m5⟩:=zw (HM.out.below a4.below hglt);have u1:=(a4.below.cell (p:=⟨b,off+(node - W*H).toNat,none⟩) hblt).trans hc1;have u2:=(a4.below.cell (p:=⟨b,off+node.toNat,none⟩) hblt).trans hc2
   go_wp2_with fail
   refine (addK w1 _ w1.heap.size w1.heap.size 4 _ _ _ (a4) (by omega)).mono ?_;rintro e k5 ⟨rfl,a5⟩;clear m0 m1 m2 m3 m4 m5 u1 u2;obtain ⟨m0,m1,m2,m3,m4,m5⟩:=zw (HM.out.below a5.below hglt);have u1:=(a5.below.cell (p:=⟨b,off+(node - W*H).toNat,none⟩) hblt).trans hc1;have u2:=(a5.below.cell (p:=⟨b,off+node.toNat,none⟩) hblt).trans hc2
   go_wp2_with fail
   refine (zal W H L _ _ _ _ (by omega) (by omega)).mono ?_;rintro e kn ⟨rfl,hbn⟩;have a5:=a5.more hbn;clear m0 m1 m2 m3 m4 m5 u1 u2;obtain ⟨m0,m1,m2,m3,m4,m5⟩:=zw (HM.out.below a5.below hglt);have u1:=(a5.below.cell (p:=⟨b,off+(node - W*H).toNat,none⟩) hblt).trans hc1;have u2:=(a5.below.cell (p:=⟨b,off+node.toNat,none⟩) hblt).trans hc2
   go_wp2_with fail
   refine (addK w1 _ w1.heap.size w1.heap.size 5 _ _ _ (a5) (by omega)).mono ?_;rintro e k6 ⟨rfl,a6⟩;clear m0 m1 m2 m3 m4 m5 u1 u2;obtain ⟨m0,m1,m2,m3,m4,m5⟩:=zw (HM.out.below a6.below hglt);have u1:=(a6.below.cell (p:=⟨b,off+(node - W*H).toNat,none⟩) hblt).trans hc1;have u2:=(a6.below.cell (p:=⟨b,off+node.toNat,none⟩) hblt).trans hc2;obtain ⟨vf,hvf,hown⟩:=a6.end_;have HO:=zh hown;clear hown
   go_wp2_with fail
   go_ret;refine ⟨vf,rfl,zaR HB1.out (Below.mono a6.below (Nat.le_refl _)) (Nat.le_refl _),?_⟩;exact next_fin (HO.out.mono HB1.out.size) (next_eq _ _ _ _ (by rw [HB1v.out];exact up_true hA hi1) (by rw [HB2v.out];exact up_true hB hi2))
  ·have hi1:(node - W*H).toNat<up.length:=by have:=HUP.out;omega
   obtain ⟨b,off,hAe,_,hc1⟩:=zbn HU1.out hi1 hi1;have hblt:=zl hc1;subst hAe;obtain ⟨b1,hb1⟩:∃b1,b1=up[(node - W*H).toNat]:=⟨_,rfl⟩;rw [←hb1] at hc1;have HB1v:=zh hb1;clear hb1;have hglt:w.heap.size<w1.heap.size:=zb HM.out;have hm6:=fun o=>zw (HM.out.alloc o)
   obtain ⟨m0,m1,m2,m3,m4,m5⟩:(∀o,(w1.alloc o).cell? ⟨w.heap.size,0,none⟩=_)∧(∀o,(w1.alloc o).cell? ⟨w.heap.size,1,none⟩=_)∧(∀o,(w1.alloc o).cell? ⟨w.heap.size,2,none⟩=_)∧(∀o,(w1.alloc o).cell? ⟨w.heap.size,3,none⟩=_)∧(∀o,(w1.alloc o).cell? ⟨w.heap.size,4,none⟩=_)∧(∀o,(w1.alloc o).cell? ⟨w.heap.size,5,none⟩=_):=⟨fun o=>(hm6 o).1,fun o=>(hm6 o).2.1,fun o=>(hm6 o).2.2.1,fun o=>(hm6 o).2.2.2.1,fun o=>(hm6 o).2.2.2.2.1,fun o=>(hm6 o).2.2.2.2.2⟩;clear hm6;have u1:∀o,(w1.alloc o).cell? ⟨b,off+(node - W*H).toNat,none⟩=_:=fun o=>(World.cell?_alloc_lt w1 o ⟨b,off+(node - W*H).toNat,none⟩ hblt).trans hc1
   go_wp2_with fail
   refine (addK w1 _ w1.heap.size w1.heap.size 0 _ _ _ (Acc.new w1) (by omega)).mono ?_;rintro e k1 ⟨rfl,a1⟩;clear m0 m1 m2 m3 m4 m5 u1;obtain ⟨m0,m1,m2,m3,m4,m5⟩:=zw (HM.out.below a1.below hglt);have u1:=(a1.below.cell (p:=⟨b,off+(node - W*H).toNat,none⟩) hblt).trans hc1
   go_wp2_with fail
   refine (addK w1 _ w1.heap.size w1.heap.size 1 _ _ _ (a1) (by omega)).mono ?_;rintro e k2 ⟨rfl,a2⟩;clear m0 m1 m2 m3 m4 m5 u1;obtain ⟨m0,m1,m2,m3,m4,m5⟩:=zw (HM.out.below a2.below hglt);have u1:=(a2.below.cell (p:=⟨b,off+(node - W*H).toNat,none⟩) hblt).trans hc1
   go_wp2_with fail
   refine (addK w1 _ w1.heap.size w1.heap.size 2 _ _ _ (a2) (by omega)).mono ?_;rintro e k3 ⟨rfl,a3⟩;clear m0 m1 m2 m3 m4 m5 u1;obtain ⟨m0,m1,m2,m3,m4,m5⟩:=zw (HM.out.below a3.below hglt);have u1:=(a3.below.cell (p:=⟨b,off+(node - W*H).toNat,none⟩) hblt).trans hc1
   go_wp2_with fail
   refine (addK w1 _ w1.heap.size w1.heap.size 3 _ _ _ (a3) (by omega)).mono ?_;rintro e k4 ⟨rfl,a4⟩;clear m0 m1 m2 m3 m4 m5 u1;obtain ⟨m0,m1,m2,m3,m4,m5⟩:=zw (HM.out.below a4.below hglt);have u1:=(a4.below.cell (p:=⟨b,off+(node - W*H).toNat,none⟩) hblt).trans hc1
   go_wp2_with fail
   refine (addK w1 _ w1.heap.size w1.heap.size 4 _ _ _ (a4) (by omega)).mono ?_;rintro e k5 ⟨rfl,a5⟩;clear m0 m1 m2 m3 m4 m5 u1;obtain ⟨m0,m1,m2,m3,m4,m5⟩:=zw (HM.out.below a5.below hglt);have u1:=(a5.below.cell (p:=⟨b,off+(node - W*H).toNat,none⟩) hblt).trans hc1
   go_wp2_with fail
   refine (zal W H L _ _ _ _ (by omega) (by omega)).mono ?_;rintro e kn ⟨rfl,hbn⟩;have a5:=a5.more hbn;clear m0 m1 m2 m3 m4 m5 u1;obtain ⟨m0,m1,m2,m3,m4,m5⟩:=zw (HM.out.below a5.below hglt);have u1:=(a5.below.cell (p:=⟨b,off+(node - W*H).toNat,none⟩) hblt).trans hc1
   go_wp2_with fail
   refine (addK w1 _ w1.heap.size w1.heap.size 5 _ _ _ (a5) (by omega)).mono ?_;rintro e k6 ⟨rfl,a6⟩;clear m0 m1 m2 m3 m4 m5 u1;obtain ⟨m0,m1,m2,m3,m4,m5⟩:=zw (HM.out.below a6.below hglt);have u1:=(a6.below.cell (p:=⟨b,off+(node - W*H).toNat,none⟩) hblt).trans hc1;obtain ⟨vf,hvf,hown⟩:=a6.end_;have HO:=zh hown;clear hown
   go_wp2_with fail
   go_ret;refine ⟨vf,rfl,zaR HB1.out (Below.mono a6.below (Nat.le_refl _)) (Nat.le_refl _),?_⟩;exact next_fin (HO.out.mono HB1.out.size) (next_eq _ _ _ _ (by rw [HB1v.out];exact up_true hA hi1) (up_false (Int.not_lt.2 hB)))
 ·by_cases hB:node+W*H<W*H*L
  ·have hi2:node.toNat<up.length:=by have:=HUP.out;omega
   obtain ⟨b,off,hAe,_,hc2⟩:=zbn HU1.out hi2 hi2;have hblt:=zl hc2;subst hAe;obtain ⟨b2,hb2⟩:∃b2,b2=up[node.toNat]:=⟨_,rfl⟩;rw [←hb2] at hc2;have HB2v:=zh hb2;clear hb2;have hglt:w.heap.size<w1.heap.size:=zb HM.out;have hm6:=fun o=>zw (HM.out.alloc o)
   obtain ⟨m0,m1,m2,m3,m4,m5⟩:(∀o,(w1.alloc o).cell? ⟨w.heap.size,0,none⟩=_)∧(∀o,(w1.alloc o).cell? ⟨w.heap.size,1,none⟩=_)∧(∀o,(w1.alloc o).cell? ⟨w.heap.size,2,none⟩=_)∧(∀o,(w1.alloc o).cell? ⟨w.heap.size,3,none⟩=_)∧(∀o,(w1.alloc o).cell? ⟨w.heap.size,4,none⟩=_)∧(∀o,(w1.alloc o).cell? ⟨w.heap.size,5,none⟩=_):=⟨fun o=>(hm6 o).1,fun o=>(hm6 o).2.1,fun o=>(hm6 o).2.2.1,fun o=>(hm6 o).2.2.2.1,fun o=>(hm6 o).2.2.2.2.1,fun o=>(hm6 o).2.2.2.2.2⟩;clear hm6;have u2:∀o,(w1.alloc o).cell? ⟨b,off+node.toNat,none⟩=_:=fun o=>(World.cell?_alloc_lt w1 o ⟨b,off+node.toNat,none⟩ hblt).trans hc2
   go_wp2_with fail
   refine (addK w1 _ w1.heap.size w1.heap.size 0 _ _ _ (Acc.new w1) (by omega)).mono ?_;rintro e k1 ⟨rfl,a1⟩;clear m0 m1 m2 m3 m4 m5 u2;obtain ⟨m0,m1,m2,m3,m4,m5⟩:=zw (HM.out.below a1.below hglt);have u2:=(a1.below.cell (p:=⟨b,off+node.toNat,none⟩) hblt).trans hc2
   go_wp2_with fail
   refine (addK w1 _ w1.heap.size w1.heap.size 1 _ _ _ (a1) (by omega)).mono ?_;rintro e k2 ⟨rfl,a2⟩;clear m0 m1 m2 m3 m4 m5 u2;obtain ⟨m0,m1,m2,m3,m4,m5⟩:=zw (HM.out.below a2.below hglt);have u2:=(a2.below.cell (p:=⟨b,off+node.toNat,none⟩) hblt).trans hc2
   go_wp2_with fail
   refine (addK w1 _ w1.heap.size w1.heap.size 2 _ _ _ (a2) (by omega)).mono ?_;rintro e k3 ⟨rfl,a3⟩;clear m0 m1 m2 m3 m4 m5 u2;obtain ⟨m0,m1,m2,m3,m4,m5⟩:=zw (HM.out.below a3.below hglt);have u2:=(a3.below.cell (p:=⟨b,off+node.toNat,none⟩) hblt).trans hc2
   go_wp2_with fail
   refine (addK w1 _ w1.heap.size w1.heap.size 3 _ _ _ (a3) (by omega)).mono ?_;rintro e k4 ⟨rfl,a4⟩;clear m0 m1 m2 m3 m4 m5 u2;obtain ⟨m0,m1,m2,m3,m4,m5⟩:=zw (HM.out.below a4.below hglt);have u2:=(a4.below.cell (p:=⟨b,off+node.toNat,none⟩) hblt).trans hc2
   go_wp2_with fail
   refine (addK w1 _ w1.heap.size w1.heap.size 4 _ _ _ (a4) (by omega)).mono ?_;rintro e k5 ⟨rfl,a5⟩;clear m0 m1 m2 m3 m4 m5 u2;obtain ⟨m0,m1,m2,m3,m4,m5⟩:=zw (HM.out.below a5.below hglt);have u2:=(a5.below.cell (p:=⟨b,off+node.toNat,none⟩) hblt).trans hc2
   go_wp2_with fail
   refine (zal W H L _ _ _ _ (by omega) (by omega)).mono ?_;rintro e kn ⟨rfl,hbn⟩;have a5:=a5.more hbn;clear m0 m1 m2 m3 m4 m5 u2;obtain ⟨m0,m1,m2,m3,m4,m5⟩:=zw (HM.out.below a5.below hglt);have u2:=(a5.below.cell (p:=⟨b,off+node.toNat,none⟩) hblt).trans hc2
   go_wp2_with fail
   refine (addK w1 _ w1.heap.size w1.heap.size 5 _ _ _ (a5) (by omega)).mono ?_;rintro e k6 ⟨rfl,a6⟩;clear m0 m1 m2 m3 m4 m5 u2;obtain ⟨m0,m1,m2,m3,m4,m5⟩:=zw (HM.out.below a6.below hglt);have u2:=(a6.below.cell (p:=⟨b,off+node.toNat,none⟩) hblt).trans hc2;obtain ⟨vf,hvf,hown⟩:=a6.end_;have HO:=zh hown;clear hown
   go_wp2_with fail
   go_ret;refine ⟨vf,rfl,zaR HB1.out (Below.mono a6.below (Nat.le_refl _)) (Nat.le_refl _),?_⟩;exact next_fin (HO.out.mono HB1.out.size) (next_eq _ _ _ _ (up_false (Int.not_le.2 hA)) (by rw [HB2v.out];exact up_true hB hi2))
  ·have hglt:w.heap.size<w1.heap.size:=zb HM.out;have hm6:=fun o=>zw (HM.out.alloc o)
   obtain ⟨m0,m1,m2,m3,m4,m5⟩:(∀o,(w1.alloc o).cell? ⟨w.heap.size,0,none⟩=_)∧(∀o,(w1.alloc o).cell? ⟨w.heap.size,1,none⟩=_)∧(∀o,(w1.alloc o).cell? ⟨w.heap.size,2,none⟩=_)∧(∀o,(w1.alloc o).cell? ⟨w.heap.size,3,none⟩=_)∧(∀o,(w1.alloc o).cell? ⟨w.heap.size,4,none⟩=_)∧(∀o,(w1.alloc o).cell? ⟨w.heap.size,5,none⟩=_):=⟨fun o=>(hm6 o).1,fun o=>(hm6 o).2.1,fun o=>(hm6 o).2.2.1,fun o=>(hm6 o).2.2.2.1,fun o=>(hm6 o).2.2.2.2.1,fun o=>(hm6 o).2.2.2.2.2⟩;clear hm6
   go_wp2_with fail
   refine (addK w1 _ w1.heap.size w1.heap.size 0 _ _ _ (Acc.new w1) (by omega)).mono ?_;rintro e k1 ⟨rfl,a1⟩;clear m0 m1 m2 m3 m4 m5;obtain ⟨m0,m1,m2,m3,m4,m5⟩:=zw (HM.out.below a1.below hglt)
   go_wp2_with fail
   refine (addK w1 _ w1.heap.size w1.heap.size 1 _ _ _ (a1) (by omega)).mono ?_;rintro e k2 ⟨rfl,a2⟩;clear m0 m1 m2 m3 m4 m5;obtain ⟨m0,m1,m2,m3,m4,m5⟩:=zw (HM.out.below a2.below hglt)
   go_wp2_with fail
   refine (addK w1 _ w1.heap.size w1.heap.size 2 _ _ _ (a2) (by omega)).mono ?_;rintro e k3 ⟨rfl,a3⟩;clear m0 m1 m2 m3 m4 m5;obtain ⟨m0,m1,m2,m3,m4,m5⟩:=zw (HM.out.below a3.below hglt)
   go_wp2_with fail
   refine (addK w1 _ w1.heap.size w1.heap.size 3 _ _ _ (a3) (by omega)).mono ?_;rintro e k4 ⟨rfl,a4⟩;clear m0 m1 m2 m3 m4 m5;obtain ⟨m0,m1,m2,m3,m4,m5⟩:=zw (HM.out.below a4.below hglt)
   go_wp2_with fail
   refine (addK w1 _ w1.heap.size w1.heap.size 4 _ _ _ (a4) (by omega)).mono ?_;rintro e k5 ⟨rfl,a5⟩;clear m0 m1 m2 m3 m4 m5;obtain ⟨m0,m1,m2,m3,m4,m5⟩:=zw (HM.out.below a5.below hglt)
   go_wp2_with fail
   refine (zal W H L _ _ _ _ (by omega) (by omega)).mono ?_;rintro e kn ⟨rfl,hbn⟩;have a5:=a5.more hbn;clear m0 m1 m2 m3 m4 m5;obtain ⟨m0,m1,m2,m3,m4,m5⟩:=zw (HM.out.below a5.below hglt)
   go_wp2_with fail
   refine (addK w1 _ w1.heap.size w1.heap.size 5 _ _ _ (a5) (by omega)).mono ?_;rintro e k6 ⟨rfl,a6⟩;clear m0 m1 m2 m3 m4 m5;obtain ⟨m0,m1,m2,m3,m4,m5⟩:=zw (HM.out.below a6.below hglt);obtain ⟨vf,hvf,hown⟩:=a6.end_;have HO:=zh hown;clear hown
   go_wp2_with fail
   go_ret;refine ⟨vf,rfl,zaR HB1.out (Below.mono a6.below (Nat.le_refl _)) (Nat.le_refl _),?_⟩;exact next_fin (HO.out.mono HB1.out.size) (next_eq _ _ _ _ (up_false (Int.not_le.2 hA)) (up_false (Int.not_lt.2 hB)))
def MZ.n (m:MZ):Int:=m.w*m.h*m.l
theorem mem_ap {c:Bool} {x y:Int} {l:List Int}:y∈ap c x l↔y∈l∨(c=true∧y=x):=by
 unfold ap
 cases c <;> simp
theorem row_step {y w k:Int} (hw:0<w) (hk:y<w*k) (hr:y % w+1<w):y+1<w*k:=by
 have h1:=Int.emod_add_mul_ediv y w
 have h2:y / w<k:=by
  apply Int.ediv_lt_of_lt_mul hw
  rwa [Int.mul_comm]
 have h3:w*(y / w+1)≤w*k:=Int.mul_le_mul_of_nonneg_left (by omega) (by omega);rw [Int.mul_add,Int.mul_one] at h3;omega
theorem layer_step {y w h l:Int} (hw:0<w) (hh:0<h) (hy:y<w*h*l) (hr:y / w % h+1<h):y+w<w*h*l:=by
 have hq:y / w<h*l:=by
  apply Int.ediv_lt_of_lt_mul hw;rw [Int.mul_comm,←Int.mul_assoc];exact hy
 have h1:=row_step hh hq hr;have h2:=Int.emod_add_mul_ediv y w;have h3:=Int.emod_lt_of_pos y hw;have h4:w*(y / w+2)≤w*(h*l):=Int.mul_le_mul_of_nonneg_left (by omega) (by omega);rw [Int.mul_add,←Int.mul_assoc] at h4;omega
theorem zab {m:MZ} (d:Dim m) {x y:Int} (h0:0≤y) (h1:y<m.n) (h:x∈zi m y):0≤x∧x<m.n:=by
 unfold MZ.n at h1⊢;obtain ⟨l1,l2⟩:=d.layer;have hw:=d.w1;have hh:=d.h1;simp only [zi,mem_ap,Bool.and_eq_true,decide_eq_true_eq,List.not_mem_nil,false_or] at h;rcases h with ((((( ⟨⟨a,_⟩,rfl⟩) | ⟨a,rfl⟩) | ⟨a,rfl⟩) | ⟨a,rfl⟩) | ⟨a,rfl⟩) | ⟨⟨a,_⟩,rfl⟩
 ·omega
 ·have h2:1≤y / m.w:=by
   have:0≤y / m.w:=Int.ediv_nonneg h0 (by omega);rcases Int.lt_or_le 0 (y / m.w) with h | h
   ·omega
   ·have:y / m.w=0:=by omega
    rw [this] at a;simp at a
  have h3:=Int.emod_add_mul_ediv y m.w;have h4:=Int.emod_nonneg y (show m.w≠0 by omega);have h5:m.w*1≤m.w*(y / m.w):=Int.mul_le_mul_of_nonneg_left h2 (by omega);omega
 ·have:y≠0:=by rintro rfl;simp at a
  omega
 ·have:=row_step (y:=y) (w:=m.w) (k:=m.h*m.l) (by omega) (by rw [←Int.mul_assoc];exact h1) a;rw [←Int.mul_assoc] at this;omega
 ·have:=layer_step (by omega) (by omega) h1 a;omega
 ·omega
def ze (m:MZ) (t:Nat) (x:Int):Bool:=(m.free.getD t []).getD x.toNat false
def RP (m:MZ) (t:Nat) (from_ used:List Int) (x:Int):Prop:=
 ∀S:Int→Prop,(∀y∈from_,0≤y→y<m.n→S y)→(∀y z,S y→z∈zi m y→ze m t z=true→z∉used→S z)→S x
theorem RP.base {m:MZ} {t:Nat} {from_ used:List Int} {x:Int} (h:x∈from_) (h0:0≤x) (h1:x<m.n):RP m t from_ used x:=fun _ hb _=>hb x h h0 h1
theorem RP.step {m:MZ} {t:Nat} {from_ used:List Int} {y x:Int} (h:RP m t from_ used y) (hx:x∈zi m y) (hf:ze m t x=true) (hu:x∉used):RP m t from_ used x:=
 fun S hb hs=>hs y x (h S hb hs) hx hf hu
theorem RP.range {m:MZ} (d:Dim m) {t:Nat} {from_ used:List Int} {x:Int} (h:RP m t from_ used x):0≤x∧x<m.n:=
 h (fun x=>0≤x∧x<m.n) (fun y _ h0 h1=>⟨h0,h1⟩) (fun y z hy hz _ _=>zab d hy.1 hy.2 hz)
theorem RP.congr {m:MZ} {t:Nat} {from_ from' used used':List Int} (hf:∀x,x∈from_↔x∈from') (hu:∀x,x∈used↔x∈used') {x:Int} (h:RP m t from_ used x):RP m t from' used' x:=
 h _ (fun y hy h0 h1=>RP.base ((hf y).1 hy) h0 h1) (fun y z hy hz hz' hu'=>hy.step hz hz' (fun h=>hu' ((hu z).2 h)))
theorem nodup_nat:∀(n:Nat) (l:List Nat),l.Nodup→(∀x∈l,x<n)→l.length≤n
 | 0,l,_,h=>by
  cases l with
  | nil=>simp
  | cons a l=>exact absurd (h a (List.mem_cons_self ..)) (by omega)
 | n+1,l,hd,h=>by
  by_cases hm:n∈l
  ·have h1:=nodup_nat n (l.erase n) (hd.erase n) (fun x hx=>by
    have h2:=(hd.mem_erase_iff).1 hx;have h3:=h x h2.2;omega)
   rw [List.length_erase_of_mem hm] at h1;omega
  ·have h1:=nodup_nat n l hd (fun x hx=>by
    have h3:=h x hx;have:x≠n:=by rintro rfl;exact hm hx
    omega)
   omega
theorem zaK {l:List Int} (hd:l.Nodup) (n:Int) (hr:∀x∈l,0≤x∧x<n):l.length≤n.toNat:=by
 have hd':(l.map Int.toNat).Nodup:=by
  rw [List.nodup_iff_pairwise_ne,List.pairwise_map];refine List.Pairwise.imp_of_mem ?_ (List.nodup_iff_pairwise_ne.1 hd);intro a b ha hb hab he;have:=hr a ha;have:=hr b hb;omega
 have:=nodup_nat n.toNat (l.map Int.toNat) hd' (fun x hx=>by
  rw [List.mem_map] at hx;obtain ⟨y,hy,rfl⟩:=hx;have:=hr y hy;omega)
 simpa using this
end Go.Proofs.YthbjngbhbbkkgaaGreat
