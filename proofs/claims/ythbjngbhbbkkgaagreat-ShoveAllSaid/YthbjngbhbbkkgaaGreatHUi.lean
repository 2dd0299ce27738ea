/- RtVa RtN RtQ RtQl RtSt RtSp -/
import Derived.Test.YthbjngbhbbkkgaaGreatHUa
import Derived.Test.YthbjngbhbbkkgaaGreatHUb
import Derived.Test.YthbjngbhbbkkgaaGreatHUc
import Derived.Test.YthbjngbhbbkkgaaGreatHUd
import Derived.Test.YthbjngbhbbkkgaaGreatHUe
import Derived.Test.YthbjngbhbbkkgaaGreatHUf
import Derived.Test.YthbjngbhbbkkgaaGreatHUg
import Derived.Test.YthbjngbhbbkkgaaGreatHUh
import Derived.Maps.AppendAt
import Derived.Deep.LoopGhost
import Derived.StillTailTactics
set_option linter.unusedVariables false
set_option linter.unusedSimpArgs false
set_option maxRecDepth 100000
set_option maxHeartbeats 16000000
namespace Go.Proofs.YthbjngbhbbkkgaaGreat
open Go.RowKit
def zp (fr:Int→Bool) (d:Int):List Int→List (Int×Int)→List (Int×Int)
 | [],F=>F
 | x :: l,F=>zp fr d l (if (F.lookup x).isNone && fr x then F++[(x,d)] else F)
def bfs (m:MZ) (fr:Int→Bool):Nat→Nat→List (Int×Int)→List (Int×Int)
 | 0,_,F=>F
 | f+1,k,F=>match F[k]? with
  | none=>F
  | some p=>bfs m fr f (k+1) (zp fr (p.2+1) (zi m p.1) F)
theorem zcw {F:List (Int×Int)} {x:Int}:F.lookup x=none↔∀p∈F,p.1≠x:=by
 induction F with
 | nil=>simp
 | cons a F ih=>
  obtain ⟨y,d⟩:=a;rw [List.lookup_cons];by_cases h:x=y
  ·subst h;simp
  ·have h':(x==y)=false:=by rw [beq_eq_false_iff_ne];exact h
   rw [h'];simp only [ih,List.mem_cons,forall_eq_or_imp];constructor
   ·intro h2;exact ⟨fun e=>h e.symm,h2⟩
   ·exact fun h2=>h2.2
theorem zag {F:List (Int×Int)} {x d:Int} (h:F.lookup x=some d):(x,d)∈F:=by
 induction F with
 | nil=>cases h
 | cons a F ih=>
  obtain ⟨y,e⟩:=a;rw [List.lookup_cons] at h;by_cases h2:x=y
  ·subst h2;simp at h;subst h;exact List.mem_cons_self ..
  ·have h':(x==y)=false:=by rw [beq_eq_false_iff_ne];exact h2
   rw [h'] at h;exact List.mem_cons_of_mem _ (ih h)
theorem zbM {F:List (Int×Int)} {x d:Int} (hn:(F.map Prod.fst).Nodup) (h:(x,d)∈F):F.lookup x=some d:=by
 cases h2:F.lookup x with
 | none=>exact absurd rfl (zcw.1 h2 _ h)
 | some e=>
  have h3:=zag h2;congr 1;rw [List.nodup_iff_pairwise_ne,List.pairwise_map] at hn;apply Decidable.byContradiction;intro hne;obtain ⟨i,hi,ei⟩:=List.getElem_of_mem h;obtain ⟨j,hj,ej⟩:=List.getElem_of_mem h3;have hp:=List.pairwise_iff_getElem.1 hn;rcases Nat.lt_trichotomy i j with h4 | h4 | h4
  ·exact hp i j hi hj h4 (by rw [ei,ej])
  ·subst h4;rw [ei] at ej;injection ej with _ e2;exact hne e2.symm
  ·exact hp j i hj hi h4 (by rw [ei,ej])
structure DFI (m:MZ) (fr:Int→Bool) (tg:List Int) (k:Nat) (F:List (Int×Int)):Prop where
 nd:(F.map Prod.fst).Nodup
 rg:∀p∈F,(0≤p.1∧p.1<m.n)∧fr p.1=true∧0≤p.2
 bk:∀p∈F,(p.2=0∧p.1∈tg)∨∃q∈F,p.1∈zi m q.1∧p.2=q.2+1
 mono:F.Pairwise (fun a b=>a.2≤b.2)
 near:∀i j:Nat,k≤i→∀p q,F[i]?=some p→F[j]?=some q→q.2≤p.2+1
 cl:∀i,i<k→∀p,F[i]?=some p→∀x∈zi m p.1,fr x=true→∃q∈F,q.1=x∧q.2≤p.2+1
 ini:∀x∈tg,fr x=true→(x,(0:Int))∈F
theorem zI (fr:Int→Bool) (d:Int):∀(l:List Int) (F:List (Int×Int)),∃G,zp fr d l F=F++G∧(∀p∈G,p.2=d∧p.1∈l∧fr p.1=true)∧((F.map Prod.fst).Nodup→((F++G).map Prod.fst).Nodup)∧∀x∈l,fr x=true→∃q∈F++G,q.1=x
 | [],F=>⟨[],by simp [zp],fun p hp=>(by cases hp),fun h=>(by simpa using h),fun x hx=>(by cases hx)⟩
 | x :: l,F=>by
  unfold zp;by_cases hc:((F.lookup x).isNone && fr x)=true
  ·rw [if_pos hc];rw [Bool.and_eq_true,Option.isNone_iff_eq_none] at hc;obtain ⟨G,h1,h2,h3,h4⟩:=zI fr d l (F++[(x,d)]);refine ⟨(x,d) :: G,by rw [h1];simp,fun p hp=>?_,fun hn=>?_,fun y hy hf=>?_⟩
   ·rcases List.mem_cons.1 hp with rfl | hp
    ·exact ⟨rfl,List.mem_cons_self ..,hc.2⟩
    ·obtain ⟨a,b,c⟩:=h2 p hp;exact ⟨a,List.mem_cons_of_mem _ b,c⟩
   ·have:(F++(x,d) :: G)=(F++[(x,d)])++G:=by simp
    rw [this];apply h3;rw [List.map_append,List.nodup_append];refine ⟨hn,by simp,fun a ha b hb e=>?_⟩;subst e;simp at hb;subst hb;obtain ⟨p,hp,e⟩:=List.mem_map.1 ha;exact zcw.1 hc.1 p hp e
   ·have e:(F++(x,d) :: G)=(F++[(x,d)])++G:=by simp
    rcases List.mem_cons.1 hy with rfl | hy
    ·exact ⟨(y,d),by simp,rfl⟩
    ·rw [e];exact h4 y hy hf
  ·rw [if_neg hc];obtain ⟨G,h1,h2,h3,h4⟩:=zI fr d l F;refine ⟨G,h1,fun p hp=>?_,h3,fun y hy hf=>?_⟩
   ·obtain ⟨a,b,c⟩:=h2 p hp;exact ⟨a,List.mem_cons_of_mem _ b,c⟩
   ·rcases List.mem_cons.1 hy with rfl | hy
    ·have h5:F.lookup y≠none:=fun e=>hc (by rw [e,hf];rfl)
     cases h6:F.lookup y with
     | none=>exact absurd h6 h5
     | some e=>exact ⟨_,List.mem_append_left _ (zag h6),rfl⟩
    ·exact h4 y hy hf
theorem DFI.start {m:MZ} {fr:Int→Bool} {tg:List Int} (hr:∀x∈tg,0≤x∧x<m.n):DFI m fr tg 0 (zp fr 0 tg []):=by
 obtain ⟨G,h1,h2,h3,h4⟩:=zI fr 0 tg [];rw [h1,List.nil_append];refine ⟨by simpa using h3 List.nodup_nil,fun p hp=>?_,fun p hp=>.inl ⟨(h2 p hp).1,(h2 p hp).2.1⟩,?_,fun i j _ p q hp hq=>?_,fun i hi=>by omega,fun x hx hf=>?_⟩
 ·obtain ⟨a,b,c⟩:=h2 p hp;exact ⟨hr _ b,c,by omega⟩
 ·rw [List.pairwise_iff_getElem];intro i j hi hj _;have:=(h2 _ (List.getElem_mem hi)).1;have:=(h2 _ (List.getElem_mem hj)).1;omega
 ·have:=(h2 p (List.mem_of_getElem? hp)).1;have:=(h2 q (List.mem_of_getElem? hq)).1;omega
 ·obtain ⟨q,hq,e⟩:=h4 x hx hf;rw [List.nil_append] at hq;have:=(h2 q hq).1;obtain ⟨a,b⟩:=q;simp only at e this;subst e this;exact hq
theorem DFI.step {m:MZ} {fr:Int→Bool} {tg:List Int} {k:Nat} {F:List (Int×Int)} (d:Dim m) (h:DFI m fr tg k F) {p:Int×Int} (hp:F[k]?=some p):DFI m fr tg (k+1) (zp fr (p.2+1) (zi m p.1) F):=by
 obtain ⟨G,h1,h2,h3,h4⟩:=zI fr (p.2+1) (zi m p.1) F;rw [h1];have hpm:=List.mem_of_getElem? hp;have hpr:=h.rg p hpm
 have hk:k<F.length:=by
  rcases Nat.lt_or_ge k F.length with hk | hk
  ·exact hk
  ·rw [List.getElem?_eq_none hk] at hp;cases hp
 have hall:∀q∈F++G,q.2≤p.2+1:=fun q hq=>by
  rcases List.mem_append.1 hq with hq | hq
  ·obtain ⟨j,hj⟩:=List.getElem?_of_mem hq;exact h.near k j (Nat.le_refl _) p q hp hj
  ·have:=(h2 q hq).1;omega
 refine ⟨h3 h.nd,fun q hq=>?_,fun q hq=>?_,?_,fun i j hi a b ha hb=>?_,fun i hi a ha x hx hf=>?_,fun x hx hf=>List.mem_append_left _ (h.ini x hx hf)⟩
 ·rcases List.mem_append.1 hq with hq | hq
  ·exact h.rg q hq
  ·obtain ⟨a,b,c⟩:=h2 q hq;exact ⟨zab d hpr.1.1 hpr.1.2 b,c,by omega⟩
 ·rcases List.mem_append.1 hq with hq | hq
  ·rcases h.bk q hq with h5 | ⟨r,hr,h5⟩
   ·exact .inl h5
   ·exact .inr ⟨r,List.mem_append_left _ hr,h5⟩
  ·obtain ⟨a,b,c⟩:=h2 q hq;exact .inr ⟨p,List.mem_append_left _ hpm,b,a⟩
 ·rw [List.pairwise_append];refine ⟨h.mono,?_,fun a ha b hb=>?_⟩
  ·rw [List.pairwise_iff_getElem];intro i j hi hj _;have:=(h2 _ (List.getElem_mem hi)).1;have:=(h2 _ (List.getElem_mem hj)).1;omega
  ·have:=hall a (List.mem_append_left _ ha);have:=(h2 b hb).1;omega
 ·-- behind k all distances are at least that of k
  have h5:p.2≤a.2:=by
   rcases Nat.lt_or_ge i F.length with h6 | h6
   ·rw [List.getElem?_append_left h6] at ha;have h7:=List.pairwise_iff_getElem.1 h.mono k i hk h6 (by omega);rw [List.getElem?_eq_getElem hk] at hp;rw [List.getElem?_eq_getElem h6] at ha;injection hp with hp;injection ha with ha;rw [hp,ha] at h7;exact h7
   ·rw [List.getElem?_append_right h6] at ha;have:=(h2 a (List.mem_of_getElem? ha)).1;omega
  have:=hall b (List.mem_of_getElem? hb);omega
 ·rcases Nat.lt_or_ge i k with h5 | h5
  ·rw [List.getElem?_append_left (by omega)] at ha;obtain ⟨q,hq,h6⟩:=h.cl i h5 a ha x hx hf;exact ⟨q,List.mem_append_left _ hq,h6⟩
  ·obtain rfl:i=k:=by omega
   rw [List.getElem?_append_left hk,hp] at ha;injection ha with ha;subst ha;obtain ⟨q,hq,h6⟩:=h4 x hx hf;exact ⟨q,hq,h6,hall q hq⟩
theorem DFI.len {m:MZ} {fr:Int→Bool} {tg:List Int} {k:Nat} {F:List (Int×Int)} (h:DFI m fr tg k F):F.length≤m.n.toNat:=by
 have h1:=zaK h.nd m.n (fun x hx=>by
  obtain ⟨p,hp,rfl⟩:=List.mem_map.1 hx;exact (h.rg p hp).1)
 rw [List.length_map] at h1;omega
theorem bfs_fi {m:MZ} {fr:Int→Bool} {tg:List Int} (d:Dim m):∀(f k:Nat) (F:List (Int×Int)),DFI m fr tg k F→k≤F.length→m.n.toNat<f+k→∃j,DFI m fr tg j (bfs m fr f k F)∧j=(bfs m fr f k F).length
 | 0,k,F,h,hk,hf=>by
  have:=h.len;omega
 | f+1,k,F,h,hk,hf=>by
  unfold bfs
  cases hp:F[k]? with
  | none=>
   have h1:F.length≤k:=List.getElem?_eq_none_iff.1 hp;exact ⟨k,h,by show k=F.length;omega⟩
  | some p=>
   have hk':k<F.length:=by
    rcases Nat.lt_or_ge k F.length with h1 | h1
    ·exact h1
    ·rw [List.getElem?_eq_none h1] at hp;cases hp
   obtain ⟨G,h1,-⟩:=zI fr (p.2+1) (zi m p.1) F;exact bfs_fi d f (k+1) _ (h.step d hp) (by rw [h1];simp;omega) (by omega)
def zaS (F:List (Int×Int)):List Int→Option Int→Option Int
 | [],b=>b
 | n :: l,b=>zaS F l (match F.lookup n with
  | none=>b
  | some d=>match b with
   | none=>some n
   | some c=>if d<(F.lookup c).getD 0∨(d=(F.lookup c).getD 0∧n<c) then some n else some c)
def zbS (m:MZ) (F:List (Int×Int)) (b:Int):Int:=((zi m b).find? fun x=>decide (F.lookup x=some ((F.lookup b).getD 0 - 1))).getD b
def zb7 (m:MZ) (F:List (Int×Int)):Nat→Int→List Int
 | 0,b=>[b]
 | f+1,b=>b :: zb7 m F f (zbS m F b)
theorem zbF {F:List (Int×Int)}:∀{l:List Int} {b:Option Int} {r:Int},(∀c,b=some c→∃d,F.lookup c=some d)→zaS F l b=some r→∃d,F.lookup r=some d∧(b=some r∨r∈l)∧(∀c e,b=some c→F.lookup c=some e→d<e∨(d=e∧r≤c))∧∀n e,n∈l→F.lookup n=some e→d<e∨(d=e∧r≤n)
 | [],b,r,hb,h=>by
  unfold zaS at h;subst h;obtain ⟨d,hd⟩:=hb r rfl;exact ⟨d,hd,.inl rfl,fun c e hc he=>by injection hc with hc;subst hc;rw [hd] at he;injection he with he;exact .inr ⟨he,Int.le_refl _⟩,fun n e hn=>(by cases hn)⟩
 | n :: l,b,r,hb,h=>by
  unfold zaS at h
  cases hl:F.lookup n with
  | none=>
   rw [hl] at h;obtain ⟨d,h1,h2,h3,h4⟩:=zbF hb h;refine ⟨d,h1,h2.imp id (List.mem_cons_of_mem _),h3,fun x e hx he=>?_⟩;rcases List.mem_cons.1 hx with rfl | hx
   ·rw [hl] at he;cases he
   ·exact h4 x e hx he
  | some dn=>
   rw [hl] at h
   cases b with
   | none=>
    simp only at h;obtain ⟨d,h1,h2,h3,h4⟩:=zbF (b:=some n) (fun c hc=>by injection hc with hc;subst hc;exact ⟨dn,hl⟩) h;refine ⟨d,h1,.inr ?_,fun c e hc=>(by cases hc),fun x e hx he=>?_⟩
    ·rcases h2 with h2 | h2
     ·injection h2 with h2;subst h2;exact List.mem_cons_self ..
     ·exact List.mem_cons_of_mem _ h2
    ·rcases List.mem_cons.1 hx with rfl | hx
     ·exact h3 x e rfl he
     ·exact h4 x e hx he
   | some c=>
    obtain ⟨dc,hc⟩:=hb c rfl;simp only [hc,Option.getD_some] at h;by_cases hlt:dn<dc∨(dn=dc∧n<c)
    ·rw [if_pos hlt] at h;obtain ⟨d,h1,h2,h3,h4⟩:=zbF (b:=some n) (fun c hc=>by injection hc with hc;subst hc;exact ⟨dn,hl⟩) h;have h5:=h3 n dn rfl hl;refine ⟨d,h1,.inr ?_,fun c' e hc' he=>?_,fun x e hx he=>?_⟩
     ·rcases h2 with h2 | h2
      ·injection h2 with h2;subst h2;exact List.mem_cons_self ..
      ·exact List.mem_cons_of_mem _ h2
     ·injection hc' with hc';subst hc';rw [hc] at he;injection he with he;subst he;omega
     ·rcases List.mem_cons.1 hx with rfl | hx
      ·exact h3 x e rfl he
      ·exact h4 x e hx he
    ·rw [if_neg hlt] at h;obtain ⟨d,h1,h2,h3,h4⟩:=zbF (b:=some c) (fun c' hc'=>by injection hc' with hc';subst hc';exact ⟨dc,hc⟩) h;have h5:=h3 c dc rfl hc;refine ⟨d,h1,h2.imp id (List.mem_cons_of_mem _),h3,fun x e hx he=>?_⟩;rcases List.mem_cons.1 hx with rfl | hx
     ·rw [hl] at he;injection he with he;subst he;omega
     ·exact h4 x e hx he
theorem downN_ok {m:MZ} {fr:Int→Bool} {tg:List Int} {k:Nat} {F:List (Int×Int)} (d:Dim m) (h:DFI m fr tg k F) {b:Int} {f:Nat} (hb:F.lookup b=some ((f:Int)+1)):F.lookup (zbS m F b)=some (f:Int)∧zbS m F b∈zi m b:=by
 have h1:=zag hb;rcases h.bk _ h1 with ⟨h2,-⟩ | ⟨q,hq,h2,h3⟩
 ·simp only at h2;omega
 ·simp only at h2 h3;have h4:=h.rg q hq;have h5:=nextL_symm d h4.1.1 h4.1.2 h2
  have h6:F.lookup q.1=some (f:Int):=by
   refine zbM h.nd ?_;have:q.2=(f:Int):=by omega
   rw [←this];exact hq
  unfold zbS;rw [hb,Option.getD_some,Int.add_sub_cancel]
  cases h7:(zi m b).find? (fun x=>decide (F.lookup x=some (f:Int))) with
  | none=>
   have:=List.find?_eq_none.1 h7 _ h5;rw [h6] at this;simp at this
  | some x=>
   have h8:=List.find?_some h7;rw [decide_eq_true_eq] at h8;exact ⟨h8,List.mem_of_find?_eq_some h7⟩
theorem down_spec {m:MZ} {fr:Int→Bool} {tg:List Int} {k:Nat} {F:List (Int×Int)} (d:Dim m) (h:DFI m fr tg k F):∀(f:Nat) (b:Int),F.lookup b=some (f:Int)→(zb7 m F f b).length=f+1∧(zb7 m F f b)[0]?=some b∧(∀(i:Nat) x,(zb7 m F f b)[i]?=some x→i≤f∧F.lookup x=some ((f:Int) - i))∧∀(i:Nat) x y,(zb7 m F f b)[i]?=some x→(zb7 m F f b)[i+1]?=some y→y∈zi m x
 | 0,b,hb=>by
  refine ⟨rfl,rfl,fun i x hx=>?_,fun i x y hx hy=>?_⟩
  ·unfold zb7 at hx
   cases i with
   | zero=>simp at hx;subst hx;exact ⟨Nat.le_refl _,by simpa using hb⟩
   | succ i=>simp at hx
  ·unfold zb7 at hy;simp at hy
 | f+1,b,hb=>by
  obtain ⟨h1,h2⟩:=downN_ok d h (by exact_mod_cast hb:F.lookup b=some ((f:Int)+1));obtain ⟨a1,a2,a3,a4⟩:=down_spec d h f _ h1;unfold zb7;refine ⟨by simp [a1],rfl,fun i x hx=>?_,fun i x y hx hy=>?_⟩
  ·cases i with
   | zero=>simp at hx;subst hx;exact ⟨Nat.zero_le _,by simpa using hb⟩
   | succ i=>
    rw [List.getElem?_cons_succ] at hx;obtain ⟨h3,h4⟩:=a3 i x hx;refine ⟨by omega,?_⟩;rw [h4];congr 1;omega
  ·rw [List.getElem?_cons_succ] at hy
   cases i with
   | zero=>
    simp at hx;subst hx;rw [a2] at hy;injection hy with hy;subst hy;exact h2
   | succ i=>
    rw [List.getElem?_cons_succ] at hx;exact a4 i x y hx hy
end Go.Proofs.YthbjngbhbbkkgaaGreat
namespace Go.Proofs.YthbjngbhbbkkgaaGreat
open Go.RowKit
attribute [local go_sem ↓] Go.wp_at_zero Go.wp_at_succ
def StC (w:World) (ok:Nat→Prop) (p:Nat) (m:MZ) (ch:List Int):Prop:=
 ∃us f u t vc vp gu,(∀x,x∈us↔x∈ch)∧zaZ w ok p m ch (zJ m ch) us f u t vc vp gu
section
variable {w w':World} {ok ok':Nat→Prop} {p:Nat} {m:MZ} {ch:List Int}
theorem StC.keep (h:StC w ok p m ch) (hk:zX ok w w'):StC w' ok p m ch:=by
 obtain ⟨us,f,u,t,vc,vp,gu,h1,h2⟩:=h;exact ⟨us,f,u,t,vc,vp,gu,h1,h2.keep hk⟩
theorem StC.weaken (h:StC w ok p m ch) (hk:∀b,ok b→ok' b):StC w ok' p m ch:=by
 obtain ⟨us,f,u,t,vc,vp,gu,h1,h2⟩:=h;exact ⟨us,f,u,t,vc,vp,gu,h1,h2.weaken hk⟩
theorem StC.bound (h:StC w ok p m ch):StC w (fun b=>ok b∧b<w.heap.size) p m ch:=by
 obtain ⟨us,f,u,t,vc,vp,gu,h1,h2⟩:=h;exact ⟨us,f,u,t,vc,vp,gu,h1,h2.bound⟩
theorem StC.ext (h:StC w ok p m ch) (hE:Ext w w'):StC w' ok p m ch:=h.keep (zX.of_below hE)
end
theorem begin_c {ok:Nat→Prop} {v:Value} {m:MZ} (w:World) (hm:zr w ok v m) (htk:m.tasks.length≤100000):
  Calls Tryz.prog 83 #[v] w fun e w'=>∃p,e=.returned (.pointer (some ⟨p,0,none⟩))∧Ext w w'∧StC w' (fun b=>ok b∨w.heap.size≤b) p m []:=by
 refine (begin_calls w hm htk).mono ?_;rintro e w' ⟨v',rfl,hE,g,f,u,t,vc,vp,gu,rfl,h⟩;exact ⟨g,rfl,hE,[],f,u,t,vc,vp,gu,fun _=>Iff.rfl,h⟩
theorem zcH {ok:Nat→Prop} {m:MZ} {ch:List Int} {p:Nat} (w:World) (h:StC w ok p m ch) (g:zx m) (hl:Lens m) (hc:zu m ch):
  Calls Tryz.prog 64 #[.pointer (some ⟨p,0,none⟩)] w fun e w'=>e=.returned (.bool (zae m ch))∧zG w w':=by
 obtain ⟨us,f,u,t,vc,vp,gu,h1,h2⟩:=h;exact zb8 w h2 (hc.sok g hl)
theorem zbX {ok:Nat→Prop} {m:MZ} {ch:List Int} {p:Nat} (w:World) (h:StC w ok p m ch) (g:zx m) (hl:Lens m) (hc:zu m ch):
  Calls Tryz.prog 84 #[.pointer (some ⟨p,0,none⟩)] w fun e w'=>∃v',e=.returned v'∧Mk w w' v' (cand m ch):=by
 obtain ⟨us,f,u,t,vc,vp,gu,h1,h2⟩:=h;unfold cand;rw [←candL_congr h1];exact candidates_calls w h2 (hc.sok g hl)
theorem open_c {ok:Nat→Prop} {m:MZ} {ch:List Int} {p:Nat} (w:World) (h:StC w ok p m ch) (g:zx m) (hl:Lens m) (hc:zu m ch):
  Calls Tryz.prog 86 #[.pointer (some ⟨p,0,none⟩)] w fun e w'=>e=.returned (.bool (zaF m ch))∧Ext w w':=by
 obtain ⟨us,f,u,t,vc,vp,gu,h1,h2⟩:=h;unfold zaF;rw [←openB_congr h1];exact open_calls w h2 (hc.sok g hl)
theorem with_c {ok:Nat→Prop} {m:MZ} {ch:List Int} {p:Nat} {n:Int} (w:World) (h:StC w ok p m ch) (g:zx m) (hl:Lens m) (hc:zu m ch) (hn:n∈cand m ch):
  Calls Tryz.prog 85 #[.pointer (some ⟨p,0,none⟩),.int .i64 n] w fun e w'=>∃q,e=.returned (.pointer (some ⟨q,0,none⟩))∧Ext w w'∧StC w' (fun b=>(ok b∧b<w.heap.size)∨w.heap.size≤b) q m (ch++[n]):=by
 obtain ⟨us,f,u,t,vc,vp,gu,h1,h2⟩:=h;have hp:=hc.psOk.pn (zbz (zbo hn));refine (with_calls n w h2.bound (hc.sok g hl) (hc.sok1 g hl hn) hp).mono ?_;rintro e w' ⟨v',rfl,hE,us',h3,q,f',u',t',vc',vp',gu',rfl,h4⟩;refine ⟨q,rfl,hE,us',f',u',t',vc',vp',gu',fun x=>?_,?_⟩
 ·rw [h3,h1,List.mem_append,List.mem_singleton];exact Or.comm
 ·rw [zcA];exact h4
def okR (X Y:Nat→Prop) (g gr:Nat) (b:Nat):Prop:=(X b∧b≠g∧b≠gr)∨Y b
def ptrV (p:Nat):Value:=.pointer (some ⟨p,0,none⟩)
def RtRow (w:World) (X Y:Nat→Prop) (g gr cap:Nat) (m:MZ) (ch:List Int) (ptrs:List Nat):Prop:=
 w.ownsRow 0 97 1 (.slice (some ⟨gr,0,none⟩) ptrs.length cap) ptrs.length (ptrs.map ptrV)∧ptrs.length=ch.length+1∧∀(k p:Nat),ptrs[k]?=some p→StC w (okR X Y g gr) p m (ch.take k)
structure zaO (w:World) (X Y:Nat→Prop) (g gr cap:Nat) (m:MZ) (s:RS) (ptrs:List Nat):Prop where
 blk:Blk w g 96 #[.slice (some ⟨gr,0,none⟩) ptrs.length cap,.bool s.done,.int .i64 s.steps]
 xg:X g
 xr:X gr
 ne:g≠gr
 yg:¬ Y g
 yr:¬ Y gr
 row:RtRow w X Y g gr cap m s.ch ptrs
structure Chg (X:Nat→Prop) (w w':World):Prop where
 os:w'.os=w.os
 tape:w'.tape=w.tape
 output:w'.output=w.output
 size:w.heap.size≤w'.heap.size
 block:∀b,b<w.heap.size→¬ X b→w'.heap[b]?=w.heap[b]?
theorem Chg.refl (X:Nat→Prop) (w:World):Chg X w w:=⟨rfl,rfl,rfl,Nat.le_refl _,fun _ _ _=>rfl⟩
theorem Chg.of_ext {X:Nat→Prop} {w w':World} (h:Ext w w'):Chg X w w':=⟨h.os,h.tape,h.output,h.size,fun b hb _=>h.block b hb⟩
theorem Chg.trans {X X':Nat→Prop} {a b c:World} (h:Chg X a b) (h':Chg X' b c) (hX:∀k,k<a.heap.size→X' k→X k):Chg X a c:=
 ⟨h'.os.trans h.os,h'.tape.trans h.tape,h'.output.trans h.output,Nat.le_trans h.size h'.size,fun k hk hx=>(h'.block k (Nat.lt_of_lt_of_le hk h.size) (fun hx'=>hx (hX k hk hx'))).trans (h.block k hk hx)⟩
theorem Chg.below {X:Nat→Prop} {w w':World} {B:Nat} (h:Chg X w w') (hB:B≤w.heap.size) (hX:∀b,X b→B≤b):Below B w w':=
 ⟨h.os,h.tape,h.output,h.size,fun b hb=>h.block b (by omega) (fun hx=>by have:=hX b hx;omega)⟩
section
variable {w w':World} {X Y X' Y':Nat→Prop} {g gr cap:Nat} {m:MZ} {s:RS} {ptrs:List Nat} {ch:List Int}
theorem row_keep {B n c:Nat} {e:TypeId} {size:Nat} {xs:List Value} (h:w.ownsRow B e size (.slice (some ⟨gr,0,none⟩) n c) n xs) (hb:w'.heap[gr]?=w.heap[gr]?):w'.ownsRow B e size (.slice (some ⟨gr,0,none⟩) n c) n xs:=by
 obtain ⟨hl,⟨h0,_⟩ | ⟨g',cap',cur,hv,h1,h2,h3⟩⟩:=h
 ·cases h0
 ·have hg:g'=gr:=by injection hv with hv;injection hv with hv;injection hv with hv;exact hv.symm
  subst hg;exact ⟨hl,.inr ⟨g',cap',cur,hv,h1,hb.trans h2,h3⟩⟩
theorem row_shrink {B n k c:Nat} {e:TypeId} {xs:List Value} (h:w.ownsRow B e 1 (.slice (some ⟨gr,0,none⟩) n c) n xs) (hk:k≤n):w.ownsRow B e 1 (.slice (some ⟨gr,0,none⟩) k c) k (xs.take k):=by
 obtain ⟨hl,⟨h0,_⟩ | ⟨g',cap',cur,hv,h1,h2,h3,h4,h5,h6⟩⟩:=h
 ·cases h0
 ·injection hv with hv hn hc;injection hv with hv;injection hv with hv;subst hv hc;refine ⟨by rw [List.length_take,hl];omega,.inr ⟨gr,c,cur,rfl,h1,h2,by omega,h4,h5,?_⟩⟩;rw [←h6,List.take_take];congr 1;omega
theorem RtRow.keep (h:RtRow w X Y g gr cap m ch ptrs) (hk:∀b,b<w.heap.size→(X b∧b≠g)∨Y b→w'.heap[b]?=w.heap[b]?) (hgr:X gr) (hne:g≠gr):RtRow w' X Y g gr cap m ch ptrs:=by
 obtain ⟨h1,h2,h3⟩:=h;have hgl:gr<w.heap.size:=(h1.lt gr rfl).2;refine ⟨row_keep h1 (hk gr hgl (.inl ⟨hgr,Ne.symm hne⟩)),h2,fun k p hp=>(h3 k p hp).keep fun b hb hlt=>hk b hlt ?_⟩;rcases hb with hb | hb
 ·exact .inl ⟨hb.1,hb.2.1⟩
 ·exact .inr hb
theorem RtRow.last (h:RtRow w X Y g gr cap m ch ptrs):∃p,ptrs[ch.length]?=some p∧StC w (okR X Y g gr) p m ch∧w.cell? ⟨gr,ch.length,none⟩=some (ptrV p):=by
 obtain ⟨h1,h2,h3⟩:=h;have hlt:ch.length<ptrs.length:=by omega
 refine ⟨ptrs[ch.length],List.getElem?_eq_getElem hlt,by have:=h3 _ _ (List.getElem?_eq_getElem hlt);rwa [List.take_length] at this,?_⟩;rw [World.ownsRow.cellAt h1 _ (by omega),List.getElem?_map,List.getElem?_eq_getElem hlt]
 all_goals rfl
theorem zaO.same (h:zaO w X Y g gr cap m s ptrs) (hk:∀b,b<w.heap.size→X b∨Y b→w'.heap[b]?=w.heap[b]?):zaO w' X Y g gr cap m s ptrs:=
 ⟨(hk g (zb h.blk) (.inl h.xg)).trans h.blk,h.xg,h.xr,h.ne,h.yg,h.yr,h.row.keep (fun b hb hx=>hk b hb (by rcases hx with hx | hx;exact .inl hx.1;exact .inr hx)) h.xr h.ne⟩
theorem zaO.ext (h:zaO w X Y g gr cap m s ptrs) (hE:Ext w w'):zaO w' X Y g gr cap m s ptrs:=h.same fun b hb _=>hE.block b hb
end
theorem last_calls {g gr P cap n p:Nat} (w:World) (hc0:w.cell? ⟨g,0,none⟩=some (.slice (some ⟨gr,0,none⟩) P cap)) (hcl:w.cell? ⟨gr,n,none⟩=some (ptrV p)) (hP:P=n+1) (hcap:P≤cap) (hn:n≤1000):
  Calls Tryz.prog 63 #[.pointer (some ⟨g,0,none⟩)] w fun e w'=>e=.returned (ptrV p)∧zG w w':=by
 have r0:=Ext.rule hc0;have r1:=Ext.rule hcl;have hq0:(0:Int)≤(n:Int):=by omega
 have hq1:(n:Int)<(P:Int):=by omega
 have hqw:IntKind.i64.wrap ((P:Int) - 1)=(n:Int):=by rw [IntKind.wrap_i64];omega
 clear hc0 hcl hP;have hx:=Ext.refl w
 go_enter Tryz.func63,Tryz.ntmps63
 go_wp2_with fail
 go_quiet (fail)
 go_wp2;go_ret;exact ⟨rfl,(zG.refl w).more _⟩
theorem last_c {w w':World} {X Y:Nat→Prop} {g gr cap p:Nat} {m:MZ} {s:RS} {ptrs:List Nat} (h:zaO w X Y g gr cap m s ptrs) (hp:ptrs[s.ch.length]?=some p) (hn:s.ch.length≤1000):
  Calls Tryz.prog 63 #[.pointer (some ⟨g,0,none⟩)] w fun e w'=>e=.returned (.pointer (some ⟨p,0,none⟩))∧zG w w':=by
 obtain ⟨p',hp',_,hc⟩:=h.row.last;rw [hp] at hp';injection hp' with hp';subst hp';exact last_calls w (h.blk.cell (k:=0) rfl) hc h.row.2.1 (zbv h.row.1) hn
end Go.Proofs.YthbjngbhbbkkgaaGreat
namespace Go.Proofs.YthbjngbhbbkkgaaGreat
open Go.RowKit
section
variable {w w' W:World} {X Y:Nat→Prop} {g gr cap:Nat} {m:MZ} {s:RS} {ptrs:List Nat} {ch:List Int}
theorem zaO.okR_ne (h:zaO w X Y g gr cap m s ptrs) {b:Nat} (hb:okR X Y g gr b):b≠g∧b≠gr:=by
 rcases hb with ⟨_,h1,h2⟩ | hy
 ·exact ⟨h1,h2⟩
 ·exact ⟨fun e=>h.yg (e ▸ hy),fun e=>h.yr (e ▸ hy)⟩
theorem zaO.setg (h:zaO w X Y g gr cap m s ptrs) (j:Nat) (v:Value) {s':RS} (hch:s'.ch=s.ch) (hb:(#[.slice (some ⟨gr,0,none⟩) ptrs.length cap,.bool s.done,.int .i64 s.steps]:Array Value).setIfInBounds j v=#[.slice (some ⟨gr,0,none⟩) ptrs.length cap,.bool s'.done,.int .i64 s'.steps]):
  zaO (w.setCell ⟨g,j,none⟩ v) X Y g gr cap m s' ptrs:=
 ⟨by have:=h.blk.set (k:=j) v;rwa [hb] at this,h.xg,h.xr,h.ne,h.yg,h.yr,by
  rw [hch]
  exact h.row.keep (fun b hb hx=>Below.heap_setCell w ⟨g,j,none⟩ v b (by
   show b≠g;rcases hx with hx | hx
   ·exact hx.2
   ·exact fun e=>h.yg (e ▸ hx))) h.xr h.ne⟩
theorem zaO.done (h:zaO w X Y g gr cap m s ptrs) (d:Bool):zaO (w.setCell ⟨g,1,none⟩ (.bool d)) X Y g gr cap m ⟨s.ch,d,s.steps⟩ ptrs:=h.setg 1 _ rfl rfl
theorem zaO.stepsTo (h:zaO w X Y g gr cap m s ptrs) (n:Int):zaO (w.setCell ⟨g,2,none⟩ (.int .i64 n)) X Y g gr cap m ⟨s.ch,s.done,n⟩ ptrs:=h.setg 2 _ rfl rfl
theorem zaO.widen {X':Nat→Prop} (h:zaO w X Y g gr cap m s ptrs) (hX:∀b,X b→X' b):zaO w X' Y g gr cap m s ptrs:=
 ⟨h.blk,hX _ h.xg,hX _ h.xr,h.ne,h.yg,h.yr,h.row.1,h.row.2.1,fun k p hp=>(h.row.2.2 k p hp).weaken fun b hb=>by
  rcases hb with hb | hb
  ·exact .inl ⟨hX _ hb.1,hb.2⟩
  ·exact .inr hb⟩
theorem chg_setg {X:Nat→Prop} (w:World) (hx:X g) (j:Nat) (v:Value):Chg X w (w.setCell ⟨g,j,none⟩ v):=
 ⟨rfl,rfl,rfl,by simp [World.setCell],fun b _ hb=>Below.heap_setCell w ⟨g,j,none⟩ v b (by rintro rfl;exact hb hx)⟩
theorem Chg.tr {X:Nat→Prop} {a b c:World} (h:Chg X a b) (h':Chg X b c):Chg X a c:=h.trans h' (fun _ _ h=>h)
theorem Chg.ext_r {X:Nat→Prop} {a b c:World} (h:Chg X a b) (h':Ext b c):Chg X a c:=h.tr (Chg.of_ext h')
theorem zaO.pop (h:zaO w X Y g gr cap m s ptrs) {k:Nat} (hk:k≤s.ch.length):zaO (w.setCell ⟨g,0,none⟩ (.slice (some ⟨gr,0,none⟩) (k+1) cap)) X Y g gr cap m ⟨s.ch.take k,s.done,s.steps⟩ (ptrs.take (k+1)):=by
 have hlen:=h.row.2.1;have hl:(ptrs.take (k+1)).length=k+1:=by rw [List.length_take];omega
 have hkeep:∀b,(X b∧b≠g)∨Y b→(w.setCell ⟨g,0,none⟩ (.slice (some ⟨gr,0,none⟩) (k+1) cap)).heap[b]?=w.heap[b]?:=fun b hx=>Below.heap_setCell w ⟨g,0,none⟩ _ b (by
  show b≠g;rcases hx with hx | hx
  ·exact hx.2
  ·exact fun e=>h.yg (e ▸ hx))
 have hr:w.ownsRow 0 97 1 (.slice (some ⟨gr,0,none⟩) (k+1) cap) (k+1) ((ptrs.take (k+1)).map ptrV):=by
  rw [List.map_take];exact row_shrink h.row.1 (by omega)
 refine ⟨?_,h.xg,h.xr,h.ne,h.yg,h.yr,?_,?_,?_⟩
 ·have:=h.blk.set (k:=0) (.slice (some ⟨gr,0,none⟩) (k+1) cap);rw [hl];exact this
 ·rw [hl];exact row_keep hr (hkeep gr (.inl ⟨h.xr,Ne.symm h.ne⟩))
 ·simp only [List.length_take];omega
 ·intro j p hp
  have hj:j<k+1:=by
   rcases Nat.lt_or_ge j (k+1) with h1 | h1
   ·exact h1
   ·rw [List.getElem?_eq_none (by omega)] at hp;cases hp
  rw [List.getElem?_take_of_lt hj] at hp;have:=h.row.2.2 j p hp;rw [List.take_take,Nat.min_eq_left (by omega)]
  exact this.keep fun b hb _=>hkeep b (by
   rcases hb with hb | hb
   ·exact .inl ⟨hb.1,hb.2.1⟩
   ·exact .inr hb)
theorem zaO.push (h:zaO w X Y g gr cap m s ptrs) {n:Int} {q:Nat} {o:Obj} {v':Value} {w5:World} (hst:StC w (okR X Y g gr) q m (s.ch++[n])) (hXn:∀b,w.heap.size≤b→X b) (hYb:∀b,Y b→b<w.heap.size)
  (hown:w5.ownsRow 0 97 1 v' (ptrs.length+1) (ptrs.map ptrV++[ptrV q])) (hg:(w.alloc o).grownBy w5 (some gr)) (hv:v'.ownBlock=some gr∨v'.ownBlock=some (w.heap.size+1)):
  ∃gr' cap',v'=.slice (some ⟨gr',0,none⟩) (ptrs.length+1) cap'∧zaO (w5.setCell ⟨g,0,none⟩ v') X Y g gr' cap' m ⟨s.ch++[n],s.done,s.steps⟩ (ptrs++[q])∧Chg X w (w5.setCell ⟨g,0,none⟩ v'):=by
 obtain ⟨gr',cap',rfl,_,hlt⟩:=World.ownsRow.form hown (by omega)
 have hg0:gr'=gr∨gr'=w.heap.size+1:=by
  rcases hv with hv | hv
  ·left;simpa [Value.ownBlock] using hv
  ·right;simpa [Value.ownBlock] using hv
 have hgl:g<w.heap.size:=zb h.blk;have hrl:gr<w.heap.size:=(h.row.1.lt gr rfl).2;have hsz:w.heap.size≤w5.heap.size:=Nat.le_trans (by simp) hg.size
 have hne':g≠gr':=by
  rcases hg0 with rfl | rfl
  ·exact h.ne
  ·omega
 have hblk:∀b,b<w.heap.size→b≠gr→w5.heap[b]?=w.heap[b]?:=fun b hb hbr=>(hg.block b (by simp;omega) (fun e=>hbr (by injection e))).trans (Below.heap_alloc _ _ _ hb)
 have hblk2:∀b,b<w.heap.size→b≠gr→b≠g→(w5.setCell ⟨g,0,none⟩ (.slice (some ⟨gr',0,none⟩) (ptrs.length+1) cap')).heap[b]?=w.heap[b]?:=fun b hb hbr hbg=>(Below.heap_setCell w5 ⟨g,0,none⟩ _ b hbg).trans (hblk b hb hbr)
 have hok:∀b,okR X Y g gr b∧b<w.heap.size→okR X Y g gr' b:=by
  rintro b ⟨hb,hbl⟩;rcases hb with ⟨h1,h2,h3⟩ | hy
  ·exact .inl ⟨h1,h2,by rcases hg0 with rfl | rfl;exact h3;omega⟩
  ·exact .inr hy
 have hkst:∀(p:Nat) (c:List Int),StC w (okR X Y g gr) p m c→StC (w5.setCell ⟨g,0,none⟩ (.slice (some ⟨gr',0,none⟩) (ptrs.length+1) cap')) (okR X Y g gr') p m c:=fun p c hs=>
  (hs.bound.keep fun b hb _=>hblk2 b hb.2 (h.okR_ne hb.1).2 (h.okR_ne hb.1).1).weaken hok
 have hlen:=h.row.2.1;refine ⟨gr',cap',rfl,⟨?_,h.xg,?_,hne',h.yg,?_,?_,?_,?_⟩,?_⟩
 ·have hb5:Blk w5 g 96 #[.slice (some ⟨gr,0,none⟩) ptrs.length cap,.bool s.done,.int .i64 s.steps]:=(hblk g hgl h.ne).trans h.blk;have:=hb5.set (k:=0) (.slice (some ⟨gr',0,none⟩) (ptrs.length+1) cap');rw [List.length_append,List.length_singleton];exact this
 ·rcases hg0 with rfl | rfl
  ·exact h.xr
  ·exact hXn _ (by omega)
 ·rcases hg0 with rfl | rfl
  ·exact h.yr
  ·intro hy;have:=hYb _ hy;omega
 ·rw [List.length_append,List.length_singleton,List.map_append];exact row_keep hown (Below.heap_setCell w5 ⟨g,0,none⟩ _ gr' (Ne.symm hne'))
 ·simp [hlen]
 ·intro k p hp;rcases Nat.lt_or_ge k ptrs.length with hk | hk
  ·rw [List.getElem?_append_left hk] at hp;rw [List.take_append_of_le_length (by omega)];exact hkst _ _ (h.row.2.2 k p hp)
  ·have hk2:k=ptrs.length:=by
    rcases Nat.lt_or_ge k (ptrs++[q]).length with h1 | h1
    ·simp at h1;omega
    ·rw [List.getElem?_eq_none h1] at hp;cases hp
   subst hk2;rw [List.getElem?_append_right (Nat.le_refl _)] at hp;have hq:q=p:=by simpa using hp
   subst hq;rw [List.take_of_length_le (by simp;omega)];exact hkst _ _ hst
 ·exact ⟨hg.os,hg.tape,hg.output,by simpa [World.setCell] using hsz,fun b hb hx=>hblk2 b hb (fun e=>hx (e ▸ h.xr)) (fun e=>hx (e ▸ h.xg))⟩
end
noncomputable def srch (m:MZ) (ch:List Int) (k:Nat) (b:Int):Option (List Int):=
 match aft m (ch.take k) b with
 | some n=>some (ch.take k++[n])
 | none=>backN m ch k
theorem srch_top (m:MZ) (ch:List Int):srch m ch ch.length (-1)=stepC m ch:=by
 unfold srch stepC;rw [List.take_length]
 all_goals (cases aft m ch (-1) <;> rfl)
theorem srch_back {m:MZ} {ch:List Int} {k:Nat} {b:Int} (h:aft m (ch.take (k+1)) b=none):srch m ch (k+1) b=srch m ch k (ch.getD k 0):=by
 unfold srch;rw [h]
 all_goals rfl
theorem srch_zero {m:MZ} {ch:List Int} {b:Int} (h:aft m (ch.take 0) b=none):srch m ch 0 b=none:=by
 unfold srch;rw [h]
 all_goals rfl
theorem aft_none {m:MZ} {ch:List Int} {b:Int} {l:List Int} (hl:l=cand m ch) (h:∀n∈l,¬ (b<n∧zaF m (ch++[n])=true)):aft m ch b=none:=by
 unfold aft;rw [List.find?_eq_none];intro n hn;have:=h n (by rw [hl];exact hn);simp only [Bool.and_eq_true,decide_eq_true_eq];exact this
theorem aft_at {m:MZ} {ch:List Int} {b:Int} {i:Nat} (hi:i<(cand m ch).length) (h:∀n∈(cand m ch).take i,¬ (b<n∧zaF m (ch++[n])=true)) (h1:b<(cand m ch)[i]) (h2:zaF m (ch++[(cand m ch)[i]])=true):aft m ch b=some (cand m ch)[i]:=by
 unfold aft;generalize cand m ch=l at*;obtain ⟨x,hx⟩:∃x,x=l[i]:=⟨_,rfl⟩;rw [←hx] at h1 h2⊢
 have hs:l=l.take i++x :: l.drop (i+1):=by
  rw [hx,List.getElem_cons_drop hi,List.take_append_drop]
 rw [hs,List.find?_append,List.find?_eq_none.2 (fun n hn=>by
  have:=h n hn;simp only [Bool.and_eq_true,decide_eq_true_eq];exact this)]
 simp [h1,h2]
end Go.Proofs.YthbjngbhbbkkgaaGreat
namespace Go.Proofs.YthbjngbhbbkkgaaGreat
open Go.RowKit
attribute [local go_sem ↓] Go.wp_at_zero Go.wp_at_succ
theorem Tryz.infoPst:(Tryz.prog.info? 97).map (fun i=>(i.zero,i.size,i.bytes))=some (some (.pointer none),1,8):=by kernel_rfl
structure SR (w wr:World) (X Y:Nat→Prop) (g gr cap:Nat) (m:MZ) (s:RS) (pt:List Nat) (k:Nat) (b:Int):Prop where
 rt:zaO wr X Y g gr cap m ⟨s.ch.take k,s.done,s.steps+1⟩ pt
 chg:Chg X w wr
 se:srch m s.ch k b=stepC m s.ch
def StepPost (w:World) (X Y:Nat→Prop) (g:Nat) (m:MZ) (s:RS) (e:Ending) (w':World):Prop:=
 e=.returned (.tuple #[])∧∃gr' cap' ptrs',zaO w' X Y g gr' cap' m (s.one m) ptrs'∧Chg X w w'
theorem no_step {m:MZ} {ch l:List Int} {b:Int} {i:Nat} (h:∀n∈l.take i,¬ (b<n∧zaF m (ch++[n])=true)) (hi:i<l.length) (h1:¬ (b<l[i]∧zaF m (ch++[l[i]])=true)):∀n∈l.take (i+1),¬ (b<n∧zaF m (ch++[n])=true):=by
 intro n hn;rcases (zW hi n).1 hn with h2 | rfl
 ·exact h n h2
 ·exact h1
theorem aft_of {m:MZ} {ch l:List Int} {b n:Int} {i:Nat} (hl:l=cand m ch) (hi:i<l.length) (hn:n=l[i]) (h:∀n∈l.take i,¬ (b<n∧zaF m (ch++[n])=true)) (h1:b<n) (h2:zaF m (ch++[n])=true):aft m ch b=some n:=by
 subst hl hn;exact aft_at hi h h1 h2
theorem push_ok {w w3 w4:World} {X Y:Nat→Prop} {g gr cap q:Nat} {m:MZ} {s:RS} {pt:List Nat} {c:List Int} (hq:StC w4 (fun b=>(okR X Y g gr b∧b<w3.heap.size)∨w3.heap.size≤b) q m c) (hx:Ext w w3) (hr:zaO w X Y g gr cap m s pt) (hXn:∀b,w.heap.size≤b→X b):StC w4 (okR X Y g gr) q m c:=
 hq.weaken fun b hb=>by
  rcases hb with hb | hb
  ·exact hb.1
  ·have h1:g<w.heap.size:=zb hr.blk;have h2:gr<w.heap.size:=(hr.row.1.lt gr rfl).2;have h3:=hx.size;exact .inl ⟨hXn b (by omega),by omega,by omega⟩
theorem stepX_calls {X Y:Nat→Prop} {g gr cap:Nat} {m:MZ} {s:RS} {ptrs:List Nat} (w:World) (h:zaO w X Y g gr cap m s ptrs) (gd:zx m) (hl:Lens m) (hc:zu m s.ch) (hs0:0≤s.steps) (hs1:s.steps≤4000000000000000000)
  (hXn:∀b,w.heap.size≤b→X b) (hYb:∀b,Y b→b<w.heap.size):
  Calls Tryz.prog 62 #[.pointer (some ⟨g,0,none⟩)] w (StepPost w X Y g m s):=by
 obtain ⟨ch,dn,st⟩:=s;dsimp only at hs0 hs1 hc;have H:=zh h;have hc2:w.cell? ⟨g,2,none⟩=some (.int .i64 st):=h.blk.cell (k:=2) rfl;have hf:=fun k=>h.blk.frozen k
 have GD:=zh gd;have HL:=zh hl;have HC:=zh hc;have HXN:=zh hXn;have HYB:=zh hYb;have hlen:=hc.len300 gd;clear h gd hl hc hXn hYb
 have HS0:Hid (SR w (w.setCell ⟨g,2,none⟩ (.int .i64 (st+1))) X Y g gr cap m ⟨ch,dn,st⟩ ptrs ch.length (-1)):=by
  refine ⟨?_,chg_setg w H.out.xg 2 _,srch_top m ch⟩;have h1:=H.out.stepsTo (st+1);dsimp only at h1⊢;rw [List.take_length];exact h1
 obtain ⟨i0,hi,hz0,hz1,hz2⟩:=info_parts Tryz.infoPst;have IF:=zh hi;have IZ0:=zh hz0;have IZ1:=zh hz1;have IZ2:=zh hz2;clear hi hz0 hz1 hz2
 go_enter Tryz.func62,Tryz.ntmps62
 go_wp2_with fail
 go_step3
 go_wp2_with fail
 go_step3
 go_wp2_with fail
 clear hc2 hf
 go_loopg [2] ch.length (fun gk v wr=>∃b pt,v=.int .i64 b∧gk≤ch.length∧Hid (SR w wr X Y g gr cap m ⟨ch,dn,st⟩ pt gk b))
 case atStart=>exact ⟨-1,ptrs,rfl,Nat.le_refl _,HS0⟩
 clear HS0
 case round=>
  obtain ⟨b,pt,rfl,hk,hS⟩:=hrel;obtain ⟨wo,rfl⟩:∃wo:World,wo=wr:=⟨_,rfl⟩;have hrt:=hS.out.rt;obtain ⟨p,hp,hst,hcp⟩:=hrt.row.last;have hkl:(ch.take gk).length=gk:=by rw [List.length_take];omega
  have HLAST:=zh (last_c (w':=wo) hrt hp (by dsimp only;rw [hkl];omega));have HST:=zh hst;dsimp only at HST;clear hrt hp hst hcp
  go_wp2_with fail
  refine HLAST.out.mono ?_;rintro e w1 ⟨rfl,hd1⟩;have hx1:Ext wo w1:=hd1.below _;clear hd1
  go_wp2_with fail
  refine (zbX _ (HST.out.ext hx1) GD.out HL.out (HC.out.take gk)).mono ?_;rintro e w2 ⟨v2,rfl,hM2⟩;obtain ⟨A2,c2,rfl,hc2⟩:=hM2.slice;have hx2:Ext wo w2:=hx1.trans hM2.ext;have hlc:(cand m (ch.take gk)).length≤400000000000:=zbR HL.out _;have HM2:=zh hM2;clear hM2 hx1;obtain ⟨l,hll⟩:∃l,l=cand m (ch.take gk):=⟨_,rfl⟩;rw [←hll] at HM2 hc2 hlc⊢;have HLL:=zh hll;clear hll
  go_wp2_with fail
  go_loopg [19] l.length (fun gi v wz=>∃i:Nat,v=.int .i64 i∧i≤l.length∧gi=l.length - i∧Hid (Ext w2 wz∧∀n∈l.take i,¬ (b<n∧zaF m (ch.take gk++[n])=true)))
  case atStart=>exact ⟨0,rfl,Nat.zero_le _,rfl,Ext.refl _,by simp⟩
  case round=>
   obtain ⟨i,rfl,hi,rfl,hZ⟩:=hrel;have hz:=hZ.out.1;have hxz:Ext wo wr:=hx2.trans hz;rcases Nat.lt_or_ge i l.length with hlt | hge
   ·obtain ⟨bl,rfl,_,hcell⟩:=own_at HM2.out.own hlt;obtain ⟨n,hn⟩:∃n,n=l[i]:=⟨_,rfl⟩;rw [←hn] at hcell;have q0:=Ext.rule hcell
    have hnc:Hid (n∈cand m (ch.take gk)):=by
     show n∈_;rw [←HLL.out,hn];exact List.getElem_mem _
    have HN:=zh hn;clear hcell hn;by_cases hnb:n≤b
    ·have hd:decide (n≤b)=true:=decide_eq_true hnb;have HNB:=zh hnb;clear hnb
     go_wp2_with fail
     go_roundg (l.length - (i+1))
     case measure=>omega
     case rel=>exact ⟨i+1,by go_num,hlt,rfl,hZ.out.1,no_step hZ.out.2 hlt (fun h=>by have:=HNB.out;rw [←HN.out] at h;omega)⟩
    ·have hd:decide (n≤b)=false:=decide_eq_false hnb;have HNB:=zh hnb;clear hnb
     go_wp2_with fail
     refine (with_c _ (HST.out.ext hxz) GD.out HL.out (HC.out.take gk) hnc.out).mono ?_;rintro e w3 ⟨q,rfl,hx3,hq⟩;have HQ:=zh hq;clear hq
     go_wp2_with fail
     refine (open_c w3 HQ.out GD.out HL.out (.snoc (HC.out.take gk) hnc.out)).mono ?_;rintro e w4 ⟨rfl,hx4⟩;obtain ⟨ob,hob⟩:∃ob,ob=zaF m (ch.take gk++[n]):=⟨_,rfl⟩;rw [←hob];have HOB:=zh hob;clear hob
     cases ob with
     | false=>
      have hz4:Ext w2 w4:=hz.trans (hx3.trans hx4);clear hx3 hx4
      go_wp2_with fail
      go_roundg (l.length - (i+1))
      case measure=>omega
      case rel=>exact ⟨i+1,by go_num,hlt,rfl,hz4,no_step hZ.out.2 hlt (fun h=>by rw [←HN.out,←HOB.out] at h;exact absurd h.2 (by simp))⟩
     | true=>
      have hx4':Ext wo w4:=hxz.trans (hx3.trans hx4);have HQ4:=zh (push_ok (HQ.out.ext hx4) hxz hS.out.rt (fun b hb=>HXN.out b (Nat.le_trans hS.out.chg.size hb)));have hrt:=hS.out.rt.ext hx4';have hc0:w4.cell? ⟨g,0,none⟩=some (.slice (some ⟨gr,0,none⟩) pt.length cap):=hrt.blk.cell (k:=0) rfl;have hf:=fun k=>hrt.blk.frozen k
      have HRT:=zh hrt;clear hrt;have hptl:pt.length=gk+1:=by have:=HRT.out.row.2.1;dsimp only at this;omega
      have HPL:=zh hptl;have hmax:pt.length+1≤1000:=by omega
      clear hx3 hx4 hz hxz hptl
      go_wp2_with (at_builtin;refine wpList_append_own_at _ rfl _ _ 94 rfl 0 97 i0 (.pointer none) 1 8 Tryz.underlying94 IF.out IZ0.out IZ1.out IZ2.out rfl (by decide) (.slice (some ⟨gr,0,none⟩) pt.length cap) pt.length _ rfl (HRT.out.row.1.alloc _) ⟨w4.heap.size,0,none⟩ 1 1 [ptrV q] rfl rfl (cell_one_new _ _ _) (by simp [ptrV,Value.oneCell']) (by unfold maxLen;omega) (by omega) (Nat.zero_le _) ?_)
      intro v' w5 hown hg _ hv';have hX4:∀b,w4.heap.size≤b→X b:=fun b hb=>HXN.out b (Nat.le_trans hS.out.chg.size (Nat.le_trans hx4'.size hb))
      have hY4:∀b,Y b→b<w4.heap.size:=fun b hb=>Nat.lt_of_lt_of_le (HYB.out b hb) (Nat.le_trans hS.out.chg.size hx4'.size)
      obtain ⟨gr',cap',rfl,hrt5,hch5⟩:=HRT.out.push HQ4.out hX4 hY4 hown hg hv';have hblk5:w5.heap[g]?=w4.heap[g]?:=(hg.block g (by have:=zb HRT.out.blk;simp;omega) (fun e=>HRT.out.ne (by injection e))).trans (Below.heap_alloc _ _ _ (zb HRT.out.blk));have hc5:w5.cell? ⟨g,0,none⟩=some (.slice (some ⟨gr,0,none⟩) pt.length cap):=(World.cell?_of_block hblk5).trans hc0;have hf5:w5.frozen? ⟨g,0,none⟩=false:=(World.frozen?_of_block (a:=⟨g,0,none⟩) hblk5).trans (hf 0);have HCH:=zh ((hS.out.chg.ext_r hx4').tr hch5);have HRT5:=zh hrt5;clear hown hg hv' hrt5 hch5 hc0 hf hblk5 hX4 hY4
      go_wp2_with fail
      clear hc5 hf5;generalize w5.setCell ⟨g,0,none⟩ (.slice (some ⟨gr',0,none⟩) (pt.length+1) cap')=w6 at*;have hl5:(ch.take gk++[n]).length=pt.length:=by have:=HPL.out;simp;omega
      have hq5:(pt++[q])[(ch.take gk++[n]).length]?=some q:=by rw [hl5];simp
      have hst5:StC w6 (okR X Y g gr') q m (ch.take gk++[n]):=by
       have:=HRT5.out.row.2.2 _ q hq5
       rwa [List.take_length] at this
      refine (last_c (w':=w6) HRT5.out hq5 (by show (ch.take gk++[n]).length≤1000;omega)).mono ?_;rintro e w7 ⟨rfl,hd7⟩;have hx7:Ext w6 w7:=hd7.below _;clear hd7 hl5 hq5
      go_wp2_with fail
      refine (zcH w7 (hst5.ext hx7) GD.out HL.out (.snoc (HC.out.take gk) hnc.out)).mono ?_;rintro e w8 ⟨rfl,hd8⟩;have hx8:Ext w6 w8:=hx7.trans (hd8.below _);clear hd8 hx7 hst5;have hrt8:=HRT5.out.ext hx8;have hc8:w8.cell? ⟨g,1,none⟩=some (.bool dn):=hrt8.blk.cell (k:=1) rfl;have hf8:w8.frozen? ⟨g,1,none⟩=false:=hrt8.blk.frozen 1
      have hfin:StepPost w X Y g m ⟨ch,dn,st⟩ (.returned (.tuple #[])) (w8.setCell ⟨g,1,none⟩ (.bool (zae m (ch.take gk++[n])))):=by
       refine ⟨rfl,gr',cap',pt++[q],?_,(HCH.out.ext_r hx8).tr (chg_setg _ HRT5.out.xg 1 _)⟩;have h1:=hrt8.done (zae m (ch.take gk++[n]))
       have h2:stepC m ch=some (ch.take gk++[n]):=by
        have h3:=hS.out.se;dsimp only at h3;rw [←h3];unfold srch;rw [aft_of HLL.out hlt HN.out hZ.out.2 (by have:=HNB.out;omega) HOB.out.symm]
       show zaO _ X Y g gr' cap' m (RS.one m ⟨ch,dn,st⟩) _;unfold RS.one;dsimp only;rw [h2];exact h1
      have HFIN:=zh hfin;clear hfin hrt8
      go_wp2_with fail
      try rw [Exit.noGoto_ret]
      refine bodyPost_ret (results_none rfl _ _ _) rfl ?_;exact HFIN.out
   ·have hil:i=l.length:=by omega
    subst hil;have HAN:Hid (aft m (ch.take gk) b=none):=aft_none HLL.out (by have:=hZ.out.2;rwa [List.take_length] at this);have hrt:=hS.out.rt.ext hxz;have hc0:wr.cell? ⟨g,0,none⟩=some (.slice (some ⟨gr,0,none⟩) pt.length cap):=hrt.blk.cell (k:=0) rfl;have hc1:wr.cell? ⟨g,1,none⟩=some (.bool dn):=hrt.blk.cell (k:=1) rfl;have hf:=fun k=>hrt.blk.frozen k
    have hptl:pt.length=gk+1:=by have:=hrt.row.2.1;dsimp only at this;omega
    have hcap:=zbv hrt.row.1;have HRT:=zh hrt;clear hrt;have HPL:=zh hptl;have HCG:=zh (hS.out.chg.ext_r hxz);clear hZ hz
    cases gk with
    | zero=>
     have hd1:((pt.length:Int)==1)=true:=by rw [beq_iff_eq];omega
     have hfin:StepPost w X Y g m ⟨ch,dn,st⟩ (.returned (.tuple #[])) (wr.setCell ⟨g,1,none⟩ (.bool true)):=by
      refine ⟨rfl,gr,cap,pt,?_,HCG.out.tr (chg_setg _ HRT.out.xg 1 _)⟩;have h1:=HRT.out.done true
      have h2:stepC m ch=none:=by
       have h3:=hS.out.se;dsimp only at h3;rw [←h3];exact srch_zero HAN.out
      show zaO _ X Y g gr cap m (RS.one m ⟨ch,dn,st⟩) _;unfold RS.one;dsimp only;rw [h2];exact h1
     have HFIN:=zh hfin;clear hfin hptl
     go_wp2_with fail
     try rw [Exit.noGoto_ret]
     refine bodyPost_ret (results_none rfl _ _ _) rfl ?_;exact HFIN.out
    | succ j=>
     have hd1:((pt.length:Int)==1)=false:=by rw [beq_eq_false_iff_ne];omega
     have hst:=HST.out.ext hxz;obtain ⟨us,f,u,t,vc,vp,gu,_,h2⟩:=hst;obtain ⟨_,_,_,_,_,_,r6,_,_⟩:=h2.rules;have hchs:=h2.ch;clear h2;obtain ⟨Ac,cc,rfl,hcc,hrc⟩:=hchs;obtain ⟨bc,oc,rfl,_,hcj⟩:=zt hrc (k:=j) (by omega) (by omega);rw [List.getElem_take] at hcj;obtain ⟨N,hN⟩:∃N,N=(ch.take (j+1)).length:=⟨_,rfl⟩;rw [←hN] at hcc r6;rw [hkl] at hN;obtain ⟨cj,hcjj⟩:∃cj,cj=ch[j]:=⟨_,rfl⟩;rw [←hcjj] at hcj;have HCJ:=zh hcjj;have rj:=Ext.rule hcj;have hj0:(0:Int)≤(j:Int):=by omega
     have hj1:(j:Int)<(N:Int):=by omega
     have hjw:IntKind.i64.wrap ((N:Int) - 1)=(j:Int):=by rw [IntKind.wrap_i64];omega
     have hPw:IntKind.i64.wrap ((pt.length:Int) - 1)=(N:Int):=by rw [IntKind.wrap_i64];omega
     have hPw2:wrap64 ((pt.length:Int) - 1)=(N:Int):=by rw [IntWalk.wrap64_in _ (by omega)];omega
     have hN0:(0:Int)≤(N:Int):=by omega
     have hN1:(N:Int)≤(pt.length:Int):=by omega
     have hN2:(N:Int)≤(cap:Int):=by omega
     have hxr:=Ext.refl wr;have HNN:=zh hN;clear hcj hrc hcjj hptl hN
     go_wp2_with fail
     go_quiet (fail)
     generalize hw7:wr.drewN nq=w7;have hx7:Ext wr w7:=by rw [←hw7];exact (Ext.refl wr).drewN _
     have hc7:w7.cell? ⟨g,0,none⟩=some (.slice (some ⟨gr,0,none⟩) pt.length cap):=hx7.cell hc0;have hf7:w7.frozen? ⟨g,0,none⟩=false:=(Below.frozen hx7 (p:=⟨g,0,none⟩) (zl hc0)).trans (hf 0);clear hw7 hc0 hf hc1
     go_wp2_with fail
     go_still_tail 14,(by kernel_rfl)
     change wpList _ _ _ _ _ w7.drew;have hx8:Ext wr w7.drew:=hx7.drew;have hc8:w7.drew.cell? ⟨g,0,none⟩=some (.slice (some ⟨gr,0,none⟩) pt.length cap):=hc7;have hf8:w7.drew.frozen? ⟨g,0,none⟩=false:=hf7;generalize w7.drew=w8 at*;clear hc7 hf7 hx7
     go_wp2_with fail
     go_roundg j
     case measure=>omega
     case rel=>
      refine ⟨cj,pt.take (j+1),rfl,by omega,?_,?_,?_⟩
      ·have h1:=(HRT.out.ext hx8).pop (k:=j) (by show j≤(ch.take (j+1)).length;omega);dsimp only at h1;rw [List.take_take,Nat.min_eq_left (by omega),←HNN.out] at h1;rw [←HNN.out];exact h1
      ·exact (HCG.out.ext_r hx8).tr (chg_setg _ HRT.out.xg 0 _)
      ·have h3:=hS.out.se;dsimp only at h3⊢;rw [←h3,srch_back HAN.out,HCJ.out,List.getD_eq_getElem?_getD,List.getElem?_eq_getElem (by omega),Option.getD_some]
theorem one_isCh {m:MZ} {s:RS} (h:zu m s.ch):zu m (s.one m).ch∧(s.one m).steps=s.steps+1:=by
 unfold RS.one
 split
 ·rename_i c hc;exact ⟨(stepC_some h hc).1,rfl⟩
 ·exact ⟨.nil,rfl⟩
theorem run_isCh {m:MZ}:∀(n:Nat) {s:RS},zu m s.ch→zu m (RS.run m n s).ch
 | 0,s,h=>h
 | n+1,s,h=>by
  unfold RS.run
  split
  ·exact h
  ·exact run_isCh n (one_isCh h).1
theorem run_steps {m:MZ}:∀(n:Nat) {s:RS},zu m s.ch→s.steps≤(RS.run m n s).steps∧(RS.run m n s).steps≤s.steps+n
 | 0,s,h=>⟨Int.le_refl _,by simp [RS.run]⟩
 | n+1,s,h=>by
  unfold RS.run
  split
  ·exact ⟨Int.le_refl _,by omega⟩
  ·have h1:=one_isCh h;have h2:=run_steps n h1.1;omega
structure RunR (w wr:World) (X Y:Nat→Prop) (g gr cap:Nat) (m:MZ) (s0:RS) (n:Nat) (s:RS) (pt:List Nat) (k:Nat):Prop where
 rt:zaO wr X Y g gr cap m s pt
 chg:Chg X w wr
 run:RS.run m k s=RS.run m n s0
 ch:zu m s.ch
 st:0≤s.steps∧s.steps+k≤4000000000000000000
def RunPost (w:World) (X Y:Nat→Prop) (g:Nat) (m:MZ) (s:RS) (e:Ending) (w':World):Prop:=
 e=.returned (.bool s.done)∧∃gr' cap' ptrs',zaO w' X Y g gr' cap' m s ptrs'∧Chg X w w'
theorem stepN_calls {X Y:Nat→Prop} {g gr cap:Nat} {m:MZ} {s:RS} {ptrs:List Nat} (n:Nat) (w:World) (h:zaO w X Y g gr cap m s ptrs) (gd:zx m) (hl:Lens m) (hc:zu m s.ch) (hn:n≤1000000) (hs0:0≤s.steps) (hs1:s.steps≤3000000000000000000)
  (hXn:∀b,w.heap.size≤b→X b) (hYb:∀b,Y b→b<w.heap.size):
  Calls Tryz.prog 28 #[.pointer (some ⟨g,0,none⟩),.int .i64 n] w (RunPost w X Y g m (RS.run m n s)):=by
 have H0:Hid (RunR w w X Y g gr cap m s n s ptrs n):=⟨h,Chg.refl _ _,rfl,hc,hs0,by omega⟩;have GD:=zh gd;have HL:=zh hl;have HXN:=zh hXn;have HYB:=zh hYb;have hc0:w.cell? ⟨g,0,none⟩=some (.slice (some ⟨gr,0,none⟩) ptrs.length cap):=h.blk.cell (k:=0) rfl;have hpl:ptrs.length=s.ch.length+1:=h.row.2.1;have hP1:((ptrs.length:Int)==0)=false:=by rw [beq_eq_false_iff_ne];omega
 obtain ⟨R,hR⟩:∃R,R=RS.run m n s:=⟨_,rfl⟩;rw [←hR];have HR:=zh hR;clear h gd hl hc hXn hYb hs0 hs1 hpl hR
 go_enter Tryz.func28,Tryz.ntmps28
 go_wp2_with fail
 clear hc0 hP1
 go_loopg [1] n (fun gk v wr=>∃gr cap s' pt,v=.int .i64 gk∧gk≤n∧Hid (RunR w wr X Y g gr cap m s n s' pt gk))
 case atStart=>exact ⟨gr,cap,s,ptrs,rfl,Nat.le_refl _,H0⟩
 clear H0
 case round=>
  obtain ⟨gr,cap,s',pt,rfl,hkn,hR⟩:=hrel;have hrt:=hR.out.rt;have hc1:wr.cell? ⟨g,1,none⟩=some (.bool s'.done):=hrt.blk.cell (k:=1) rfl;have HRT:=zh hrt;clear hrt;obtain ⟨d,hd⟩:∃d,d=s'.done:=⟨_,rfl⟩;rw [←hd] at hc1;have HD:=zh hd;clear hd
  cases gk with
  | zero=>
   have hlt:decide ((0:Int)<((0:Nat):Int))=false:=by simp
   have hfin:RunPost w X Y g m R (.returned (.bool d)) wr:=by
    have h1:=hR.out.run;rw [←HR.out] at h1;rw [←h1,HD.out];exact ⟨rfl,gr,cap,pt,HRT.out,hR.out.chg⟩
   have HFIN:=zh hfin;clear hfin
   go_wp2_with fail
   go_ret;exact HFIN.out
  | succ k=>
   have hlt:decide ((0:Int)<((k+1:Nat):Int))=true:=decide_eq_true (by omega);have hlt2:(0:Int)<((k+1:Nat):Int):=by omega
   cases d with
   | true=>
    have hfin:RunPost w X Y g m R (.returned (.bool true)) wr:=by
     have h1:=hR.out.run;rw [RS.run_done HD.out.symm,←HR.out] at h1;rw [←h1];exact ⟨by rw [←HD.out],gr,cap,pt,HRT.out,hR.out.chg⟩
    have HFIN:=zh hfin;clear hfin
    go_wp2_with fail
    go_ret;exact HFIN.out
   | false=>
    go_wp2_with fail
    refine (stepX_calls wr HRT.out GD.out HL.out hR.out.ch hR.out.st.1 (by have:=hR.out.st.2;omega) (fun b hb=>HXN.out b (Nat.le_trans hR.out.chg.size hb)) (fun b hb=>Nat.lt_of_lt_of_le (HYB.out b hb) hR.out.chg.size)).mono ?_;rintro e w5 ⟨rfl,gr',cap',pt',hrt5,hch5⟩
    have HN:Hid (RunR w w5 X Y g gr' cap' m s n (s'.one m) pt' k):=by
     have h1:=one_isCh hR.out.ch;have h2:=hR.out.st;have h3:=hR.out.run;unfold RS.run at h3;rw [←HD.out,if_neg (by simp)] at h3;exact ⟨hrt5,hR.out.chg.tr hch5,h3.trans (by cases n <;> rfl),h1.1,by omega⟩
    clear hrt5 hch5 hc1
    go_wp2_with fail
    go_roundg k
    case measure=>omega
    case rel=>exact ⟨gr',cap',_,pt',by go_num,by omega,HN⟩
structure FL (w wr:World) (v:Value) (vs:List Value) (l:List (List Int)):Prop where
 ext:Ext w wr
 own:zbj wr w.heap.size v vs
 len:vs.length=l.length
 each:∀(j:Nat) x,l[j]?=some x→∃u,vs[j]?=some u∧zy wr w.heap.size u x
theorem FL.nil (w wr:World) (h:Ext w wr):FL w wr (.slice none 0 0) [] []:=⟨h,World.ownsRow_nil _ _ _ _,rfl,fun j x h=>by simp at h⟩
theorem FL.more {w wr w':World} {v:Value} {vs:List Value} {l:List (List Int)} (h:FL w wr v vs l) (hE:Ext wr w'):FL w w' v vs l:=by
 have hg:wr.grownBy w' none:=⟨hE.os,hE.tape,hE.output,hE.size,fun i hi _=>hE.block i hi⟩;refine ⟨h.ext.trans hE,h.own.kept hg (by cases h:v.ownBlock <;> simp),h.len,fun j x hj=>?_⟩;obtain ⟨u,hu,ho⟩:=h.each j x hj;exact ⟨u,hu,ho.kept hg (by cases h:u.ownBlock <;> simp)⟩
theorem own_neT {w:World} {B B':Nat} {e e':TypeId} {sz sz' n n':Nat} {v v':Value} {xs xs':List Value} (h:w.ownsRow B e sz v n xs) (h':w.ownsRow B' e' sz' v' n' xs') (hne:e≠e'):v.ownBlock=none∨v.ownBlock≠v'.ownBlock:=by
 rcases h.2 with ⟨rfl,_⟩ | ⟨g,cap,cur,rfl,_,hh,_⟩
 ·left;rfl
 ·right
  rcases h'.2 with ⟨rfl,_⟩ | ⟨g',cap',cur',rfl,_,hh',_⟩
  ·simp [Value.ownBlock]
  ·intro he;have he2:g=g':=by simpa [Value.ownBlock] using he
   subst he2;rw [hh] at hh';injection hh' with hh';injection hh' with _ ht;exact hne ht
theorem FL.app {w wr w':World} {v v' u:Value} {vs:List Value} {l:List (List Int)} {x:List Int} {o:Obj} (h:FL w wr v vs l) (hu:zy wr w.heap.size u x) (ho:w'.ownsRow w.heap.size 23 1 v' (vs.length+1) (vs++[u])) (hg:(wr.alloc o).grownBy w' v.ownBlock):FL w w' v' (vs++[u]) (l++[x]):=by
 have hE:Ext wr (wr.alloc o):=(Ext.refl _).alloc _;have h1:=h.more hE;have hk:∀{u':Value} {x':List Int},zy wr w.heap.size u' x'→zy w' w.heap.size u' x':=fun hu'=>(World.ownsRow.alloc hu' o).kept hg (own_neT hu' h.own (by decide))
 refine ⟨zT h1.ext hg h1.ext.size (fun k hk=>(h1.own.lt k hk).1),?_,by simp [h.len],fun j y hj=>?_⟩
 ·show w'.ownsRow _ _ _ _ (vs++[u]).length _;rw [List.length_append,List.length_singleton];exact ho
 ·rcases Nat.lt_or_ge j l.length with hjl | hjl
  ·rw [List.getElem?_append_left hjl] at hj;obtain ⟨u',hu',ho'⟩:=h.each j y hj;exact ⟨u',by rw [List.getElem?_append_left (by rw [h.len];exact hjl)];exact hu',hk ho'⟩
  ·have hj2:j=l.length:=by
    rcases Nat.lt_or_ge j (l++[x]).length with h1 | h1
    ·simp at h1;omega
    ·rw [List.getElem?_eq_none h1] at hj;cases hj
   subst hj2;rw [List.getElem?_append_right (Nat.le_refl _)] at hj;have hy:x=y:=by simpa using hj
   subst hy;exact ⟨u,by rw [←h.len,List.getElem?_append_right (Nat.le_refl _)];simp,hk hu⟩
theorem FL.intss {w wr:World} {v:Value} {vs:List Value} {l:List (List Int)} (h:FL w wr v vs l):zo wr (fun b=>w.heap.size≤b) v l:=
 ⟨vs,by rw [←h.len];exact Row.of_own h.own,fun j x hj=>by
  obtain ⟨u,hu,ho⟩:=h.each j x hj;exact ⟨u,hu,Row.of_own ho⟩⟩
def foundL (m:MZ) (ch:List Int):List (List Int):=if zae m ch=true then zJ m ch else []
def FoundPost (w:World) (m:MZ) (ch:List Int) (e:Ending) (w':World):Prop:=
 ∃v,e=.returned (.tuple #[v,.bool (zae m ch)])∧Ext w w'∧zo w' (fun b=>w.heap.size≤b) v (foundL m ch)
theorem found_c {X Y:Nat→Prop} {g gr cap:Nat} {m:MZ} {s:RS} {ptrs:List Nat} (w:World) (h:zaO w X Y g gr cap m s ptrs) (gd:zx m) (hl:Lens m) (hc:zu m s.ch):
  Calls Tryz.prog 29 #[.pointer (some ⟨g,0,none⟩)] w (FoundPost w m s.ch):=by
 obtain ⟨p,hp,hst,hc1⟩:=h.row.last;have hn:=hc.len300 gd;have HL1:=zh (last_c (w':=w) h hp (by omega));have HLX:Hid (∀w2,Ext w w2→Calls Tryz.prog 63 #[.pointer (some ⟨g,0,none⟩)] w2 fun e w'=>e=.returned (.pointer (some ⟨p,0,none⟩))∧zG w2 w'):=fun w2 hE=>last_c (w':=w2) (h.ext hE) hp (by omega)
 have hc0:w.cell? ⟨g,0,none⟩=some (.slice (some ⟨gr,0,none⟩) ptrs.length cap):=h.blk.cell (k:=0) rfl;have hpl:ptrs.length=s.ch.length+1:=h.row.2.1;have hP1:((ptrs.length:Int)==0)=false:=by rw [beq_eq_false_iff_ne];omega
 have HST:=zh hst;have GD:=zh gd;have HL:=zh hl;have HC:=zh hc;obtain ⟨i0,hi,hz0,hz1,hz2⟩:=info_parts Tryz.infoInts;have IF:=zh hi;have IZ0:=zh hz0;have IZ1:=zh hz1;have IZ2:=zh hz2;clear hi hz0 hz1 hz2;clear h gd hl hc hpl hp hc1 hst hn;obtain ⟨cb,hcb⟩:∃cb,cb=zae m s.ch:=⟨_,rfl⟩;have HCB:=zh hcb;clear hcb
 go_enter Tryz.func29,Tryz.ntmps29
 go_wp2_with fail
 refine HL1.out.mono ?_;rintro e w1 ⟨rfl,hd1⟩;have hx1:Ext w w1:=hd1.below _;clear hd1
 go_wp2_with fail
 refine (zcH w1 (HST.out.ext hx1) GD.out HL.out HC.out).mono ?_;rintro e w2 ⟨rfl,hd2⟩;have hx2:Ext w w2:=hx1.trans (hd2.below _);rw [←HCB.out];clear hd2 hx1 hP1
 cases cb with
 | false=>
  have hfin:FoundPost w m s.ch (.returned (.tuple #[.slice none 0 0,.bool false])) w2:=⟨_,by rw [HCB.out],hx2,by unfold foundL;rw [←HCB.out];exact zo.nil _ _⟩;have HFIN:=zh hfin;clear hfin
  go_wp2_with fail
  go_ret2
  exact HFIN.out
 | true=>
  go_wp2_with fail
  refine (HLX.out w2 hx2).mono ?_;rintro e w3 ⟨rfl,hd3⟩;have hx3:Ext w w3:=hx2.trans (hd3.below _);clear hd3 hx2;obtain ⟨us,f,u,t,vc,vp,gu,_,hst2⟩:=HST.out;obtain ⟨_,_,_,_,_,_,_,r7,_⟩:=hst2.rules;have hps:=hst2.ps;clear hst2;have hpp:Hid (∀p∈zJ m s.ch,p.length≤1000):=(HC.out.sok GD.out HL.out).pp;have hpl:(zJ m s.ch).length≤6:=by have:=(HC.out.sok GD.out HL.out).pl;have:=GD.out.tk;omega
  obtain ⟨ps,hpsn⟩:∃ps,ps=zJ m s.ch:=⟨_,rfl⟩;rw [←hpsn] at hps hpp hpl;have HPS:=zh hpsn;clear hpsn;have HP:=zh hps;obtain ⟨vs,⟨Ap,cp,rfl,hcp,hrp⟩,hep⟩:=hps;have HRP:=zh hrp;have HEP:=zh hep;clear hrp hep;have H0:=zh (FL.nil w w3 hx3)
  go_wp2_with fail
  go_loopg [4,29] ps.length (fun gk v vi wr=>∃(i:Nat) (vs:List Value),vi=.int .i64 i∧i≤ps.length∧gk=ps.length - i∧Hid (FL w wr v vs (ps.take i)))
  case atStart=>exact ⟨0,[],rfl,Nat.zero_le _,rfl,H0⟩
  clear H0
  case round=>
   obtain ⟨i,vl,rfl,hi,rfl,hF⟩:=hrel;have hxr:=hF.out.ext;rcases Nat.lt_or_ge i ps.length with hlt | hge
   ·obtain ⟨bp,op,up,rfl,_,hcell,hup⟩:=zP HRP.out HEP.out hlt hlt;have q0:=Ext.rule hcell;clear hcell;have hlp:=hpp.out _ (List.getElem_mem hlt);have HUP:=zh hup;clear hup
    obtain ⟨As,cs,rfl,hcs⟩:∃A c,u4=.slice A vl.length c∧vl.length≤c:=by
     obtain ⟨A,c,e,hc,_⟩:=Row.of_own hF.out.own;exact ⟨A,c,e,hc⟩
    have hvl:=hF.out.len;have HLP:=zh hlp;clear hlp;have HVL:=zh hvl;have hvl6:vl.length≤6:=by rw [hvl,List.length_take];omega
    clear hvl
    go_wp2_with fail
    refine (zaN _ (HUP.out.below hxr) (by have:=HLP.out;omega)).mono ?_;rintro e w4 ⟨v4,rfl,hM⟩;have hF4:=zh (hF.out.more hM.ext);have HO4:Hid (zy w4 w.heap.size v4 ps[i]):=World.ownsRow.mono hM.own hxr.size;obtain ⟨A4,c4,rfl,_⟩:=hM.slice;have hsz:w.heap.size≤w4.heap.size:=hF4.out.ext.size;clear hM
    go_wp2_with (at_builtin;refine wpList_append_own_at _ rfl _ _ 22 rfl w.heap.size 23 i0 (.slice none 0 0) 1 24 Tryz.underlying22 IF.out IZ0.out IZ1.out IZ2.out rfl (by decide) (.slice As vl.length cs) vl.length _ rfl (hF4.out.own.alloc _) ⟨w4.heap.size,0,none⟩ 1 1 [.slice A4 ps[i].length c4] rfl rfl (cell_one_new _ _ _) (by simp [Value.oneCell']) (by unfold maxLen;omega) (by omega) (by simp;omega) ?_)
    intro v' w5 hown hg _ hv';have hF5:=zh (hF4.out.app HO4.out hown hg);clear hown hg hv'
    go_wp2_with fail
    go_roundg (ps.length - (i+1))
    case measure=>omega
    case rel=>exact ⟨i+1,_,by go_num,hlt,rfl,by rw [List.take_succ_eq_append_getElem hlt];exact hF5⟩
   ·have hil:i=ps.length:=by omega
    subst hil
    have hfin:FoundPost w m s.ch (.returned (.tuple #[u4,.bool true])) wr:=by
     refine ⟨u4,by rw [HCB.out],hF.out.ext,?_⟩;unfold foundL;rw [←HCB.out,if_pos rfl,←HPS.out];have:=hF.out.intss
     rwa [List.take_length] at this
    have HFIN:=zh hfin;clear hfin
    go_wp2_with fail
    go_ret2
    exact HFIN.out
end Go.Proofs.YthbjngbhbbkkgaaGreat
