/- RtXe RtSa RtTw -/
import Derived.Test.YthbjngbhbbkkgaaGreatHUt
set_option linter.unusedVariables false
set_option linter.unusedSimpArgs false
set_option maxRecDepth 100000
set_option maxHeartbeats 16000000
namespace Go.Proofs.YthbjngbhbbkkgaaGreat
open Go.RowKit

end Go.Proofs.YthbjngbhbbkkgaaGreat
namespace Go.Proofs.YthbjngbhbbkkgaaGreat
open Go.RowKit
attribute [local go_sem ↓] Go.wp_at_zero Go.wp_at_succ
theorem zaO.bound {w:World} {X Y:Nat→Prop} {g gr cap:Nat} {m:MZ} {s:RS} {pt:List Nat} (h:zaO w X Y g gr cap m s pt):zaO w (fun k=>X k∧k<w.heap.size) Y g gr cap m s pt:=
 ⟨h.blk,⟨h.xg,zb h.blk⟩,⟨h.xr,(h.row.1.lt gr rfl).2⟩,h.ne,h.yg,h.yr,h.row.1,h.row.2.1,fun k p hp=>(h.row.2.2 k p hp).bound.weaken fun b hb=>by
  rcases hb with ⟨hb | hb,hl⟩
  ·exact .inl ⟨⟨hb.1,hl⟩,hb.2⟩
  ·exact .inr hb⟩
structure RtB (w:World) (X Y:Nat→Prop) (g:Nat) (m:MZ) (s:RS):Prop where
 rt:∃gr cap pt,zaO w X Y g gr cap m s pt
 xb:∀k,X k→k<w.heap.size
 yb:∀k,Y k→k<w.heap.size
 good:zx m
 lens:Lens m
 ch:zu m s.ch
 st:0≤s.steps
section
variable {w w':World} {X Y X':Nat→Prop} {g:Nat} {m:MZ} {s:RS}
theorem RtB.step (h:RtB w X Y g m s) (n:Nat) (s':RS) (d:Bool) (hd:s'.done=d) (hs:RS.run m n s=s') (hn:n≤1000000) (hs1:s.steps≤3000000000000000000):
  Calls Tryz.prog 28 #[.pointer (some ⟨g,0,none⟩),.int .i64 n] w fun e w'=>e=.returned (.bool d)∧RtB w' (fun k=>X k∨(w.heap.size≤k∧k<w'.heap.size)) Y g m s'∧Chg X w w':=by
 obtain ⟨⟨gr,cap,pt,hr⟩,h1,h2,h3,h4,h5,h6⟩:=h;refine (stepN_calls (X:=fun k=>X k∨w.heap.size≤k) n w (hr.widen fun _ h=>.inl h) h3 h4 h5 hn h6 hs1 (fun _ h=>.inr h) h2).mono ?_;rintro e w' ⟨rfl,gr',cap',pt',hr',hc⟩;rw [hs] at hr'⊢;refine ⟨by rw [hd],⟨⟨gr',cap',pt',hr'.bound.widen ?_⟩,?_,?_,h3,h4,?_,?_⟩,?_⟩
 ·rintro k ⟨hk | hk,hk2⟩
  ·exact .inl hk
  ·exact .inr ⟨hk,hk2⟩
 ·rintro k (hk | hk)
  ·exact Nat.lt_of_lt_of_le (h1 k hk) hc.size
  ·exact hk.2
 ·exact fun k hk=>Nat.lt_of_lt_of_le (h2 k hk) hc.size
 ·rw [←hs];exact run_isCh n h5
 ·have:=run_steps (m:=m) n h5;rw [hs] at this;omega
 ·exact ⟨hc.os,hc.tape,hc.output,hc.size,fun b hb hx=>hc.block b hb (by
   rintro (h | h)
   ·exact hx h
   ·omega)⟩
theorem RtB.found (h:RtB w X Y g m s):Calls Tryz.prog 29 #[.pointer (some ⟨g,0,none⟩)] w (FoundPost w m s.ch):=by
 obtain ⟨⟨gr,cap,pt,hr⟩,h1,h2,h3,h4,h5,h6⟩:=h;exact found_c w hr h3 h4 h5
end
theorem newB_calls {Y:Nat→Prop} {v:Value} {m:MZ} (w:World) (hm:zr w Y v m) (hl:Lens m) (hYb:∀b,Y b→b<w.heap.size) (hc:chk m=0):
  Calls Tryz.prog 27 #[v] w fun e w'=>∃g,e=.returned (.tuple #[.pointer (some ⟨g,0,none⟩),.int .i64 0])∧Ext w w'∧RtB w' (fun k=>w.heap.size≤k∧k<w'.heap.size) Y g m (loadS m [] 0):=by
 refine (new_calls w hm hl hYb).mono ?_
 have hle:zbV m [] 0=0:=by
  unfold zbV;rw [hc,if_neg (by simp),if_neg (by decide)]
  all_goals rfl
 rintro e w' ⟨v',rfl,hE,h | ⟨h1,h2,h3,g,gr,cap,pt,rfl,hr⟩⟩
 ·exact absurd hle h.1
 ·exact ⟨g,by rw [hle];rfl,hE,⟨gr,cap,pt,hr.bound⟩,fun k hk=>hk.2,fun k hk=>Nat.lt_of_lt_of_le (hYb k hk) hE.size,h2,hl,h3,Int.le_refl _⟩
end Go.Proofs.YthbjngbhbbkkgaaGreat
namespace Go.Proofs.YthbjngbhbbkkgaaGreat
open Go.RowKit
structure RInv (m:MZ) (s:RS):Prop where
 ch:zu m s.ch
 st:0≤s.steps
 dn:s.done=(loadS m s.ch s.steps).done
 op:s.ch≠[]→zaF m s.ch=true
theorem rinv_load {m:MZ}:RInv m (loadS m [] 0):=⟨.nil,Int.le_refl _,rfl,fun h=>absurd rfl h⟩
theorem RInv.one {m:MZ} {s:RS} (h:RInv m s):RInv m (s.one m):=by
 unfold RS.one
 split
 ·rename_i c hc
  obtain ⟨h1,h2,h3⟩:=stepC_some h.ch hc;refine ⟨h1,by have:=h.st;show 0≤s.steps+1;omega,?_,fun _=>h3⟩;show zae m c=(zae m c || (decide (c=[]) && decide (0<s.steps+1)));have:decide (c=[])=false:=decide_eq_false (by rintro rfl;simp at h2);rw [this,Bool.false_and,Bool.or_false]
 ·refine ⟨.nil,by have:=h.st;show 0≤s.steps+1;omega,?_,fun h=>absurd rfl h⟩;show true=(zae m [] || (decide (([]:List Int)=[]) && decide (0<s.steps+1)));have h1:decide (0<s.steps+1)=true:=decide_eq_true (by have:=h.st;omega);rw [h1];simp
theorem RInv.run {m:MZ}:∀(n:Nat) {s:RS},RInv m s→RInv m (RS.run m n s)
 | 0,s,h=>h
 | n+1,s,h=>by
  unfold RS.run
  split
  ·exact h
  ·exact RInv.run n h.one
structure OneX (w wr:World) (X:Nat→Prop) (g:Nat) (m:MZ) (s:RS):Prop where
 ext:Ext w wr
 rt:RtB wr X (fun b=>b<w.heap.size) g m s
 lo:∀k,X k→w.heap.size≤k
 inv:RInv m s
def OneR (w wr:World) (g:Nat) (m:MZ) (s:RS):Prop:=∃X,OneX w wr X g m s
section
variable {w wr w':World} {X X':Nat→Prop} {g g':Nat} {m:MZ} {s s':RS}
theorem OneX.step (h:OneX w wr X g m s) (n:Nat) (hn:n≤1000000) (hs1:s.steps≤3000000000000000000):
  Calls Tryz.prog 28 #[.pointer (some ⟨g,0,none⟩),.int .i64 n] wr fun e w'=>e=.returned (.bool (RS.run m n s).done)∧OneX w w' (fun k=>X k∨(wr.heap.size≤k∧k<w'.heap.size)) g m (RS.run m n s)∧Chg X wr w':=by
 refine (h.rt.step n _ _ rfl rfl hn hs1).mono ?_;rintro e w' ⟨rfl,hr,hc⟩;exact ⟨rfl,⟨Below.trans h.ext (hc.below h.ext.size h.lo),hr,fun k hk=>hk.elim (h.lo k) (fun hk=>Nat.le_trans h.ext.size hk.1),h.inv.run n⟩,hc⟩
theorem OneR.ext (h:OneR w wr g m s):Ext w wr:=by
 obtain ⟨X,h⟩:=h;exact h.ext
theorem OneR.inv (h:OneR w wr g m s):RInv m s:=by
 obtain ⟨X,h⟩:=h;exact h.inv
theorem OneR.step (h:OneR w wr g m s) (n:Nat) (hn:n≤1000000) (hs1:s.steps≤3000000000000000000):
  Calls Tryz.prog 28 #[.pointer (some ⟨g,0,none⟩),.int .i64 n] wr fun e w'=>e=.returned (.bool (RS.run m n s).done)∧OneR w w' g m (RS.run m n s):=by
 obtain ⟨X,h⟩:=h;refine (h.step n hn hs1).mono ?_;rintro e w' ⟨rfl,hr,hc⟩;exact ⟨rfl,_,hr⟩
theorem OneR.found (h:OneR w wr g m s):Calls Tryz.prog 29 #[.pointer (some ⟨g,0,none⟩)] wr (FoundPost wr m s.ch):=by
 obtain ⟨X,h⟩:=h;exact h.rt.found
theorem new1 {v:Value} {okm:Nat→Prop} (w wr:World) (hE:Ext w wr) (hm:zr w okm v m) (hl:Lens m) (hc:chk m=0):
  Calls Tryz.prog 27 #[v] wr fun e w'=>∃g,e=.returned (.tuple #[.pointer (some ⟨g,0,none⟩),.int .i64 0])∧Ext wr w'∧OneR w w' g m (loadS m [] 0):=by
 refine (newB_calls (Y:=fun b=>b<w.heap.size) wr ((hm.bound.weaken fun b hb=>hb.2).below hE) hl (fun b hb=>Nat.lt_of_lt_of_le hb hE.size) hc).mono ?_;rintro e w' ⟨g,rfl,hE',hR⟩;exact ⟨g,rfl,hE',_,hE.trans hE',hR,fun k hk=>Nat.le_trans hE.size hk.1,rinv_load⟩
end
theorem found_len {m:MZ} {ch:List Int} (g:zx m) (hl:Lens m) (hc:zu m ch):(foundL m ch).length≤1000∧∀x∈foundL m ch,x.length≤1000:=by
 have hs:=hc.sok g hl;unfold foundL
 split
 ·exact ⟨by have:=hs.pl;have:=g.tk;omega,hs.pp⟩
 ·exact ⟨by simp,fun x hx=>by cases hx⟩
end Go.Proofs.YthbjngbhbbkkgaaGreat
