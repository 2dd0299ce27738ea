import Derived.Test.YtcnaogdgjkpkmaaGreatDoorWSv
import Derived.Test.YtcnaogdgjkpkmaaGreatDoorWSz
import Derived.Shelf.Strings.BuilderK
import Derived.Shelf.LaysM
import Derived.Shelf.Strconv.Itoa3
import Derived.Shelf.LaysC
import Derived.Shelf.Strconv.ErrVarAll
import Derived.Shelf.Strings.Search2
import Derived.Lib.UnsafeStr
import Derived.Lib.AppendStr
import Derived.Lib.ItoaLen
set_option linter.unusedVariables false
set_option linter.unusedSimpArgs false
set_option maxRecDepth 100000
set_option maxHeartbeats 16000000
namespace Go.Proofs.YtcnaogdgjkpkmaaGreatDoor
variable {cs:Array Value} {n:Int} {a b l:List UInt8} {bs:List Value} {B r:Nat} {ok:Nat->Prop} {c:UInt8} {u v:Value}
section
open Go.RowKit
attribute [local go_sem ↓] Go.wp_at_zero Go.wp_at_succ
theorem Av.bound {w:World} {X Y:Nat->Prop} {g gr cap:Nat} {m:MZ} {s:RS} {pt:List Nat} (h:Av w X Y g gr cap m s pt):Av w (fun k=>X k/\k<w.heap.size) Y g gr cap m s pt:=
 ⟨h.blk,⟨h.xg,zb h.blk⟩,⟨h.xr,(h.row.1.lt gr rfl).2⟩,h.ne,h.yg,h.yr,h.row.1,h.row.2.1,fun k p hp=>(h.row.2.2 k p hp).bound.weaken fun b hb=>by
  rcases hb with ⟨hb | hb,d⟩
  ·exact .inl ⟨⟨hb.1,d⟩,hb.2⟩
  ·exact .inr hb⟩
theorem Av.chg {w w':World} {X Y X':Nat->Prop} {g gr cap:Nat} {m:MZ} {s:RS} {pt:List Nat} (h:Av w X Y g gr cap m s pt) (o:zm X' w w') (D:∀k,X k\/Y k->¬ X' k):Av w' X Y g gr cap m s pt:=
 h.same fun b d E=>o.block b d (D b E)
structure RtB (w:World) (X Y:Nat->Prop) (g:Nat) (m:MZ) (s:RS):Prop where
 rt:∃gr cap pt,Av w X Y g gr cap m s pt
 xb:∀k,X k->k<w.heap.size
 yb:∀k,Y k->k<w.heap.size
 good:Am m
 lens:Lens m
 ch:zw m s.ch
 st:0<=s.steps
section
variable {w w':World} {X Y X':Nat->Prop} {g:Nat} {m:MZ} {s:RS}
theorem RtB.chg (h:RtB w X Y g m s) (d:zm X' w w') (J:∀k,X k\/Y k->¬ X' k):RtB w' X Y g m s:=by
 obtain ⟨⟨gr,cap,pt,K⟩,h1,h2,D,E,G,I⟩:=h;exact ⟨⟨gr,cap,pt,K.chg d J⟩,fun k o=>Ee (h1 k o) d.size,fun k o=>Ee (h2 k o) d.size,D,E,G,I⟩
theorem RtB.ext (h:RtB w X Y g m s) (d:zc w w'):RtB w' X Y g m s:=h.chg (zm.of_ext (X:=fun _=>False) d) (fun _ _ h=>h)
theorem RtB.step (h:RtB w X Y g m s) (n:Nat) (s':RS) (d:Bool) (Q:s'.done=d) (I:RS.run m n s=s') (U:n<=1000000) (J:s.steps<=3000000000000000000):
  Calls Tryz.prog 22 #[.pointer (some ⟨g,0,none⟩),.int .i64 n] w fun e w'=>e=.returned (.bool d)/\RtB w' (fun k=>X k\/(w.heap.size<=k/\k<w'.heap.size)) Y g m s'/\zm X w w':=by
 obtain ⟨⟨gr,cap,pt,V⟩,h1,h2,K,L,E,M⟩:=h;refine (stepN_calls (X:=fun k=>X k\/w.heap.size<=k) n w (V.widen fun _ h=>.inl h) K L E U M J (fun _ h=>.inr h) h2).mono ?_;rintro e w' ⟨rfl,gr',cap',pt',D,o⟩;rw [I] at D⊢;refine ⟨by rw [Q],⟨⟨gr',cap',pt',D.bound.widen ?_⟩,?_,?_,K,L,?_,?_⟩,?_⟩
 ·rintro k ⟨hk | hk,G⟩
  ·exact .inl hk
  ·exact .inr ⟨hk,G⟩
 ·rintro k (hk | hk)
  ·exact Ee (h1 k hk) o.size
  ·exact hk.2
 ·exact fun k hk=>Ee (h2 k hk) o.size
 ·rw [<-I];exact run_isCh n E
 ·have:=run_steps (m:=m) n E;rw [I] at this;omega
 ·exact ⟨o.os,o.tape,o.output,o.size,fun b O hx=>o.block b O (by
   rintro (h | h)
   ·exact hx h
   ·omega)⟩
theorem RtB.fb (h:RtB w X Y g m s):∀k,X k\/Y k->k<w.heap.size:=fun k d=>d.elim (h.xb k) (h.yb k)
theorem RtB.found (h:RtB w X Y g m s):Calls Tryz.prog 23 #[.pointer (some ⟨g,0,none⟩)] w (BP w m s.ch):=by
 obtain ⟨⟨gr,cap,pt,E⟩,h1,h2,d,o,D,G⟩:=h;exact found_c w E d o D
end
theorem newB_calls {Y:Nat->Prop} {m:MZ} (w:World) (hm:zM w Y v m) (G:Lens m) (d:∀b,Y b->b<w.heap.size) (J:Br m=0):
  Calls Tryz.prog 21 #[v] w fun e w'=>∃g,e=.returned (.tuple #[.pointer (some ⟨g,0,none⟩),.int .i64 0])/\zc w w'/\RtB w' (fun k=>w.heap.size<=k/\k<w'.heap.size) Y g m (loadS m [] 0):=by
 refine (new_calls w hm G d).mono ?_
 have o:loadE m [] 0=0:=by
  unfold loadE;rw [J,if_neg (by simp),if_neg (by decide)];rfl
 rintro e w' ⟨v',rfl,E,h | ⟨h1,h2,I,g,gr,cap,pt,rfl,K⟩⟩
 ·exact absurd o h.1
 ·exact ⟨g,by rw [o];rfl,E,⟨gr,cap,pt,K.bound⟩,fun k D=>D.2,fun k D=>Ee (d k D) E.size,h2,G,I,Int.le_refl _⟩
end
section
open Go.RowKit
structure RInv (m:MZ) (s:RS):Prop where
 ch:zw m s.ch
 st:0<=s.steps
 dn:s.done=(loadS m s.ch s.steps).done
 op:s.ch≠[]->Bu m s.ch=true
theorem rinv_load {m:MZ}:RInv m (loadS m [] 0):=⟨.nil,Int.le_refl _,rfl,fun h=>absurd rfl h⟩
theorem RInv.one {m:MZ} {s:RS} (h:RInv m s):RInv m (s.one m):=by
 unfold RS.one
 split
 ·rename_i c o
  obtain ⟨h1,h2,d⟩:=stepC_some h.ch o;refine ⟨h1,by have:=h.st;show 0<=s.steps+1;omega,?_,fun _=>d⟩;show AR m c=(AR m c || (decide (c=[]) && decide (0<s.steps+1)));have:decide (c=[])=false:=DG (by rintro rfl;simp at h2);rw [this,Bool.false_and,Bool.or_false]
 ·refine ⟨.nil,by have:=h.st;show 0<=s.steps+1;omega,?_,fun h=>absurd rfl h⟩;show true=(AR m [] || (decide (([]:List Int)=[]) && decide (0<s.steps+1)));have h1:decide (0<s.steps+1)=true:=DF (by have:=h.st;omega);rw [h1];simp
theorem RInv.run {m:MZ}:∀(n:Nat) {s:RS},RInv m s->RInv m (RS.run m n s)
 | 0,s,h=>h
 | n+1,s,h=>by
  unfold RS.run
  split
  ·exact h
  ·exact RInv.run n h.one
theorem RInv.loadE {m:MZ} {s:RS} (h:RInv m s) (d:Br m=0):loadE m s.ch s.steps=0:=by
 unfold Go.Proofs.YtcnaogdgjkpkmaaGreatDoor.loadE;rw [d,if_neg (by simp),if_neg (by have:=h.st;omega),if_pos];rw [Bj.2 h.ch,Bool.true_and,EB,DM];by_cases h0:s.ch=[]
 ·exact .inl h0
 ·exact .inr (h.op h0)
theorem RInv.loadS {m:MZ} {s:RS} (h:RInv m s):loadS m s.ch s.steps=s:=by
 obtain ⟨c,d,n⟩:=s;have h1:d=(AR m c || (decide (c=[]) && decide (0<n))):=h.dn;show RS.mk c (AR m c || (decide (c=[]) && decide (0<n))) n=RS.mk c d n;rw [<-h1]
theorem RInv.open {m:MZ} {s:RS} (h:RInv m s) (d:Br m=0) (o:s.ch≠[]):openO m s.ch=true:=by
 unfold openO okC;rw [Bj.2 h.ch,h.op o,DF d];rfl
theorem RInv.done {m:MZ} {s:RS} (h:RInv m s) (o:s.done=true) (d:AR m s.ch=false):s.ch=[]:=by
 have h1:=h.dn;rw [o] at h1;unfold Go.Proofs.YtcnaogdgjkpkmaaGreatDoor.loadS at h1;simp only [d,Bool.false_or] at h1;have h2:=h1.symm;rw [DO,DM] at h2;exact h2.1
structure OneX (w wr:World) (X:Nat->Prop) (g:Nat) (m:MZ) (s:RS):Prop where
 ext:zc w wr
 rt:RtB wr X (fun b=>b<w.heap.size) g m s
 lo:∀k,X k->w.heap.size<=k
 inv:RInv m s
def OneR (w wr:World) (g:Nat) (m:MZ) (s:RS):Prop:=∃X,OneX w wr X g m s
section
variable {w wr w':World} {X X':Nat->Prop} {g g':Nat} {m:MZ} {s s':RS}
theorem OneX.more (h:OneX w wr X g m s) (d:zc wr w'):OneX w w' X g m s:=⟨h.ext.trans d,h.rt.ext d,h.lo,h.inv⟩
theorem OneX.other (h:OneX w wr X g m s) (o:∀k,X' k->w.heap.size<=k) (G:∀k,X k->¬ X' k) (D:zm X' wr w'):OneX w w' X g m s:=
 ⟨Below.trans h.ext (D.below h.ext.size o),h.rt.chg D (fun k d E=>d.elim (fun d=>G k d E) (fun d=>by have:=o k E;omega)),h.lo,h.inv⟩
theorem OneX.step (h:OneX w wr X g m s) (n:Nat) (E:n<=1000000) (o:s.steps<=3000000000000000000):
  Calls Tryz.prog 22 #[.pointer (some ⟨g,0,none⟩),.int .i64 n] wr fun e w'=>e=.returned (.bool (RS.run m n s).done)/\OneX w w' (fun k=>X k\/(wr.heap.size<=k/\k<w'.heap.size)) g m (RS.run m n s)/\zm X wr w':=by
 refine (h.rt.step n _ _ rfl rfl E o).mono ?_;rintro e w' ⟨rfl,G,D⟩;exact ⟨rfl,⟨Below.trans h.ext (D.below h.ext.size h.lo),G,fun k d=>d.elim (h.lo k) (fun d=>DE h.ext.size d.1),h.inv.run n⟩,D⟩
theorem OneR.more (h:OneR w wr g m s) (d:zc wr w'):OneR w w' g m s:=by
 obtain ⟨X,h⟩:=h;exact ⟨X,h.more d⟩
theorem OneR.ext (h:OneR w wr g m s):zc w wr:=by
 obtain ⟨X,h⟩:=h;exact h.ext
theorem OneR.inv (h:OneR w wr g m s):RInv m s:=by
 obtain ⟨X,h⟩:=h;exact h.inv
theorem OneR.step (h:OneR w wr g m s) (n:Nat) (o:n<=1000000) (d:s.steps<=3000000000000000000):
  Calls Tryz.prog 22 #[.pointer (some ⟨g,0,none⟩),.int .i64 n] wr fun e w'=>e=.returned (.bool (RS.run m n s).done)/\OneR w w' g m (RS.run m n s):=by
 obtain ⟨X,h⟩:=h;refine (h.step n o d).mono ?_;rintro e w' ⟨rfl,D,E⟩;exact ⟨rfl,_,D⟩
theorem OneR.found (h:OneR w wr g m s):Calls Tryz.prog 23 #[.pointer (some ⟨g,0,none⟩)] wr (BP wr m s.ch):=by
 obtain ⟨X,h⟩:=h;exact h.rt.found
theorem OneR.len (h:OneR w wr g m s):s.ch.length<=300:=by
 obtain ⟨X,h⟩:=h;exact h.rt.ch.len300 h.rt.good
theorem OneR.good (h:OneR w wr g m s):Am m/\Lens m:=by
 obtain ⟨X,h⟩:=h;exact ⟨h.rt.good,h.rt.lens⟩
theorem new1 {okm:Nat->Prop} (w wr:World) (o:zc w wr) (hm:zM w okm v m) (J:Lens m) (G:Br m=0):
  Calls Tryz.prog 21 #[v] wr fun e w'=>∃g,e=.returned (.tuple #[.pointer (some ⟨g,0,none⟩),.int .i64 0])/\zc wr w'/\OneR w w' g m (loadS m [] 0):=by
 refine (newB_calls (Y:=fun b=>b<w.heap.size) wr ((hm.bound.weaken fun b D=>D.2).below o) J (fun b D=>Ee D o.size) G).mono ?_;rintro e w' ⟨g,rfl,d,E⟩;exact ⟨g,rfl,d,_,o.trans d,E,fun k I=>DE o.size I.1,rinv_load⟩
end
theorem found_len {m:MZ} {ch:List Int} (g:Am m) (D:Lens m) (o:zw m ch):(foundL m ch).length<=1000/\∀x∈foundL m ch,x.length<=1000:=by
 have d:=o.sok g D;unfold foundL
 split
 ·exact ⟨by have:=d.pl;have:=g.tk;omega,d.pp⟩
 ·exact ⟨by simp,fun x E=>by cases E⟩
end
section
open Go.RowKit
attribute [local go_sem ↓] Go.wp_at_zero Go.wp_at_succ
attribute [local go_sem] Oper.semAt_some
theorem loadS_nil (m:MZ):loadS m [] 0=⟨[],AR m [],0⟩:=by
 unfold loadS;simp
end
section
open Go.RowKit
theorem sideP_len (m:MZ) (ch:List Int) (t:Nat):(BJ m ch t).length<=1000:=by
 unfold BJ reachO
 split
 ·rename_i h
  unfold Bn;refine DE (Ef _ _) ?_;have h1:=(Am.of h.1).dim.n1;have h2:m.n=m.w*m.h*m.l:=rfl;simp;omega
 ·simp
theorem candO_len {m:MZ} (d:Lens m) (ch:List Int):(zT m ch).length<=400000000000:=by
 unfold zT
 split
 ·exact CM d ch
 ·simp
end
section
open Go.RowKit Go.Shelf
def sStr_ren:Go.Shelf.Ren:=⟨fun | 169=>118 | n=>n,fun | 70=>144 | 9=>9 | 0=>0 | 72=>147 | 37=>145 | 127=>170 | 3=>3 | 5=>5 | n=>n,fun | n=>n⟩
theorem sStr:Go.Proofs.Lays.n169 Tryz.prog sStr_ren:=by
 constructor
 iterate 4 (all_goals first | kernel_rfl | (intro _;kernel_rfl) | exact ⟨_,by decide,by kernel_rfl⟩ | constructor)
def sItoa_ren:Go.Shelf.Ren:=⟨fun | 171=>80 | 243=>115 | 246=>135 | 283=>146 | 284=>147 | 285=>148 | 286=>149 | 129=>158 | 317=>157 | 318=>159 | 319=>160 | 320=>161 | 337=>178 | 338=>179 | n=>n,fun | 3=>3 | 9=>9 | 2=>2 | 4=>4 | 171=>176 | 0=>0 | 53=>177 | 37=>145 | 5=>5 | 173=>180 | 212=>190 | 51=>191 | 20=>20 | 213=>192 | 46=>188 | 232=>221 | 233=>222 | n=>n,fun | 17=>0 | 18=>4 | 19=>5 | n=>n⟩
theorem sItoa:Go.Proofs.LaysM.n171 Tryz.prog sItoa_ren:=by
 constructor
 iterate 4 (all_goals first | kernel_rfl | (intro _;kernel_rfl) | exact ⟨_,by decide,by kernel_rfl⟩ | constructor)
def sAtoi_ren:Go.Shelf.Ren:=⟨fun | 172=>138 | 244=>152 | 245=>153 | 247=>163 | 279=>164 | 280=>165 | 281=>166 | 282=>167 | 287=>184 | 316=>185 | 171=>80 | 205=>186 | 321=>195 | 322=>196 | 243=>115 | 246=>135 | 283=>146 | 284=>147 | 285=>148 | 286=>149 | 129=>158 | 317=>157 | 318=>159 | 319=>160 | 320=>161 | 337=>178 | 338=>179 | n=>n,fun | 9=>9 | 3=>3 | 75=>149 | 76=>151 | 4=>4 | 5=>5 | 167=>194 | 37=>145 | 0=>0 | 85=>195 | 2=>2 | 168=>197 | 53=>177 | 175=>209 | 46=>188 | 210=>213 | 127=>170 | 145=>229 | 143=>227 | 21=>21 | 171=>176 | 173=>180 | 212=>190 | 51=>191 | 20=>20 | 213=>192 | 232=>221 | 233=>222 | 80=>153 | n=>n,fun | 15=>2 | 16=>3 | 17=>0 | 18=>4 | 19=>5 | n=>n⟩
theorem sAtoi:Go.Proofs.LaysC.n172 Tryz.prog sAtoi_ren:=by
 constructor
 iterate 4 (all_goals first | kernel_rfl | (intro _;kernel_rfl) | exact ⟨_,by decide,by kernel_rfl⟩ | constructor)
def sIdx_ren:Go.Shelf.Ren:=⟨fun | 219=>162 | 217=>180 | 225=>181 | 224=>182 | 267=>183 | 266=>193 | 314=>194 | n=>n,fun | 9=>9 | 3=>3 | 4=>4 | 5=>5 | 46=>188 | 146=>223 | 51=>191 | n=>n,fun | 1=>1 | n=>n⟩
theorem sIdx:Go.Proofs.Lays.n219 Tryz.prog sIdx_ren:=by
 constructor
 iterate 4 (all_goals first | kernel_rfl | (intro _;kernel_rfl) | exact ⟨_,by decide,by kernel_rfl⟩ | constructor)
theorem sExt:Builder.Extra Tryz.prog sStr_ren:=by
 constructor
 iterate 4 (all_goals first | kernel_rfl | (intro _;kernel_rfl) | decide | constructor)
end
section
open Go.RowKit Go.Shelf
attribute [local go_sem ↓] Go.wp_at_zero Go.wp_at_succ
abbrev Bui (B:Nat) (bs:List Value) (w:World):Prop:=Lib.IsBuilderF 147 5 B B bs w
abbrev BuiU (B:Nat) (bs:List Value) (w:World):Prop:=Lib.BuilderAtF 147 5 B B (.pointer (some ⟨B,0,none⟩)) bs w
theorem Bui.old {w w':World} (h:Bui B bs w) (d:zc w w'):Bui B bs w':=by
 have f:∀p,Lib.BuilderAtF 147 5 B B p bs w->Lib.BuilderAtF 147 5 B B p bs w':=fun p h=>by
  have D:=h.lt;obtain ⟨G,v,I,o,E⟩:=h;exact ⟨G,v,(d.block B D).trans I,o.kept (row:=none) ⟨d.os,d.tape,d.output,d.size,fun k J _=>d.block k J⟩ (by cases h:v.ownBlock <;> simp),E⟩
 exact h.imp (f _) (f _)
theorem Bui.new (w:World):Bui w.heap.size [] (w.alloc (.cells #[.pointer none,.slice none 0 0] 147)):=Lib.IsBuilderF.of (Lib.fresh_isBuilder _ _ w)
theorem ptrInfo:∃j,Tryz.prog.info? 147=some j/\j.size=2:=Option.map_eq_some_iff.1 sExt.sizeBuilder
theorem ccUsed (B:Nat) (w:World) (h0:w.cell? ⟨B,0,none⟩=some (.pointer (some ⟨B,0,none⟩))):Calls Tryz.prog 136 #[.pointer (some ⟨B,0,none⟩)] w fun e w'=>e=.returned (.tuple #[])/\w=w':=by
 obtain ⟨j,d,-⟩:=ptrInfo;have o:=Lib.run_neq_ptr_same w ⟨B,0,none⟩ Tryz.underlying144 d
 go_enter Tryz.func136,Tryz.ntmps136
 go_wp2;exact bodyPost_end (results_none rfl _ _ _) rfl ⟨rfl,rfl⟩
theorem ccNew (B:Nat) (w:World) (h0:w.cell? ⟨B,0,none⟩=some (.pointer none)) (D:w.shape? B=some (147,2)) (hf:w.frozen? ⟨B,0,none⟩=false):Calls Tryz.prog 136 #[.pointer (some ⟨B,0,none⟩)] w fun e w'=>e=.returned (.tuple #[])/\w'=w.setCell ⟨B,0,none⟩ (.pointer (some ⟨B,0,none⟩)):=by
 obtain ⟨j,o,d⟩:=ptrInfo;have c1:=Lib.run_to_unsafe w ⟨B,0,none⟩ Tryz.underlying144 Tryz.underlying182 o (by rw [d];decide) D (Nat.zero_lt_succ 1);have c2:=run_callFunc_extern Tryz.func150 (by kernel_rfl) (by kernel_rfl) (by kernel_rfl) (e:=Extern.AbiNoEscape.same) (by kernel_rfl) (args:=#[.pointer (some ⟨B,0,none⟩)]) (w:=w);have c3:=Lib.run_from_unsafe w ⟨B,0,none⟩ Tryz.underlying182 Tryz.underlying144 o D sExt.liesBuilder;rw [Lib.run_noEscape] at c2
 go_enter Tryz.func136,Tryz.ntmps136
 go_wp2;exact bodyPost_end (results_none rfl _ _ _) rfl ⟨rfl,rfl⟩
theorem cc_calls {w:World} (h:Bui B bs w):Calls Tryz.prog 136 #[.pointer (some ⟨B,0,none⟩)] w fun e w'=>e=.returned (.tuple #[])/\BuiU B bs w'/\Below B w w':=by
 rcases h with h | h
 ·refine (ccNew B w h.cell0 h.shape h.frozen0).mono ?_;rintro e w' ⟨rfl,rfl⟩;exact ⟨rfl,h.used _,(Below.refl B w).setCell (p:=⟨B,0,none⟩) (DC _) _⟩
 ·refine (ccUsed B w h.cell0).mono ?_;rintro e w' ⟨rfl,rfl⟩;exact ⟨rfl,h,Below.refl B w⟩
theorem lt_heap {w:World} {b:Nat} {o:Obj} (h:w.heap[b]?=some o):b<w.heap.size:=(Ev.1 h).1
theorem wByte_calls {w:World} (c:Int) (h:Bui B bs w) (hl:bs.length+1<=140737488355328):
  Calls Tryz.prog 116 #[.pointer (some ⟨B,0,none⟩),.int .u8 c] w fun e w'=>e=.returned .nilIface/\BuiU B (bs++[.int .u8 c]) w'/\Below B w w':=by
 obtain ⟨i0,hi,M,O,Q⟩:=info_parts sExt.infoByte;have H:=zh h;clear h
 go_enter Tryz.func116,Tryz.ntmps116
 go_wp2_with fail
 refine (cc_calls H.out).mono ?_;rintro e w1 ⟨rfl,⟨U,v,E,o,K⟩,I⟩;have c1:w1.cell? ⟨B,1,none⟩=some v:=by rw [Lib.cell_of_heap E];rfl
 have J:=lt_heap E
 go_wp2_with (at_builtin;refine wpList_append_ownF _ rfl _ _ 145 rfl B 5 i0 (.int .u8 0) 1 1 Tryz.underlying145 hi M O Q rfl (by decide) _ _ _ rfl (o.alloc _) ⟨w1.heap.size,0,none⟩ 1 1 [.int .u8 c] rfl rfl ?c1 ?c2 ?c3 ?c4 ?c5 ?_)
 case c1=>
  intro j u G
  match j,G with
  | 0,G=>simp at G;subst G;simp [Addr.add]
 case c2=>intro u hu;simp at hu;subst hu;rfl
 case c3=>unfold maxLen;omega
 case c4=>omega
 case c5=>simp;omega
 intro v' w2 d V _
 have D:w2.heap[B]?=some (.cells #[.pointer (some ⟨B,0,none⟩),v] 147 (0,0)):=by
  rw [V.block B (by simp;omega) (fun e=>K e.symm),Lib.alloc_old w1 _ B J];exact E
 have d1:w2.cell? ⟨B,1,none⟩=some v:=by rw [Lib.cell_of_heap D];rfl
 have f1:w2.frozen? ⟨B,1,none⟩=false:=Lib.frozen_of_heap D 1
 obtain ⟨ao,n',cap,rfl⟩:∃ao n' cap,v'=.slice ao n' cap:=by
  rcases d.2 with ⟨L,_⟩ | ⟨g,cap,cur,fz,L,_⟩
  ·exact ⟨_,_,_,L⟩
  ·exact ⟨_,_,_,L⟩
 go_wp2;go_ret;refine ⟨rfl,Lib.BuilderAtF.put (T:=147) (e:=5) U D (bs':=bs++[.int .u8 c]) (by simpa using d) (by decide),?_⟩;exact ((I.alloc (by omega) _).grown V (by simp;omega) (fun k hk=>(o.lt k hk).1)).setCell (p:=⟨B,1,none⟩) U _
theorem wString_calls {w:World} (s:ByteArray) (h:Bui B bs w) (hl:bs.length+s.size<=140737488355328):
  Calls Tryz.prog 117 #[.pointer (some ⟨B,0,none⟩),.string s] w fun e w'=>e=.returned (.tuple #[.int .i64 s.size,.nilIface])/\BuiU B (bs++Lib.strCells s) w'/\Below B w w':=by
 obtain ⟨i0,V,L,M,O⟩:=info_parts sExt.infoByte;have H:=zh h;clear h
 go_enter Tryz.func117,Tryz.ntmps117
 go_wp2_with fail
 refine (cc_calls H.out).mono ?_;rintro e w1 ⟨rfl,⟨Q,v,E,o,J⟩,G⟩;have c1:w1.cell? ⟨B,1,none⟩=some v:=by rw [Lib.cell_of_heap E];rfl
 have I:=lt_heap E
 go_wp2_with (at_builtin;refine Lib.wpList_append_own_stringF _ rfl _ _ 145 9 rfl B 5 i0 Tryz.underlying145 Tryz.underlying9 V L M O _ _ _ rfl o s rfl ?c3 ?c4 ?c5 ?_)
 case c3=>unfold maxLen;omega
 case c4=>omega
 case c5=>omega
 intro v' w2 d U _
 have D:w2.heap[B]?=some (.cells #[.pointer (some ⟨B,0,none⟩),v] 147 (0,0)):=by
  rw [U.block B I (fun e=>J e.symm)];exact E
 have d1:w2.cell? ⟨B,1,none⟩=some v:=by rw [Lib.cell_of_heap D];rfl
 have f1:w2.frozen? ⟨B,1,none⟩=false:=Lib.frozen_of_heap D 1
 obtain ⟨ao,n',cap,rfl⟩:∃ao n' cap,v'=.slice ao n' cap:=by
  rcases d.2 with ⟨K,_⟩ | ⟨g,cap,cur,fz,K,_⟩
  ·exact ⟨_,_,_,K⟩
  ·exact ⟨_,_,_,K⟩
 go_wp2
 go_ret2
 refine ⟨rfl,Lib.BuilderAtF.put (T:=147) (e:=5) Q D (bs':=bs++Lib.strCells s) (by simpa [Lib.strCells_length] using d) (by decide),?_⟩;exact (G.grown U (by omega) (fun k hk=>(o.lt k hk).1)).setCell (p:=⟨B,1,none⟩) Q _
theorem bOut_calls {w:World} (h:Bui B (Lib.byteCells l) w) (d:B<=w.heap.size):Calls Tryz.prog 118 #[.pointer (some ⟨B,0,none⟩)] w fun e w'=>e=.returned (.string ⟨l.toArray⟩)/\Below B w w':=
 (Any.Builder_String_any_k sStr sExt B B l w h d).mono fun e w' h=>⟨h.1,h.2.2.1⟩
structure zJ (w:World):Prop where
 tab : Lib.TabIs Tryz.prog w "internal/strconv.uint64pow10" .u64 Lib.pow10Tab
 syn : ∃ tp p, w.var? Tryz.prog "strconv.ErrSyntax" = some #[.iface tp p]
 rng : ∃ tp p, w.var? Tryz.prog "strconv.ErrRange" = some #[.iface tp p]
theorem var_ext {w w':World} (D:zc w w') {n:String} (h:w.var? Tryz.prog n=some cs):w'.var? Tryz.prog n=some cs:=by
 unfold World.var? at h⊢
 cases o:Tryz.prog.globalNamed n with
 | none=>rw [o] at h;cases h
 | some g=>
  rw [o] at h;simp only [Option.bind_some] at h⊢
  split at h
  ·rename_i d
   rw [D.block g (lt_heap d),d];exact h
  ·cases h
theorem zJ.ext {w w':World} (h:zJ w) (d:zc w w'):zJ w':=
 ⟨var_ext d h.tab,h.syn.imp fun _ ⟨p,h⟩=>⟨p,var_ext d h⟩,h.rng.imp fun _ ⟨p,h⟩=>⟨p,var_ext d h⟩⟩
theorem ret_str (h:a=b):Ending.returned (.string ⟨a.toArray⟩)=.returned (.string ⟨b.toArray⟩):=by rw [h]
def I64 (n:Int):Prop:=-9223372036854775808<=n/\n<=9223372036854775807
theorem grow_ext (w:World) (os:Array Obj):zc w (Sort.grow w os):=⟨rfl,rfl,rfl,by simp [Sort.grow],fun k d=>by simp [Sort.grow,Array.getElem?_append,d]⟩
theorem itoa_calls (w:World) (o:zJ w) (d:I64 n):Calls Tryz.prog 80 #[.int .i64 n] w fun e w'=>e=.returned (.string ⟨(Lib.itoa n).toArray⟩)/\zc w w':=by
 refine (Any.strconv_Itoa sItoa n d.1 d.2 w o.tab).mono ?_;rintro e w' ⟨rfl,k,os,rfl⟩;exact ⟨rfl,((zc.refl w).drewN k).trans (grow_ext _ os)⟩
def wI (n:Int):List UInt8:=Lib.itoa n++[59]
def wL (l:List Int):List UInt8:=91 :: (l.flatMap wI++[93])
theorem itoa_len (d:I64 n):(Lib.itoa n).length<=21:=Lib.itoa_length_le n d.1 d.2
theorem wI_len (d:I64 n):(wI n).length<=22:=by have:=itoa_len d;simp [wI];omega
theorem wIs_len:∀{l:List Int},(∀x∈l,I64 x)->(l.flatMap wI).length<=22*l.length
 | [],_=>by simp
 | x :: l,h=>by
  have h1:=wI_len (h x (En ..));have h2:=wIs_len fun y d=>h y (DX x d)
  rw [List.flatMap_cons,DK,EF];omega
theorem add_str {x y:List UInt8} {w:World} (h:x.length+y.length<=9223372036854775807):(Op.stringOp .add ⟨x.toArray⟩ ⟨y.toArray⟩).run Tryz.prog w=.ok (.string ⟨(x++y).toArray⟩) w:=by
 rw [run_string_add_sum w _ _ (by simpa [ByteArray.size] using h),ByteArray.mk_append_mk]
theorem wInt_calls (w:World) (I:zJ w) (D:I64 n):Calls Tryz.prog 36 #[.int .i64 n] w fun e w'=>e=.returned (.string ⟨(wI n).toArray⟩)/\zc w w':=by
 have E:=zh (itoa_calls w I D);have G:=itoa_len D;obtain ⟨d,o⟩:=EH (Lib.itoa n);have J:Hid (wI n=d++[59]):=by rw [o];rfl
 rw [<-o] at G E;have L:∀w,(Op.stringOp .add ⟨d.toArray⟩ ⟨#[59]⟩).run Tryz.prog w=.ok (.string ⟨(d++[59]).toArray⟩) w:=fun w=>add_str (y:=[59]) (by simp;omega)
 clear o G I D
 go_enter Tryz.func36,Tryz.ntmps36
 go_wp2_with fail
 refine E.out.mono ?_;rintro e w1 ⟨rfl,K⟩
 go_wp2_with fail
 go_ret;exact ⟨ret_str J.out.symm,K⟩
theorem bui_bytes (l:List UInt8) (c:UInt8):Lib.byteCells l++[Value.int .u8 c.toNat]=Lib.byteCells (l++[c]):=by simp [Lib.byteCells]
theorem bui_str (l s:List UInt8):Lib.byteCells l++Lib.strCells ⟨s.toArray⟩=Lib.byteCells (l++s):=by simp [Lib.byteCells,Lib.strCells]
theorem bui_len (l:List UInt8):(Lib.byteCells l).length=l.length:=by simp [Lib.byteCells]
theorem wInts_calls {l:List Int} (w:World) (hv:zJ w) (hl:zn w ok v l) (hn:∀x∈l,I64 x) (b3:l.length<=1000000000000):Calls Tryz.prog 81 #[v,.func (.func 36) #[] #[]] w fun e w'=>e=.returned (.string ⟨(wL l).toArray⟩)/\zc w w':=by
 have HL:=zh hl;have HV:=zh hv;have HN:=zh hn;obtain ⟨A,c,rfl,hc,hr⟩:=hl;clear hn hv hr
 go_enter Tryz.func81,Tryz.ntmps81
 go_wp2_with fail
 have a0:=Bui.new w;refine (wByte_calls 91 a0 (by simp)).mono ?_;rintro e w1 ⟨rfl,a1,a2⟩;have Q:Hid (Bui w.heap.size (Lib.byteCells [91]) w1):=.inr a1;have U:Hid (zc w w1):=((Below.refl _ _).alloc (DC _) _).trans a2;clear a0 a1 a2
 go_wp2_with fail
 go_loopw [11] (fun i wr=>∃k:Nat,k<=l.length/\i=.int .i64 k/\Hid (Bui w.heap.size (Lib.byteCells (91 :: (l.take k).flatMap wI)) wr)/\Hid (zc w wr)) (fun i _=>l.length - (intOf i).toNat)
 case atStart=>exact ⟨0,DR _,rfl,Q,U⟩
 clear Q U
 case round=>
  obtain ⟨k,hk,rfl,HB,HE⟩:=hrel
  have d:(91 :: (l.take k).flatMap wI).length<=1+22*l.length:=by
   have h1:=wIs_len (l:=l.take k) fun x O=>HN.out x (List.mem_of_mem_take O)
   simp at h1⊢;omega
  by_cases L:k<l.length
  ·have hR:=HL.out.below HE.out;obtain ⟨A',c',e',-,hr⟩:=hR;injection e' with e1 e2 e3;subst e1;obtain ⟨b,off,rfl,-,D⟩:=Ae hr L L;obtain ⟨x,O⟩:=EH (l[k]);rw [<-O] at D;have M:I64 x:=by rw [O];exact HN.out _ (DD _)
   have hs:(l.take (k+1)).flatMap wI=(l.take k).flatMap wI++wI x:=by rw [DJ L,List.flatMap_append,O];simp
   have HS:=zh hs;have HX:=zh (wI_len M);have HC:=zh (wInt_calls wr (HV.out.ext HE.out) M);have HR:=zh d;clear O M hs hr e2 e3 d
   go_wp2_with fail
   refine HC.out.mono ?_;rintro e w2 ⟨rfl,K⟩;have o:=HB.out.old K;have E:(Lib.byteCells (91 :: (l.take k).flatMap wI)).length+(wI x).toArray.size<=140737488355328:=by have:=HX.out;have:=HR.out;rw [bui_len];simp at this⊢;omega
   go_wp2_with fail
   refine (wString_calls ⟨(wI x).toArray⟩ o E).mono ?_;rintro e w3 ⟨rfl,J,G⟩;rw [bui_str] at J;have a8:Hid (Bui w.heap.size (Lib.byteCells (91 :: (l.take (k+1)).flatMap wI)) w3):=by rw [HS.out];exact .inr J
   have a9:Hid (zc w w3):=Below.trans (HE.out.trans K) G;clear o E J G K D
   go_wp2_with fail
   go_roundw
   case rel=>exact ⟨k+1,by omega,by go_num,a8,a9⟩
   case measure=>simp [intOf];omega
  ·obtain rfl:k=l.length:=by omega
   rw [DN] at HB d;have E:(Lib.byteCells (91 :: l.flatMap wI)).length+1<=140737488355328:=by rw [bui_len];omega
   have b0:=zh E;clear d E
   go_wp2_with fail
   refine (wByte_calls 93 HB.out b0.out).mono ?_;rintro e w2 ⟨rfl,o,a3⟩
   have I:Bui w.heap.size (Lib.byteCells (wL l)) w2:=by
    have:=o;rw [show Value.int .u8 93=Value.int .u8 (93:UInt8).toNat from rfl,bui_bytes] at this;exact .inr this
   have a7:=zh I;have V:Hid (zc w w2):=Below.trans HE.out a3;clear o I a3
   go_wp2_with fail
   refine (bOut_calls a7.out V.out.size).mono ?_;rintro e w3 ⟨rfl,G⟩
   go_wp2_with fail
   go_ret;exact ⟨rfl,Below.trans V.out G⟩
theorem wireInts_calls {l:List Int} (w:World) (E:zJ w) (o:zn w ok v l) (D:∀x∈l,I64 x) (d:l.length<=1000000000000):Calls Tryz.prog 37 #[v] w fun e w'=>e=.returned (.string ⟨(wL l).toArray⟩)/\zc w w':=by
 have G:=zh (wInts_calls w E o D d);obtain ⟨A,c,rfl,-,-⟩:=o;clear E D
 go_enter Tryz.func37,Tryz.ntmps37
 go_wp2_with fail
 refine G.out.mono ?_;rintro e w1 ⟨rfl,I⟩
 go_wp2_with fail
 go_ret;exact ⟨rfl,I⟩
def cutAt (c:UInt8):List UInt8->Option (List UInt8×List UInt8)
 | []=>none
 | b :: l=>if b==c then some ([],l) else (cutAt c l).map fun p=>(b :: p.1,p.2)
theorem cutAt_none {c:UInt8}:∀{l:List UInt8},cutAt c l=none->Lib.indexByte l c=-1
 | [],_=>rfl
 | b :: l,h=>by
  unfold cutAt at h;unfold Lib.indexByte
  split at h
  ·cases h
  ·rename_i d
   rw [Option.map_eq_none_iff] at h;rw [if_neg d,cutAt_none h];rfl
theorem CX {c:UInt8}:∀{l a b:List UInt8},cutAt c l=some (a,b)->Lib.indexByte l c=a.length/\l=a++c :: b
 | [],a,b,h=>by cases h
 | x :: l,a,b,h=>by
  unfold cutAt at h;unfold Lib.indexByte
  split at h
  ·rename_i d
   injection h with h;injection h with h1 h2;subst h1 h2;rw [if_pos d,(beq_iff_eq.1 d)];exact ⟨rfl,rfl⟩
  ·rename_i d
   obtain ⟨p,hp,e⟩:=Option.map_eq_some_iff.1 h;injection e with h1 h2;subst h1 h2;obtain ⟨o,D⟩:=CX (a:=p.1) (b:=p.2) hp;rw [if_neg d,o,if_neg (by simp),D];exact ⟨by simp,rfl⟩
theorem ext_take (l:List UInt8) (n:Nat):(ByteArray.mk l.toArray).extract 0 n=⟨(l.take n).toArray⟩:=by
 apply ByteArray.ext;simp [ByteArray.data_extract]
theorem ext_drop (l:List UInt8) (n:Nat):(ByteArray.mk l.toArray).extract n l.length=⟨(l.drop n).toArray⟩:=by
 apply ByteArray.ext;simp [ByteArray.data_extract];exact List.take_of_length_le (by simp)
theorem lcut_no (w:World) (h:cutAt c l=none):Calls Tryz.prog 151 #[.string ⟨l.toArray⟩,.string ⟨#[c]⟩] w fun e w'=>e=.returned (.tuple #[.string ⟨l.toArray⟩,.string ⟨#[]⟩,.bool false])/\w=w':=by
 have o:=zh (Any.stringslite_Index_one sIdx ⟨l.toArray⟩ c w);have D:=cutAt_none h;have d:Lib.indexByte (ByteArray.mk l.toArray).data.toList c=-1:=D;rw [d] at o;clear D d h
 go_enter Tryz.func151,Tryz.ntmps151
 go_wp2_with fail
 refine o.out.mono ?_;rintro e w1 ⟨rfl,rfl⟩
 go_wp2_with fail
 exact Eu (by simp [results,Tryz.results151,go_sem]) rfl ⟨rfl,rfl⟩
theorem lcut_yes (w:World) (h:cutAt c l=some (a,b)) (I:l.length<=9223372036854775000):Calls Tryz.prog 151 #[.string ⟨l.toArray⟩,.string ⟨#[c]⟩] w fun e w'=>e=.returned (.tuple #[.string ⟨a.toArray⟩,.string ⟨b.toArray⟩,.bool true])/\∃n,w'=w.drewN n:=by
 have o:=zh (Any.stringslite_Index_one sIdx ⟨l.toArray⟩ c w);obtain ⟨E,he⟩:=CX h;have d:Lib.indexByte (ByteArray.mk l.toArray).data.toList c=a.length:=E;rw [d] at o;have G:a.length+1<=l.length:=by rw [he];simp
 have D:=zh he;clear E d h he
 go_enter Tryz.func151,Tryz.ntmps151
 go_wp2_with fail
 refine o.out.mono ?_;rintro e w1 ⟨rfl,rfl⟩
 go_wp2_with fail
 go_quiet (fail)
 have e1:ByteArray.extract ⟨l.toArray⟩ 0 a.length=⟨a.toArray⟩:=by rw [ext_take,D.out];simp
 have e2:ByteArray.extract ⟨l.toArray⟩ (a.length+1) l.length=⟨b.toArray⟩:=by rw [ext_drop,D.out];simp
 rw [e1,e2]
 go_wp2_with fail
 exact Eu (by simp [results,Tryz.results151,go_sem]) rfl ⟨rfl,_,rfl⟩
theorem cut_no (w:World) (h:cutAt c l=none):Calls Tryz.prog 137 #[.string ⟨l.toArray⟩,.string ⟨#[c]⟩] w fun e w'=>e=.returned (.tuple #[.string ⟨l.toArray⟩,.string ⟨#[]⟩,.bool false])/\w=w':=by
 have d:=zh (lcut_no w h);clear h
 go_enter Tryz.func137,Tryz.ntmps137
 go_wp2_with fail
 refine d.out.mono ?_;rintro e w1 ⟨rfl,rfl⟩
 go_wp2_with fail
 exact Eu (by simp [results,Tryz.results137,go_sem]) rfl ⟨rfl,rfl⟩
theorem cut_yes (w:World) (h:cutAt c l=some (a,b)) (o:l.length<=9223372036854775000):Calls Tryz.prog 137 #[.string ⟨l.toArray⟩,.string ⟨#[c]⟩] w fun e w'=>e=.returned (.tuple #[.string ⟨a.toArray⟩,.string ⟨b.toArray⟩,.bool true])/\∃n,w'=w.drewN n:=by
 have d:=zh (lcut_yes w h o);clear h
 go_enter Tryz.func137,Tryz.ntmps137
 go_wp2_with fail
 refine d.out.mono ?_;rintro e w1 ⟨rfl,n,rfl⟩
 go_wp2_with fail
 exact Eu (by simp [results,Tryz.results137,go_sem]) rfl ⟨rfl,_,rfl⟩
abbrev AO (w:World) (r:Nat) (s:List UInt8×Bool):Prop:=zj w r 125 #[.string ⟨s.1.toArray⟩,.bool s.2]
theorem wNew_calls (l:List UInt8) (w:World):Calls Tryz.prog 40 #[.string ⟨l.toArray⟩] w fun e w'=>e=.returned (.pointer (some ⟨w.heap.size,0,none⟩))/\zc w w'/\AO w' w.heap.size (l,false):=by
 go_enter Tryz.func40,Tryz.ntmps40
 go_wp2_with fail
 go_ret;exact ⟨rfl,(zc.refl w).alloc _,zj.new _ _ _ rfl⟩
theorem Cy {s:List UInt8×Bool} (w:World) (h:AO w r s):Calls Tryz.prog 42 #[.pointer (some ⟨r,0,none⟩)] w fun e w'=>e=.returned (.bool s.2)/\w=w':=by
 have c1:=h.cell (k:=1) rfl;clear h
 go_enter Tryz.func42,Tryz.ntmps42
 go_wp2_with fail
 go_ret;exact ⟨rfl,rfl⟩
def Aw (s:List UInt8×Bool):Nat:=if s.2=true then 0 else s.1.length
theorem Dv {s:List UInt8×Bool} (w:World) (h:AO w r s):Calls Tryz.prog 43 #[.pointer (some ⟨r,0,none⟩)] w fun e w'=>e=.returned (.int .i64 (Aw s:Nat))/\w=w':=by
 have d:=zh (Cy w h);have c0:=h.cell (k:=0) rfl;obtain ⟨l,b⟩:=s;clear h;dsimp only at d c0
 cases b with
 | true=>
  go_enter Tryz.func43,Tryz.ntmps43
  go_wp2_with fail
  refine d.out.mono ?_;rintro e w1 ⟨rfl,rfl⟩
  go_wp2_with fail
  go_ret;exact ⟨rfl,rfl⟩
 | false=>
  go_enter Tryz.func43,Tryz.ntmps43
  go_wp2_with fail
  refine d.out.mono ?_;rintro e w1 ⟨rfl,rfl⟩
  go_wp2_with fail
  go_ret;exact ⟨rfl,rfl⟩
theorem CV {X:Nat->Prop} {a b:World} (h:zm X a b) (g k:Nat) (v:Value) (o:X g):zm X a (b.setCell ⟨g,k,none⟩ v):=
 ⟨h.os,h.tape,h.output,DE h.size (by simp [World.setCell]),fun i D d=>(DL b ⟨g,k,none⟩ v i (fun e=>d (e ▸ o))).trans (h.block i D d)⟩
theorem Du (w:World) (h:zj w r 125 #[u,v]):Calls Tryz.prog 139 #[.pointer (some ⟨r,0,none⟩)] w fun e w'=>e=.returned (.tuple #[])/\zm (·=r) w w'/\AO w' r ([],true):=by
 have c0:=h.cell (k:=0) rfl;have c1:=h.cell (k:=1) rfl;have hf:∀k,w.frozen? ⟨r,k,none⟩=false:=fun k=>h.frozen k
 have H:=zh h;clear h
 go_enter Tryz.func139,Tryz.ntmps139
 go_wp2_with fail
 refine bodyPost_end (results_none rfl _ _ _) rfl ⟨rfl,CV (X:=(·=r)) (CV (zm.refl _ _) r 1 _ rfl) r 0 _ rfl,?_⟩;exact (H.out.set (k:=1) _).set (k:=0) _
def numP (c:UInt8) (l:List UInt8):Option (Int×List UInt8):=match cutAt c l with
 | none=>none
 | some (a,b)=>match Lib.atoiAll a with
  | .ok v=>if Lib.itoa v=a then some (v,b) else none
  | _=>none
theorem BC {X:Nat->Prop} {a b:World} (h:zc a b):zm X a b:=zm.of_ext h
theorem chg_drew {X:Nat->Prop} (w:World) (n:Nat):zm X w (w.drewN n):=zm.of_ext ((zc.refl w).drewN n)
def numS (c:UInt8) (s:List UInt8×Bool):Option (Int×List UInt8):=if s.2=true then none else numP c s.1
def NumPost (r:Nat) (o:Option (Int×List UInt8)) (w:World) (e:Ending) (w':World):Prop:=
 zm (·=r) w w'/\(∀v b,o=some (v,b)->e=.returned (.tuple #[.int .i64 v,.bool true])/\AO w' r (b,false))/\(o=none->e=.returned (.tuple #[.int .i64 0,.bool false])/\AO w' r ([],true))
def NumFr (r:Nat) (a:Act):Prop:=∃u1 u2 u3 u4 u5 u6 u7 u8 u9 u10 u11 u12 u13 u14 u15 u16 u17 u18 u19 u20 u21 u22 u23 u24 u25 u26 u27 u28 u29 u30 u31 u32 u33 u34 u35 u36 u37 u38 u39 u40:Value,a={ tmps:=#[.pointer (some ⟨r,0,none⟩),u1,u2,u3,u4,u5,u6,u7,u8,u9,u10,u11,u12,u13,u14,u15,u16,u17,u18,u19,u20,u21,u22,u23,u24,u25,u26,u27,u28,u29,u30,u31,u32,u33,u34,u35,u36,u37,u38,u39,u40],defers:=[] }
theorem var_chg {w w':World} {X:Nat->Prop} (o:zm X w w') {n:String} {g:Nat} (E:Tryz.prog.globalNamed n=some g) (D:¬ X g) (h:w.var? Tryz.prog n=some cs):w'.var? Tryz.prog n=some cs:=by
 unfold World.var? at h⊢;rw [E] at h⊢;simp only [Option.bind_some] at h⊢
 split at h
 ·rename_i d
  rw [o.block g (lt_heap d) D,d];exact h
 ·cases h
theorem atoi_ok {v:Int} (w:World) (h:Lib.atoiAll a=.ok v) (d:a.length<=281474976710656):Calls Tryz.prog 138 #[.string ⟨a.toArray⟩] w fun e w'=>e=.returned (.tuple #[.int .i64 v,.nilIface])/\zc w w':=by
 refine (Any.strconv_Atoi_ok sAtoi ⟨a.toArray⟩ (by simp [ByteArray.size];omega) v h w).mono ?_;rintro e w' ⟨rfl,rfl | ⟨t,rfl⟩⟩
 ·exact ⟨rfl,zc.refl _⟩
 ·exact ⟨rfl,Lib.bytesWorld_below _ _ _⟩
theorem atoi_err (w:World) (E:zJ w) (h:∀v,Lib.atoiAll a≠.ok v) (D:a.length<=281474976710656):Calls Tryz.prog 138 #[.string ⟨a.toArray⟩] w fun e w'=>∃n N,e=.returned (.tuple #[.int .i64 n,.iface 197 (.pointer (some ⟨N,0,none⟩))])/\zc w w':=by
 rcases d:Lib.atoiAll a with v | _ | _
 ·exact absurd d (h v)
 ·obtain ⟨tp,p,hp⟩:=E.syn;refine (Any.strconv_Atoi_syntax_var sAtoi ⟨a.toArray⟩ (by simpa [ByteArray.size] using D) d tp p w hp).mono ?_;rintro e w' ⟨N,rfl,-,-,o⟩;exact ⟨_,_,rfl,o⟩
 ·obtain ⟨tp,p,hp⟩:=E.rng;refine (Any.strconv_Atoi_range_var sAtoi ⟨a.toArray⟩ (by simpa [ByteArray.size] using D) d tp p w hp).mono ?_;rintro e w' ⟨N,rfl,-,-,o⟩;exact ⟨_,_,rfl,o⟩
def isVar (g : Nat) : Prop := ∃ n, (n = "internal/strconv.uint64pow10" ∨ n = "strconv.ErrSyntax" ∨ n = "strconv.ErrRange") ∧ Tryz.prog.globalNamed n = some g
theorem Bw {w w':World} {X:Nat->Prop} (h:zJ w) (hC:zm X w w') (hX:∀g,X g->¬ isVar g):zJ w':=by
 have f : ∀ n, (n = "internal/strconv.uint64pow10" ∨ n = "strconv.ErrSyntax" ∨ n = "strconv.ErrRange") → ∀ cs, w.var? Tryz.prog n = some cs → w'.var? Tryz.prog n = some cs := fun n hn cs h => by
  cases hg:Tryz.prog.globalNamed n with
  | none=>unfold World.var? at h;rw [hg] at h;cases h
  | some g=>exact var_chg hC hg (fun hx=>hX g hx ⟨n,hn,hg⟩) h
 exact ⟨f _ (.inl rfl) _ h.tab,h.syn.imp fun _ ⟨p,h⟩=>⟨p,f _ (.inr (.inl rfl)) _ h⟩,h.rng.imp fun _ ⟨p,h⟩=>⟨p,f _ (.inr (.inr rfl)) _ h⟩⟩
theorem var_ne {w:World} (h:zJ w) (o:zj w r 125 #[u,v]):∀g,g=r->¬ isVar g:=by
 rintro g rfl ⟨n,E,D⟩
 have f:∀cs,w.var? Tryz.prog n=some cs->cs=#[u,v]:=fun cs h=>by
  unfold World.var? at h;rw [D] at h;have d:w.heap[g]?=some (.cells #[u,v] 125 (0,0)):=o;simp only [Option.bind_some,d] at h;injection h with h;exact h.symm
 rcases E with rfl | rfl | rfl
 ·have:=congrArg Array.size (f _ h.tab);simp [Lib.pow10Tab] at this
 ·obtain ⟨tp,p,h⟩:=h.syn;have:=congrArg Array.size (f _ h);simp at this
 ·obtain ⟨tp,p,h⟩:=h.rng;have:=congrArg Array.size (f _ h);simp at this
theorem number_calls {s:List UInt8×Bool} (c:UInt8) (w:World) (hv:zJ w) (h:AO w r s) (hl:s.1.length<=281474976710656):Calls Tryz.prog 119 #[.pointer (some ⟨r,0,none⟩),.string ⟨#[c]⟩] w (NumPost r (numS c s) w):=by
 have HB:=zh (Cy w h);have HR:=zh h;have HV:=zh hv;obtain ⟨l,bad⟩:=s;have c0:=h.cell (k:=0) rfl;have hf:∀k,w.frozen? ⟨r,k,none⟩=false:=fun k=>h.frozen k
 dsimp only at HB HR c0 hl;clear h hv
 go_enter Tryz.func119,Tryz.ntmps119
 go_wp2_with fail
 refine wp_scope_jumps 0 (fun a' w'=>NumFr r a'/\Hid (numS c (l,bad)=none)/\Hid (zm (·=r) w w'/\∃u v,zj w' r 125 #[u,v])) (fun _ _=>0) rfl ?_ ?_
 ·go_wp2_with fail
  refine HB.out.mono ?_;rintro e w1 ⟨rfl,rfl⟩
  cases bad with
  | true=>
   go_wp2_with fail
   go_step3
   exact ⟨rfl,⟨_,_,_,_,_,_,_,_,_,_,_,_,_,_,_,_,_,_,_,_,_,_,_,_,_,_,_,_,_,_,_,_,_,_,_,_,_,_,_,_,rfl⟩,rfl,zm.refl _ _,_,_,HR.out⟩
  | false=>
   cases V:cutAt c l with
   | none=>
    have J:Hid (numS c (l,false)=none):=by (show numS c (l,false)=none);unfold numS numP;rw [V];rfl
    have HC:=zh (cut_no w V);clear V
    go_wp2_with fail
    refine HC.out.mono ?_;rintro e w2 ⟨rfl,rfl⟩
    go_wp2_with fail
    go_step3
    exact ⟨rfl,⟨_,_,_,_,_,_,_,_,_,_,_,_,_,_,_,_,_,_,_,_,_,_,_,_,_,_,_,_,_,_,_,_,_,_,_,_,_,_,_,_,rfl⟩,J,CV (X:=(·=r)) (zm.refl _ _) r 0 _ rfl,_,_,HR.out.set (k:=0) _⟩
   | some p=>
    obtain ⟨a,b⟩:=p;have HC:=zh (cut_yes w V (by omega));have b6:a.length<=l.length:=by have:=(CX V).2;rw [this];simp
    have J:Hid (numS c (l,false)=match Lib.atoiAll a with | .ok v=>if Lib.itoa v=a then some (v,b) else none | _=>none):=by
     (show numS c (l,false)=_);unfold numS numP;rw [V];rfl
    clear V
    go_wp2_with fail
    refine HC.out.mono ?_;rintro e w2 ⟨rfl,n2,rfl⟩;have G:Hid (zm (·=r) w ((w.drewN n2).setCell ⟨r,0,none⟩ (.string ⟨b.toArray⟩))):=CV (X:=(·=r)) (chg_drew w n2) r 0 _ rfl;have K:Hid (AO ((w.drewN n2).setCell ⟨r,0,none⟩ (.string ⟨b.toArray⟩)) r (b,false)):=zj.set (k:=0) (show zj (w.drewN n2) r 125 _ from HR.out) (.string ⟨b.toArray⟩);have U:=zh (Bw HV.out G.out (var_ne HV.out HR.out));generalize a9:(w.drewN n2).setCell ⟨r,0,none⟩ (.string ⟨b.toArray⟩)=w3 at G K U
    go_wp2_with fail
    clear a9 HB c0 HC hf HR;by_cases L:∃v,Lib.atoiAll a=.ok v
    ·obtain ⟨v,hv⟩:=L;rw [hv] at J;have a4:=Lib.atoiAll_bounds hv;have E:=atoi_ok w3 hv (by omega);clear hv;refine E.mono ?_;rintro e w4 ⟨rfl,d⟩;have O:=zh (itoa_calls w4 (U.out.ext d) ⟨a4.1,a4.2⟩);have I:=zh d;by_cases hs:Lib.itoa v=a
     ·have D:Hid (numS c (l,false)=some (v,b)):=by (show _=_);rw [J.out];simp [hs]
      rw [hs] at O;clear E d hs J
      go_wp2_with fail
      refine O.out.mono ?_;rintro e w5 ⟨rfl,o⟩;have M:Hid (zm (·=r) w w5):=(G.out.ext_r I.out).ext_r o;have Q:Hid (AO w5 r (b,false)):=(K.out.ext I.out).ext o;clear o
      go_wp2_with fail
      simp only [Exit.jump]
      go_ret2
      exact ⟨M.out,(fun v' b' h=>by rw [D.out] at h;injection h with h;injection h with h1 h2;subst h1 h2;exact ⟨rfl,Q.out⟩),(fun h=>by rw [D.out] at h;cases h)⟩
     ·have D:Hid (numS c (l,false)=none):=by (show _=_);rw [J.out];simp [hs]
      have b7:(Lib.itoa v==a)=false:=by simp [hs]
      clear E d hs J
      go_wp2_with fail
      refine O.out.mono ?_;rintro e w5 ⟨rfl,o⟩;have M:Hid (zm (·=r) w w5):=(G.out.ext_r I.out).ext_r o;have Q:Hid (AO w5 r (b,false)):=(K.out.ext I.out).ext o;clear o
      go_wp2_with fail
      go_step3
      exact ⟨rfl,⟨_,_,_,_,_,_,_,_,_,_,_,_,_,_,_,_,_,_,_,_,_,_,_,_,_,_,_,_,_,_,_,_,_,_,_,_,_,_,_,_,rfl⟩,D,M.out,_,_,Q.out⟩
    ·have D:Hid (numS c (l,false)=none):=by
      (show _=_);rw [J.out]
      cases ha:Lib.atoiAll a with
      | ok v=>exact absurd ⟨v,ha⟩ L
      | _=>rfl
     have E:=atoi_err w3 U.out (fun v h=>L ⟨v,h⟩) (by omega);clear L J;refine E.mono ?_;rintro e w4 ⟨n,N,rfl,d⟩;have a6:Hid (zm (·=r) w w4):=G.out.ext_r d;have a7:Hid (AO w4 r (b,false)):=K.out.ext d;clear E d
     go_wp2_with fail
     go_step3
     exact ⟨rfl,⟨_,_,_,_,_,_,_,_,_,_,_,_,_,_,_,_,_,_,_,_,_,_,_,_,_,_,_,_,_,_,_,_,_,_,_,_,_,_,_,_,rfl⟩,D,a6.out,_,_,a7.out⟩
 ·rintro a' w' ⟨⟨u1,u2,u3,u4,u5,u6,u7,u8,u9,u10,u11,u12,u13,u14,u15,u16,u17,u18,u19,u20,u21,u22,u23,u24,u25,u26,u27,u28,u29,u30,u31,u32,u33,u34,u35,u36,u37,u38,u39,u40,rfl⟩,hn,hw⟩;obtain ⟨hC,u,v,hb⟩:=hw.out;have HF:=zh (Du w' hb);have HC:=zh hC;clear hC hb hw
  go_wp2_with fail
  refine HF.out.mono ?_;rintro e w1 ⟨rfl,a8,hr⟩
  go_wp2_with fail
  simp only [Exit.jump]
  go_ret2
  exact ⟨HC.out.tr a8,(fun v b h=>by rw [hn.out] at h;cases h),fun _=>⟨rfl,hr⟩⟩
end
end Go.Proofs.YtcnaogdgjkpkmaaGreatDoor
