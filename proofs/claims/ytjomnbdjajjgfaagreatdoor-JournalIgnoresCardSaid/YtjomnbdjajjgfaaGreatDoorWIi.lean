import Derived.Test.YtjomnbdjajjgfaaGreatDoorWIh
import Derived.Maps.AppendAt
import Derived.Deep.LoopGhost
import Derived.StillTailTactics
import Derived.Deep.DeepCutAuto
set_option linter.unusedVariables false
set_option linter.unusedSimpArgs false
set_option maxRecDepth 100000
set_option maxHeartbeats 16000000
namespace Go.Proofs.YtjomnbdjajjgfaaGreatDoor
variable {b:Int} {ns:List ByteArray} {l:List Int} {vs:List Value} {i k n p q r:Nat} {ok:Nat->Prop} {o:Obj} {c:UInt8} {u v v':Value} {a wr:World}
section
open Go.RowKit
attribute [local go_sem ↓] Go.wp_at_zero Go.wp_at_succ
theorem last_calls {g gr P cap:Nat} (w:World) (d:w.cell? ⟨g,0,none⟩=some (.slice (some ⟨gr,0,none⟩) P cap)) (B:w.cell? ⟨gr,n,none⟩=some (ptrV p)) (E:P=n+1) (D:P<=cap) (K:n<=1000):
  Calls Tryz.prog 147 #[.pointer (some ⟨g,0,none⟩)] w fun e w'=>e=.returned (ptrV p)/\z8 w w':=by
 have r0:=za.rule d;have r1:=za.rule B;have G:(0:Int)<=(n:Int):=by omega
 have I:(n:Int)<(P:Int):=by omega
 have J:IntKind.i64.wrap ((P:Int) - 1)=(n:Int):=by rw [Eu];omega
 clear d B E;have M:=za.refl w
 go_enter Tryz.func147,Tryz.ntmps147
 go_wp2_with fail
 go_quiet (fail)
 go_wp2;go_ret;exact ⟨rfl,(z8.refl w).more _⟩
theorem last_c {w w':World} {X Y:Nat->Prop} {g gr cap:Nat} {m:MZ} {s:RS} {ptrs:List Nat} (h:AC w X Y g gr cap m s ptrs) (hp:ptrs[s.ch.length]?=some p) (D:s.ch.length<=1000):
  Calls Tryz.prog 147 #[.pointer (some ⟨g,0,none⟩)] w fun e w'=>e=.returned (.pointer (some ⟨p,0,none⟩))/\z8 w w':=by
 obtain ⟨p',d,_,B⟩:=h.row.last;rw [hp] at d;injection d with d;subst d;exact last_calls w (h.blk.cell (k:=0) rfl) B h.row.2.1 (BE h.row.1) D
theorem steps_c {X Y:Nat->Prop} {g gr cap:Nat} {m:MZ} {s:RS} {ptrs:List Nat} (w:World) (h:AC w X Y g gr cap m s ptrs):
  Calls Tryz.prog 84 #[.pointer (some ⟨g,0,none⟩)] w fun e w'=>e=.returned (.int .i64 s.steps)/\w=w':=by
 have d:w.cell? ⟨g,2,none⟩=some (.int .i64 s.steps):=h.blk.cell (k:=2) rfl;clear h
 go_enter Tryz.func84,Tryz.ntmps84
 go_wp2;go_ret;exact ⟨rfl,rfl⟩
theorem choices_c {X Y:Nat->Prop} {g gr cap:Nat} {m:MZ} {s:RS} {ptrs:List Nat} (w:World) (h:AC w X Y g gr cap m s ptrs) (J:s.ch.length<=1000):
  Calls Tryz.prog 85 #[.pointer (some ⟨g,0,none⟩)] w fun e w'=>∃v',e=.returned v'/\Mk w w' v' s.ch:=by
 obtain ⟨p,hp,D,B⟩:=h.row.last;have M:=zh (last_c (w':=w) h hp J);have a1:w.cell? ⟨g,0,none⟩=some (.slice (some ⟨gr,0,none⟩) ptrs.length cap):=h.blk.cell (k:=0) rfl;have G:=BE h.row.1;have d:=h.row.2.1;clear h hp B;obtain ⟨us,f,u,t,vc,vp,gu,h1,h2⟩:=D;obtain ⟨r0,r1,r2,r3,r4,r5,r6,r7,r8⟩:=h2.rules;have U:=zh h2.ch;clear h1 h2;generalize ptrs.length=P at*;have V:decide ((P:Int)=0)=false:=Ec (by omega);have a0:((P:Int)==0)=false:=by rw [El];omega
 have Q:=zh J;clear d
 go_enter Tryz.func85,Tryz.ntmps85
 go_wp2_with fail
 refine M.out.mono ?_;rintro e w1 ⟨rfl,I⟩;have K:za w w1:=I.below _;clear I
 go_wp2_with fail
 refine (CK _ (U.out.below K) (by have:=Q.out;omega)).mono ?_;rintro e w2 ⟨v',rfl,E⟩;have O:=zh (K.mono_mk E);clear E
 go_wp2_with fail
 go_ret;exact ⟨_,rfl,O.out⟩
end
section
open Go.RowKit
section
variable {w w' W:World} {X Y:Nat->Prop} {g gr cap:Nat} {m:MZ} {s:RS} {ptrs:List Nat} {ch:List Int}
theorem AC.okR_ne (h:AC w X Y g gr cap m s ptrs) {b:Nat} (d:okR X Y g gr b):b≠g/\b≠gr:=by
 rcases d with ⟨_,h1,h2⟩ | hy
 ·exact ⟨h1,h2⟩
 ·exact ⟨fun e=>h.yg (e ▸ hy),fun e=>h.yr (e ▸ hy)⟩
theorem AC.setg (h:AC w X Y g gr cap m s ptrs) (j:Nat) (v:Value) {s':RS} (d:s'.ch=s.ch) (B:(#[.slice (some ⟨gr,0,none⟩) ptrs.length cap,.bool s.done,.int .i64 s.steps]:Array Value).setIfInBounds j v=#[.slice (some ⟨gr,0,none⟩) ptrs.length cap,.bool s'.done,.int .i64 s'.steps]):
  AC (w.setCell ⟨g,j,none⟩ v) X Y g gr cap m s' ptrs:=
 ⟨by have:=h.blk.set (k:=j) v;rwa [B] at this,h.xg,h.xr,h.ne,h.yg,h.yr,by
  rw [d]
  exact h.row.keep (fun b B hx=>Eh w ⟨g,j,none⟩ v b (by
   show b≠g;rcases hx with hx | hx
   ·exact hx.2
   ·exact fun e=>h.yg (e ▸ hx))) h.xr h.ne⟩
theorem AC.done (h:AC w X Y g gr cap m s ptrs) (d:Bool):AC (w.setCell ⟨g,1,none⟩ (.bool d)) X Y g gr cap m ⟨s.ch,d,s.steps⟩ ptrs:=h.setg 1 _ rfl rfl
theorem AC.stepsTo (h:AC w X Y g gr cap m s ptrs) (n:Int):AC (w.setCell ⟨g,2,none⟩ (.int .i64 n)) X Y g gr cap m ⟨s.ch,s.done,n⟩ ptrs:=h.setg 2 _ rfl rfl
theorem AC.widen {X':Nat->Prop} (h:AC w X Y g gr cap m s ptrs) (d:∀b,X b->X' b):AC w X' Y g gr cap m s ptrs:=
 ⟨h.blk,d _ h.xg,d _ h.xr,h.ne,h.yg,h.yr,h.row.1,h.row.2.1,fun k p hp=>(h.row.2.2 k p hp).weaken fun b hb=>by
  rcases hb with hb | hb
  ·exact .inl ⟨d _ hb.1,hb.2⟩
  ·exact .inr hb⟩
theorem chg_setg {X:Nat->Prop} (w:World) (B:X g) (j:Nat) (v:Value):zC X w (w.setCell ⟨g,j,none⟩ v):=
 ⟨rfl,rfl,rfl,by simp [World.setCell],fun b _ d=>Eh w ⟨g,j,none⟩ v b (by rintro rfl;exact d B)⟩
theorem zC.tr {X:Nat->Prop} {b c:World} (h:zC X a b) (d:zC X b c):zC X a c:=h.trans d (fun _ _ h=>h)
theorem zC.ext_r {X:Nat->Prop} {b c:World} (h:zC X a b) (d:za b c):zC X a c:=h.tr (zC.of_ext d)
theorem AC.pop (h:AC w X Y g gr cap m s ptrs) (I:k<=s.ch.length):AC (w.setCell ⟨g,0,none⟩ (.slice (some ⟨gr,0,none⟩) (k+1) cap)) X Y g gr cap m ⟨s.ch.take k,s.done,s.steps⟩ (ptrs.take (k+1)):=by
 have D:=h.row.2.1;have B:(ptrs.take (k+1)).length=k+1:=by rw [EQ];omega
 have d:∀b,(X b/\b≠g)\/Y b->(w.setCell ⟨g,0,none⟩ (.slice (some ⟨gr,0,none⟩) (k+1) cap)).heap[b]?=w.heap[b]?:=fun b hx=>Eh w ⟨g,0,none⟩ _ b (by
  show b≠g;rcases hx with hx | hx
  ·exact hx.2
  ·exact fun e=>h.yg (e ▸ hx))
 have G:w.ownsRow 0 198 1 (.slice (some ⟨gr,0,none⟩) (k+1) cap) (k+1) ((ptrs.take (k+1)).map ptrV):=by
  rw [List.map_take];exact row_shrink h.row.1 (by omega)
 refine ⟨?_,h.xg,h.xr,h.ne,h.yg,h.yr,?_,?_,?_⟩
 ·have:=h.blk.set (k:=0) (.slice (some ⟨gr,0,none⟩) (k+1) cap);rw [B];exact this
 ·rw [B];exact row_keep G (d gr (.inl ⟨h.xr,Ne.symm h.ne⟩))
 ·simp only [EQ];omega
 ·intro j p hp
  have E:j<k+1:=by
   rcases Ev j (k+1) with h1 | h1
   ·exact h1
   ·rw [Es (by omega)] at hp;cases hp
  rw [List.getElem?_take_of_lt E] at hp;have:=h.row.2.2 j p hp;rw [List.take_take,Nat.min_eq_left (by omega)]
  exact this.keep fun b hb _=>d b (by
   rcases hb with hb | hb
   ·exact .inl ⟨hb.1,hb.2.1⟩
   ·exact .inr hb)
theorem AC.push (h:AC w X Y g gr cap m s ptrs) {n:Int} {w5:World} (a4:StC w (okR X Y g gr) q m (s.ch++[n])) (Q:∀b,w.heap.size<=b->X b) (U:∀b,Y b->b<w.heap.size)
  (J:w5.ownsRow 0 198 1 v' (ptrs.length+1) (ptrs.map ptrV++[ptrV q])) (M:(w.alloc o).grownBy w5 (some gr)) (hv:v'.ownBlock=some gr\/v'.ownBlock=some (w.heap.size+1)):
  ∃gr' cap',v'=.slice (some ⟨gr',0,none⟩) (ptrs.length+1) cap'/\AC (w5.setCell ⟨g,0,none⟩ v') X Y g gr' cap' m ⟨s.ch++[n],s.done,s.steps⟩ (ptrs++[q])/\zC X w (w5.setCell ⟨g,0,none⟩ v'):=by
 obtain ⟨gr',cap',rfl,_,a8⟩:=World.ownsRow.form J (by omega)
 have D:gr'=gr\/gr'=w.heap.size+1:=by
  rcases hv with hv | hv
  ·left;simpa [Value.ownBlock] using hv
  ·right;simpa [Value.ownBlock] using hv
 have a1:g<w.heap.size:=zc h.blk;have b0:gr<w.heap.size:=(h.row.1.lt gr rfl).2;have a5:w.heap.size<=w5.heap.size:=Ea (by simp) M.size
 have I:g≠gr':=by
  rcases D with rfl | rfl
  ·exact h.ne
  ·omega
 have E:∀b,b<w.heap.size->b≠gr->w5.heap[b]?=w.heap[b]?:=fun b d K=>(M.block b (by simp;omega) (fun e=>K (by injection e))).trans (Er _ _ _ d)
 have B:∀b,b<w.heap.size->b≠gr->b≠g->(w5.setCell ⟨g,0,none⟩ (.slice (some ⟨gr',0,none⟩) (ptrs.length+1) cap')).heap[b]?=w.heap[b]?:=fun b d K a0=>(Eh w5 ⟨g,0,none⟩ _ b a0).trans (E b d K)
 have a3:∀b,okR X Y g gr b/\b<w.heap.size->okR X Y g gr' b:=by
  rintro b ⟨d,a7⟩;rcases d with ⟨h1,h2,h3⟩ | hy
  ·exact .inl ⟨h1,h2,by rcases D with rfl | rfl;exact h3;omega⟩
  ·exact .inr hy
 have G:∀(p:Nat) (c:List Int),StC w (okR X Y g gr) p m c->StC (w5.setCell ⟨g,0,none⟩ (.slice (some ⟨gr',0,none⟩) (ptrs.length+1) cap')) (okR X Y g gr') p m c:=fun p c hs=>
  (hs.bound.keep fun b d _=>B b d.2 (h.okR_ne d.1).2 (h.okR_ne d.1).1).weaken a3
 have O:=h.row.2.1;refine ⟨gr',cap',rfl,⟨?_,h.xg,?_,I,h.yg,?_,?_,?_,?_⟩,?_⟩
 ·have V:zl w5 g 202 #[.slice (some ⟨gr,0,none⟩) ptrs.length cap,.bool s.done,.int .i64 s.steps]:=(E g a1 h.ne).trans h.blk;have:=V.set (k:=0) (.slice (some ⟨gr',0,none⟩) (ptrs.length+1) cap');rw [Eg,Ey];exact this
 ·rcases D with rfl | rfl
  ·exact h.xr
  ·exact Q _ (by omega)
 ·rcases D with rfl | rfl
  ·exact h.yr
  ·intro hy;have:=U _ hy;omega
 ·rw [Eg,Ey,EP];exact row_keep J (Eh w5 ⟨g,0,none⟩ _ gr' (Ne.symm I))
 ·simp [O]
 ·intro k p hp;rcases Ev k ptrs.length with hk | hk
  ·rw [Ed hk] at hp;rw [List.take_append_of_le_length (by omega)];exact G _ _ (h.row.2.2 k p hp)
  ·have a2:k=ptrs.length:=by
    rcases Ev k (ptrs++[q]).length with h1 | h1
    ·simp at h1;omega
    ·rw [Es h1] at hp;cases hp
   subst a2;rw [Ee (DY _)] at hp;have hq:q=p:=by simpa using hp
   subst hq;rw [List.take_of_length_le (by simp;omega)];exact G _ _ a4
 ·exact ⟨M.os,M.tape,M.output,by simpa [World.setCell] using a5,fun b d hx=>B b d (fun e=>hx (e ▸ h.xr)) (fun e=>hx (e ▸ h.xg))⟩
end
noncomputable def srch (m:MZ) (ch:List Int) (k:Nat) (b:Int):Option (List Int):=
 match aft m (ch.take k) b with
 | some n=>some (ch.take k++[n])
 | none=>backN m ch k
theorem srch_top (m:MZ) (ch:List Int):srch m ch ch.length (-1)=stepC m ch:=by
 unfold srch stepC;rw [Ej]
 all_goals (cases aft m ch (-1) <;> rfl)
theorem srch_back {m:MZ} {ch:List Int} (h:aft m (ch.take (k+1)) b=none):srch m ch (k+1) b=srch m ch k (ch.getD k 0):=by
 unfold srch;rw [h];rfl
theorem srch_zero {m:MZ} {ch:List Int} (h:aft m (ch.take 0) b=none):srch m ch 0 b=none:=by
 unfold srch;rw [h];rfl
theorem aft_none {m:MZ} {ch:List Int} (d:l=Ba m ch) (h:∀n∈l,¬ (b<n/\Az m (ch++[n])=true)):aft m ch b=none:=by
 unfold aft;rw [List.find?_eq_none];intro n B;have:=h n (by rw [d];exact B);simp only [Ek,Ei];exact this
theorem aft_at {m:MZ} {ch:List Int} (B:i<(Ba m ch).length) (h:∀n∈(Ba m ch).take i,¬ (b<n/\Az m (ch++[n])=true)) (h1:b<(Ba m ch)[i]) (h2:Az m (ch++[(Ba m ch)[i]])=true):aft m ch b=some (Ba m ch)[i]:=by
 unfold aft;generalize Ba m ch=l at*;obtain ⟨x,d⟩:=Fd (l[i]);rw [<-d] at h1 h2⊢
 have E:l=l.take i++x :: l.drop (i+1):=by
  rw [d,List.getElem_cons_drop B,List.take_append_drop]
 rw [E,List.find?_append,List.find?_eq_none.2 (fun n D=>by
  have:=h n D;simp only [Ek,Ei];exact this)]
 simp [h1,h2]
end
section
open Go.RowKit Go.Shelf
attribute [local go_sem ↓] Go.wp_at_zero Go.wp_at_succ
def BG (c:UInt8):List UInt8->Option (List UInt8×List UInt8)
 | []=>none
 | b :: l=>if b==c then some ([],l) else (BG c l).map fun p=>(b :: p.1,p.2)
theorem cutAt_none {c:UInt8}:∀{l:List UInt8},BG c l=none->Lib.indexByte l c=-1
 | [],_=>rfl
 | b :: l,h=>by
  unfold BG at h;unfold Lib.indexByte
  split at h
  ·cases h
  ·rename_i d
   rw [Option.map_eq_none_iff] at h;rw [if_neg d,cutAt_none h];rfl
theorem BN {c:UInt8}:∀{l a b:List UInt8},BG c l=some (a,b)->Lib.indexByte l c=a.length/\l=a++c :: b
 | [],a,b,h=>by cases h
 | x :: l,a,b,h=>by
  unfold BG at h;unfold Lib.indexByte
  split at h
  ·rename_i d
   injection h with h;injection h with h1 h2;subst h1 h2;rw [if_pos d,(beq_iff_eq.1 d)];exact ⟨rfl,rfl⟩
  ·rename_i d
   obtain ⟨p,hp,e⟩:=Option.map_eq_some_iff.1 h;injection e with h1 h2;subst h1 h2;obtain ⟨h3,B⟩:=BN (a:=p.1) (b:=p.2) hp;rw [if_neg d,h3,if_neg (by simp),B];exact ⟨by simp,rfl⟩
theorem ext_take (l:List UInt8) (n:Nat):(ByteArray.mk l.toArray).extract 0 n=⟨(l.take n).toArray⟩:=by
 apply ByteArray.ext;simp [ByteArray.data_extract]
theorem Dm (l:List UInt8) (n:Nat):(ByteArray.mk l.toArray).extract n l.length=⟨(l.drop n).toArray⟩:=by
 apply ByteArray.ext;simp [ByteArray.data_extract];exact List.take_of_length_le (by simp)
theorem lcut_no {l:List UInt8} (w:World) (h:BG c l=none):Calls Tryz.prog 246 #[.string ⟨l.toArray⟩,.string ⟨#[c]⟩] w fun e w'=>e=.returned (.tuple #[.string ⟨l.toArray⟩,.string ⟨#[]⟩,.bool false])/\w=w':=by
 have B:=zh (Any.stringslite_Index_one sIdx ⟨l.toArray⟩ c w);have D:=cutAt_none h;have d:Lib.indexByte (ByteArray.mk l.toArray).data.toList c=-1:=D;rw [d] at B;clear D d h
 go_enter Tryz.func246,Tryz.ntmps246
 go_wp2_with fail
 refine B.out.mono ?_;rintro e w1 ⟨rfl,rfl⟩
 go_wp2_with fail
 exact ER (by simp [results,Tryz.results246,go_sem]) rfl ⟨rfl,rfl⟩
theorem lcut_yes {l a b:List UInt8} (w:World) (h:BG c l=some (a,b)) (I:l.length<=9223372036854775000):Calls Tryz.prog 246 #[.string ⟨l.toArray⟩,.string ⟨#[c]⟩] w fun e w'=>e=.returned (.tuple #[.string ⟨a.toArray⟩,.string ⟨b.toArray⟩,.bool true])/\∃n,w'=w.drewN n:=by
 have B:=zh (Any.stringslite_Index_one sIdx ⟨l.toArray⟩ c w);obtain ⟨E,he⟩:=BN h;have d:Lib.indexByte (ByteArray.mk l.toArray).data.toList c=a.length:=E;rw [d] at B;have G:a.length+1<=l.length:=by rw [he];simp
 have D:=zh he;clear E d h he
 go_enter Tryz.func246,Tryz.ntmps246
 go_wp2_with fail
 refine B.out.mono ?_;rintro e w1 ⟨rfl,rfl⟩
 go_wp2_with fail
 go_quiet (fail)
 have e1:ByteArray.extract ⟨l.toArray⟩ 0 a.length=⟨a.toArray⟩:=by rw [ext_take,D.out];simp
 have e2:ByteArray.extract ⟨l.toArray⟩ (a.length+1) l.length=⟨b.toArray⟩:=by rw [Dm,D.out];simp
 rw [e1,e2]
 go_wp2_with fail
 exact ER (by simp [results,Tryz.results246,go_sem]) rfl ⟨rfl,_,rfl⟩
theorem cut_no {l:List UInt8} (w:World) (h:BG c l=none):Calls Tryz.prog 234 #[.string ⟨l.toArray⟩,.string ⟨#[c]⟩] w fun e w'=>e=.returned (.tuple #[.string ⟨l.toArray⟩,.string ⟨#[]⟩,.bool false])/\w=w':=by
 have d:=zh (lcut_no w h);clear h
 go_enter Tryz.func234,Tryz.ntmps234
 go_wp2_with fail
 refine d.out.mono ?_;rintro e w1 ⟨rfl,rfl⟩
 go_wp2_with fail
 exact ER (by simp [results,Tryz.results234,go_sem]) rfl ⟨rfl,rfl⟩
theorem cut_yes {l a b:List UInt8} (w:World) (h:BG c l=some (a,b)) (B:l.length<=9223372036854775000):Calls Tryz.prog 234 #[.string ⟨l.toArray⟩,.string ⟨#[c]⟩] w fun e w'=>e=.returned (.tuple #[.string ⟨a.toArray⟩,.string ⟨b.toArray⟩,.bool true])/\∃n,w'=w.drewN n:=by
 have d:=zh (lcut_yes w h B);clear h
 go_enter Tryz.func234,Tryz.ntmps234
 go_wp2_with fail
 refine d.out.mono ?_;rintro e w1 ⟨rfl,n,rfl⟩
 go_wp2_with fail
 exact ER (by simp [results,Tryz.results234,go_sem]) rfl ⟨rfl,_,rfl⟩
abbrev RdAt (w:World) (r:Nat) (s:List UInt8×Bool):Prop:=zl w r 216 #[.string ⟨s.1.toArray⟩,.bool s.2]
theorem wNew_calls (l:List UInt8) (w:World):Calls Tryz.prog 112 #[.string ⟨l.toArray⟩] w fun e w'=>e=.returned (.pointer (some ⟨w.heap.size,0,none⟩))/\za w w'/\RdAt w' w.heap.size (l,false):=by
 go_enter Tryz.func112,Tryz.ntmps112
 go_wp2_with fail
 go_ret;exact ⟨rfl,(za.refl w).alloc _,zl.new _ _ _ rfl⟩
theorem DC {s:List UInt8×Bool} (w:World) (h:RdAt w r s):Calls Tryz.prog 114 #[.pointer (some ⟨r,0,none⟩)] w fun e w'=>e=.returned (.bool s.2)/\w=w':=by
 have c1:=h.cell (k:=1) rfl;clear h
 go_enter Tryz.func114,Tryz.ntmps114
 go_wp2_with fail
 go_ret;exact ⟨rfl,rfl⟩
def zU (s:List UInt8×Bool):Nat:=if s.2=true then 0 else s.1.length
theorem wLeft_calls {s:List UInt8×Bool} (w:World) (h:RdAt w r s):Calls Tryz.prog 115 #[.pointer (some ⟨r,0,none⟩)] w fun e w'=>e=.returned (.int .i64 (zU s:Nat))/\w=w':=by
 have d:=zh (DC w h);have c0:=h.cell (k:=0) rfl;obtain ⟨l,b⟩:=s;clear h;dsimp only at d c0
 cases b with
 | true=>
  go_enter Tryz.func115,Tryz.ntmps115
  go_wp2_with fail
  refine d.out.mono ?_;rintro e w1 ⟨rfl,rfl⟩
  go_wp2_with fail
  go_ret;exact ⟨rfl,rfl⟩
 | false=>
  go_enter Tryz.func115,Tryz.ntmps115
  go_wp2_with fail
  refine d.out.mono ?_;rintro e w1 ⟨rfl,rfl⟩
  go_wp2_with fail
  go_ret;exact ⟨rfl,rfl⟩
theorem BC {X:Nat->Prop} {b:World} (h:zC X a b) (g k:Nat) (v:Value) (B:X g):zC X a (b.setCell ⟨g,k,none⟩ v):=
 ⟨h.os,h.tape,h.output,Ea h.size (by simp [World.setCell]),fun i D d=>(Eh b ⟨g,k,none⟩ v i (fun e=>d (e ▸ B))).trans (h.block i D d)⟩
theorem BY (w:World) (h:zl w r 216 #[u,v]):Calls Tryz.prog 223 #[.pointer (some ⟨r,0,none⟩)] w fun e w'=>e=.returned (.tuple #[])/\zC (·=r) w w'/\RdAt w' r ([],true):=by
 have c0:=h.cell (k:=0) rfl;have c1:=h.cell (k:=1) rfl;have hf:∀k,w.frozen? ⟨r,k,none⟩=false:=fun k=>h.frozen k
 have H:=zh h;clear h
 go_enter Tryz.func223,Tryz.ntmps223
 go_wp2_with fail
 refine bodyPost_end (results_none rfl _ _ _) rfl ⟨rfl,BC (X:=(·=r)) (BC (zC.refl _ _) r 1 _ rfl) r 0 _ rfl,?_⟩;exact (H.out.set (k:=1) _).set (k:=0) _
def numP (c:UInt8) (l:List UInt8):Option (Int×List UInt8):=match BG c l with
 | none=>none
 | some (a,b)=>match Lib.atoiAll a with
  | .ok v=>if Lib.itoa v=a then some (v,b) else none
  | _=>none
theorem chg_ext {X:Nat->Prop} {b:World} (h:za a b):zC X a b:=zC.of_ext h
theorem chg_drew {X:Nat->Prop} (w:World) (n:Nat):zC X w (w.drewN n):=zC.of_ext ((za.refl w).drewN n)
def Bm (c:UInt8) (s:List UInt8×Bool):Option (Int×List UInt8):=if s.2=true then none else numP c s.1
def NumPost (r:Nat) (o:Option (Int×List UInt8)) (w:World) (e:Ending) (w':World):Prop:=
 zC (·=r) w w'/\(∀v b,o=some (v,b)->e=.returned (.tuple #[.int .i64 v,.bool true])/\RdAt w' r (b,false))/\(o=none->e=.returned (.tuple #[.int .i64 0,.bool false])/\RdAt w' r ([],true))
def NumFr (r:Nat) (a:Act):Prop:=∃u1 u2 u3 u4 u5 u6 u7 u8 u9 u10 u11 u12 u13 u14 u15 u16 u17 u18 u19 u20 u21 u22 u23 u24 u25 u26 u27 u28 u29 u30 u31 u32 u33 u34 u35 u36 u37 u38 u39 u40:Value,a={ tmps:=#[.pointer (some ⟨r,0,none⟩),u1,u2,u3,u4,u5,u6,u7,u8,u9,u10,u11,u12,u13,u14,u15,u16,u17,u18,u19,u20,u21,u22,u23,u24,u25,u26,u27,u28,u29,u30,u31,u32,u33,u34,u35,u36,u37,u38,u39,u40],defers:=[] }
theorem var_chg {w w':World} {X:Nat->Prop} (B:zC X w w') {n:String} {g:Nat} (E:Tryz.prog.globalNamed n=some g) (D:¬ X g) {cs:Array Value} (h:w.var? Tryz.prog n=some cs):w'.var? Tryz.prog n=some cs:=by
 unfold World.var? at h⊢;rw [E] at h⊢;simp only [Option.bind_some] at h⊢
 split at h
 ·rename_i d
  rw [B.block g (CL d) D,d];exact h
 ·cases h
theorem atoi_ok {a:List UInt8} {v:Int} (w:World) (h:Lib.atoiAll a=.ok v) (d:a.length<=281474976710656):Calls Tryz.prog 235 #[.string ⟨a.toArray⟩] w fun e w'=>e=.returned (.tuple #[.int .i64 v,.nilIface])/\za w w':=by
 refine (Any.strconv_Atoi_ok sAtoi ⟨a.toArray⟩ (by simp [ByteArray.size];omega) v h w).mono ?_;rintro e w' ⟨rfl,rfl | ⟨t,rfl⟩⟩
 ·exact ⟨rfl,za.refl _⟩
 ·exact ⟨rfl,Lib.bytesWorld_below _ _ _⟩
theorem atoi_err {a:List UInt8} (w:World) (E:zq w) (h:∀v,Lib.atoiAll a≠.ok v) (D:a.length<=281474976710656):Calls Tryz.prog 235 #[.string ⟨a.toArray⟩] w fun e w'=>∃n N,e=.returned (.tuple #[.int .i64 n,.iface 282 (.pointer (some ⟨N,0,none⟩))])/\za w w':=by
 rcases d:Lib.atoiAll a with v | _ | _
 ·exact absurd d (h v)
 ·obtain ⟨tp,p,hp⟩:=E.syn;refine (Any.strconv_Atoi_syntax_var sAtoi ⟨a.toArray⟩ (by simpa [ByteArray.size] using D) d tp p w hp).mono ?_;rintro e w' ⟨N,rfl,-,-,B⟩;exact ⟨_,_,rfl,B⟩
 ·obtain ⟨tp,p,hp⟩:=E.rng;refine (Any.strconv_Atoi_range_var sAtoi ⟨a.toArray⟩ (by simpa [ByteArray.size] using D) d tp p w hp).mono ?_;rintro e w' ⟨N,rfl,-,-,B⟩;exact ⟨_,_,rfl,B⟩
def isVar (g : Nat) : Prop := ∃ n, (n = "internal/strconv.uint64pow10" ∨ n = "strconv.ErrSyntax" ∨ n = "strconv.ErrRange") ∧ Tryz.prog.globalNamed n = some g
theorem DB {w w':World} {X:Nat->Prop} (h:zq w) (hC:zC X w w') (hX:∀g,X g->¬ isVar g):zq w':=by
 have f : ∀ n, (n = "internal/strconv.uint64pow10" ∨ n = "strconv.ErrSyntax" ∨ n = "strconv.ErrRange") → ∀ cs, w.var? Tryz.prog n = some cs → w'.var? Tryz.prog n = some cs := fun n hn cs h => by
  cases hg:Tryz.prog.globalNamed n with
  | none=>unfold World.var? at h;rw [hg] at h;cases h
  | some g=>exact var_chg hC hg (fun hx=>hX g hx ⟨n,hn,hg⟩) h
 exact ⟨f _ (.inl rfl) _ h.tab,h.syn.imp fun _ ⟨p,h⟩=>⟨p,f _ (.inr (.inl rfl)) _ h⟩,h.rng.imp fun _ ⟨p,h⟩=>⟨p,f _ (.inr (.inr rfl)) _ h⟩⟩
theorem var_ne {w:World} (h:zq w) (B:zl w r 216 #[u,v]):∀g,g=r->¬ isVar g:=by
 rintro g rfl ⟨n,E,D⟩
 have f:∀cs,w.var? Tryz.prog n=some cs->cs=#[u,v]:=fun cs h=>by
  unfold World.var? at h;rw [D] at h;have d:w.heap[g]?=some (.cells #[u,v] 216 (0,0)):=B;simp only [Option.bind_some,d] at h;injection h with h;exact h.symm
 rcases E with rfl | rfl | rfl
 ·have:=congrArg Array.size (f _ h.tab);simp [Lib.pow10Tab] at this
 ·obtain ⟨tp,p,h⟩:=h.syn;have:=congrArg Array.size (f _ h);simp at this
 ·obtain ⟨tp,p,h⟩:=h.rng;have:=congrArg Array.size (f _ h);simp at this
theorem number_calls {s:List UInt8×Bool} (c:UInt8) (w:World) (hv:zq w) (h:RdAt w r s) (hl:s.1.length<=281474976710656):Calls Tryz.prog 218 #[.pointer (some ⟨r,0,none⟩),.string ⟨#[c]⟩] w (NumPost r (Bm c s) w):=by
 have HB:=zh (DC w h);have HR:=zh h;have HV:=zh hv;obtain ⟨l,bad⟩:=s;have c0:=h.cell (k:=0) rfl;have hf:∀k,w.frozen? ⟨r,k,none⟩=false:=fun k=>h.frozen k
 dsimp only at HB HR c0 hl;clear h hv
 go_enter Tryz.func218,Tryz.ntmps218
 go_wp2_with fail
 refine wp_scope_jumps 0 (fun a' w'=>NumFr r a'/\Hid (Bm c (l,bad)=none)/\Hid (zC (·=r) w w'/\∃u v,zl w' r 216 #[u,v])) (fun _ _=>0) rfl ?_ ?_
 ·go_wp2_with fail
  refine HB.out.mono ?_;rintro e w1 ⟨rfl,rfl⟩
  cases bad with
  | true=>
   go_wp2_with fail
   go_step3
   exact ⟨rfl,⟨_,_,_,_,_,_,_,_,_,_,_,_,_,_,_,_,_,_,_,_,_,_,_,_,_,_,_,_,_,_,_,_,_,_,_,_,_,_,_,_,rfl⟩,rfl,zC.refl _ _,_,_,HR.out⟩
  | false=>
   cases hc:BG c l with
   | none=>
    have J:Hid (Bm c (l,false)=none):=by (show Bm c (l,false)=none);unfold Bm numP;rw [hc];rfl
    have HC:=zh (cut_no w hc);clear hc
    go_wp2_with fail
    refine HC.out.mono ?_;rintro e w2 ⟨rfl,rfl⟩
    go_wp2_with fail
    go_step3
    exact ⟨rfl,⟨_,_,_,_,_,_,_,_,_,_,_,_,_,_,_,_,_,_,_,_,_,_,_,_,_,_,_,_,_,_,_,_,_,_,_,_,_,_,_,_,rfl⟩,J,BC (X:=(·=r)) (zC.refl _ _) r 0 _ rfl,_,_,HR.out.set (k:=0) _⟩
   | some p=>
    obtain ⟨a,b⟩:=p;have HC:=zh (cut_yes w hc (by omega));have b7:a.length<=l.length:=by have:=(BN hc).2;rw [this];simp
    have J:Hid (Bm c (l,false)=match Lib.atoiAll a with | .ok v=>if Lib.itoa v=a then some (v,b) else none | _=>none):=by
     (show Bm c (l,false)=_);unfold Bm numP;rw [hc];rfl
    clear hc
    go_wp2_with fail
    refine HC.out.mono ?_;rintro e w2 ⟨rfl,n2,rfl⟩;have G:Hid (zC (·=r) w ((w.drewN n2).setCell ⟨r,0,none⟩ (.string ⟨b.toArray⟩))):=BC (X:=(·=r)) (chg_drew w n2) r 0 _ rfl;have K:Hid (RdAt ((w.drewN n2).setCell ⟨r,0,none⟩ (.string ⟨b.toArray⟩)) r (b,false)):=zl.set (k:=0) (show zl (w.drewN n2) r 216 _ from HR.out) (.string ⟨b.toArray⟩);have V:=zh (DB HV.out G.out (var_ne HV.out HR.out));generalize b0:(w.drewN n2).setCell ⟨r,0,none⟩ (.string ⟨b.toArray⟩)=w3 at G K V
    go_wp2_with fail
    clear b0 HB c0 HC hf HR;by_cases M:∃v,Lib.atoiAll a=.ok v
    ·obtain ⟨v,hv⟩:=M;rw [hv] at J;have a5:=Lib.atoiAll_bounds hv;have E:=atoi_ok w3 hv (by omega);clear hv;refine E.mono ?_;rintro e w4 ⟨rfl,d⟩;have Q:=zh (itoa_calls w4 (V.out.ext d) ⟨a5.1,a5.2⟩);have I:=zh d;by_cases hs:Lib.itoa v=a
     ·have D:Hid (Bm c (l,false)=some (v,b)):=by (show _=_);rw [J.out];simp [hs]
      rw [hs] at Q;clear E d hs J
      go_wp2_with fail
      refine Q.out.mono ?_;rintro e w5 ⟨rfl,B⟩;have O:Hid (zC (·=r) w w5):=(G.out.ext_r I.out).ext_r B;have U:Hid (RdAt w5 r (b,false)):=(K.out.ext I.out).ext B;clear B
      go_wp2_with fail
      simp only [Exit.jump]
      go_ret2
      exact ⟨O.out,(fun v' b' h=>by rw [D.out] at h;injection h with h;injection h with h1 h2;subst h1 h2;exact ⟨rfl,U.out⟩),(fun h=>by rw [D.out] at h;cases h)⟩
     ·have D:Hid (Bm c (l,false)=none):=by (show _=_);rw [J.out];simp [hs]
      have b8:(Lib.itoa v==a)=false:=by simp [hs]
      clear E d hs J
      go_wp2_with fail
      refine Q.out.mono ?_;rintro e w5 ⟨rfl,B⟩;have O:Hid (zC (·=r) w w5):=(G.out.ext_r I.out).ext_r B;have U:Hid (RdAt w5 r (b,false)):=(K.out.ext I.out).ext B;clear B
      go_wp2_with fail
      go_step3
      exact ⟨rfl,⟨_,_,_,_,_,_,_,_,_,_,_,_,_,_,_,_,_,_,_,_,_,_,_,_,_,_,_,_,_,_,_,_,_,_,_,_,_,_,_,_,rfl⟩,D,O.out,_,_,U.out⟩
    ·have D:Hid (Bm c (l,false)=none):=by
      (show _=_);rw [J.out]
      cases ha:Lib.atoiAll a with
      | ok v=>exact absurd ⟨v,ha⟩ M
      | _=>rfl
     have E:=atoi_err w3 V.out (fun v h=>M ⟨v,h⟩) (by omega);clear M J;refine E.mono ?_;rintro e w4 ⟨n,N,rfl,d⟩;have a7:Hid (zC (·=r) w w4):=G.out.ext_r d;have a8:Hid (RdAt w4 r (b,false)):=K.out.ext d;clear E d
     go_wp2_with fail
     go_step3
     exact ⟨rfl,⟨_,_,_,_,_,_,_,_,_,_,_,_,_,_,_,_,_,_,_,_,_,_,_,_,_,_,_,_,_,_,_,_,_,_,_,_,_,_,_,_,rfl⟩,D,a7.out,_,_,a8.out⟩
 ·rintro a' w' ⟨⟨u1,u2,u3,u4,u5,u6,u7,u8,u9,u10,u11,u12,u13,u14,u15,u16,u17,u18,u19,u20,u21,u22,u23,u24,u25,u26,u27,u28,u29,u30,u31,u32,u33,u34,u35,u36,u37,u38,u39,u40,rfl⟩,hn,hw⟩;obtain ⟨hC,u,v,hb⟩:=hw.out;have HF:=zh (BY w' hb);have HC:=zh hC;clear hC hb hw
  go_wp2_with fail
  refine HF.out.mono ?_;rintro e w1 ⟨rfl,a9,hr⟩
  go_wp2_with fail
  simp only [Exit.jump]
  go_ret2
  exact ⟨HC.out.tr a9,(fun v b h=>by rw [hn.out] at h;cases h),fun _=>⟨rfl,hr⟩⟩
end
section
open Go.RowKit
def TasksN (w:World) (ok:Nat->Prop) (v:Value) (l:List (List Int×List Int)) (ns:List ByteArray):Prop:=
 ns.length=l.length/\∃vs,Bv w ok 3 v l.length vs/\∀(i:Nat) x s,l[i]?=some x->ns[i]?=some s->∃u1 u2,vs[i*3]?=some (.string s)/\vs[i*3+1]?=some u1/\vs[i*3+2]?=some u2/\zk w ok u1 x.1/\zk w ok u2 x.2
def Bt (w:World) (ok:Nat->Prop) (v:Value) (m:MZ) (ns:List ByteArray):Prop:=
 ∃f u t,v=.agg #[.int .i64 m.w,.int .i64 m.h,.int .i64 m.l,f,u,t]/\Bw w ok f m.free/\Be w ok u m.up/\TasksN w ok t m.tasks ns
theorem TasksN.tasks {w:World} {l:List (List Int×List Int)} (h:TasksN w ok v l ns):BR w ok v l:=by
 obtain ⟨E,vs,B,he⟩:=h;refine ⟨vs,B,fun i x d=>?_⟩;obtain ⟨D,-⟩:=ES.1 d;obtain ⟨u1,u2,h0,h1,h2,i1,i2⟩:=he i x _ d (DW (by omega));exact ⟨_,u1,u2,h0,h1,h2,i1,i2⟩
theorem Bt.maze {w:World} {m:MZ} (h:Bt w ok v m ns):zY w ok v m:=by
 obtain ⟨f,u,t,rfl,h1,h2,h3⟩:=h;exact ⟨f,u,t,rfl,h1,h2,h3.tasks⟩
theorem BR.nets {w:World} {l:List (List Int×List Int)} (h:BR w ok v l):∃ns,TasksN w ok v l ns:=by
 obtain ⟨vs,E,he⟩:=h;refine ⟨(List.range l.length).map fun i=>match vs[i*3]? with | some (Value.string s)=>s | _=>(⟨#[]⟩:ByteArray),by simp,vs,E,fun i x s B d=>?_⟩;obtain ⟨s',u1,u2,h0,h1,h2,i1,i2⟩:=he i x B;rw [EH] at d;obtain ⟨D,-⟩:=ES.1 B;rw [List.getElem?_range D] at d;simp only [Option.map_some,h0] at d;injection d with d;subst d;exact ⟨u1,u2,h0,h1,h2,i1,i2⟩
theorem zY.nets {w:World} {ok:Nat->Prop} {v:Value} {m:MZ} (h:zY w ok v m):∃ns,Bt w ok v m ns:=by
 obtain ⟨f,u,t,rfl,h1,h2,h3⟩:=h;obtain ⟨ns,d⟩:=h3.nets;exact ⟨ns,f,u,t,rfl,h1,h2,d⟩
theorem TasksN.below {w w':World} {ok:Nat->Prop} {v:Value} {l:List (List Int×List Int)} {ns:List ByteArray} (h:TasksN w ok v l ns) (d:Below w.heap.size w w'):TasksN w' ok v l ns:=by
 obtain ⟨B,vs,D,he⟩:=h;refine ⟨B,vs,D.below d,fun i x s G E=>?_⟩;obtain ⟨u1,u2,h0,h1,h2,i1,i2⟩:=he i x s G E;exact ⟨u1,u2,h0,h1,h2,i1.below d,i2.below d⟩
theorem Bt.keepW {w w':World} {ok':Nat->Prop} {m:MZ} (h:Bt w ok v m ns) (d:Ar ok w w') (B:∀b,ok b->ok' b):Bt w' ok' v m ns:=by
 obtain ⟨f,u,t,rfl,h1,h2,D,vs,E,he⟩:=h;refine ⟨f,u,t,rfl,(h1.keep d).weaken B,(h2.keep d).weaken B,D,vs,(E.keep d).weaken B,fun i x s I G=>?_⟩;obtain ⟨u1,u2,q0,q1,q2,i1,i2⟩:=he i x s I G;exact ⟨u1,u2,q0,q1,q2,(i1.keep d).weaken B,(i2.keep d).weaken B⟩
theorem Bt.below {w w':World} {m:MZ} (h:Bt w ok v m ns) (d:Below w.heap.size w w'):Bt w' ok v m ns:=h.keepW (Ar.of_below d) (fun _ h=>h)
abbrev NetS:={s:ByteArray // s.size<=1}
end
section
open Go.RowKit
attribute [local go_sem ↓] Go.wp_at_zero Go.wp_at_succ
theorem Tryz.infoPst:(Tryz.prog.info? 198).map (fun i=>(i.zero,i.size,i.bytes))=some (some (.pointer none),1,8):=by kernel_rfl
structure SR (w wr:World) (X Y:Nat->Prop) (g gr cap:Nat) (m:MZ) (s:RS) (pt:List Nat) (k:Nat) (b:Int):Prop where
 rt:AC wr X Y g gr cap m ⟨s.ch.take k,s.done,s.steps+1⟩ pt
 chg:zC X w wr
 se:srch m s.ch k b=stepC m s.ch
def StepPost (w:World) (X Y:Nat->Prop) (g:Nat) (m:MZ) (s:RS) (e:Ending) (w':World):Prop:=
 e=.returned (.tuple #[])/\∃gr' cap' ptrs',AC w' X Y g gr' cap' m (s.one m) ptrs'/\zC X w w'
theorem no_step {m:MZ} {ch:List Int} (h:∀n∈l.take i,¬ (b<n/\Az m (ch++[n])=true)) (d:i<l.length) (h1:¬ (b<l[i]/\Az m (ch++[l[i]])=true)):∀n∈l.take (i+1),¬ (b<n/\Az m (ch++[n])=true):=by
 intro n B;rcases (zv d n).1 B with h2 | rfl
 ·exact h n h2
 ·exact h1
theorem aft_of {m:MZ} {ch:List Int} {n:Int} (B:l=Ba m ch) (d:i<l.length) (D:n=l[i]) (h:∀n∈l.take i,¬ (b<n/\Az m (ch++[n])=true)) (h1:b<n) (h2:Az m (ch++[n])=true):aft m ch b=some n:=by
 subst B D;exact aft_at d h h1 h2
theorem push_ok {w w3 w4:World} {X Y:Nat->Prop} {g gr cap:Nat} {m:MZ} {s:RS} {pt:List Nat} {c:List Int} (D:StC w4 (fun b=>(okR X Y g gr b/\b<w3.heap.size)\/w3.heap.size<=b) q m c) (E:za w w3) (B:AC w X Y g gr cap m s pt) (d:∀b,w.heap.size<=b->X b):StC w4 (okR X Y g gr) q m c:=
 D.weaken fun b hb=>by
  rcases hb with hb | hb
  ·exact hb.1
  ·have h1:g<w.heap.size:=zc B.blk;have h2:gr<w.heap.size:=(B.row.1.lt gr rfl).2;have h3:=E.size;exact .inl ⟨d b (by omega),by omega,by omega⟩
theorem stepX_calls {X Y:Nat->Prop} {g gr cap:Nat} {m:MZ} {s:RS} {ptrs:List Nat} (w:World) (h:AC w X Y g gr cap m s ptrs) (gd:AG m) (hl:Lens m) (hc:zK m s.ch) (i9:0<=s.steps) (j1:s.steps<=4000000000000000000)
  (e5:∀b,w.heap.size<=b->X b) (e7:∀b,Y b->b<w.heap.size):
  Calls Tryz.prog 155 #[.pointer (some ⟨g,0,none⟩)] w (StepPost w X Y g m s):=by
 obtain ⟨ch,dn,st⟩:=s;dsimp only at i9 j1 hc;have H:=zh h;have c0:w.cell? ⟨g,2,none⟩=some (.int .i64 st):=h.blk.cell (k:=2) rfl;have hf:=fun k=>h.blk.frozen k
 have GD:=zh gd;have HL:=zh hl;have HC:=zh hc;have e3:=zh e5;have h6:=zh e7;have j8:=hc.len300 gd;clear h gd hl hc e5 e7
 have e2:Hid (SR w (w.setCell ⟨g,2,none⟩ (.int .i64 (st+1))) X Y g gr cap m ⟨ch,dn,st⟩ ptrs ch.length (-1)):=by
  refine ⟨?_,chg_setg w H.out.xg 2 _,srch_top m ch⟩;have h1:=H.out.stepsTo (st+1);dsimp only at h1⊢;rw [Ej];exact h1
 obtain ⟨i0,hi,f9,g0,g1⟩:=info_parts Tryz.infoPst;have IF:=zh hi;have IZ0:=zh f9;have IZ1:=zh g0;have IZ2:=zh g1;clear hi f9 g0 g1
 go_enter Tryz.func155,Tryz.ntmps155
 go_wp2_with fail
 go_step3
 go_wp2_with fail
 go_step3
 go_wp2_with fail
 clear c0 hf
 go_loopg [2] ch.length (fun gk v wr=>∃b pt,v=.int .i64 b/\gk<=ch.length/\Hid (SR w wr X Y g gr cap m ⟨ch,dn,st⟩ pt gk b))
 case atStart=>exact ⟨-1,ptrs,rfl,DY _,e2⟩
 clear e2
 case round=>
  obtain ⟨b,pt,rfl,hk,hS⟩:=hrel;obtain ⟨wo,rfl⟩:∃wo:World,wo=wr:=⟨_,rfl⟩;have d:=hS.out.rt;obtain ⟨p,hp,b0,i2⟩:=d.row.last;have f4:(ch.take gk).length=gk:=by rw [EQ];omega
  have b6:=zh (last_c (w':=wo) d hp (by dsimp only;rw [f4];omega));have a6:=zh b0;dsimp only at a6;clear d hp b0 i2
  go_wp2_with fail
  refine b6.out.mono ?_;rintro e w1 ⟨rfl,a9⟩;have d4:za wo w1:=a9.below _;clear a9
  go_wp2_with fail
  refine (candidates_c _ (a6.out.ext d4) GD.out HL.out (HC.out.take gk)).mono ?_;rintro e w2 ⟨v2,rfl,a7⟩;obtain ⟨A2,c2,rfl,c0⟩:=a7.slice;have j2:za wo w2:=d4.trans a7.ext;have i8:(Ba m (ch.take gk)).length<=400000000000:=cand_len HL.out _;have d8:=zh a7;clear a7 d4;obtain ⟨l,c6⟩:=Fd (Ba m (ch.take gk));rw [<-c6] at d8 c0 i8⊢;have b7:=zh c6;clear c6
  go_wp2_with fail
  go_loopg [19] l.length (fun gi v wz=>∃i:Nat,v=.int .i64 i/\i<=l.length/\gi=l.length - i/\Hid (za w2 wz/\∀n∈l.take i,¬ (b<n/\Az m (ch.take gk++[n])=true)))
  case atStart=>exact ⟨0,rfl,Em _,rfl,za.refl _,by simp⟩
  case round=>
   obtain ⟨i,rfl,hi,rfl,hZ⟩:=hrel;have hz:=hZ.out.1;have K:za wo wr:=j2.trans hz;rcases Ev i l.length with V | hge
   ·obtain ⟨bl,rfl,_,J⟩:=own_at d8.out.own V;obtain ⟨n,hn⟩:=Fd (l[i]);rw [<-hn] at J;have q0:=za.rule J
    have c7:Hid (n∈Ba m (ch.take gk)):=by
     show n∈_;rw [<-b7.out,hn];exact DZ _
    have HN:=zh hn;clear J hn;by_cases a0:n<=b
    ·have hd:decide (n<=b)=true:=Eb a0;have b8:=zh a0;clear a0
     go_wp2_with fail
     go_roundg (l.length - (i+1))
     case measure=>omega
     case rel=>exact ⟨i+1,by go_num,V,rfl,hZ.out.1,no_step hZ.out.2 V (fun h=>by have:=b8.out;rw [<-HN.out] at h;omega)⟩
    ·have hd:decide (n<=b)=false:=Ec a0;have b8:=zh a0;clear a0
     go_wp2_with fail
     refine (with_c _ (a6.out.ext K) GD.out HL.out (HC.out.take gk) c7.out).mono ?_;rintro e w3 ⟨q,rfl,b1,hq⟩;have HQ:=zh hq;clear hq
     go_wp2_with fail
     refine (open_c w3 HQ.out GD.out HL.out (.snoc (HC.out.take gk) c7.out)).mono ?_;rintro e w4 ⟨rfl,a4⟩;obtain ⟨ob,c8⟩:=Fd (Az m (ch.take gk++[n]));rw [<-c8];have e0:=zh c8;clear c8
     cases ob with
     | false=>
      have j3:za w2 w4:=hz.trans (b1.trans a4);clear b1 a4
      go_wp2_with fail
      go_roundg (l.length - (i+1))
      case measure=>omega
      case rel=>exact ⟨i+1,by go_num,V,rfl,j3,no_step hZ.out.2 V (fun h=>by rw [<-HN.out,<-e0.out] at h;exact absurd h.2 (by simp))⟩
     | true=>
      have Q:za wo w4:=K.trans (b1.trans a4);have h5:=zh (push_ok (HQ.out.ext a4) K hS.out.rt (fun b hb=>e3.out b (Ea hS.out.chg.size hb)));have d:=hS.out.rt.ext Q;have U:w4.cell? ⟨g,0,none⟩=some (.slice (some ⟨gr,0,none⟩) pt.length cap):=d.blk.cell (k:=0) rfl;have hf:=fun k=>d.blk.frozen k
      have B:=zh d;clear d;have D:pt.length=gk+1:=by have:=B.out.row.2.1;dsimp only at this;omega
      have e1:=zh D;have j9:pt.length+1<=1000:=by omega
      clear b1 a4 hz K D
      go_wp2_with (at_builtin;refine wpList_append_own_at _ rfl _ _ 200 rfl 0 198 i0 (.pointer none) 1 8 Tryz.underlying200 IF.out IZ0.out IZ1.out IZ2.out rfl (by decide) (.slice (some ⟨gr,0,none⟩) pt.length cap) pt.length _ rfl (B.out.row.1.alloc _) ⟨w4.heap.size,0,none⟩ 1 1 [ptrV q] rfl rfl (cell_one_new _ _ _) (by simp [ptrV,Value.oneCell']) (by unfold maxLen;omega) (by omega) (Em _) ?_)
      intro v' w5 b3 hg _ f7;have e4:∀b,w4.heap.size<=b->X b:=fun b hb=>e3.out b (Ea hS.out.chg.size (Ea Q.size hb))
      have e6:∀b,Y b->b<w4.heap.size:=fun b hb=>EA (h6.out b hb) (Ea hS.out.chg.size Q.size)
      obtain ⟨gr',cap',rfl,b4,b2⟩:=B.out.push h5.out e4 e6 b3 hg f7;have I:w5.heap[g]?=w4.heap[g]?:=(hg.block g (by have:=zc B.out.blk;simp;omega) (fun e=>B.out.ne (by injection e))).trans (Er _ _ _ (zc B.out.blk));have h8:w5.cell? ⟨g,0,none⟩=some (.slice (some ⟨gr,0,none⟩) pt.length cap):=(En I).trans U;have i3:w5.frozen? ⟨g,0,none⟩=false:=(Ex (a:=⟨g,0,none⟩) I).trans (hf 0);have g8:=zh ((hS.out.chg.ext_r Q).tr b2);have M:=zh b4;clear b3 hg f7 b4 b2 U hf I e4 e6
      go_wp2_with fail
      clear h8 i3;generalize w5.setCell ⟨g,0,none⟩ (.slice (some ⟨gr',0,none⟩) (pt.length+1) cap')=w6 at*;have f5:(ch.take gk++[n]).length=pt.length:=by have:=e1.out;simp;omega
      have c9:(pt++[q])[(ch.take gk++[n]).length]?=some q:=by rw [f5];simp
      have b5:StC w6 (okR X Y g gr') q m (ch.take gk++[n]):=by
       have:=M.out.row.2.2 _ q c9
       rwa [Ej] at this
      refine (last_c (w':=w6) M.out c9 (by show (ch.take gk++[n]).length<=1000;omega)).mono ?_;rintro e w7 ⟨rfl,f1⟩;have G:za w6 w7:=f1.below _;clear f1 f5 c9
      go_wp2_with fail
      refine (Dr w7 (b5.ext G) GD.out HL.out (.snoc (HC.out.take gk) c7.out)).mono ?_;rintro e w8 ⟨rfl,f2⟩;have a5:za w6 w8:=G.trans (f2.below _);clear f2 G b5;have O:=M.out.ext a5;have h9:w8.cell? ⟨g,1,none⟩=some (.bool dn):=O.blk.cell (k:=1) rfl;have i4:w8.frozen? ⟨g,1,none⟩=false:=O.blk.frozen 1
      have E:StepPost w X Y g m ⟨ch,dn,st⟩ (.returned (.tuple #[])) (w8.setCell ⟨g,1,none⟩ (.bool (zV m (ch.take gk++[n])))):=by
       refine ⟨rfl,gr',cap',pt++[q],?_,(g8.out.ext_r a5).tr (chg_setg _ M.out.xg 1 _)⟩;have h1:=O.done (zV m (ch.take gk++[n]))
       have h2:stepC m ch=some (ch.take gk++[n]):=by
        have h3:=hS.out.se;dsimp only at h3;rw [<-h3];unfold srch;rw [aft_of b7.out V HN.out hZ.out.2 (by have:=b8.out;omega) e0.out.symm]
       show AC _ X Y g gr' cap' m (RS.one m ⟨ch,dn,st⟩) _;unfold RS.one;dsimp only;rw [h2];exact h1
      have a2:=zh E;clear E O
      go_wp2_with fail
      try rw [Exit.noGoto_ret]
      refine ER (results_none rfl _ _ _) rfl ?_;exact a2.out
   ·have i7:i=l.length:=by omega
    subst i7;have d5:Hid (aft m (ch.take gk) b=none):=aft_none b7.out (by have:=hZ.out.2;rwa [Ej] at this);have d:=hS.out.rt.ext K;have U:wr.cell? ⟨g,0,none⟩=some (.slice (some ⟨gr,0,none⟩) pt.length cap):=d.blk.cell (k:=0) rfl;have h7:wr.cell? ⟨g,1,none⟩=some (.bool dn):=d.blk.cell (k:=1) rfl;have hf:=fun k=>d.blk.frozen k
    have D:pt.length=gk+1:=by have:=d.row.2.1;dsimp only at this;omega
    have j6:=BE d.row.1;have B:=zh d;clear d;have e1:=zh D;have d6:=zh (hS.out.chg.ext_r K);clear hZ hz
    cases gk with
    | zero=>
     have a9:((pt.length:Int)==1)=true:=by rw [beq_iff_eq];omega
     have E:StepPost w X Y g m ⟨ch,dn,st⟩ (.returned (.tuple #[])) (wr.setCell ⟨g,1,none⟩ (.bool true)):=by
      refine ⟨rfl,gr,cap,pt,?_,d6.out.tr (chg_setg _ B.out.xg 1 _)⟩;have h1:=B.out.done true
      have h2:stepC m ch=none:=by
       have h3:=hS.out.se;dsimp only at h3;rw [<-h3];exact srch_zero d5.out
      show AC _ X Y g gr cap m (RS.one m ⟨ch,dn,st⟩) _;unfold RS.one;dsimp only;rw [h2];exact h1
     have a2:=zh E;clear E D
     go_wp2_with fail
     try rw [Exit.noGoto_ret]
     refine ER (results_none rfl _ _ _) rfl ?_;exact a2.out
    | succ j=>
     have a9:((pt.length:Int)==1)=false:=by rw [El];omega
     have b0:=a6.out.ext K;obtain ⟨us,f,u,t,vc,vp,gu,_,h2⟩:=b0;obtain ⟨_,_,_,_,_,_,r6,_,_⟩:=h2.rules;have f0:=h2.ch;clear h2;obtain ⟨Ac,cc,rfl,i1,f6⟩:=f0;obtain ⟨bc,oc,rfl,_,a8⟩:=AH f6 (k:=j) (by omega) (by omega);rw [List.getElem_take] at a8;obtain ⟨N,hN⟩:=Fd ((ch.take (j+1)).length);rw [<-hN] at i1 r6;rw [f4] at hN;obtain ⟨cj,a3⟩:=Fd (ch[j]);rw [<-a3] at a8;have g9:=zh a3;have rj:=za.rule a8;have l0:(0:Int)<=(j:Int):=by omega
     have l1:(j:Int)<(N:Int):=by omega
     have l2:IntKind.i64.wrap ((N:Int) - 1)=(j:Int):=by rw [Eu];omega
     have k8:IntKind.i64.wrap ((pt.length:Int) - 1)=(N:Int):=by rw [Eu];omega
     have j5:wrap64 ((pt.length:Int) - 1)=(N:Int):=by rw [IntWalk.wrap64_in _ (by omega)];omega
     have k5:(0:Int)<=(N:Int):=by omega
     have k6:(N:Int)<=(pt.length:Int):=by omega
     have k7:(N:Int)<=(cap:Int):=by omega
     have l3:=za.refl wr;have d9:=zh hN;clear a8 f6 a3 D hN
     go_wp2_with fail
     go_quiet (fail)
     generalize f8:wr.drewN nq=w7;have G:za wr w7:=by rw [<-f8];exact (za.refl wr).drewN _
     have e9:w7.cell? ⟨g,0,none⟩=some (.slice (some ⟨gr,0,none⟩) pt.length cap):=G.cell U;have f3:w7.frozen? ⟨g,0,none⟩=false:=(Below.frozen G (p:=⟨g,0,none⟩) (zn U)).trans (hf 0);clear f8 U hf h7
     go_wp2_with fail
     go_still_tail 14,(by kernel_rfl)
     change wpList _ _ _ _ _ w7.drew;have a5:za wr w7.drew:=G.drew;have h9:w7.drew.cell? ⟨g,0,none⟩=some (.slice (some ⟨gr,0,none⟩) pt.length cap):=e9;have i4:w7.drew.frozen? ⟨g,0,none⟩=false:=f3;generalize w7.drew=w8 at*;clear e9 f3 G
     go_wp2_with fail
     go_roundg j
     case measure=>omega
     case rel=>
      refine ⟨cj,pt.take (j+1),rfl,by omega,?_,?_,?_⟩
      ·have h1:=(B.out.ext a5).pop (k:=j) (by show j<=(ch.take (j+1)).length;omega);dsimp only at h1;rw [List.take_take,Nat.min_eq_left (by omega),<-d9.out] at h1;rw [<-d9.out];exact h1
      ·exact (d6.out.ext_r a5).tr (chg_setg _ B.out.xg 0 _)
      ·have h3:=hS.out.se;dsimp only at h3⊢;rw [<-h3,srch_back d5.out,g9.out,DX,DW (by omega),ED]
theorem one_isCh {m:MZ} {s:RS} (h:zK m s.ch):zK m (s.one m).ch/\(s.one m).steps=s.steps+1:=by
 unfold RS.one
 split
 ·rename_i c d;exact ⟨(stepC_some h d).1,rfl⟩
 ·exact ⟨.nil,rfl⟩
theorem run_isCh {m:MZ}:∀(n:Nat) {s:RS},zK m s.ch->zK m (RS.run m n s).ch
 | 0,s,h=>h
 | n+1,s,h=>by
  unfold RS.run
  split
  ·exact h
  ·exact run_isCh n (one_isCh h).1
theorem run_steps {m:MZ}:∀(n:Nat) {s:RS},zK m s.ch->s.steps<=(RS.run m n s).steps/\(RS.run m n s).steps<=s.steps+n
 | 0,s,h=>⟨Int.le_refl _,by simp [RS.run]⟩
 | n+1,s,h=>by
  unfold RS.run
  split
  ·exact ⟨Int.le_refl _,by omega⟩
  ·have h1:=one_isCh h;have h2:=run_steps n h1.1;omega
structure RunR (w wr:World) (X Y:Nat->Prop) (g gr cap:Nat) (m:MZ) (s0:RS) (n:Nat) (s:RS) (pt:List Nat) (k:Nat):Prop where
 rt:AC wr X Y g gr cap m s pt
 chg:zC X w wr
 run:RS.run m k s=RS.run m n s0
 ch:zK m s.ch
 st:0<=s.steps/\(k=0\/s.steps+k<=4000000000000000000)
def RunPost (w:World) (X Y:Nat->Prop) (g:Nat) (m:MZ) (s:RS) (e:Ending) (w':World):Prop:=
 e=.returned (.bool s.done)/\∃gr' cap' ptrs',AC w' X Y g gr' cap' m s ptrs'/\zC X w w'
theorem stepN_calls {X Y:Nat->Prop} {g gr cap:Nat} {m:MZ} {s:RS} {ptrs:List Nat} (n:Nat) (w:World) (h:AC w X Y g gr cap m s ptrs) (gd:AG m) (hl:Lens m) (hc:zK m s.ch) (hn:n<=1000000) (U:0<=s.steps) (a8:n=0\/s.steps<=3000000000000000000)
  (M:∀b,w.heap.size<=b->X b) (O:∀b,Y b->b<w.heap.size):
  Calls Tryz.prog 83 #[.pointer (some ⟨g,0,none⟩),.int .i64 n] w (RunPost w X Y g m (RS.run m n s)):=by
 have H0:Hid (RunR w w X Y g gr cap m s n s ptrs n):=⟨h,zC.refl _ _,rfl,hc,U,by omega⟩;have GD:=zh gd;have HL:=zh hl;have a0:=zh M;have a1:=zh O;have a4:w.cell? ⟨g,0,none⟩=some (.slice (some ⟨gr,0,none⟩) ptrs.length cap):=h.blk.cell (k:=0) rfl;have a7:ptrs.length=s.ch.length+1:=h.row.2.1;have a2:((ptrs.length:Int)==0)=false:=by rw [El];omega
 obtain ⟨R,B⟩:=Fd (RS.run m n s);rw [<-B];have HR:=zh B;clear h gd hl hc M O U a8 a7 B
 go_enter Tryz.func83,Tryz.ntmps83
 go_wp2_with fail
 clear a4 a2
 go_loopg [1] n (fun gk v wr=>∃gr cap s' pt,v=.int .i64 gk/\gk<=n/\Hid (RunR w wr X Y g gr cap m s n s' pt gk))
 case atStart=>exact ⟨gr,cap,s,ptrs,rfl,DY _,H0⟩
 clear H0
 case round=>
  obtain ⟨gr,cap,s',pt,rfl,b6,B⟩:=hrel;have K:=B.out.rt;have Q:wr.cell? ⟨g,1,none⟩=some (.bool s'.done):=K.blk.cell (k:=1) rfl;have J:=zh K;clear K;obtain ⟨d,hd⟩:=Fd s'.done;rw [<-hd] at Q;have V:=zh hd;clear hd
  cases gk with
  | zero=>
   have a6:decide ((0:Int)<((0:Nat):Int))=false:=by simp
   have D:RunPost w X Y g m R (.returned (.bool d)) wr:=by
    have h1:=B.out.run;rw [<-HR.out] at h1;rw [<-h1,V.out];exact ⟨rfl,gr,cap,pt,J.out,B.out.chg⟩
   have E:=zh D;clear D
   go_wp2_with fail
   go_ret;exact E.out
  | succ k=>
   have a6:decide ((0:Int)<((k+1:Nat):Int))=true:=Eb (by omega);have b3:(0:Int)<((k+1:Nat):Int):=by omega
   cases d with
   | true=>
    have D:RunPost w X Y g m R (.returned (.bool true)) wr:=by
     have h1:=B.out.run;rw [RS.run_done V.out.symm,<-HR.out] at h1;rw [<-h1];exact ⟨by rw [<-V.out],gr,cap,pt,J.out,B.out.chg⟩
    have E:=zh D;clear D
    go_wp2_with fail
    go_ret;exact E.out
   | false=>
    go_wp2_with fail
    refine (stepX_calls wr J.out GD.out HL.out B.out.ch B.out.st.1 (by have:=B.out.st.2;omega) (fun b hb=>a0.out b (Ea B.out.chg.size hb)) (fun b hb=>EA (a1.out b hb) B.out.chg.size)).mono ?_;rintro e w5 ⟨rfl,gr',cap',pt',I,G⟩
    have HN:Hid (RunR w w5 X Y g gr' cap' m s n (s'.one m) pt' k):=by
     have h1:=one_isCh B.out.ch;have h2:=B.out.st;have h3:=B.out.run;unfold RS.run at h3;rw [<-V.out,if_neg (by simp)] at h3;exact ⟨I,B.out.chg.tr G,h3.trans (by cases n <;> rfl),h1.1,by omega⟩
    clear I G Q
    go_wp2_with fail
    go_roundg k
    case measure=>omega
    case rel=>exact ⟨gr',cap',_,pt',by go_num,by omega,HN⟩
structure FL (w wr:World) (v:Value) (vs:List Value) (l:List (List Int)):Prop where
 ext:za w wr
 own:OwnL wr w.heap.size v vs
 len:vs.length=l.length
 each:∀(j:Nat) x,l[j]?=some x->∃u,vs[j]?=some u/\zL wr w.heap.size u x
theorem FL.nil (w wr:World) (h:za w wr):FL w wr (.slice none 0 0) [] []:=⟨h,World.ownsRow_nil _ _ _ _,rfl,fun j x h=>by simp at h⟩
theorem FL.more {w w':World} {l:List (List Int)} (h:FL w wr v vs l) (d:za wr w'):FL w w' v vs l:=by
 have B:wr.grownBy w' none:=⟨d.os,d.tape,d.output,d.size,fun i D _=>d.block i D⟩;refine ⟨h.ext.trans d,h.own.kept B (by cases h:v.ownBlock <;> simp),h.len,fun j x E=>?_⟩;obtain ⟨u,I,G⟩:=h.each j x E;exact ⟨u,I,G.kept B (by cases h:u.ownBlock <;> simp)⟩
theorem own_neT {w:World} {B B':Nat} {e e':TypeId} {sz sz' n':Nat} {xs xs':List Value} (h:w.ownsRow B e sz v n xs) (G:w.ownsRow B' e' sz' v' n' xs') (E:e≠e'):v.ownBlock=none\/v.ownBlock≠v'.ownBlock:=by
 rcases h.2 with ⟨rfl,_⟩ | ⟨g,cap,cur,rfl,_,hh,_⟩
 ·left;rfl
 ·right
  rcases G.2 with ⟨rfl,_⟩ | ⟨g',cap',cur',rfl,_,d,_⟩
  ·simp [Value.ownBlock]
  ·intro he;have D:g=g':=by simpa [Value.ownBlock] using he
   subst D;rw [hh] at d;injection d with d;injection d with _ ht;exact E ht
theorem FL.app {w w':World} {l:List (List Int)} {x:List Int} (h:FL w wr v vs l) (M:zL wr w.heap.size u x) (K:w'.ownsRow w.heap.size 23 1 v' (vs.length+1) (vs++[u])) (I:(wr.alloc o).grownBy w' v.ownBlock):FL w w' v' (vs++[u]) (l++[x]):=by
 have J:za wr (wr.alloc o):=(za.refl _).alloc _;have h1:=h.more J;have D:∀{u':Value} {x':List Int},zL wr w.heap.size u' x'->zL w' w.heap.size u' x':=fun d=>(World.ownsRow.alloc d o).kept I (own_neT d h.own (by decide))
 refine ⟨Ao h1.ext I h1.ext.size (fun k D=>(h1.own.lt k D).1),?_,by simp [h.len],fun j y B=>?_⟩
 ·show w'.ownsRow _ _ _ _ (vs++[u]).length _;rw [Eg,Ey];exact K
 ·rcases Ev j l.length with hjl | hjl
  ·rw [Ed hjl] at B;obtain ⟨u',d,G⟩:=h.each j y B;exact ⟨u',by rw [Ed (by rw [h.len];exact hjl)];exact d,D G⟩
  ·have E:j=l.length:=by
    rcases Ev j (l++[x]).length with h1 | h1
    ·simp at h1;omega
    ·rw [Es h1] at B;cases B
   subst E;rw [Ee (DY _)] at B;have O:x=y:=by simpa using B
   subst O;exact ⟨u,by rw [<-h.len,Ee (DY _)];simp,D M⟩
theorem FL.intss {w:World} {l:List (List Int)} (h:FL w wr v vs l):Aa wr (fun b=>w.heap.size<=b) v l:=
 ⟨vs,by rw [<-h.len];exact Bv.of_own h.own,fun j x d=>by
  obtain ⟨u,D,B⟩:=h.each j x d;exact ⟨u,D,Bv.of_own B⟩⟩
def foundL (m:MZ) (ch:List Int):List (List Int):=if zV m ch=true then zW m ch else []
def FoundPost (w:World) (m:MZ) (ch:List Int) (e:Ending) (w':World):Prop:=
 ∃v,e=.returned (.tuple #[v,.bool (zV m ch)])/\za w w'/\Aa w' (fun b=>w.heap.size<=b) v (foundL m ch)
theorem found_c {X Y:Nat->Prop} {g gr cap:Nat} {m:MZ} {s:RS} {ptrs:List Nat} (w:World) (h:AC w X Y g gr cap m s ptrs) (gd:AG m) (hl:Lens m) (hc:zK m s.ch):
  Calls Tryz.prog 98 #[.pointer (some ⟨g,0,none⟩)] w (FoundPost w m s.ch):=by
 obtain ⟨p,hp,b1,d9⟩:=h.row.last;have hn:=hc.len300 gd;have c6:=zh (last_c (w':=w) h hp (by omega));have c8:Hid (∀w2,za w w2->Calls Tryz.prog 147 #[.pointer (some ⟨g,0,none⟩)] w2 fun e w'=>e=.returned (.pointer (some ⟨p,0,none⟩))/\z8 w2 w'):=fun w2 hE=>last_c (w':=w2) (h.ext hE) hp (by omega)
 have f0:w.cell? ⟨g,0,none⟩=some (.slice (some ⟨gr,0,none⟩) ptrs.length cap):=h.blk.cell (k:=0) rfl;have Q:ptrs.length=s.ch.length+1:=h.row.2.1;have d8:((ptrs.length:Int)==0)=false:=by rw [El];omega
 have a1:=zh b1;have GD:=zh gd;have HL:=zh hl;have HC:=zh hc;obtain ⟨i0,hi,b4,b5,b6⟩:=info_parts Tryz.infoInts;have IF:=zh hi;have IZ0:=zh b4;have IZ1:=zh b5;have IZ2:=zh b6;clear hi b4 b5 b6;clear h gd hl hc Q hp d9 b1 hn;obtain ⟨cb,a3⟩:=Fd (zV m s.ch);have B:=zh a3;clear a3
 go_enter Tryz.func98,Tryz.ntmps98
 go_wp2_with fail
 refine c6.out.mono ?_;rintro e w1 ⟨rfl,a4⟩;have a0:za w w1:=a4.below _;clear a4
 go_wp2_with fail
 refine (Dr w1 (a1.out.ext a0) GD.out HL.out HC.out).mono ?_;rintro e w2 ⟨rfl,a5⟩;have K:za w w2:=a0.trans (a5.below _);rw [<-B.out];clear a5 a0 d8
 cases cb with
 | false=>
  have d:FoundPost w m s.ch (.returned (.tuple #[.slice none 0 0,.bool false])) w2:=⟨_,by rw [B.out],K,by unfold foundL;rw [<-B.out];exact Aa.nil _ _⟩;have D:=zh d;clear d
  go_wp2_with fail
  go_ret2
  exact D.out
 | true=>
  go_wp2_with fail
  refine (c8.out w2 K).mono ?_;rintro e w3 ⟨rfl,a6⟩;have e3:za w w3:=K.trans (a6.below _);clear a6 K;obtain ⟨us,f,u,t,vc,vp,gu,_,J⟩:=a1.out;obtain ⟨_,_,_,_,_,_,_,r7,_⟩:=J.rules;have U:=J.ps;clear J;have a9:Hid (∀p∈zW m s.ch,p.length<=1000):=(HC.out.sok GD.out HL.out).pp;have Q:(zW m s.ch).length<=6:=by have:=(HC.out.sok GD.out HL.out).pl;have:=GD.out.tk;omega
  obtain ⟨ps,I⟩:=Fd (zW m s.ch);rw [<-I] at U a9 Q;have d4:=zh I;clear I;have HP:=zh U;obtain ⟨vs,⟨Ap,cp,rfl,f1,b0⟩,a7⟩:=U;have d5:=zh b0;have b9:=zh a7;clear b0 a7;have H0:=zh (FL.nil w w3 e3)
  go_wp2_with fail
  go_loopg [4,29] ps.length (fun gk v vi wr=>∃(i:Nat) (vs:List Value),vi=.int .i64 i/\i<=ps.length/\gk=ps.length - i/\Hid (FL w wr v vs (ps.take i)))
  case atStart=>exact ⟨0,[],rfl,Em _,rfl,H0⟩
  clear H0
  case round=>
   obtain ⟨i,vl,rfl,hi,rfl,hF⟩:=hrel;have b3:=hF.out.ext;rcases Ev i ps.length with G | hge
   ·obtain ⟨bp,op,up,rfl,_,E,b2⟩:=AX d5.out b9.out G G;have q0:=za.rule E;clear E;have a8:=a9.out _ (DZ G);have d6:=zh b2;clear b2
    obtain ⟨As,cs,rfl,f2⟩:∃A c,u4=.slice A vl.length c/\vl.length<=c:=by
     obtain ⟨A,c,e,hc,_⟩:=Bv.of_own hF.out.own;exact ⟨A,c,e,hc⟩
    have V:=hF.out.len;have c7:=zh a8;clear a8;have e8:=zh V;have e7:vl.length<=6:=by rw [V,EQ];omega
    clear V
    go_wp2_with fail
    refine (CK _ (d6.out.below b3) (by have:=c7.out;omega)).mono ?_;rintro e w4 ⟨v4,rfl,hM⟩;have O:=zh (hF.out.more hM.ext);have c9:Hid (zL w4 w.heap.size v4 ps[i]):=World.ownsRow.mono hM.own b3.size;obtain ⟨A4,c4,rfl,_⟩:=hM.slice;have f4:w.heap.size<=w4.heap.size:=O.out.ext.size;clear hM
    go_wp2_with (at_builtin;refine wpList_append_own_at _ rfl _ _ 22 rfl w.heap.size 23 i0 (.slice none 0 0) 1 24 Tryz.underlying22 IF.out IZ0.out IZ1.out IZ2.out rfl (by decide) (.slice As vl.length cs) vl.length _ rfl (O.out.own.alloc _) ⟨w4.heap.size,0,none⟩ 1 1 [.slice A4 ps[i].length c4] rfl rfl (cell_one_new _ _ _) (by simp [Value.oneCell']) (by unfold maxLen;omega) (by omega) (by simp;omega) ?_)
    intro v' w5 M hg _ e2;have d7:=zh (O.out.app c9.out M hg);clear M hg e2
    go_wp2_with fail
    go_roundg (ps.length - (i+1))
    case measure=>omega
    case rel=>exact ⟨i+1,_,by go_num,G,rfl,by rw [Ef G];exact d7⟩
   ·have e1:i=ps.length:=by omega
    subst e1
    have d:FoundPost w m s.ch (.returned (.tuple #[u4,.bool true])) wr:=by
     refine ⟨u4,by rw [B.out],hF.out.ext,?_⟩;unfold foundL;rw [<-B.out,if_pos rfl,<-d4.out];have:=hF.out.intss
     rwa [Ej] at this
    have D:=zh d;clear d
    go_wp2_with fail
    go_ret2
    exact D.out
end
section
open Go.RowKit
def drawV (l:List Int) (k:Nat) (n:Int):Int:=if h:k<l.length then l[k] % n else 0
def drawK (l:List Int) (k:Nat):Nat:=if k<l.length then k+1 else k
theorem draw_calls (gd k:Nat) (n:Int) (w:World) (K:zl w gd 118 #[v,.int .i64 k]) (h:zk w ok v l) (hg:¬ ok gd) (hl:l.length<=9223372036854775807) (hk:k<=l.length) (hn:0<n) (a5:n<=1000000):
  Calls Tryz.prog 72 #[.pointer (some ⟨gd,0,none⟩),.int .i64 n] w fun e w'=>e=.returned (.int .i64 (drawV l k n))/\zl w' gd 118 #[v,.int .i64 (drawK l k)]/\w.grownBy w' (some gd):=by
 obtain ⟨A,c,rfl,hc,hr⟩:=h;have M:=K.cell (k:=0) rfl;have O:=K.cell (k:=1) rfl;have hx:=za.refl w;by_cases D:k<l.length
 ·obtain ⟨b,off,rfl,a7,d⟩:=AH hr D D;have a2:b≠gd:=fun e=>hg (e ▸ a7)
  have U:drawV l k n=l[k] % n:=by unfold drawV;rw [dif_pos D]
  have I:drawK l k=k+1:=by unfold drawK;rw [if_pos D]
  rw [U,I];clear U I hr;obtain ⟨x,V⟩:=Fd (l[k]);rw [<-V] at d⊢;clear V;have hf:=K.frozen 1;have HB:=zh K;clear K;have hd:decide ((l.length:Int)<=(k:Int))=false:=Ec (by omega)
  go_enter Tryz.func72,Tryz.ntmps72
  go_wp2_with fail
  go_quiet (fail)
  generalize Q:w.drewN nq=w1;have a3:z8 w w1:=⟨nq,Q.symm⟩;have G:za w w1:=a3.below _;have hh:w1.heap=w.heap:=by rw [<-Q];rfl
  clear Q M O hf;have E:zl w1 gd 118 #[.slice (some ⟨b,off,none⟩) l.length c,.int .i64 k]:=HB.out.ext G;have M:=E.cell (k:=0) rfl;have O:=E.cell (k:=1) rfl;have hf:=E.frozen 1;have B:=G.cell d;have J:Hid (zl (w1.setCell ⟨gd,1,none⟩ (.int .i64 ((k:Int)+1))) gd 118 #[.slice (some ⟨b,off,none⟩) l.length c,.int .i64 ((k:Int)+1)]):=E.set (k:=1) _;have a0:(w1.setCell ⟨gd,1,none⟩ (.int .i64 ((k:Int)+1))).cell? ⟨b,off+k,none⟩=some (.int .i64 x):=(En (w:=w1) (Eh w1 _ _ b a2)).trans B;have HG:Hid (w.grownBy (w1.setCell ⟨gd,1,none⟩ (.int .i64 ((k:Int)+1))) (some gd)):=⟨G.os,G.tape,G.output,by simp [hh],fun i hi a6=>by rw [Eh w1 _ _ i (fun e=>a6 (by rw [e])),hh]⟩;have a9:=J.out.cell (k:=0) rfl;have b0:=J.out.cell (k:=1) rfl;clear E d;go_upto_region 4 with fail;generalize w1.setCell ⟨gd,1,none⟩ (.int .i64 ((k:Int)+1))=w2 at*;clear M O hf B;have b6:=za.refl w2;have b4:(k:Int)<(l.length:Int):=by omega
  go_quiet ((go_at_call 40;refine (mod_calls x n _ hn a5).mono ?_;rintro e w9 ⟨a4,rfl⟩;exact ⟨a4,⟨_,rfl⟩⟩))
  go_wp2;go_ret;refine ⟨rfl,J.out.ext ((za.refl w2).drewN _),?_⟩;have h:=HG.out;exact ⟨h.os,h.tape,h.output,h.size,h.block⟩
 ·have U:drawV l k n=0:=by unfold drawV;rw [dif_neg D]
  have I:drawK l k=k:=by unfold drawK;rw [if_neg D]
  rw [U,I];clear U I hr;have HB:=zh K;clear K;have hd:decide ((l.length:Int)<=(k:Int))=true:=Eb (by omega)
  go_enter Tryz.func72,Tryz.ntmps72
  go_wp2_with fail
  go_quiet (fail)
  go_wp2;go_ret;exact ⟨rfl,HB.out,⟨rfl,rfl,rfl,DY _,fun _ _ _=>rfl⟩⟩
end
end Go.Proofs.YtjomnbdjajjgfaaGreatDoor
