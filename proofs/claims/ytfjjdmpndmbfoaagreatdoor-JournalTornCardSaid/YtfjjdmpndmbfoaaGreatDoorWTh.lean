import Derived.Test.YtfjjdmpndmbfoaaGreatDoorWTg
import Derived.Maps.AppendAt
import Derived.Deep.LoopGhost
import Derived.StillTailTactics
import Derived.Deep.DeepCutAuto
set_option linter.unusedVariables false
set_option linter.unusedSimpArgs false
set_option maxRecDepth 100000
set_option maxHeartbeats 16000000
namespace Go.Proofs.YtfjjdmpndmbfoaaGreatDoor
variable {b:Int} {ns:List ByteArray} {l:List Int} {vs:List Value} {i k n p q r:Nat} {ok:Nat->Prop} {o:Obj} {c:UInt8} {u v v':Value} {a wr:World}
section
open Go.RowKit
attribute [local go_sem ↓] Go.wp_at_zero Go.wp_at_succ
theorem last_calls {g gr P cap:Nat} (w:World) (d:w.cell? ⟨g,0,none⟩=some (.slice (some ⟨gr,0,none⟩) P cap)) (B:w.cell? ⟨gr,n,none⟩=some (ptrV p)) (E:P=n+1) (D:P<=cap) (K:n<=1000):
  Calls Tryz.prog 40 #[.pointer (some ⟨g,0,none⟩)] w fun e w'=>e=.returned (ptrV p)/\zB w w':=by
 have r0:=zc.rule d;have r1:=zc.rule B;have G:(0:Int)<=(n:Int):=by omega
 have I:(n:Int)<(P:Int):=by omega
 have J:IntKind.i64.wrap ((P:Int) - 1)=(n:Int):=by rw [DZ];omega
 clear d B E;have M:=zc.refl w
 go_enter Tryz.func40,Tryz.ntmps40
 go_wp2_with fail
 go_quiet (fail)
 go_wp2;go_ret;exact ⟨rfl,(zB.refl w).more _⟩
theorem last_c {w w':World} {X Y:Nat->Prop} {g gr cap:Nat} {m:MZ} {s:RS} {ptrs:List Nat} (h:Ai w X Y g gr cap m s ptrs) (hp:ptrs[s.ch.length]?=some p) (D:s.ch.length<=1000):
  Calls Tryz.prog 40 #[.pointer (some ⟨g,0,none⟩)] w fun e w'=>e=.returned (.pointer (some ⟨p,0,none⟩))/\zB w w':=by
 obtain ⟨p',d,_,B⟩:=h.row.last;rw [hp] at d;injection d with d;subst d;exact last_calls w (h.blk.cell (k:=0) rfl) B h.row.2.1 (Bq h.row.1) D
theorem steps_c {X Y:Nat->Prop} {g gr cap:Nat} {m:MZ} {s:RS} {ptrs:List Nat} (w:World) (h:Ai w X Y g gr cap m s ptrs):
  Calls Tryz.prog 18 #[.pointer (some ⟨g,0,none⟩)] w fun e w'=>e=.returned (.int .i64 s.steps)/\w=w':=by
 have d:w.cell? ⟨g,2,none⟩=some (.int .i64 s.steps):=h.blk.cell (k:=2) rfl;clear h
 go_enter Tryz.func18,Tryz.ntmps18
 go_wp2;go_ret;exact ⟨rfl,rfl⟩
theorem choices_c {X Y:Nat->Prop} {g gr cap:Nat} {m:MZ} {s:RS} {ptrs:List Nat} (w:World) (h:Ai w X Y g gr cap m s ptrs) (K:s.ch.length<=1000):
  Calls Tryz.prog 19 #[.pointer (some ⟨g,0,none⟩)] w fun e w'=>∃v',e=.returned v'/\Mk w w' v' s.ch:=by
 obtain ⟨p,hp,E,D⟩:=h.row.last;have O:=zh (last_c (w':=w) h hp K);have a2:w.cell? ⟨g,0,none⟩=some (.slice (some ⟨gr,0,none⟩) ptrs.length cap):=h.blk.cell (k:=0) rfl;have I:=Bq h.row.1;have d:=h.row.2.1;clear h hp D;obtain ⟨us,f,u,t,vc,vp,gu,h1,B⟩:=E;obtain ⟨r0,r1,r2,r3,r4,r5,r6,r7,r8⟩:=B.rules;have V:=zh B.ch;clear h1 B;generalize ptrs.length=P at*;have a0:decide ((P:Int)=0)=false:=DI (by omega);have a1:((P:Int)==0)=false:=by rw [DR];omega
 have U:=zh K;clear d
 go_enter Tryz.func19,Tryz.ntmps19
 go_wp2_with fail
 refine O.out.mono ?_;rintro e w1 ⟨rfl,J⟩;have M:zc w w1:=J.below _;clear J
 go_wp2_with fail
 refine (Bj _ (V.out.below M) (by have:=U.out;omega)).mono ?_;rintro e w2 ⟨v',rfl,G⟩;have Q:=zh (M.mono_mk G);clear G
 go_wp2_with fail
 go_ret;exact ⟨_,rfl,Q.out⟩
end
section
open Go.RowKit
section
variable {w w' W:World} {X Y:Nat->Prop} {g gr cap:Nat} {m:MZ} {s:RS} {ptrs:List Nat} {ch:List Int}
theorem Ai.okR_ne (h:Ai w X Y g gr cap m s ptrs) {b:Nat} (B:okR X Y g gr b):b≠g/\b≠gr:=by
 rcases B with ⟨_,h1,d⟩ | hy
 ·exact ⟨h1,d⟩
 ·exact ⟨fun e=>h.yg (e ▸ hy),fun e=>h.yr (e ▸ hy)⟩
theorem Ai.setg (h:Ai w X Y g gr cap m s ptrs) (j:Nat) (v:Value) {s':RS} (d:s'.ch=s.ch) (B:(#[.slice (some ⟨gr,0,none⟩) ptrs.length cap,.bool s.done,.int .i64 s.steps]:Array Value).setIfInBounds j v=#[.slice (some ⟨gr,0,none⟩) ptrs.length cap,.bool s'.done,.int .i64 s'.steps]):
  Ai (w.setCell ⟨g,j,none⟩ v) X Y g gr cap m s' ptrs:=
 ⟨by have:=h.blk.set (k:=j) v;rwa [B] at this,h.xg,h.xr,h.ne,h.yg,h.yr,by
  rw [d]
  exact h.row.keep (fun b B hx=>DN w ⟨g,j,none⟩ v b (by
   show b≠g;rcases hx with hx | hx
   ·exact hx.2
   ·exact fun e=>h.yg (e ▸ hx))) h.xr h.ne⟩
theorem Ai.done (h:Ai w X Y g gr cap m s ptrs) (d:Bool):Ai (w.setCell ⟨g,1,none⟩ (.bool d)) X Y g gr cap m ⟨s.ch,d,s.steps⟩ ptrs:=h.setg 1 _ rfl rfl
theorem Ai.stepsTo (h:Ai w X Y g gr cap m s ptrs) (n:Int):Ai (w.setCell ⟨g,2,none⟩ (.int .i64 n)) X Y g gr cap m ⟨s.ch,s.done,n⟩ ptrs:=h.setg 2 _ rfl rfl
theorem Ai.widen {X':Nat->Prop} (h:Ai w X Y g gr cap m s ptrs) (d:∀b,X b->X' b):Ai w X' Y g gr cap m s ptrs:=
 ⟨h.blk,d _ h.xg,d _ h.xr,h.ne,h.yg,h.yr,h.row.1,h.row.2.1,fun k p hp=>(h.row.2.2 k p hp).weaken fun b hb=>by
  rcases hb with hb | hb
  ·exact .inl ⟨d _ hb.1,hb.2⟩
  ·exact .inr hb⟩
theorem chg_setg {X:Nat->Prop} (w:World) (B:X g) (j:Nat) (v:Value):zk X w (w.setCell ⟨g,j,none⟩ v):=
 ⟨rfl,rfl,rfl,by simp [World.setCell],fun b _ d=>DN w ⟨g,j,none⟩ v b (by rintro rfl;exact d B)⟩
theorem zk.tr {X:Nat->Prop} {b c:World} (h:zk X a b) (d:zk X b c):zk X a c:=h.trans d (fun _ _ h=>h)
theorem zk.ext_r {X:Nat->Prop} {b c:World} (h:zk X a b) (d:zc b c):zk X a c:=h.tr (zk.of_ext d)
theorem Ai.pop (h:Ai w X Y g gr cap m s ptrs) (I:k<=s.ch.length):Ai (w.setCell ⟨g,0,none⟩ (.slice (some ⟨gr,0,none⟩) (k+1) cap)) X Y g gr cap m ⟨s.ch.take k,s.done,s.steps⟩ (ptrs.take (k+1)):=by
 have D:=h.row.2.1;have B:(ptrs.take (k+1)).length=k+1:=by rw [Eu];omega
 have d:∀b,(X b/\b≠g)\/Y b->(w.setCell ⟨g,0,none⟩ (.slice (some ⟨gr,0,none⟩) (k+1) cap)).heap[b]?=w.heap[b]?:=fun b hx=>DN w ⟨g,0,none⟩ _ b (by
  show b≠g;rcases hx with hx | hx
  ·exact hx.2
  ·exact fun e=>h.yg (e ▸ hx))
 have G:w.ownsRow 0 107 1 (.slice (some ⟨gr,0,none⟩) (k+1) cap) (k+1) ((ptrs.take (k+1)).map ptrV):=by
  rw [List.map_take];exact row_shrink h.row.1 (by omega)
 refine ⟨?_,h.xg,h.xr,h.ne,h.yg,h.yr,?_,?_,?_⟩
 ·have:=h.blk.set (k:=0) (.slice (some ⟨gr,0,none⟩) (k+1) cap);rw [B];exact this
 ·rw [B];exact row_keep G (d gr (.inl ⟨h.xr,Ne.symm h.ne⟩))
 ·simp only [Eu];omega
 ·intro j p hp
  have E:j<k+1:=by
   rcases Ea j (k+1) with h1 | h1
   ·exact h1
   ·rw [DX (by omega)] at hp;cases hp
  rw [List.getElem?_take_of_lt E] at hp;have:=h.row.2.2 j p hp;rw [List.take_take,Nat.min_eq_left (by omega)]
  exact this.keep fun b hb _=>d b (by
   rcases hb with hb | hb
   ·exact .inl ⟨hb.1,hb.2.1⟩
   ·exact .inr hb)
theorem Ai.push (h:Ai w X Y g gr cap m s ptrs) {n:Int} {w5:World} (a4:Dz w (okR X Y g gr) q m (s.ch++[n])) (Q:∀b,w.heap.size<=b->X b) (U:∀b,Y b->b<w.heap.size)
  (J:w5.ownsRow 0 107 1 v' (ptrs.length+1) (ptrs.map ptrV++[ptrV q])) (M:(w.alloc o).grownBy w5 (some gr)) (hv:v'.ownBlock=some gr\/v'.ownBlock=some (w.heap.size+1)):
  ∃gr' cap',v'=.slice (some ⟨gr',0,none⟩) (ptrs.length+1) cap'/\Ai (w5.setCell ⟨g,0,none⟩ v') X Y g gr' cap' m ⟨s.ch++[n],s.done,s.steps⟩ (ptrs++[q])/\zk X w (w5.setCell ⟨g,0,none⟩ v'):=by
 obtain ⟨gr',cap',rfl,_,b0⟩:=World.ownsRow.form J (by omega)
 have D:gr'=gr\/gr'=w.heap.size+1:=by
  rcases hv with hv | hv
  ·left;simpa [Value.ownBlock] using hv
  ·right;simpa [Value.ownBlock] using hv
 have a1:g<w.heap.size:=za h.blk;have b2:gr<w.heap.size:=(h.row.1.lt gr rfl).2;have a5:w.heap.size<=w5.heap.size:=DG (by simp) M.size
 have I:g≠gr':=by
  rcases D with rfl | rfl
  ·exact h.ne
  ·omega
 have E:∀b,b<w.heap.size->b≠gr->w5.heap[b]?=w.heap[b]?:=fun b d K=>(M.block b (by simp;omega) (fun e=>K (by injection e))).trans (DW _ _ _ d)
 have B:∀b,b<w.heap.size->b≠gr->b≠g->(w5.setCell ⟨g,0,none⟩ (.slice (some ⟨gr',0,none⟩) (ptrs.length+1) cap')).heap[b]?=w.heap[b]?:=fun b d K a0=>(DN w5 ⟨g,0,none⟩ _ b a0).trans (E b d K)
 have a3:∀b,okR X Y g gr b/\b<w.heap.size->okR X Y g gr' b:=by
  rintro b ⟨d,a9⟩;rcases d with ⟨h1,h2,h3⟩ | hy
  ·exact .inl ⟨h1,h2,by rcases D with rfl | rfl;exact h3;omega⟩
  ·exact .inr hy
 have G:∀(p:Nat) (c:List Int),Dz w (okR X Y g gr) p m c->Dz (w5.setCell ⟨g,0,none⟩ (.slice (some ⟨gr',0,none⟩) (ptrs.length+1) cap')) (okR X Y g gr') p m c:=fun p c hs=>
  (hs.bound.keep fun b d _=>B b d.2 (h.okR_ne d.1).2 (h.okR_ne d.1).1).weaken a3
 have O:=h.row.2.1;refine ⟨gr',cap',rfl,⟨?_,h.xg,?_,I,h.yg,?_,?_,?_,?_⟩,?_⟩
 ·have V:zg w5 g 101 #[.slice (some ⟨gr,0,none⟩) ptrs.length cap,.bool s.done,.int .i64 s.steps]:=(E g a1 h.ne).trans h.blk;have:=V.set (k:=0) (.slice (some ⟨gr',0,none⟩) (ptrs.length+1) cap');rw [DM,Ed];exact this
 ·rcases D with rfl | rfl
  ·exact h.xr
  ·exact Q _ (by omega)
 ·rcases D with rfl | rfl
  ·exact h.yr
  ·intro hy;have:=U _ hy;omega
 ·rw [DM,Ed,Et];exact row_keep J (DN w5 ⟨g,0,none⟩ _ gr' (Ne.symm I))
 ·simp [O]
 ·intro k p hp;rcases Ea k ptrs.length with hk | hk
  ·rw [DJ hk] at hp;rw [List.take_append_of_le_length (by omega)];exact G _ _ (h.row.2.2 k p hp)
  ·have a2:k=ptrs.length:=by
    rcases Ea k (ptrs++[q]).length with h1 | h1
    ·simp at h1;omega
    ·rw [DX h1] at hp;cases hp
   subst a2;rw [DK (DE _)] at hp;have hq:q=p:=by simpa using hp
   subst hq;rw [List.take_of_length_le (by simp;omega)];exact G _ _ a4
 ·exact ⟨M.os,M.tape,M.output,by simpa [World.setCell] using a5,fun b d hx=>B b d (fun e=>hx (e ▸ h.xr)) (fun e=>hx (e ▸ h.xg))⟩
end
noncomputable def srch (m:MZ) (ch:List Int) (k:Nat) (b:Int):Option (List Int):=
 match aft m (ch.take k) b with
 | some n=>some (ch.take k++[n])
 | none=>backN m ch k
theorem srch_top (m:MZ) (ch:List Int):srch m ch ch.length (-1)=stepC m ch:=by
 unfold srch stepC;rw [DP]
 all_goals (cases aft m ch (-1) <;> rfl)
theorem srch_back {m:MZ} {ch:List Int} (h:aft m (ch.take (k+1)) b=none):srch m ch (k+1) b=srch m ch k (ch.getD k 0):=by
 unfold srch;rw [h];rfl
theorem srch_zero {m:MZ} {ch:List Int} (h:aft m (ch.take 0) b=none):srch m ch 0 b=none:=by
 unfold srch;rw [h];rfl
theorem aft_none {m:MZ} {ch:List Int} (d:l=Bn m ch) (h:∀n∈l,¬ (b<n/\Be m (ch++[n])=true)):aft m ch b=none:=by
 unfold aft;rw [List.find?_eq_none];intro n B;have:=h n (by rw [d];exact B);simp only [DQ,DO];exact this
theorem aft_at {m:MZ} {ch:List Int} (D:i<(Bn m ch).length) (h:∀n∈(Bn m ch).take i,¬ (b<n/\Be m (ch++[n])=true)) (h1:b<(Bn m ch)[i]) (d:Be m (ch++[(Bn m ch)[i]])=true):aft m ch b=some (Bn m ch)[i]:=by
 unfold aft;generalize Bn m ch=l at*;obtain ⟨x,B⟩:=EH (l[i]);rw [<-B] at h1 d⊢
 have G:l=l.take i++x :: l.drop (i+1):=by
  rw [B,List.getElem_cons_drop D,List.take_append_drop]
 rw [G,List.find?_append,List.find?_eq_none.2 (fun n E=>by
  have:=h n E;simp only [DQ,DO];exact this)]
 simp [h1,d]
end
section
open Go.RowKit Go.Shelf
attribute [local go_sem ↓] Go.wp_at_zero Go.wp_at_succ
def Cd (c:UInt8):List UInt8->Option (List UInt8×List UInt8)
 | []=>none
 | b :: l=>if b==c then some ([],l) else (Cd c l).map fun p=>(b :: p.1,p.2)
theorem cutAt_none {c:UInt8}:∀{l:List UInt8},Cd c l=none->Lib.indexByte l c=-1
 | [],_=>rfl
 | b :: l,h=>by
  unfold Cd at h;unfold Lib.indexByte
  split at h
  ·cases h
  ·rename_i d
   rw [Option.map_eq_none_iff] at h;rw [if_neg d,cutAt_none h];rfl
theorem Ct {c:UInt8}:∀{l a b:List UInt8},Cd c l=some (a,b)->Lib.indexByte l c=a.length/\l=a++c :: b
 | [],a,b,h=>by cases h
 | x :: l,a,b,h=>by
  unfold Cd at h;unfold Lib.indexByte
  split at h
  ·rename_i d
   injection h with h;injection h with h1 B;subst h1 B;rw [if_pos d,(beq_iff_eq.1 d)];exact ⟨rfl,rfl⟩
  ·rename_i d
   obtain ⟨p,hp,e⟩:=Option.map_eq_some_iff.1 h;injection e with h1 B;subst h1 B;obtain ⟨D,E⟩:=Ct (a:=p.1) (b:=p.2) hp;rw [if_neg d,D,if_neg (by simp),E];exact ⟨by simp,rfl⟩
theorem ext_take (l:List UInt8) (n:Nat):(ByteArray.mk l.toArray).extract 0 n=⟨(l.take n).toArray⟩:=by
 apply ByteArray.ext;simp [ByteArray.data_extract]
theorem CQ (l:List UInt8) (n:Nat):(ByteArray.mk l.toArray).extract n l.length=⟨(l.drop n).toArray⟩:=by
 apply ByteArray.ext;simp [ByteArray.data_extract];exact List.take_of_length_le (by simp)
theorem lcut_no {l:List UInt8} (w:World) (h:Cd c l=none):Calls Tryz.prog 159 #[.string ⟨l.toArray⟩,.string ⟨#[c]⟩] w fun e w'=>e=.returned (.tuple #[.string ⟨l.toArray⟩,.string ⟨#[]⟩,.bool false])/\w=w':=by
 have B:=zh (Any.stringslite_Index_one sIdx ⟨l.toArray⟩ c w);have D:=cutAt_none h;have d:Lib.indexByte (ByteArray.mk l.toArray).data.toList c=-1:=D;rw [d] at B;clear D d h
 go_enter Tryz.func159,Tryz.ntmps159
 go_wp2_with fail
 refine B.out.mono ?_;rintro e w1 ⟨rfl,rfl⟩
 go_wp2_with fail
 exact Ev (by simp [results,Tryz.results159,go_sem]) rfl ⟨rfl,rfl⟩
theorem lcut_yes {l a b:List UInt8} (w:World) (h:Cd c l=some (a,b)) (I:l.length<=9223372036854775000):Calls Tryz.prog 159 #[.string ⟨l.toArray⟩,.string ⟨#[c]⟩] w fun e w'=>e=.returned (.tuple #[.string ⟨a.toArray⟩,.string ⟨b.toArray⟩,.bool true])/\∃n,w'=w.drewN n:=by
 have B:=zh (Any.stringslite_Index_one sIdx ⟨l.toArray⟩ c w);obtain ⟨E,he⟩:=Ct h;have d:Lib.indexByte (ByteArray.mk l.toArray).data.toList c=a.length:=E;rw [d] at B;have G:a.length+1<=l.length:=by rw [he];simp
 have D:=zh he;clear E d h he
 go_enter Tryz.func159,Tryz.ntmps159
 go_wp2_with fail
 refine B.out.mono ?_;rintro e w1 ⟨rfl,rfl⟩
 go_wp2_with fail
 go_quiet (fail)
 have e1:ByteArray.extract ⟨l.toArray⟩ 0 a.length=⟨a.toArray⟩:=by rw [ext_take,D.out];simp
 have e2:ByteArray.extract ⟨l.toArray⟩ (a.length+1) l.length=⟨b.toArray⟩:=by rw [CQ,D.out];simp
 rw [e1,e2]
 go_wp2_with fail
 exact Ev (by simp [results,Tryz.results159,go_sem]) rfl ⟨rfl,_,rfl⟩
theorem cut_no {l:List UInt8} (w:World) (h:Cd c l=none):Calls Tryz.prog 145 #[.string ⟨l.toArray⟩,.string ⟨#[c]⟩] w fun e w'=>e=.returned (.tuple #[.string ⟨l.toArray⟩,.string ⟨#[]⟩,.bool false])/\w=w':=by
 have d:=zh (lcut_no w h);clear h
 go_enter Tryz.func145,Tryz.ntmps145
 go_wp2_with fail
 refine d.out.mono ?_;rintro e w1 ⟨rfl,rfl⟩
 go_wp2_with fail
 exact Ev (by simp [results,Tryz.results145,go_sem]) rfl ⟨rfl,rfl⟩
theorem cut_yes {l a b:List UInt8} (w:World) (h:Cd c l=some (a,b)) (B:l.length<=9223372036854775000):Calls Tryz.prog 145 #[.string ⟨l.toArray⟩,.string ⟨#[c]⟩] w fun e w'=>e=.returned (.tuple #[.string ⟨a.toArray⟩,.string ⟨b.toArray⟩,.bool true])/\∃n,w'=w.drewN n:=by
 have d:=zh (lcut_yes w h B);clear h
 go_enter Tryz.func145,Tryz.ntmps145
 go_wp2_with fail
 refine d.out.mono ?_;rintro e w1 ⟨rfl,n,rfl⟩
 go_wp2_with fail
 exact Ev (by simp [results,Tryz.results145,go_sem]) rfl ⟨rfl,_,rfl⟩
abbrev RdAt (w:World) (r:Nat) (s:List UInt8×Bool):Prop:=zg w r 176 #[.string ⟨s.1.toArray⟩,.bool s.2]
theorem wNew_calls (l:List UInt8) (w:World):Calls Tryz.prog 86 #[.string ⟨l.toArray⟩] w fun e w'=>e=.returned (.pointer (some ⟨w.heap.size,0,none⟩))/\zc w w'/\RdAt w' w.heap.size (l,false):=by
 go_enter Tryz.func86,Tryz.ntmps86
 go_wp2_with fail
 go_ret;exact ⟨rfl,(zc.refl w).alloc _,zg.new _ _ _ rfl⟩
theorem Dh {s:List UInt8×Bool} (w:World) (h:RdAt w r s):Calls Tryz.prog 90 #[.pointer (some ⟨r,0,none⟩)] w fun e w'=>e=.returned (.bool s.2)/\w=w':=by
 have c1:=h.cell (k:=1) rfl;clear h
 go_enter Tryz.func90,Tryz.ntmps90
 go_wp2_with fail
 go_ret;exact ⟨rfl,rfl⟩
def AF (s:List UInt8×Bool):Nat:=if s.2=true then 0 else s.1.length
theorem wLeft_calls {s:List UInt8×Bool} (w:World) (h:RdAt w r s):Calls Tryz.prog 147 #[.pointer (some ⟨r,0,none⟩)] w fun e w'=>e=.returned (.int .i64 (AF s:Nat))/\w=w':=by
 have d:=zh (Dh w h);have c0:=h.cell (k:=0) rfl;obtain ⟨l,b⟩:=s;clear h;dsimp only at d c0
 cases b with
 | true=>
  go_enter Tryz.func147,Tryz.ntmps147
  go_wp2_with fail
  refine d.out.mono ?_;rintro e w1 ⟨rfl,rfl⟩
  go_wp2_with fail
  go_ret;exact ⟨rfl,rfl⟩
 | false=>
  go_enter Tryz.func147,Tryz.ntmps147
  go_wp2_with fail
  refine d.out.mono ?_;rintro e w1 ⟨rfl,rfl⟩
  go_wp2_with fail
  go_ret;exact ⟨rfl,rfl⟩
theorem Ch {X:Nat->Prop} {b:World} (h:zk X a b) (g k:Nat) (v:Value) (B:X g):zk X a (b.setCell ⟨g,k,none⟩ v):=
 ⟨h.os,h.tape,h.output,DG h.size (by simp [World.setCell]),fun i D d=>(DN b ⟨g,k,none⟩ v i (fun e=>d (e ▸ B))).trans (h.block i D d)⟩
theorem BA (w:World) (h:zg w r 176 #[u,v]):Calls Tryz.prog 125 #[.pointer (some ⟨r,0,none⟩)] w fun e w'=>e=.returned (.tuple #[])/\zk (·=r) w w'/\RdAt w' r ([],true):=by
 have c0:=h.cell (k:=0) rfl;have c1:=h.cell (k:=1) rfl;have hf:∀k,w.frozen? ⟨r,k,none⟩=false:=fun k=>h.frozen k
 have H:=zh h;clear h
 go_enter Tryz.func125,Tryz.ntmps125
 go_wp2_with fail
 refine bodyPost_end (results_none rfl _ _ _) rfl ⟨rfl,Ch (X:=(·=r)) (Ch (zk.refl _ _) r 1 _ rfl) r 0 _ rfl,?_⟩;exact (H.out.set (k:=1) _).set (k:=0) _
def numP (c:UInt8) (l:List UInt8):Option (Int×List UInt8):=match Cd c l with
 | none=>none
 | some (a,b)=>match Lib.atoiAll a with
  | .ok v=>if Lib.itoa v=a then some (v,b) else none
  | _=>none
theorem chg_ext {X:Nat->Prop} {b:World} (h:zc a b):zk X a b:=zk.of_ext h
theorem chg_drew {X:Nat->Prop} (w:World) (n:Nat):zk X w (w.drewN n):=zk.of_ext ((zc.refl w).drewN n)
def numS (c:UInt8) (s:List UInt8×Bool):Option (Int×List UInt8):=if s.2=true then none else numP c s.1
def NumPost (r:Nat) (o:Option (Int×List UInt8)) (w:World) (e:Ending) (w':World):Prop:=
 zk (·=r) w w'/\(∀v b,o=some (v,b)->e=.returned (.tuple #[.int .i64 v,.bool true])/\RdAt w' r (b,false))/\(o=none->e=.returned (.tuple #[.int .i64 0,.bool false])/\RdAt w' r ([],true))
def NumFr (r:Nat) (a:Act):Prop:=∃u1 u2 u3 u4 u5 u6 u7 u8 u9 u10 u11 u12 u13 u14 u15 u16 u17 u18 u19 u20 u21 u22 u23 u24 u25 u26 u27 u28 u29 u30 u31 u32 u33 u34 u35 u36 u37 u38 u39 u40:Value,a={ tmps:=#[.pointer (some ⟨r,0,none⟩),u1,u2,u3,u4,u5,u6,u7,u8,u9,u10,u11,u12,u13,u14,u15,u16,u17,u18,u19,u20,u21,u22,u23,u24,u25,u26,u27,u28,u29,u30,u31,u32,u33,u34,u35,u36,u37,u38,u39,u40],defers:=[] }
theorem var_chg {w w':World} {X:Nat->Prop} (B:zk X w w') {n:String} {g:Nat} (E:Tryz.prog.globalNamed n=some g) (D:¬ X g) {cs:Array Value} (h:w.var? Tryz.prog n=some cs):w'.var? Tryz.prog n=some cs:=by
 unfold World.var? at h⊢;rw [E] at h⊢;simp only [Option.bind_some] at h⊢
 split at h
 ·rename_i d
  rw [B.block g (Ci d) D,d];exact h
 ·cases h
theorem atoi_ok {a:List UInt8} {v:Int} (w:World) (h:Lib.atoiAll a=.ok v) (d:a.length<=281474976710656):Calls Tryz.prog 146 #[.string ⟨a.toArray⟩] w fun e w'=>e=.returned (.tuple #[.int .i64 v,.nilIface])/\zc w w':=by
 refine (Any.strconv_Atoi_ok sAtoi ⟨a.toArray⟩ (by simp [ByteArray.size];omega) v h w).mono ?_;rintro e w' ⟨rfl,rfl | ⟨t,rfl⟩⟩
 ·exact ⟨rfl,zc.refl _⟩
 ·exact ⟨rfl,Lib.bytesWorld_below _ _ _⟩
theorem atoi_err {a:List UInt8} (w:World) (E:zq w) (h:∀v,Lib.atoiAll a≠.ok v) (D:a.length<=281474976710656):Calls Tryz.prog 146 #[.string ⟨a.toArray⟩] w fun e w'=>∃n N,e=.returned (.tuple #[.int .i64 n,.iface 219 (.pointer (some ⟨N,0,none⟩))])/\zc w w':=by
 rcases d:Lib.atoiAll a with v | _ | _
 ·exact absurd d (h v)
 ·obtain ⟨tp,p,hp⟩:=E.syn;refine (Any.strconv_Atoi_syntax_var sAtoi ⟨a.toArray⟩ (by simpa [ByteArray.size] using D) d tp p w hp).mono ?_;rintro e w' ⟨N,rfl,-,-,B⟩;exact ⟨_,_,rfl,B⟩
 ·obtain ⟨tp,p,hp⟩:=E.rng;refine (Any.strconv_Atoi_range_var sAtoi ⟨a.toArray⟩ (by simpa [ByteArray.size] using D) d tp p w hp).mono ?_;rintro e w' ⟨N,rfl,-,-,B⟩;exact ⟨_,_,rfl,B⟩
def isVar (g : Nat) : Prop := ∃ n, (n = "internal/strconv.uint64pow10" ∨ n = "strconv.ErrSyntax" ∨ n = "strconv.ErrRange") ∧ Tryz.prog.globalNamed n = some g
theorem Dg {w w':World} {X:Nat->Prop} (h:zq w) (hC:zk X w w') (hX:∀g,X g->¬ isVar g):zq w':=by
 have f : ∀ n, (n = "internal/strconv.uint64pow10" ∨ n = "strconv.ErrSyntax" ∨ n = "strconv.ErrRange") → ∀ cs, w.var? Tryz.prog n = some cs → w'.var? Tryz.prog n = some cs := fun n hn cs h => by
  cases hg:Tryz.prog.globalNamed n with
  | none=>unfold World.var? at h;rw [hg] at h;cases h
  | some g=>exact var_chg hC hg (fun hx=>hX g hx ⟨n,hn,hg⟩) h
 exact ⟨f _ (.inl rfl) _ h.tab,h.syn.imp fun _ ⟨p,h⟩=>⟨p,f _ (.inr (.inl rfl)) _ h⟩,h.rng.imp fun _ ⟨p,h⟩=>⟨p,f _ (.inr (.inr rfl)) _ h⟩⟩
theorem var_ne {w:World} (h:zq w) (B:zg w r 176 #[u,v]):∀g,g=r->¬ isVar g:=by
 rintro g rfl ⟨n,E,D⟩
 have f:∀cs,w.var? Tryz.prog n=some cs->cs=#[u,v]:=fun cs h=>by
  unfold World.var? at h;rw [D] at h;have d:w.heap[g]?=some (.cells #[u,v] 176 (0,0)):=B;simp only [Option.bind_some,d] at h;injection h with h;exact h.symm
 rcases E with rfl | rfl | rfl
 ·have:=congrArg Array.size (f _ h.tab);simp [Lib.pow10Tab] at this
 ·obtain ⟨tp,p,h⟩:=h.syn;have:=congrArg Array.size (f _ h);simp at this
 ·obtain ⟨tp,p,h⟩:=h.rng;have:=congrArg Array.size (f _ h);simp at this
theorem number_calls {s:List UInt8×Bool} (c:UInt8) (w:World) (hv:zq w) (h:RdAt w r s) (hl:s.1.length<=281474976710656):Calls Tryz.prog 124 #[.pointer (some ⟨r,0,none⟩),.string ⟨#[c]⟩] w (NumPost r (numS c s) w):=by
 have HB:=zh (Dh w h);have HR:=zh h;have HV:=zh hv;obtain ⟨l,bad⟩:=s;have c0:=h.cell (k:=0) rfl;have hf:∀k,w.frozen? ⟨r,k,none⟩=false:=fun k=>h.frozen k
 dsimp only at HB HR c0 hl;clear h hv
 go_enter Tryz.func124,Tryz.ntmps124
 go_wp2_with fail
 refine wp_scope_jumps 0 (fun a' w'=>NumFr r a'/\Hid (numS c (l,bad)=none)/\Hid (zk (·=r) w w'/\∃u v,zg w' r 176 #[u,v])) (fun _ _=>0) rfl ?_ ?_
 ·go_wp2_with fail
  refine HB.out.mono ?_;rintro e w1 ⟨rfl,rfl⟩
  cases bad with
  | true=>
   go_wp2_with fail
   go_step3
   exact ⟨rfl,⟨_,_,_,_,_,_,_,_,_,_,_,_,_,_,_,_,_,_,_,_,_,_,_,_,_,_,_,_,_,_,_,_,_,_,_,_,_,_,_,_,rfl⟩,rfl,zk.refl _ _,_,_,HR.out⟩
  | false=>
   cases hc:Cd c l with
   | none=>
    have J:Hid (numS c (l,false)=none):=by (show numS c (l,false)=none);unfold numS numP;rw [hc];rfl
    have HC:=zh (cut_no w hc);clear hc
    go_wp2_with fail
    refine HC.out.mono ?_;rintro e w2 ⟨rfl,rfl⟩
    go_wp2_with fail
    go_step3
    exact ⟨rfl,⟨_,_,_,_,_,_,_,_,_,_,_,_,_,_,_,_,_,_,_,_,_,_,_,_,_,_,_,_,_,_,_,_,_,_,_,_,_,_,_,_,rfl⟩,J,Ch (X:=(·=r)) (zk.refl _ _) r 0 _ rfl,_,_,HR.out.set (k:=0) _⟩
   | some p=>
    obtain ⟨a,b⟩:=p;have HC:=zh (cut_yes w hc (by omega));have b8:a.length<=l.length:=by have:=(Ct hc).2;rw [this];simp
    have J:Hid (numS c (l,false)=match Lib.atoiAll a with | .ok v=>if Lib.itoa v=a then some (v,b) else none | _=>none):=by
     (show numS c (l,false)=_);unfold numS numP;rw [hc];rfl
    clear hc
    go_wp2_with fail
    refine HC.out.mono ?_;rintro e w2 ⟨rfl,n2,rfl⟩;have G:Hid (zk (·=r) w ((w.drewN n2).setCell ⟨r,0,none⟩ (.string ⟨b.toArray⟩))):=Ch (X:=(·=r)) (chg_drew w n2) r 0 _ rfl;have K:Hid (RdAt ((w.drewN n2).setCell ⟨r,0,none⟩ (.string ⟨b.toArray⟩)) r (b,false)):=zg.set (k:=0) (show zg (w.drewN n2) r 176 _ from HR.out) (.string ⟨b.toArray⟩);have V:=zh (Dg HV.out G.out (var_ne HV.out HR.out));generalize b0:(w.drewN n2).setCell ⟨r,0,none⟩ (.string ⟨b.toArray⟩)=w3 at G K V
    go_wp2_with fail
    clear b0 HB c0 HC hf HR;by_cases M:∃v,Lib.atoiAll a=.ok v
    ·obtain ⟨v,hv⟩:=M;rw [hv] at J;have a5:=Lib.atoiAll_bounds hv;have E:=atoi_ok w3 hv (by omega);clear hv;refine E.mono ?_;rintro e w4 ⟨rfl,d⟩;have Q:=zh (itoa_calls w4 (V.out.ext d) ⟨a5.1,a5.2⟩);have I:=zh d;by_cases hs:Lib.itoa v=a
     ·have D:Hid (numS c (l,false)=some (v,b)):=by (show _=_);rw [J.out];simp [hs]
      rw [hs] at Q;clear E d hs J
      go_wp2_with fail
      refine Q.out.mono ?_;rintro e w5 ⟨rfl,B⟩;have O:Hid (zk (·=r) w w5):=(G.out.ext_r I.out).ext_r B;have U:Hid (RdAt w5 r (b,false)):=(K.out.ext I.out).ext B;clear B
      go_wp2_with fail
      simp only [Exit.jump]
      go_ret2
      exact ⟨O.out,(fun v' b' h=>by rw [D.out] at h;injection h with h;injection h with h1 h2;subst h1 h2;exact ⟨rfl,U.out⟩),(fun h=>by rw [D.out] at h;cases h)⟩
     ·have D:Hid (numS c (l,false)=none):=by (show _=_);rw [J.out];simp [hs]
      have b9:(Lib.itoa v==a)=false:=by simp [hs]
      clear E d hs J
      go_wp2_with fail
      refine Q.out.mono ?_;rintro e w5 ⟨rfl,B⟩;have O:Hid (zk (·=r) w w5):=(G.out.ext_r I.out).ext_r B;have U:Hid (RdAt w5 r (b,false)):=(K.out.ext I.out).ext B;clear B
      go_wp2_with fail
      go_step3
      exact ⟨rfl,⟨_,_,_,_,_,_,_,_,_,_,_,_,_,_,_,_,_,_,_,_,_,_,_,_,_,_,_,_,_,_,_,_,_,_,_,_,_,_,_,_,rfl⟩,D,O.out,_,_,U.out⟩
    ·have D:Hid (numS c (l,false)=none):=by
      (show _=_);rw [J.out]
      cases ha:Lib.atoiAll a with
      | ok v=>exact absurd ⟨v,ha⟩ M
      | _=>rfl
     have E:=atoi_err w3 V.out (fun v h=>M ⟨v,h⟩) (by omega);clear M J;refine E.mono ?_;rintro e w4 ⟨n,N,rfl,d⟩;have a7:Hid (zk (·=r) w w4):=G.out.ext_r d;have a8:Hid (RdAt w4 r (b,false)):=K.out.ext d;clear E d
     go_wp2_with fail
     go_step3
     exact ⟨rfl,⟨_,_,_,_,_,_,_,_,_,_,_,_,_,_,_,_,_,_,_,_,_,_,_,_,_,_,_,_,_,_,_,_,_,_,_,_,_,_,_,_,rfl⟩,D,a7.out,_,_,a8.out⟩
 ·rintro a' w' ⟨⟨u1,u2,u3,u4,u5,u6,u7,u8,u9,u10,u11,u12,u13,u14,u15,u16,u17,u18,u19,u20,u21,u22,u23,u24,u25,u26,u27,u28,u29,u30,u31,u32,u33,u34,u35,u36,u37,u38,u39,u40,rfl⟩,hn,hw⟩;obtain ⟨hC,u,v,hb⟩:=hw.out;have HF:=zh (BA w' hb);have HC:=zh hC;clear hC hb hw
  go_wp2_with fail
  refine HF.out.mono ?_;rintro e w1 ⟨rfl,a9,hr⟩
  go_wp2_with fail
  simp only [Exit.jump]
  go_ret2
  exact ⟨HC.out.tr a9,(fun v b h=>by rw [hn.out] at h;cases h),fun _=>⟨rfl,hr⟩⟩
end
section
open Go.RowKit
def TasksN (w:World) (ok:Nat->Prop) (v:Value) (l:List (List Int×List Int)) (ns:List ByteArray):Prop:=
 ns.length=l.length/\∃vs,Bc w ok 3 v l.length vs/\∀(i:Nat) x s,l[i]?=some x->ns[i]?=some s->∃u1 u2,vs[i*3]?=some (.string s)/\vs[i*3+1]?=some u1/\vs[i*3+2]?=some u2/\zl w ok u1 x.1/\zl w ok u2 x.2
def BD (w:World) (ok:Nat->Prop) (v:Value) (m:MZ) (ns:List ByteArray):Prop:=
 ∃f u t,v=.agg #[.int .i64 m.w,.int .i64 m.h,.int .i64 m.l,f,u,t]/\AX w ok f m.free/\AR w ok u m.up/\TasksN w ok t m.tasks ns
theorem TasksN.tasks {w:World} {l:List (List Int×List Int)} (h:TasksN w ok v l ns):Bo w ok v l:=by
 obtain ⟨G,vs,D,he⟩:=h;refine ⟨vs,D,fun i x d=>?_⟩;obtain ⟨E,-⟩:=Ew.1 d;obtain ⟨u1,u2,h0,h1,B,i1,i2⟩:=he i x _ d (DC (by omega));exact ⟨_,u1,u2,h0,h1,B,i1,i2⟩
theorem BD.maze {w:World} {m:MZ} (h:BD w ok v m ns):Ad w ok v m:=by
 obtain ⟨f,u,t,rfl,h1,d,B⟩:=h;exact ⟨f,u,t,rfl,h1,d,B.tasks⟩
theorem Bo.nets {w:World} {l:List (List Int×List Int)} (h:Bo w ok v l):∃ns,TasksN w ok v l ns:=by
 obtain ⟨vs,G,he⟩:=h;refine ⟨(List.range l.length).map fun i=>match vs[i*3]? with | some (Value.string s)=>s | _=>(⟨#[]⟩:ByteArray),by simp,vs,G,fun i x s B d=>?_⟩;obtain ⟨s',u1,u2,h0,h1,D,i1,i2⟩:=he i x B;rw [El] at d;obtain ⟨E,-⟩:=Ew.1 B;rw [List.getElem?_range E] at d;simp only [Option.map_some,h0] at d;injection d with d;subst d;exact ⟨u1,u2,h0,h1,D,i1,i2⟩
theorem Ad.nets {w:World} {ok:Nat->Prop} {v:Value} {m:MZ} (h:Ad w ok v m):∃ns,BD w ok v m ns:=by
 obtain ⟨f,u,t,rfl,h1,d,B⟩:=h;obtain ⟨ns,D⟩:=B.nets;exact ⟨ns,f,u,t,rfl,h1,d,D⟩
theorem TasksN.below {w w':World} {ok:Nat->Prop} {v:Value} {l:List (List Int×List Int)} {ns:List ByteArray} (h:TasksN w ok v l ns) (d:Below w.heap.size w w'):TasksN w' ok v l ns:=by
 obtain ⟨D,vs,E,he⟩:=h;refine ⟨D,vs,E.below d,fun i x s I G=>?_⟩;obtain ⟨u1,u2,h0,h1,B,i1,i2⟩:=he i x s I G;exact ⟨u1,u2,h0,h1,B,i1.below d,i2.below d⟩
theorem BD.keepW {w w':World} {ok':Nat->Prop} {m:MZ} (h:BD w ok v m ns) (d:zZ ok w w') (B:∀b,ok b->ok' b):BD w' ok' v m ns:=by
 obtain ⟨f,u,t,rfl,h1,D,E,vs,G,he⟩:=h;refine ⟨f,u,t,rfl,(h1.keep d).weaken B,(D.keep d).weaken B,E,vs,(G.keep d).weaken B,fun i x s J I=>?_⟩;obtain ⟨u1,u2,q0,q1,q2,i1,i2⟩:=he i x s J I;exact ⟨u1,u2,q0,q1,q2,(i1.keep d).weaken B,(i2.keep d).weaken B⟩
theorem BD.below {w w':World} {m:MZ} (h:BD w ok v m ns) (d:Below w.heap.size w w'):BD w' ok v m ns:=h.keepW (zZ.of_below d) (fun _ h=>h)
abbrev NetS:={s:ByteArray // s.size<=1}
end
section
open Go.RowKit
attribute [local go_sem ↓] Go.wp_at_zero Go.wp_at_succ
theorem Tryz.infoPst:(Tryz.prog.info? 107).map (fun i=>(i.zero,i.size,i.bytes))=some (some (.pointer none),1,8):=by kernel_rfl
structure SR (w wr:World) (X Y:Nat->Prop) (g gr cap:Nat) (m:MZ) (s:RS) (pt:List Nat) (k:Nat) (b:Int):Prop where
 rt:Ai wr X Y g gr cap m ⟨s.ch.take k,s.done,s.steps+1⟩ pt
 chg:zk X w wr
 se:srch m s.ch k b=stepC m s.ch
def StepPost (w:World) (X Y:Nat->Prop) (g:Nat) (m:MZ) (s:RS) (e:Ending) (w':World):Prop:=
 e=.returned (.tuple #[])/\∃gr' cap' ptrs',Ai w' X Y g gr' cap' m (s.one m) ptrs'/\zk X w w'
theorem no_step {m:MZ} {ch:List Int} (h:∀n∈l.take i,¬ (b<n/\Be m (ch++[n])=true)) (B:i<l.length) (h1:¬ (b<l[i]/\Be m (ch++[l[i]])=true)):∀n∈l.take (i+1),¬ (b<n/\Be m (ch++[n])=true):=by
 intro n D;rcases (zS B n).1 D with d | rfl
 ·exact h n d
 ·exact h1
theorem aft_of {m:MZ} {ch:List Int} {n:Int} (D:l=Bn m ch) (B:i<l.length) (E:n=l[i]) (h:∀n∈l.take i,¬ (b<n/\Be m (ch++[n])=true)) (h1:b<n) (d:Be m (ch++[n])=true):aft m ch b=some n:=by
 subst D E;exact aft_at B h h1 d
theorem push_ok {w w3 w4:World} {X Y:Nat->Prop} {g gr cap:Nat} {m:MZ} {s:RS} {pt:List Nat} {c:List Int} (D:Dz w4 (fun b=>(okR X Y g gr b/\b<w3.heap.size)\/w3.heap.size<=b) q m c) (E:zc w w3) (B:Ai w X Y g gr cap m s pt) (d:∀b,w.heap.size<=b->X b):Dz w4 (okR X Y g gr) q m c:=
 D.weaken fun b hb=>by
  rcases hb with hb | hb
  ·exact hb.1
  ·have h1:g<w.heap.size:=za B.blk;have G:gr<w.heap.size:=(B.row.1.lt gr rfl).2;have I:=E.size;exact .inl ⟨d b (by omega),by omega,by omega⟩
theorem stepX_calls {X Y:Nat->Prop} {g gr cap:Nat} {m:MZ} {s:RS} {ptrs:List Nat} (w:World) (h:Ai w X Y g gr cap m s ptrs) (gd:zX m) (hl:Lens m) (hc:zG m s.ch) (j2:0<=s.steps) (j3:s.steps<=4000000000000000000)
  (e7:∀b,w.heap.size<=b->X b) (e9:∀b,Y b->b<w.heap.size):
  Calls Tryz.prog 38 #[.pointer (some ⟨g,0,none⟩)] w (StepPost w X Y g m s):=by
 obtain ⟨ch,dn,st⟩:=s;dsimp only at j2 j3 hc;have H:=zh h;have c7:w.cell? ⟨g,2,none⟩=some (.int .i64 st):=h.blk.cell (k:=2) rfl;have hf:=fun k=>h.blk.frozen k
 have GD:=zh gd;have HL:=zh hl;have HC:=zh hc;have e5:=zh e7;have h8:=zh e9;have k2:=hc.len300 gd;clear h gd hl hc e7 e9
 have e4:Hid (SR w (w.setCell ⟨g,2,none⟩ (.int .i64 (st+1))) X Y g gr cap m ⟨ch,dn,st⟩ ptrs ch.length (-1)):=by
  refine ⟨?_,chg_setg w H.out.xg 2 _,srch_top m ch⟩;have h1:=H.out.stepsTo (st+1);dsimp only at h1⊢;rw [DP];exact h1
 obtain ⟨i0,hi,g1,g3,g4⟩:=info_parts Tryz.infoPst;have IF:=zh hi;have IZ0:=zh g1;have IZ1:=zh g3;have IZ2:=zh g4;clear hi g1 g3 g4
 go_enter Tryz.func38,Tryz.ntmps38
 go_wp2_with fail
 go_step3
 go_wp2_with fail
 go_step3
 go_wp2_with fail
 clear c7 hf
 go_loopg [2] ch.length (fun gk v wr=>∃b pt,v=.int .i64 b/\gk<=ch.length/\Hid (SR w wr X Y g gr cap m ⟨ch,dn,st⟩ pt gk b))
 case atStart=>exact ⟨-1,ptrs,rfl,DE _,e4⟩
 clear e4
 case round=>
  obtain ⟨b,pt,rfl,hk,hS⟩:=hrel;obtain ⟨wo,rfl⟩:∃wo:World,wo=wr:=⟨_,rfl⟩;have d:=hS.out.rt;obtain ⟨p,hp,b0,i4⟩:=d.row.last;have f6:(ch.take gk).length=gk:=by rw [Eu];omega
  have b7:=zh (last_c (w':=wo) d hp (by dsimp only;rw [f6];omega));have a6:=zh b0;dsimp only at a6;clear d hp b0 i4
  go_wp2_with fail
  refine b7.out.mono ?_;rintro e w1 ⟨rfl,a9⟩;have d6:zc wo w1:=a9.below _;clear a9
  go_wp2_with fail
  refine (Cg _ (a6.out.ext d6) GD.out HL.out (HC.out.take gk)).mono ?_;rintro e w2 ⟨v2,rfl,a7⟩;obtain ⟨A2,c2,rfl,c7⟩:=a7.slice;have j4:zc wo w2:=d6.trans a7.ext;have j1:(Bn m (ch.take gk)).length<=400000000000:=cand_len HL.out _;have e0:=zh a7;clear a7 d6;obtain ⟨l,c8⟩:=EH (Bn m (ch.take gk));rw [<-c8] at e0 c7 j1⊢;have b8:=zh c8;clear c8
  go_wp2_with fail
  go_loopg [19] l.length (fun gi v wz=>∃i:Nat,v=.int .i64 i/\i<=l.length/\gi=l.length - i/\Hid (zc w2 wz/\∀n∈l.take i,¬ (b<n/\Be m (ch.take gk++[n])=true)))
  case atStart=>exact ⟨0,rfl,DS _,rfl,zc.refl _,by simp⟩
  case round=>
   obtain ⟨i,rfl,hi,rfl,hZ⟩:=hrel;have hz:=hZ.out.1;have K:zc wo wr:=j4.trans hz;rcases Ea i l.length with V | hge
   ·obtain ⟨bl,rfl,_,J⟩:=own_at e0.out.own V;obtain ⟨n,hn⟩:=EH (l[i]);rw [<-hn] at J;have q0:=zc.rule J
    have c9:Hid (n∈Bn m (ch.take gk)):=by
     show n∈_;rw [<-b8.out,hn];exact DF _
    have HN:=zh hn;clear J hn;by_cases a0:n<=b
    ·have hd:decide (n<=b)=true:=DH a0;have b9:=zh a0;clear a0
     go_wp2_with fail
     go_roundg (l.length - (i+1))
     case measure=>omega
     case rel=>exact ⟨i+1,by go_num,V,rfl,hZ.out.1,no_step hZ.out.2 V (fun h=>by have:=b9.out;rw [<-HN.out] at h;omega)⟩
    ·have hd:decide (n<=b)=false:=DI a0;have b9:=zh a0;clear a0
     go_wp2_with fail
     refine (with_c _ (a6.out.ext K) GD.out HL.out (HC.out.take gk) c9.out).mono ?_;rintro e w3 ⟨q,rfl,b1,hq⟩;have HQ:=zh hq;clear hq
     go_wp2_with fail
     refine (open_c w3 HQ.out GD.out HL.out (.snoc (HC.out.take gk) c9.out)).mono ?_;rintro e w4 ⟨rfl,a4⟩;obtain ⟨ob,d4⟩:=EH (Be m (ch.take gk++[n]));rw [<-d4];have e2:=zh d4;clear d4
     cases ob with
     | false=>
      have j5:zc w2 w4:=hz.trans (b1.trans a4);clear b1 a4
      go_wp2_with fail
      go_roundg (l.length - (i+1))
      case measure=>omega
      case rel=>exact ⟨i+1,by go_num,V,rfl,j5,no_step hZ.out.2 V (fun h=>by rw [<-HN.out,<-e2.out] at h;exact absurd h.2 (by simp))⟩
     | true=>
      have Q:zc wo w4:=K.trans (b1.trans a4);have h7:=zh (push_ok (HQ.out.ext a4) K hS.out.rt (fun b hb=>e5.out b (DG hS.out.chg.size hb)));have d:=hS.out.rt.ext Q;have U:w4.cell? ⟨g,0,none⟩=some (.slice (some ⟨gr,0,none⟩) pt.length cap):=d.blk.cell (k:=0) rfl;have hf:=fun k=>d.blk.frozen k
      have B:=zh d;clear d;have D:pt.length=gk+1:=by have:=B.out.row.2.1;dsimp only at this;omega
      have e3:=zh D;have k3:pt.length+1<=1000:=by omega
      clear b1 a4 hz K D
      go_wp2_with (at_builtin;refine wpList_append_own_at _ rfl _ _ 99 rfl 0 107 i0 (.pointer none) 1 8 Tryz.underlying99 IF.out IZ0.out IZ1.out IZ2.out rfl (by decide) (.slice (some ⟨gr,0,none⟩) pt.length cap) pt.length _ rfl (B.out.row.1.alloc _) ⟨w4.heap.size,0,none⟩ 1 1 [ptrV q] rfl rfl (cell_one_new _ _ _) (by simp [ptrV,Value.oneCell']) (by unfold maxLen;omega) (by omega) (DS _) ?_)
      intro v' w5 b4 hg _ f9;have e6:∀b,w4.heap.size<=b->X b:=fun b hb=>e5.out b (DG hS.out.chg.size (DG Q.size hb))
      have e8:∀b,Y b->b<w4.heap.size:=fun b hb=>Ef (h8.out b hb) (DG hS.out.chg.size Q.size)
      obtain ⟨gr',cap',rfl,b5,b3⟩:=B.out.push h7.out e6 e8 b4 hg f9;have I:w5.heap[g]?=w4.heap[g]?:=(hg.block g (by have:=za B.out.blk;simp;omega) (fun e=>B.out.ne (by injection e))).trans (DW _ _ _ (za B.out.blk));have i1:w5.cell? ⟨g,0,none⟩=some (.slice (some ⟨gr,0,none⟩) pt.length cap):=(DT I).trans U;have i5:w5.frozen? ⟨g,0,none⟩=false:=(Ec (a:=⟨g,0,none⟩) I).trans (hf 0);have h4:=zh ((hS.out.chg.ext_r Q).tr b3);have M:=zh b5;clear b4 hg f9 b5 b3 U hf I e6 e8
      go_wp2_with fail
      clear i1 i5;generalize w5.setCell ⟨g,0,none⟩ (.slice (some ⟨gr',0,none⟩) (pt.length+1) cap')=w6 at*;have f7:(ch.take gk++[n]).length=pt.length:=by have:=e3.out;simp;omega
      have d5:(pt++[q])[(ch.take gk++[n]).length]?=some q:=by rw [f7];simp
      have b6:Dz w6 (okR X Y g gr') q m (ch.take gk++[n]):=by
       have:=M.out.row.2.2 _ q d5
       rwa [DP] at this
      refine (last_c (w':=w6) M.out d5 (by show (ch.take gk++[n]).length<=1000;omega)).mono ?_;rintro e w7 ⟨rfl,f3⟩;have G:zc w6 w7:=f3.below _;clear f3 f7 d5
      go_wp2_with fail
      refine (CZ w7 (b6.ext G) GD.out HL.out (.snoc (HC.out.take gk) c9.out)).mono ?_;rintro e w8 ⟨rfl,f4⟩;have a5:zc w6 w8:=G.trans (f4.below _);clear f4 G b6;have O:=M.out.ext a5;have i2:w8.cell? ⟨g,1,none⟩=some (.bool dn):=O.blk.cell (k:=1) rfl;have i6:w8.frozen? ⟨g,1,none⟩=false:=O.blk.frozen 1
      have E:StepPost w X Y g m ⟨ch,dn,st⟩ (.returned (.tuple #[])) (w8.setCell ⟨g,1,none⟩ (.bool (Bk m (ch.take gk++[n])))):=by
       refine ⟨rfl,gr',cap',pt++[q],?_,(h4.out.ext_r a5).tr (chg_setg _ M.out.xg 1 _)⟩;have h1:=O.done (Bk m (ch.take gk++[n]))
       have h2:stepC m ch=some (ch.take gk++[n]):=by
        have h3:=hS.out.se;dsimp only at h3;rw [<-h3];unfold srch;rw [aft_of b8.out V HN.out hZ.out.2 (by have:=b9.out;omega) e2.out.symm]
       show Ai _ X Y g gr' cap' m (RS.one m ⟨ch,dn,st⟩) _;unfold RS.one;dsimp only;rw [h2];exact h1
      have a2:=zh E;clear E O
      go_wp2_with fail
      try rw [Exit.noGoto_ret]
      refine Ev (results_none rfl _ _ _) rfl ?_;exact a2.out
   ·have i9:i=l.length:=by omega
    subst i9;have d7:Hid (aft m (ch.take gk) b=none):=aft_none b8.out (by have:=hZ.out.2;rwa [DP] at this);have d:=hS.out.rt.ext K;have U:wr.cell? ⟨g,0,none⟩=some (.slice (some ⟨gr,0,none⟩) pt.length cap):=d.blk.cell (k:=0) rfl;have h9:wr.cell? ⟨g,1,none⟩=some (.bool dn):=d.blk.cell (k:=1) rfl;have hf:=fun k=>d.blk.frozen k
    have D:pt.length=gk+1:=by have:=d.row.2.1;dsimp only at this;omega
    have j8:=Bq d.row.1;have B:=zh d;clear d;have e3:=zh D;have d8:=zh (hS.out.chg.ext_r K);clear hZ hz
    cases gk with
    | zero=>
     have a9:((pt.length:Int)==1)=true:=by rw [beq_iff_eq];omega
     have E:StepPost w X Y g m ⟨ch,dn,st⟩ (.returned (.tuple #[])) (wr.setCell ⟨g,1,none⟩ (.bool true)):=by
      refine ⟨rfl,gr,cap,pt,?_,d8.out.tr (chg_setg _ B.out.xg 1 _)⟩;have h1:=B.out.done true
      have h2:stepC m ch=none:=by
       have h3:=hS.out.se;dsimp only at h3;rw [<-h3];exact srch_zero d7.out
      show Ai _ X Y g gr cap m (RS.one m ⟨ch,dn,st⟩) _;unfold RS.one;dsimp only;rw [h2];exact h1
     have a2:=zh E;clear E D
     go_wp2_with fail
     try rw [Exit.noGoto_ret]
     refine Ev (results_none rfl _ _ _) rfl ?_;exact a2.out
    | succ j=>
     have a9:((pt.length:Int)==1)=false:=by rw [DR];omega
     have b0:=a6.out.ext K;obtain ⟨us,f,u,t,vc,vp,gu,_,h2⟩:=b0;obtain ⟨_,_,_,_,_,_,r6,_,_⟩:=h2.rules;have f2:=h2.ch;clear h2;obtain ⟨Ac,cc,rfl,i3,f8⟩:=f2;obtain ⟨bc,oc,rfl,_,a8⟩:=AI f8 (k:=j) (by omega) (by omega);rw [List.getElem_take] at a8;obtain ⟨N,hN⟩:=EH ((ch.take (j+1)).length);rw [<-hN] at i3 r6;rw [f6] at hN;obtain ⟨cj,a3⟩:=EH (ch[j]);rw [<-a3] at a8;have h5:=zh a3;have rj:=zc.rule a8;have l0:(0:Int)<=(j:Int):=by omega
     have l1:(j:Int)<(N:Int):=by omega
     have l2:IntKind.i64.wrap ((N:Int) - 1)=(j:Int):=by rw [DZ];omega
     have k8:IntKind.i64.wrap ((pt.length:Int) - 1)=(N:Int):=by rw [DZ];omega
     have j7:wrap64 ((pt.length:Int) - 1)=(N:Int):=by rw [IntWalk.wrap64_in _ (by omega)];omega
     have k5:(0:Int)<=(N:Int):=by omega
     have k6:(N:Int)<=(pt.length:Int):=by omega
     have k7:(N:Int)<=(cap:Int):=by omega
     have l3:=zc.refl wr;have e1:=zh hN;clear a8 f8 a3 D hN
     go_wp2_with fail
     go_quiet (fail)
     generalize g0:wr.drewN nq=w7;have G:zc wr w7:=by rw [<-g0];exact (zc.refl wr).drewN _
     have f1:w7.cell? ⟨g,0,none⟩=some (.slice (some ⟨gr,0,none⟩) pt.length cap):=G.cell U;have f5:w7.frozen? ⟨g,0,none⟩=false:=(Below.frozen G (p:=⟨g,0,none⟩) (zn U)).trans (hf 0);clear g0 U hf h9
     go_wp2_with fail
     go_still_tail 14,(by kernel_rfl)
     change wpList _ _ _ _ _ w7.drew;have a5:zc wr w7.drew:=G.drew;have i2:w7.drew.cell? ⟨g,0,none⟩=some (.slice (some ⟨gr,0,none⟩) pt.length cap):=f1;have i6:w7.drew.frozen? ⟨g,0,none⟩=false:=f5;generalize w7.drew=w8 at*;clear f1 f5 G
     go_wp2_with fail
     go_roundg j
     case measure=>omega
     case rel=>
      refine ⟨cj,pt.take (j+1),rfl,by omega,?_,?_,?_⟩
      ·have h1:=(B.out.ext a5).pop (k:=j) (by show j<=(ch.take (j+1)).length;omega);dsimp only at h1;rw [List.take_take,Nat.min_eq_left (by omega),<-e1.out] at h1;rw [<-e1.out];exact h1
      ·exact (d8.out.ext_r a5).tr (chg_setg _ B.out.xg 0 _)
      ·have h3:=hS.out.se;dsimp only at h3⊢;rw [<-h3,srch_back d7.out,h5.out,DD,DC (by omega),Ei]
theorem one_isCh {m:MZ} {s:RS} (h:zG m s.ch):zG m (s.one m).ch/\(s.one m).steps=s.steps+1:=by
 unfold RS.one
 split
 ·rename_i c d;exact ⟨(stepC_some h d).1,rfl⟩
 ·exact ⟨.nil,rfl⟩
theorem run_isCh {m:MZ}:∀(n:Nat) {s:RS},zG m s.ch->zG m (RS.run m n s).ch
 | 0,s,h=>h
 | n+1,s,h=>by
  unfold RS.run
  split
  ·exact h
  ·exact run_isCh n (one_isCh h).1
theorem run_steps {m:MZ}:∀(n:Nat) {s:RS},zG m s.ch->s.steps<=(RS.run m n s).steps/\(RS.run m n s).steps<=s.steps+n
 | 0,s,h=>⟨Int.le_refl _,by simp [RS.run]⟩
 | n+1,s,h=>by
  unfold RS.run
  split
  ·exact ⟨Int.le_refl _,by omega⟩
  ·have h1:=one_isCh h;have d:=run_steps n h1.1;omega
structure RunR (w wr:World) (X Y:Nat->Prop) (g gr cap:Nat) (m:MZ) (s0:RS) (n:Nat) (s:RS) (pt:List Nat) (k:Nat):Prop where
 rt:Ai wr X Y g gr cap m s pt
 chg:zk X w wr
 run:RS.run m k s=RS.run m n s0
 ch:zG m s.ch
 st:0<=s.steps/\s.steps+k<=4000000000000000000
def RunPost (w:World) (X Y:Nat->Prop) (g:Nat) (m:MZ) (s:RS) (e:Ending) (w':World):Prop:=
 e=.returned (.bool s.done)/\∃gr' cap' ptrs',Ai w' X Y g gr' cap' m s ptrs'/\zk X w w'
theorem stepN_calls {X Y:Nat->Prop} {g gr cap:Nat} {m:MZ} {s:RS} {ptrs:List Nat} (n:Nat) (w:World) (h:Ai w X Y g gr cap m s ptrs) (gd:zX m) (hl:Lens m) (hc:zG m s.ch) (hn:n<=1000000) (U:0<=s.steps) (a9:s.steps<=3000000000000000000)
  (M:∀b,w.heap.size<=b->X b) (O:∀b,Y b->b<w.heap.size):
  Calls Tryz.prog 17 #[.pointer (some ⟨g,0,none⟩),.int .i64 n] w (RunPost w X Y g m (RS.run m n s)):=by
 have H0:Hid (RunR w w X Y g gr cap m s n s ptrs n):=⟨h,zk.refl _ _,rfl,hc,U,by omega⟩;have GD:=zh gd;have HL:=zh hl;have a0:=zh M;have a1:=zh O;have a5:w.cell? ⟨g,0,none⟩=some (.slice (some ⟨gr,0,none⟩) ptrs.length cap):=h.blk.cell (k:=0) rfl;have a8:ptrs.length=s.ch.length+1:=h.row.2.1;have a3:((ptrs.length:Int)==0)=false:=by rw [DR];omega
 obtain ⟨R,B⟩:=EH (RS.run m n s);rw [<-B];have HR:=zh B;clear h gd hl hc M O U a9 a8 B
 go_enter Tryz.func17,Tryz.ntmps17
 go_wp2_with fail
 clear a5 a3
 go_loopg [1] n (fun gk v wr=>∃gr cap s' pt,v=.int .i64 gk/\gk<=n/\Hid (RunR w wr X Y g gr cap m s n s' pt gk))
 case atStart=>exact ⟨gr,cap,s,ptrs,rfl,DE _,H0⟩
 clear H0
 case round=>
  obtain ⟨gr,cap,s',pt,rfl,b7,B⟩:=hrel;have K:=B.out.rt;have Q:wr.cell? ⟨g,1,none⟩=some (.bool s'.done):=K.blk.cell (k:=1) rfl;have J:=zh K;clear K;obtain ⟨d,hd⟩:=EH s'.done;rw [<-hd] at Q;have V:=zh hd;clear hd
  cases gk with
  | zero=>
   have a7:decide ((0:Int)<((0:Nat):Int))=false:=by simp
   have D:RunPost w X Y g m R (.returned (.bool d)) wr:=by
    have h1:=B.out.run;rw [<-HR.out] at h1;rw [<-h1,V.out];exact ⟨rfl,gr,cap,pt,J.out,B.out.chg⟩
   have E:=zh D;clear D
   go_wp2_with fail
   go_ret;exact E.out
  | succ k=>
   have a7:decide ((0:Int)<((k+1:Nat):Int))=true:=DH (by omega);have b4:(0:Int)<((k+1:Nat):Int):=by omega
   cases d with
   | true=>
    have D:RunPost w X Y g m R (.returned (.bool true)) wr:=by
     have h1:=B.out.run;rw [RS.run_done V.out.symm,<-HR.out] at h1;rw [<-h1];exact ⟨by rw [<-V.out],gr,cap,pt,J.out,B.out.chg⟩
    have E:=zh D;clear D
    go_wp2_with fail
    go_ret;exact E.out
   | false=>
    go_wp2_with fail
    refine (stepX_calls wr J.out GD.out HL.out B.out.ch B.out.st.1 (by have:=B.out.st.2;omega) (fun b hb=>a0.out b (DG B.out.chg.size hb)) (fun b hb=>Ef (a1.out b hb) B.out.chg.size)).mono ?_;rintro e w5 ⟨rfl,gr',cap',pt',I,G⟩
    have HN:Hid (RunR w w5 X Y g gr' cap' m s n (s'.one m) pt' k):=by
     have h1:=one_isCh B.out.ch;have h2:=B.out.st;have h3:=B.out.run;unfold RS.run at h3;rw [<-V.out,if_neg (by simp)] at h3;exact ⟨I,B.out.chg.tr G,h3.trans (by cases n <;> rfl),h1.1,by omega⟩
    clear I G Q
    go_wp2_with fail
    go_roundg k
    case measure=>omega
    case rel=>exact ⟨gr',cap',_,pt',by go_num,by omega,HN⟩
structure FL (w wr:World) (v:Value) (vs:List Value) (l:List (List Int)):Prop where
 ext:zc w wr
 own:OwnL wr w.heap.size v vs
 len:vs.length=l.length
 each:∀(j:Nat) x,l[j]?=some x->∃u,vs[j]?=some u/\zY wr w.heap.size u x
theorem FL.nil (w wr:World) (h:zc w wr):FL w wr (.slice none 0 0) [] []:=⟨h,World.ownsRow_nil _ _ _ _,rfl,fun j x h=>by simp at h⟩
theorem FL.more {w w':World} {l:List (List Int)} (h:FL w wr v vs l) (d:zc wr w'):FL w w' v vs l:=by
 have B:wr.grownBy w' none:=⟨d.os,d.tape,d.output,d.size,fun i D _=>d.block i D⟩;refine ⟨h.ext.trans d,h.own.kept B (by cases h:v.ownBlock <;> simp),h.len,fun j x E=>?_⟩;obtain ⟨u,I,G⟩:=h.each j x E;exact ⟨u,I,G.kept B (by cases h:u.ownBlock <;> simp)⟩
theorem own_neT {w:World} {B B':Nat} {e e':TypeId} {sz sz' n':Nat} {xs xs':List Value} (h:w.ownsRow B e sz v n xs) (G:w.ownsRow B' e' sz' v' n' xs') (E:e≠e'):v.ownBlock=none\/v.ownBlock≠v'.ownBlock:=by
 rcases h.2 with ⟨rfl,_⟩ | ⟨g,cap,cur,rfl,_,hh,_⟩
 ·left;rfl
 ·right
  rcases G.2 with ⟨rfl,_⟩ | ⟨g',cap',cur',rfl,_,d,_⟩
  ·simp [Value.ownBlock]
  ·intro he;have D:g=g':=by simpa [Value.ownBlock] using he
   subst D;rw [hh] at d;injection d with d;injection d with _ ht;exact E ht
theorem FL.app {w w':World} {l:List (List Int)} {x:List Int} (h:FL w wr v vs l) (M:zY wr w.heap.size u x) (K:w'.ownsRow w.heap.size 39 1 v' (vs.length+1) (vs++[u])) (I:(wr.alloc o).grownBy w' v.ownBlock):FL w w' v' (vs++[u]) (l++[x]):=by
 have J:zc wr (wr.alloc o):=(zc.refl _).alloc _;have h1:=h.more J;have D:∀{u':Value} {x':List Int},zY wr w.heap.size u' x'->zY w' w.heap.size u' x':=fun d=>(World.ownsRow.alloc d o).kept I (own_neT d h.own (by decide))
 refine ⟨AU h1.ext I h1.ext.size (fun k D=>(h1.own.lt k D).1),?_,by simp [h.len],fun j y B=>?_⟩
 ·show w'.ownsRow _ _ _ _ (vs++[u]).length _;rw [DM,Ed];exact K
 ·rcases Ea j l.length with hjl | hjl
  ·rw [DJ hjl] at B;obtain ⟨u',d,G⟩:=h.each j y B;exact ⟨u',by rw [DJ (by rw [h.len];exact hjl)];exact d,D G⟩
  ·have E:j=l.length:=by
    rcases Ea j (l++[x]).length with h1 | h1
    ·simp at h1;omega
    ·rw [DX h1] at B;cases B
   subst E;rw [DK (DE _)] at B;have O:x=y:=by simpa using B
   subst O;exact ⟨u,by rw [<-h.len,DK (DE _)];simp,D M⟩
theorem FL.intss {w:World} {l:List (List Int)} (h:FL w wr v vs l):zV wr (fun b=>w.heap.size<=b) v l:=
 ⟨vs,by rw [<-h.len];exact Bc.of_own h.own,fun j x d=>by
  obtain ⟨u,D,B⟩:=h.each j x d;exact ⟨u,D,Bc.of_own B⟩⟩
def Cw (m:MZ) (ch:List Int):List (List Int):=if Bk m ch=true then Ao m ch else []
def FoundPost (w:World) (m:MZ) (ch:List Int) (e:Ending) (w':World):Prop:=
 ∃v,e=.returned (.tuple #[v,.bool (Bk m ch)])/\zc w w'/\zV w' (fun b=>w.heap.size<=b) v (Cw m ch)
theorem found_c {X Y:Nat->Prop} {g gr cap:Nat} {m:MZ} {s:RS} {ptrs:List Nat} (w:World) (h:Ai w X Y g gr cap m s ptrs) (gd:zX m) (hl:Lens m) (hc:zG m s.ch):
  Calls Tryz.prog 35 #[.pointer (some ⟨g,0,none⟩)] w (FoundPost w m s.ch):=by
 obtain ⟨p,hp,b1,d9⟩:=h.row.last;have hn:=hc.len300 gd;have c6:=zh (last_c (w':=w) h hp (by omega));have c8:Hid (∀w2,zc w w2->Calls Tryz.prog 40 #[.pointer (some ⟨g,0,none⟩)] w2 fun e w'=>e=.returned (.pointer (some ⟨p,0,none⟩))/\zB w2 w'):=fun w2 hE=>last_c (w':=w2) (h.ext hE) hp (by omega)
 have f0:w.cell? ⟨g,0,none⟩=some (.slice (some ⟨gr,0,none⟩) ptrs.length cap):=h.blk.cell (k:=0) rfl;have Q:ptrs.length=s.ch.length+1:=h.row.2.1;have d8:((ptrs.length:Int)==0)=false:=by rw [DR];omega
 have a1:=zh b1;have GD:=zh gd;have HL:=zh hl;have HC:=zh hc;obtain ⟨i0,hi,b4,b5,b6⟩:=info_parts Tryz.infoInts;have IF:=zh hi;have IZ0:=zh b4;have IZ1:=zh b5;have IZ2:=zh b6;clear hi b4 b5 b6;clear h gd hl hc Q hp d9 b1 hn;obtain ⟨cb,a3⟩:=EH (Bk m s.ch);have B:=zh a3;clear a3
 go_enter Tryz.func35,Tryz.ntmps35
 go_wp2_with fail
 refine c6.out.mono ?_;rintro e w1 ⟨rfl,a4⟩;have a0:zc w w1:=a4.below _;clear a4
 go_wp2_with fail
 refine (CZ w1 (a1.out.ext a0) GD.out HL.out HC.out).mono ?_;rintro e w2 ⟨rfl,a5⟩;have K:zc w w2:=a0.trans (a5.below _);rw [<-B.out];clear a5 a0 d8
 cases cb with
 | false=>
  have d:FoundPost w m s.ch (.returned (.tuple #[.slice none 0 0,.bool false])) w2:=⟨_,by rw [B.out],K,by unfold Cw;rw [<-B.out];exact zV.nil _ _⟩;have D:=zh d;clear d
  go_wp2_with fail
  go_ret2
  exact D.out
 | true=>
  go_wp2_with fail
  refine (c8.out w2 K).mono ?_;rintro e w3 ⟨rfl,a6⟩;have e3:zc w w3:=K.trans (a6.below _);clear a6 K;obtain ⟨us,f,u,t,vc,vp,gu,_,J⟩:=a1.out;obtain ⟨_,_,_,_,_,_,_,r7,_⟩:=J.rules;have U:=J.ps;clear J;have a9:Hid (∀p∈Ao m s.ch,p.length<=1000):=(HC.out.sok GD.out HL.out).pp;have Q:(Ao m s.ch).length<=6:=by have:=(HC.out.sok GD.out HL.out).pl;have:=GD.out.tk;omega
  obtain ⟨ps,I⟩:=EH (Ao m s.ch);rw [<-I] at U a9 Q;have d4:=zh I;clear I;have HP:=zh U;obtain ⟨vs,⟨Ap,cp,rfl,f1,b0⟩,a7⟩:=U;have d5:=zh b0;have b9:=zh a7;clear b0 a7;have H0:=zh (FL.nil w w3 e3)
  go_wp2_with fail
  go_loopg [4,29] ps.length (fun gk v vi wr=>∃(i:Nat) (vs:List Value),vi=.int .i64 i/\i<=ps.length/\gk=ps.length - i/\Hid (FL w wr v vs (ps.take i)))
  case atStart=>exact ⟨0,[],rfl,DS _,rfl,H0⟩
  clear H0
  case round=>
   obtain ⟨i,vl,rfl,hi,rfl,hF⟩:=hrel;have b3:=hF.out.ext;rcases Ea i ps.length with G | hge
   ·obtain ⟨bp,op,up,rfl,_,E,b2⟩:=Bt d5.out b9.out G G;have q0:=zc.rule E;clear E;have a8:=a9.out _ (DF G);have d6:=zh b2;clear b2
    obtain ⟨As,cs,rfl,f2⟩:∃A c,u4=.slice A vl.length c/\vl.length<=c:=by
     obtain ⟨A,c,e,hc,_⟩:=Bc.of_own hF.out.own;exact ⟨A,c,e,hc⟩
    have V:=hF.out.len;have c7:=zh a8;clear a8;have e8:=zh V;have e7:vl.length<=6:=by rw [V,Eu];omega
    clear V
    go_wp2_with fail
    refine (Bj _ (d6.out.below b3) (by have:=c7.out;omega)).mono ?_;rintro e w4 ⟨v4,rfl,hM⟩;have O:=zh (hF.out.more hM.ext);have c9:Hid (zY w4 w.heap.size v4 ps[i]):=World.ownsRow.mono hM.own b3.size;obtain ⟨A4,c4,rfl,_⟩:=hM.slice;have f4:w.heap.size<=w4.heap.size:=O.out.ext.size;clear hM
    go_wp2_with (at_builtin;refine wpList_append_own_at _ rfl _ _ 22 rfl w.heap.size 39 i0 (.slice none 0 0) 1 24 Tryz.underlying22 IF.out IZ0.out IZ1.out IZ2.out rfl (by decide) (.slice As vl.length cs) vl.length _ rfl (O.out.own.alloc _) ⟨w4.heap.size,0,none⟩ 1 1 [.slice A4 ps[i].length c4] rfl rfl (cell_one_new _ _ _) (by simp [Value.oneCell']) (by unfold maxLen;omega) (by omega) (by simp;omega) ?_)
    intro v' w5 M hg _ e2;have d7:=zh (O.out.app c9.out M hg);clear M hg e2
    go_wp2_with fail
    go_roundg (ps.length - (i+1))
    case measure=>omega
    case rel=>exact ⟨i+1,_,by go_num,G,rfl,by rw [DL G];exact d7⟩
   ·have e1:i=ps.length:=by omega
    subst e1
    have d:FoundPost w m s.ch (.returned (.tuple #[u4,.bool true])) wr:=by
     refine ⟨u4,by rw [B.out],hF.out.ext,?_⟩;unfold Cw;rw [<-B.out,if_pos rfl,<-d4.out];have:=hF.out.intss
     rwa [DP] at this
    have D:=zh d;clear d
    go_wp2_with fail
    go_ret2
    exact D.out
end
section
open Go.RowKit
def drawV (l:List Int) (k:Nat) (n:Int):Int:=if h:k<l.length then l[k] % n else 0
def drawK (l:List Int) (k:Nat):Nat:=if k<l.length then k+1 else k
theorem draw_calls (gd k:Nat) (n:Int) (w:World) (K:zg w gd 67 #[v,.int .i64 k]) (h:zl w ok v l) (hg:¬ ok gd) (hl:l.length<=9223372036854775807) (hk:k<=l.length) (hn:0<n) (a5:n<=1000000):
  Calls Tryz.prog 24 #[.pointer (some ⟨gd,0,none⟩),.int .i64 n] w fun e w'=>e=.returned (.int .i64 (drawV l k n))/\zg w' gd 67 #[v,.int .i64 (drawK l k)]/\w.grownBy w' (some gd):=by
 obtain ⟨A,c,rfl,hc,hr⟩:=h;have M:=K.cell (k:=0) rfl;have O:=K.cell (k:=1) rfl;have hx:=zc.refl w;by_cases D:k<l.length
 ·obtain ⟨b,off,rfl,a7,d⟩:=AI hr D D;have a2:b≠gd:=fun e=>hg (e ▸ a7)
  have U:drawV l k n=l[k] % n:=by unfold drawV;rw [dif_pos D]
  have I:drawK l k=k+1:=by unfold drawK;rw [if_pos D]
  rw [U,I];clear U I hr;obtain ⟨x,V⟩:=EH (l[k]);rw [<-V] at d⊢;clear V;have hf:=K.frozen 1;have HB:=zh K;clear K;have hd:decide ((l.length:Int)<=(k:Int))=false:=DI (by omega)
  go_enter Tryz.func24,Tryz.ntmps24
  go_wp2_with fail
  go_quiet (fail)
  generalize Q:w.drewN nq=w1;have a3:zB w w1:=⟨nq,Q.symm⟩;have G:zc w w1:=a3.below _;have hh:w1.heap=w.heap:=by rw [<-Q];rfl
  clear Q M O hf;have E:zg w1 gd 67 #[.slice (some ⟨b,off,none⟩) l.length c,.int .i64 k]:=HB.out.ext G;have M:=E.cell (k:=0) rfl;have O:=E.cell (k:=1) rfl;have hf:=E.frozen 1;have B:=G.cell d;have J:Hid (zg (w1.setCell ⟨gd,1,none⟩ (.int .i64 ((k:Int)+1))) gd 67 #[.slice (some ⟨b,off,none⟩) l.length c,.int .i64 ((k:Int)+1)]):=E.set (k:=1) _;have a0:(w1.setCell ⟨gd,1,none⟩ (.int .i64 ((k:Int)+1))).cell? ⟨b,off+k,none⟩=some (.int .i64 x):=(DT (w:=w1) (DN w1 _ _ b a2)).trans B;have HG:Hid (w.grownBy (w1.setCell ⟨gd,1,none⟩ (.int .i64 ((k:Int)+1))) (some gd)):=⟨G.os,G.tape,G.output,by simp [hh],fun i hi a6=>by rw [DN w1 _ _ i (fun e=>a6 (by rw [e])),hh]⟩;have a9:=J.out.cell (k:=0) rfl;have b0:=J.out.cell (k:=1) rfl;clear E d;go_upto_region 4 with fail;generalize w1.setCell ⟨gd,1,none⟩ (.int .i64 ((k:Int)+1))=w2 at*;clear M O hf B;have b6:=zc.refl w2;have b4:(k:Int)<(l.length:Int):=by omega
  go_quiet ((go_at_call 42;refine (mod_calls x n _ hn a5).mono ?_;rintro e w9 ⟨a4,rfl⟩;exact ⟨a4,⟨_,rfl⟩⟩))
  go_wp2;go_ret;refine ⟨rfl,J.out.ext ((zc.refl w2).drewN _),?_⟩;have h:=HG.out;exact ⟨h.os,h.tape,h.output,h.size,h.block⟩
 ·have U:drawV l k n=0:=by unfold drawV;rw [dif_neg D]
  have I:drawK l k=k:=by unfold drawK;rw [if_neg D]
  rw [U,I];clear U I hr;have HB:=zh K;clear K;have hd:decide ((l.length:Int)<=(k:Int))=true:=DH (by omega)
  go_enter Tryz.func24,Tryz.ntmps24
  go_wp2_with fail
  go_quiet (fail)
  go_wp2;go_ret;exact ⟨rfl,HB.out,⟨rfl,rfl,rfl,DE _,fun _ _ _=>rfl⟩⟩
end
end Go.Proofs.YtfjjdmpndmbfoaaGreatDoor
