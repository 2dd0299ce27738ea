import Derived.Test.YthbjngbhbbkkgaaGreatHRk
import Derived.Maps.AppendAt
import Derived.Deep.LoopGhost
import Derived.StillTailTactics
set_option linter.unusedVariables false
set_option linter.unusedSimpArgs false
set_option maxRecDepth 100000
set_option maxHeartbeats 16000000
namespace Go.Proofs.YthbjngbhbbkkgaaGreat
variable {b:Int} {l:List Int} {vs:List Value} {i k n p q:Nat} {o:Obj} {v v':Value} {a c wr:World}
section
open Go.RowKit
attribute [local go_sem ↓] Go.wp_at_zero Go.wp_at_succ
theorem last_calls {g gr P cap:Nat} (w:World) (z:w.cell? ⟨g,0,none⟩=some (.slice (some ⟨gr,0,none⟩) P cap)) (B:w.cell? ⟨gr,n,none⟩=some (ptrV p)) (E:P=n+1) (D:P<=cap) (L:n<=1000):
  Calls Tryz.prog 63 #[.pointer (some ⟨g,0,none⟩)] w fun e w'=>e=.returned (ptrV p)/\zK w w':=by
 have r0:=zb.rule z;have r1:=zb.rule B;have G:(0:Int)<=(n:Int):=by omega
 have I:(n:Int)<(P:Int):=by omega
 have J:IntKind.i64.wrap ((P:Int) - 1)=(n:Int):=by rw [Fb];omega
 clear z B E;have M:=zb.refl w
 go_enter Tryz.func63,Tryz.ntmps63
 go_wp2_with fail
 go_quiet (fail)
 go_wp2;go_ret;exact ⟨rfl,(zK.refl w).more _⟩
theorem last_c {w w':World} {X Y:Nat->Prop} {g gr cap:Nat} {m:MZ} {s:RS} {ptrs:List Nat} (h:AY w X Y g gr cap m s ptrs) (hp:ptrs[s.ch.length]?=some p) (D:s.ch.length<=1000):
  Calls Tryz.prog 63 #[.pointer (some ⟨g,0,none⟩)] w fun e w'=>e=.returned (.pointer (some ⟨p,0,none⟩))/\zK w w':=by
 obtain ⟨p',z,_,B⟩:=h.row.last;rw [hp] at z;injection z with z;subst z;exact last_calls w (h.blk.cell (k:=0) rfl) B h.row.2.1 (Ck h.row.1) D
end
section
open Go.RowKit
section
variable {w w' W:World} {X Y:Nat->Prop} {g gr cap:Nat} {m:MZ} {s:RS} {ptrs:List Nat} {ch:List Int}
theorem AY.okR_ne (h:AY w X Y g gr cap m s ptrs) {b:Nat} (z:okR X Y g gr b):b≠g/\b≠gr:=by
 rcases z with ⟨_,h1,h2⟩ | hy
 ·exact ⟨h1,h2⟩
 ·exact ⟨fun e=>h.yg (e ▸ hy),fun e=>h.yr (e ▸ hy)⟩
theorem AY.setg (h:AY w X Y g gr cap m s ptrs) (j:Nat) (v:Value) {s':RS} (z:s'.ch=s.ch) (B:(#[.slice (some ⟨gr,0,none⟩) ptrs.length cap,.bool s.done,.int .i64 s.steps]:Array Value).setIfInBounds j v=#[.slice (some ⟨gr,0,none⟩) ptrs.length cap,.bool s'.done,.int .i64 s'.steps]):
  AY (w.setCell ⟨g,j,none⟩ v) X Y g gr cap m s' ptrs:=
 ⟨by have:=h.blk.set (k:=j) v;rwa [B] at this,h.xg,h.xr,h.ne,h.yg,h.yr,by
  rw [z]
  exact h.row.keep (fun b B hx=>EP w ⟨g,j,none⟩ v b (by
   show b≠g;rcases hx with hx | hx
   ·exact hx.2
   ·exact fun e=>h.yg (e ▸ hx))) h.xr h.ne⟩
theorem AY.done (h:AY w X Y g gr cap m s ptrs) (d:Bool):AY (w.setCell ⟨g,1,none⟩ (.bool d)) X Y g gr cap m ⟨s.ch,d,s.steps⟩ ptrs:=h.setg 1 _ rfl rfl
theorem AY.stepsTo (h:AY w X Y g gr cap m s ptrs) (n:Int):AY (w.setCell ⟨g,2,none⟩ (.int .i64 n)) X Y g gr cap m ⟨s.ch,s.done,n⟩ ptrs:=h.setg 2 _ rfl rfl
theorem AY.widen {X':Nat->Prop} (h:AY w X Y g gr cap m s ptrs) (z:∀b,X b->X' b):AY w X' Y g gr cap m s ptrs:=
 ⟨h.blk,z _ h.xg,z _ h.xr,h.ne,h.yg,h.yr,h.row.1,h.row.2.1,fun k p hp=>(h.row.2.2 k p hp).weaken fun b hb=>by
  rcases hb with hb | hb
  ·exact .inl ⟨z _ hb.1,hb.2⟩
  ·exact .inr hb⟩
theorem chg_setg {X:Nat->Prop} (w:World) (B:X g) (j:Nat) (v:Value):zp X w (w.setCell ⟨g,j,none⟩ v):=
 ⟨rfl,rfl,rfl,by simp [World.setCell],fun b _ z=>EP w ⟨g,j,none⟩ v b (by rintro rfl;exact z B)⟩
theorem zp.tr {X:Nat->Prop} {b:World} (h:zp X a b) (z:zp X b c):zp X a c:=h.trans z (fun _ _ h=>h)
theorem zp.ext_r {X:Nat->Prop} {b:World} (h:zp X a b) (z:zb b c):zp X a c:=h.tr (zp.of_ext z)
theorem AY.pop (h:AY w X Y g gr cap m s ptrs) (I:k<=s.ch.length):AY (w.setCell ⟨g,0,none⟩ (.slice (some ⟨gr,0,none⟩) (k+1) cap)) X Y g gr cap m ⟨s.ch.take k,s.done,s.steps⟩ (ptrs.take (k+1)):=by
 have D:=h.row.2.1;have B:(ptrs.take (k+1)).length=k+1:=by rw [FA];omega
 have z:∀b,(X b/\b≠g)\/Y b->(w.setCell ⟨g,0,none⟩ (.slice (some ⟨gr,0,none⟩) (k+1) cap)).heap[b]?=w.heap[b]?:=fun b hx=>EP w ⟨g,0,none⟩ _ b (by
  show b≠g;rcases hx with hx | hx
  ·exact hx.2
  ·exact fun e=>h.yg (e ▸ hx))
 have G:w.ownsRow 0 97 1 (.slice (some ⟨gr,0,none⟩) (k+1) cap) (k+1) ((ptrs.take (k+1)).map ptrV):=by
  rw [List.map_take];exact row_shrink h.row.1 (by omega)
 refine ⟨?_,h.xg,h.xr,h.ne,h.yg,h.yr,?_,?_,?_⟩
 ·have:=h.blk.set (k:=0) (.slice (some ⟨gr,0,none⟩) (k+1) cap);rw [B];exact this
 ·rw [B];exact row_keep G (z gr (.inl ⟨h.xr,Ne.symm h.ne⟩))
 ·simp only [FA];omega
 ·intro j p hp
  have E:j<k+1:=by
   rcases Fc j (k+1) with h1 | h1
   ·exact h1
   ·rw [EZ (by omega)] at hp;cases hp
  rw [List.getElem?_take_of_lt E] at hp;have:=h.row.2.2 j p hp;rw [List.take_take,Nat.min_eq_left (by omega)]
  exact this.keep fun b hb _=>z b (by
   rcases hb with hb | hb
   ·exact .inl ⟨hb.1,hb.2.1⟩
   ·exact .inr hb)
theorem AY.push (h:AY w X Y g gr cap m s ptrs) {n:Int} {w5:World} (a3:EC w (okR X Y g gr) q m (s.ch++[n])) (Q:∀b,w.heap.size<=b->X b) (T:∀b,Y b->b<w.heap.size)
  (J:w5.ownsRow 0 97 1 v' (ptrs.length+1) (ptrs.map ptrV++[ptrV q])) (M:(w.alloc o).grownBy w5 (some gr)) (hv:v'.ownBlock=some gr\/v'.ownBlock=some (w.heap.size+1)):
  ∃gr' cap',v'=.slice (some ⟨gr',0,none⟩) (ptrs.length+1) cap'/\AY (w5.setCell ⟨g,0,none⟩ v') X Y g gr' cap' m ⟨s.ch++[n],s.done,s.steps⟩ (ptrs++[q])/\zp X w (w5.setCell ⟨g,0,none⟩ v'):=by
 obtain ⟨gr',cap',rfl,_,a7⟩:=World.ownsRow.form J (by omega)
 have D:gr'=gr\/gr'=w.heap.size+1:=by
  rcases hv with hv | hv
  ·left;simpa [Value.ownBlock] using hv
  ·right;simpa [Value.ownBlock] using hv
 have a0:g<w.heap.size:=zd h.blk;have a9:gr<w.heap.size:=(h.row.1.lt gr rfl).2;have a4:w.heap.size<=w5.heap.size:=EI (by simp) M.size
 have I:g≠gr':=by
  rcases D with rfl | rfl
  ·exact h.ne
  ·omega
 have E:∀b,b<w.heap.size->b≠gr->w5.heap[b]?=w.heap[b]?:=fun b z L=>(M.block b (by simp;omega) (fun e=>L (by injection e))).trans (EY _ _ _ z)
 have B:∀b,b<w.heap.size->b≠gr->b≠g->(w5.setCell ⟨g,0,none⟩ (.slice (some ⟨gr',0,none⟩) (ptrs.length+1) cap')).heap[b]?=w.heap[b]?:=fun b z L V=>(EP w5 ⟨g,0,none⟩ _ b V).trans (E b z L)
 have a2:∀b,okR X Y g gr b/\b<w.heap.size->okR X Y g gr' b:=by
  rintro b ⟨z,a6⟩;rcases z with ⟨h1,h2,h3⟩ | hy
  ·exact .inl ⟨h1,h2,by rcases D with rfl | rfl;exact h3;omega⟩
  ·exact .inr hy
 have G:∀(p:Nat) (c:List Int),EC w (okR X Y g gr) p m c->EC (w5.setCell ⟨g,0,none⟩ (.slice (some ⟨gr',0,none⟩) (ptrs.length+1) cap')) (okR X Y g gr') p m c:=fun p c hs=>
  (hs.bound.keep fun b z _=>B b z.2 (h.okR_ne z.1).2 (h.okR_ne z.1).1).weaken a2
 have O:=h.row.2.1;refine ⟨gr',cap',rfl,⟨?_,h.xg,?_,I,h.yg,?_,?_,?_,?_⟩,?_⟩
 ·have U:zk w5 g 96 #[.slice (some ⟨gr,0,none⟩) ptrs.length cap,.bool s.done,.int .i64 s.steps]:=(E g a0 h.ne).trans h.blk;have:=U.set (k:=0) (.slice (some ⟨gr',0,none⟩) (ptrs.length+1) cap');rw [EO,Ff];exact this
 ·rcases D with rfl | rfl
  ·exact h.xr
  ·exact Q _ (by omega)
 ·rcases D with rfl | rfl
  ·exact h.yr
  ·intro hy;have:=T _ hy;omega
 ·rw [EO,Ff,Fz];exact row_keep J (EP w5 ⟨g,0,none⟩ _ gr' (Ne.symm I))
 ·simp [O]
 ·intro k p hp;rcases Fc k ptrs.length with hk | hk
  ·rw [EL hk] at hp;rw [List.take_append_of_le_length (by omega)];exact G _ _ (h.row.2.2 k p hp)
  ·have a1:k=ptrs.length:=by
    rcases Fc k (ptrs++[q]).length with h1 | h1
    ·simp at h1;omega
    ·rw [EZ h1] at hp;cases hp
   subst a1;rw [EM (EG _)] at hp;have hq:q=p:=by simpa using hp
   subst hq;rw [List.take_of_length_le (by simp;omega)];exact G _ _ a3
 ·exact ⟨M.os,M.tape,M.output,by simpa [World.setCell] using a4,fun b z hx=>B b z (fun e=>hx (e ▸ h.xr)) (fun e=>hx (e ▸ h.xg))⟩
end
noncomputable def srch (m:MZ) (ch:List Int) (k:Nat) (b:Int):Option (List Int):=
 match aft m (ch.take k) b with
 | some n=>some (ch.take k++[n])
 | none=>backN m ch k
theorem srch_top (m:MZ) (ch:List Int):srch m ch ch.length (-1)=stepC m ch:=by
 unfold srch stepC;rw [ER]
 all_goals (cases aft m ch (-1) <;> rfl)
theorem srch_back {m:MZ} {ch:List Int} (h:aft m (ch.take (k+1)) b=none):srch m ch (k+1) b=srch m ch k (ch.getD k 0):=by
 unfold srch;rw [h];rfl
theorem srch_zero {m:MZ} {ch:List Int} (h:aft m (ch.take 0) b=none):srch m ch 0 b=none:=by
 unfold srch;rw [h];rfl
theorem aft_none {m:MZ} {ch:List Int} (z:l=cand m ch) (h:∀n∈l,¬ (b<n/\Bb m (ch++[n])=true)):aft m ch b=none:=by
 unfold aft;rw [List.find?_eq_none];intro n B;have:=h n (by rw [z];exact B);simp only [ES,EQ];exact this
theorem aft_at {m:MZ} {ch:List Int} (B:i<(cand m ch).length) (h:∀n∈(cand m ch).take i,¬ (b<n/\Bb m (ch++[n])=true)) (h1:b<(cand m ch)[i]) (h2:Bb m (ch++[(cand m ch)[i]])=true):aft m ch b=some (cand m ch)[i]:=by
 unfold aft;generalize cand m ch=l at*;obtain ⟨x,z⟩:=zad (l[i]);rw [<-z] at h1 h2⊢
 have E:l=l.take i++x :: l.drop (i+1):=by
  rw [z,List.getElem_cons_drop B,List.take_append_drop]
 rw [E,List.find?_append,List.find?_eq_none.2 (fun n D=>by
  have:=h n D;simp only [ES,EQ];exact this)]
 simp [h1,h2]
end
section
open Go.RowKit
attribute [local go_sem ↓] Go.wp_at_zero Go.wp_at_succ
theorem Tryz.infoPst:(Tryz.prog.info? 97).map (fun i=>(i.zero,i.size,i.bytes))=some (some (.pointer none),1,8):=by kernel_rfl
structure SR (w wr:World) (X Y:Nat->Prop) (g gr cap:Nat) (m:MZ) (s:RS) (pt:List Nat) (k:Nat) (b:Int):Prop where
 rt:AY wr X Y g gr cap m ⟨s.ch.take k,s.done,s.steps+1⟩ pt
 chg:zp X w wr
 se:srch m s.ch k b=stepC m s.ch
def StepPost (w:World) (X Y:Nat->Prop) (g:Nat) (m:MZ) (s:RS) (e:Ending) (w':World):Prop:=
 e=.returned (.tuple #[])/\∃gr' cap' ptrs',AY w' X Y g gr' cap' m (s.one m) ptrs'/\zp X w w'
theorem no_step {m:MZ} {ch:List Int} (h:∀n∈l.take i,¬ (b<n/\Bb m (ch++[n])=true)) (z:i<l.length) (h1:¬ (b<l[i]/\Bb m (ch++[l[i]])=true)):∀n∈l.take (i+1),¬ (b<n/\Bb m (ch++[n])=true):=by
 intro n B;rcases (Aa z n).1 B with h2 | rfl
 ·exact h n h2
 ·exact h1
theorem aft_of {m:MZ} {ch:List Int} {n:Int} (B:l=cand m ch) (z:i<l.length) (D:n=l[i]) (h:∀n∈l.take i,¬ (b<n/\Bb m (ch++[n])=true)) (h1:b<n) (h2:Bb m (ch++[n])=true):aft m ch b=some n:=by
 subst B D;exact aft_at z h h1 h2
theorem push_ok {w w3 w4:World} {X Y:Nat->Prop} {g gr cap:Nat} {m:MZ} {s:RS} {pt:List Nat} {c:List Int} (D:EC w4 (fun b=>(okR X Y g gr b/\b<w3.heap.size)\/w3.heap.size<=b) q m c) (E:zb w w3) (B:AY w X Y g gr cap m s pt) (z:∀b,w.heap.size<=b->X b):EC w4 (okR X Y g gr) q m c:=
 D.weaken fun b hb=>by
  rcases hb with hb | hb
  ·exact hb.1
  ·have h1:g<w.heap.size:=zd B.blk;have h2:gr<w.heap.size:=(B.row.1.lt gr rfl).2;have h3:=E.size;exact .inl ⟨z b (by omega),by omega,by omega⟩
theorem stepX_calls {X Y:Nat->Prop} {g gr cap:Nat} {m:MZ} {s:RS} {ptrs:List Nat} (w:World) (h:AY w X Y g gr cap m s ptrs) (gd:zC m) (hl:Lens m) (hc:zx m s.ch) (j0:0<=s.steps) (j1:s.steps<=4000000000000000000)
  (e5:∀b,w.heap.size<=b->X b) (e7:∀b,Y b->b<w.heap.size):
  Calls Tryz.prog 62 #[.pointer (some ⟨g,0,none⟩)] w (StepPost w X Y g m s):=by
 obtain ⟨ch,dn,st⟩:=s;dsimp only at j0 j1 hc;have H:=zh h;have b9:w.cell? ⟨g,2,none⟩=some (.int .i64 st):=h.blk.cell (k:=2) rfl;have hf:=fun k=>h.blk.frozen k
 have GD:=zh gd;have HL:=zh hl;have HC:=zh hc;have e3:=zh e5;have h7:=zh e7;have j8:=hc.len300 gd;clear h gd hl hc e5 e7
 have e0:Hid (SR w (w.setCell ⟨g,2,none⟩ (.int .i64 (st+1))) X Y g gr cap m ⟨ch,dn,st⟩ ptrs ch.length (-1)):=by
  refine ⟨?_,chg_setg w H.out.xg 2 _,srch_top m ch⟩;have h1:=H.out.stepsTo (st+1);dsimp only at h1⊢;rw [ER];exact h1
 obtain ⟨i0,hi,f9,g0,g3⟩:=info_parts Tryz.infoPst;have IF:=zh hi;have IZ0:=zh f9;have IZ1:=zh g0;have IZ2:=zh g3;clear hi f9 g0 g3
 go_enter Tryz.func62,Tryz.ntmps62
 go_wp2_with fail
 go_step3
 go_wp2_with fail
 go_step3
 go_wp2_with fail
 clear b9 hf
 go_loopg [2] ch.length (fun gk v wr=>∃b pt,v=.int .i64 b/\gk<=ch.length/\Hid (SR w wr X Y g gr cap m ⟨ch,dn,st⟩ pt gk b))
 case atStart=>exact ⟨-1,ptrs,rfl,EG _,e0⟩
 clear e0
 case round=>
  obtain ⟨b,pt,rfl,hk,hS⟩:=hrel;obtain ⟨wo,rfl⟩:∃wo:World,wo=wr:=⟨_,rfl⟩;have z:=hS.out.rt;obtain ⟨p,hp,a9,i3⟩:=z.row.last;have f4:(ch.take gk).length=gk:=by rw [FA];omega
  have b5:=zh (last_c (w':=wo) z hp (by dsimp only;rw [f4];omega));have a5:=zh a9;dsimp only at a5;clear z hp a9 i3
  go_wp2_with fail
  refine b5.out.mono ?_;rintro e w1 ⟨rfl,a8⟩;have c8:zb wo w1:=a8.below _;clear a8
  go_wp2_with fail
  refine (CY _ (a5.out.ext c8) GD.out HL.out (HC.out.take gk)).mono ?_;rintro e w2 ⟨v2,rfl,a6⟩;obtain ⟨A2,c2,rfl,b9⟩:=a6.slice;have j2:zb wo w2:=c8.trans a6.ext;have i9:(cand m (ch.take gk)).length<=400000000000:=CT HL.out _;have d6:=zh a6;clear a6 c8;obtain ⟨l,c4⟩:=zad (cand m (ch.take gk));rw [<-c4] at d6 b9 i9⊢;have b6:=zh c4;clear c4
  go_wp2_with fail
  go_loopg [19] l.length (fun gi v wz=>∃i:Nat,v=.int .i64 i/\i<=l.length/\gi=l.length - i/\Hid (zb w2 wz/\∀n∈l.take i,¬ (b<n/\Bb m (ch.take gk++[n])=true)))
  case atStart=>exact ⟨0,rfl,EU _,rfl,zb.refl _,by simp⟩
  case round=>
   obtain ⟨i,rfl,hi,rfl,hZ⟩:=hrel;have hz:=hZ.out.1;have L:zb wo wr:=j2.trans hz;rcases Fc i l.length with U | hge
   ·obtain ⟨bl,rfl,_,J⟩:=own_at d6.out.own U;obtain ⟨n,hn⟩:=zad (l[i]);rw [<-hn] at J;have q0:=zb.rule J
    have c5:Hid (n∈cand m (ch.take gk)):=by
     show n∈_;rw [<-b6.out,hn];exact EH _
    have HN:=zh hn;clear J hn;by_cases V:n<=b
    ·have hd:decide (n<=b)=true:=EJ V;have b7:=zh V;clear V
     go_wp2_with fail
     go_roundg (l.length - (i+1))
     case measure=>omega
     case rel=>exact ⟨i+1,by go_num,U,rfl,hZ.out.1,no_step hZ.out.2 U (fun h=>by have:=b7.out;rw [<-HN.out] at h;omega)⟩
    ·have hd:decide (n<=b)=false:=EK V;have b7:=zh V;clear V
     go_wp2_with fail
     refine (with_c _ (a5.out.ext L) GD.out HL.out (HC.out.take gk) c5.out).mono ?_;rintro e w3 ⟨q,rfl,b0,hq⟩;have HQ:=zh hq;clear hq
     go_wp2_with fail
     refine (open_c w3 HQ.out GD.out HL.out (.snoc (HC.out.take gk) c5.out)).mono ?_;rintro e w4 ⟨rfl,a3⟩;obtain ⟨ob,c6⟩:=zad (Bb m (ch.take gk++[n]));rw [<-c6];have d8:=zh c6;clear c6
     cases ob with
     | false=>
      have j3:zb w2 w4:=hz.trans (b0.trans a3);clear b0 a3
      go_wp2_with fail
      go_roundg (l.length - (i+1))
      case measure=>omega
      case rel=>exact ⟨i+1,by go_num,U,rfl,j3,no_step hZ.out.2 U (fun h=>by rw [<-HN.out,<-d8.out] at h;exact absurd h.2 (by simp))⟩
     | true=>
      have Q:zb wo w4:=L.trans (b0.trans a3);have h6:=zh (push_ok (HQ.out.ext a3) L hS.out.rt (fun b hb=>e3.out b (EI hS.out.chg.size hb)));have z:=hS.out.rt.ext Q;have T:w4.cell? ⟨g,0,none⟩=some (.slice (some ⟨gr,0,none⟩) pt.length cap):=z.blk.cell (k:=0) rfl;have hf:=fun k=>z.blk.frozen k
      have B:=zh z;clear z;have D:pt.length=gk+1:=by have:=B.out.row.2.1;dsimp only at this;omega
      have d9:=zh D;have j9:pt.length+1<=1000:=by omega
      clear b0 a3 hz L D
      go_wp2_with (at_builtin;refine wpList_append_own_at _ rfl _ _ 94 rfl 0 97 i0 (.pointer none) 1 8 Tryz.underlying94 IF.out IZ0.out IZ1.out IZ2.out rfl (by decide) (.slice (some ⟨gr,0,none⟩) pt.length cap) pt.length _ rfl (B.out.row.1.alloc _) ⟨w4.heap.size,0,none⟩ 1 1 [ptrV q] rfl rfl (cell_one_new _ _ _) (by simp [ptrV,Value.oneCell']) (by unfold maxLen;omega) (by omega) (EU _) ?_)
      intro v' w5 b2 hg _ f7;have e4:∀b,w4.heap.size<=b->X b:=fun b hb=>e3.out b (EI hS.out.chg.size (EI Q.size hb))
      have e6:∀b,Y b->b<w4.heap.size:=fun b hb=>Fh (h7.out b hb) (EI hS.out.chg.size Q.size)
      obtain ⟨gr',cap',rfl,b3,b1⟩:=B.out.push h6.out e4 e6 b2 hg f7;have I:w5.heap[g]?=w4.heap[g]?:=(hg.block g (by have:=zd B.out.blk;simp;omega) (fun e=>B.out.ne (by injection e))).trans (EY _ _ _ (zd B.out.blk));have h9:w5.cell? ⟨g,0,none⟩=some (.slice (some ⟨gr,0,none⟩) pt.length cap):=(EV I).trans T;have i4:w5.frozen? ⟨g,0,none⟩=false:=(Fe (a:=⟨g,0,none⟩) I).trans (hf 0);have g9:=zh ((hS.out.chg.ext_r Q).tr b1);have M:=zh b3;clear b2 hg f7 b3 b1 T hf I e4 e6
      go_wp2_with fail
      clear h9 i4;generalize w5.setCell ⟨g,0,none⟩ (.slice (some ⟨gr',0,none⟩) (pt.length+1) cap')=w6 at*;have f5:(ch.take gk++[n]).length=pt.length:=by have:=d9.out;simp;omega
      have c7:(pt++[q])[(ch.take gk++[n]).length]?=some q:=by rw [f5];simp
      have b4:EC w6 (okR X Y g gr') q m (ch.take gk++[n]):=by
       have:=M.out.row.2.2 _ q c7
       rwa [ER] at this
      refine (last_c (w':=w6) M.out c7 (by show (ch.take gk++[n]).length<=1000;omega)).mono ?_;rintro e w7 ⟨rfl,f1⟩;have G:zb w6 w7:=f1.below _;clear f1 f5 c7
      go_wp2_with fail
      refine (DS w7 (b4.ext G) GD.out HL.out (.snoc (HC.out.take gk) c5.out)).mono ?_;rintro e w8 ⟨rfl,f2⟩;have a4:zb w6 w8:=G.trans (f2.below _);clear f2 G b4;have O:=M.out.ext a4;have i1:w8.cell? ⟨g,1,none⟩=some (.bool dn):=O.blk.cell (k:=1) rfl;have i5:w8.frozen? ⟨g,1,none⟩=false:=O.blk.frozen 1
      have E:StepPost w X Y g m ⟨ch,dn,st⟩ (.returned (.tuple #[])) (w8.setCell ⟨g,1,none⟩ (.bool (zX m (ch.take gk++[n])))):=by
       refine ⟨rfl,gr',cap',pt++[q],?_,(g9.out.ext_r a4).tr (chg_setg _ M.out.xg 1 _)⟩;have h1:=O.done (zX m (ch.take gk++[n]))
       have h2:stepC m ch=some (ch.take gk++[n]):=by
        have h3:=hS.out.se;dsimp only at h3;rw [<-h3];unfold srch;rw [aft_of b6.out U HN.out hZ.out.2 (by have:=b7.out;omega) d8.out.symm]
       show AY _ X Y g gr' cap' m (RS.one m ⟨ch,dn,st⟩) _;unfold RS.one;dsimp only;rw [h2];exact h1
      have a1:=zh E;clear E O
      go_wp2_with fail
      try rw [Exit.noGoto_ret]
      refine FC (results_none rfl _ _ _) rfl ?_;exact a1.out
   ·have i8:i=l.length:=by omega
    subst i8;have c9:Hid (aft m (ch.take gk) b=none):=aft_none b6.out (by have:=hZ.out.2;rwa [ER] at this);have z:=hS.out.rt.ext L;have T:wr.cell? ⟨g,0,none⟩=some (.slice (some ⟨gr,0,none⟩) pt.length cap):=z.blk.cell (k:=0) rfl;have h8:wr.cell? ⟨g,1,none⟩=some (.bool dn):=z.blk.cell (k:=1) rfl;have hf:=fun k=>z.blk.frozen k
    have D:pt.length=gk+1:=by have:=z.row.2.1;dsimp only at this;omega
    have j6:=Ck z.row.1;have B:=zh z;clear z;have d9:=zh D;have d4:=zh (hS.out.chg.ext_r L);clear hZ hz
    cases gk with
    | zero=>
     have a8:((pt.length:Int)==1)=true:=by rw [beq_iff_eq];omega
     have E:StepPost w X Y g m ⟨ch,dn,st⟩ (.returned (.tuple #[])) (wr.setCell ⟨g,1,none⟩ (.bool true)):=by
      refine ⟨rfl,gr,cap,pt,?_,d4.out.tr (chg_setg _ B.out.xg 1 _)⟩;have h1:=B.out.done true
      have h2:stepC m ch=none:=by
       have h3:=hS.out.se;dsimp only at h3;rw [<-h3];exact srch_zero c9.out
      show AY _ X Y g gr cap m (RS.one m ⟨ch,dn,st⟩) _;unfold RS.one;dsimp only;rw [h2];exact h1
     have a1:=zh E;clear E D
     go_wp2_with fail
     try rw [Exit.noGoto_ret]
     refine FC (results_none rfl _ _ _) rfl ?_;exact a1.out
    | succ j=>
     have a8:((pt.length:Int)==1)=false:=by rw [ET];omega
     have a9:=a5.out.ext L;obtain ⟨us,f,u,t,vc,vp,gu,_,h2⟩:=a9;obtain ⟨_,_,_,_,_,_,r6,_,_⟩:=h2.rules;have f0:=h2.ch;clear h2;obtain ⟨Ac,cc,rfl,i2,f6⟩:=f0;obtain ⟨bc,oc,rfl,_,a7⟩:=zy f6 (k:=j) (by omega) (by omega);rw [List.getElem_take] at a7;obtain ⟨N,hN⟩:=zad ((ch.take (j+1)).length);rw [<-hN] at i2 r6;rw [f4] at hN;obtain ⟨cj,a2⟩:=zad (ch[j]);rw [<-a2] at a7;have h4:=zh a2;have rj:=zb.rule a7;have k7:(0:Int)<=(j:Int):=by omega
     have k8:(j:Int)<(N:Int):=by omega
     have k9:IntKind.i64.wrap ((N:Int) - 1)=(j:Int):=by rw [Fb];omega
     have k5:IntKind.i64.wrap ((pt.length:Int) - 1)=(N:Int):=by rw [Fb];omega
     have j5:wrap64 ((pt.length:Int) - 1)=(N:Int):=by rw [IntWalk.wrap64_in _ (by omega)];omega
     have k2:(0:Int)<=(N:Int):=by omega
     have k3:(N:Int)<=(pt.length:Int):=by omega
     have k4:(N:Int)<=(cap:Int):=by omega
     have l0:=zb.refl wr;have d7:=zh hN;clear a7 f6 a2 D hN
     go_wp2_with fail
     go_quiet (fail)
     generalize f8:wr.drewN nq=w7;have G:zb wr w7:=by rw [<-f8];exact (zb.refl wr).drewN _
     have e9:w7.cell? ⟨g,0,none⟩=some (.slice (some ⟨gr,0,none⟩) pt.length cap):=G.cell T;have f3:w7.frozen? ⟨g,0,none⟩=false:=(Below.frozen G (p:=⟨g,0,none⟩) (zo T)).trans (hf 0);clear f8 T hf h8
     go_wp2_with fail
     go_still_tail 14,(by kernel_rfl)
     change wpList _ _ _ _ _ w7.drew;have a4:zb wr w7.drew:=G.drew;have i1:w7.drew.cell? ⟨g,0,none⟩=some (.slice (some ⟨gr,0,none⟩) pt.length cap):=e9;have i5:w7.drew.frozen? ⟨g,0,none⟩=false:=f3;generalize w7.drew=w8 at*;clear e9 f3 G
     go_wp2_with fail
     go_roundg j
     case measure=>omega
     case rel=>
      refine ⟨cj,pt.take (j+1),rfl,by omega,?_,?_,?_⟩
      ·have h1:=(B.out.ext a4).pop (k:=j) (by show j<=(ch.take (j+1)).length;omega);dsimp only at h1;rw [List.take_take,Nat.min_eq_left (by omega),<-d7.out] at h1;rw [<-d7.out];exact h1
      ·exact (d4.out.ext_r a4).tr (chg_setg _ B.out.xg 0 _)
      ·have h3:=hS.out.se;dsimp only at h3⊢;rw [<-h3,srch_back c9.out,h4.out,EF,EE (by omega),Fl]
theorem one_isCh {m:MZ} {s:RS} (h:zx m s.ch):zx m (s.one m).ch/\(s.one m).steps=s.steps+1:=by
 unfold RS.one
 split
 ·rename_i c z;exact ⟨(stepC_some h z).1,rfl⟩
 ·exact ⟨.nil,rfl⟩
theorem run_isCh {m:MZ}:∀(n:Nat) {s:RS},zx m s.ch->zx m (RS.run m n s).ch
 | 0,s,h=>h
 | n+1,s,h=>by
  unfold RS.run
  split
  ·exact h
  ·exact run_isCh n (one_isCh h).1
theorem run_steps {m:MZ}:∀(n:Nat) {s:RS},zx m s.ch->s.steps<=(RS.run m n s).steps/\(RS.run m n s).steps<=s.steps+n
 | 0,s,h=>⟨Int.le_refl _,by simp [RS.run]⟩
 | n+1,s,h=>by
  unfold RS.run
  split
  ·exact ⟨Int.le_refl _,by omega⟩
  ·have h1:=one_isCh h;have h2:=run_steps n h1.1;omega
structure RunR (w wr:World) (X Y:Nat->Prop) (g gr cap:Nat) (m:MZ) (s0:RS) (n:Nat) (s:RS) (pt:List Nat) (k:Nat):Prop where
 rt:AY wr X Y g gr cap m s pt
 chg:zp X w wr
 run:RS.run m k s=RS.run m n s0
 ch:zx m s.ch
 st:0<=s.steps/\s.steps+k<=4000000000000000000
def RunPost (w:World) (X Y:Nat->Prop) (g:Nat) (m:MZ) (s:RS) (e:Ending) (w':World):Prop:=
 e=.returned (.bool s.done)/\∃gr' cap' ptrs',AY w' X Y g gr' cap' m s ptrs'/\zp X w w'
theorem stepN_calls {X Y:Nat->Prop} {g gr cap:Nat} {m:MZ} {s:RS} {ptrs:List Nat} (n:Nat) (w:World) (h:AY w X Y g gr cap m s ptrs) (gd:zC m) (hl:Lens m) (hc:zx m s.ch) (hn:n<=1000000) (Q:0<=s.steps) (a6:s.steps<=3000000000000000000)
  (L:∀b,w.heap.size<=b->X b) (M:∀b,Y b->b<w.heap.size):
  Calls Tryz.prog 28 #[.pointer (some ⟨g,0,none⟩),.int .i64 n] w (RunPost w X Y g m (RS.run m n s)):=by
 have H0:Hid (RunR w w X Y g gr cap m s n s ptrs n):=⟨h,zp.refl _ _,rfl,hc,Q,by omega⟩;have GD:=zh gd;have HL:=zh hl;have U:=zh L;have V:=zh M;have a2:w.cell? ⟨g,0,none⟩=some (.slice (some ⟨gr,0,none⟩) ptrs.length cap):=h.blk.cell (k:=0) rfl;have a5:ptrs.length=s.ch.length+1:=h.row.2.1;have a0:((ptrs.length:Int)==0)=false:=by rw [ET];omega
 obtain ⟨R,z⟩:=zad (RS.run m n s);rw [<-z];have HR:=zh z;clear h gd hl hc L M Q a6 a5 z
 go_enter Tryz.func28,Tryz.ntmps28
 go_wp2_with fail
 clear a2 a0
 go_loopg [1] n (fun gk v wr=>∃gr cap s' pt,v=.int .i64 gk/\gk<=n/\Hid (RunR w wr X Y g gr cap m s n s' pt gk))
 case atStart=>exact ⟨gr,cap,s,ptrs,rfl,EG _,H0⟩
 clear H0
 case round=>
  obtain ⟨gr,cap,s',pt,rfl,b4,z⟩:=hrel;have J:=z.out.rt;have O:wr.cell? ⟨g,1,none⟩=some (.bool s'.done):=J.blk.cell (k:=1) rfl;have I:=zh J;clear J;obtain ⟨d,hd⟩:=zad s'.done;rw [<-hd] at O;have T:=zh hd;clear hd
  cases gk with
  | zero=>
   have a4:decide ((0:Int)<((0:Nat):Int))=false:=by simp
   have B:RunPost w X Y g m R (.returned (.bool d)) wr:=by
    have h1:=z.out.run;rw [<-HR.out] at h1;rw [<-h1,T.out];exact ⟨rfl,gr,cap,pt,I.out,z.out.chg⟩
   have D:=zh B;clear B
   go_wp2_with fail
   go_ret;exact D.out
  | succ k=>
   have a4:decide ((0:Int)<((k+1:Nat):Int))=true:=EJ (by omega);have b1:(0:Int)<((k+1:Nat):Int):=by omega
   cases d with
   | true=>
    have B:RunPost w X Y g m R (.returned (.bool true)) wr:=by
     have h1:=z.out.run;rw [RS.run_done T.out.symm,<-HR.out] at h1;rw [<-h1];exact ⟨by rw [<-T.out],gr,cap,pt,I.out,z.out.chg⟩
    have D:=zh B;clear B
    go_wp2_with fail
    go_ret;exact D.out
   | false=>
    go_wp2_with fail
    refine (stepX_calls wr I.out GD.out HL.out z.out.ch z.out.st.1 (by have:=z.out.st.2;omega) (fun b hb=>U.out b (EI z.out.chg.size hb)) (fun b hb=>Fh (V.out b hb) z.out.chg.size)).mono ?_;rintro e w5 ⟨rfl,gr',cap',pt',G,E⟩
    have HN:Hid (RunR w w5 X Y g gr' cap' m s n (s'.one m) pt' k):=by
     have h1:=one_isCh z.out.ch;have h2:=z.out.st;have h3:=z.out.run;unfold RS.run at h3;rw [<-T.out,if_neg (by simp)] at h3;exact ⟨G,z.out.chg.tr E,h3.trans (by cases n <;> rfl),h1.1,by omega⟩
    clear G E O
    go_wp2_with fail
    go_roundg k
    case measure=>omega
    case rel=>exact ⟨gr',cap',_,pt',by go_num,by omega,HN⟩
structure FL (w wr:World) (v:Value) (vs:List Value) (l:List (List Int)):Prop where
 ext:zb w wr
 own:Cd wr w.heap.size v vs
 len:vs.length=l.length
 each:∀(j:Nat) x,l[j]?=some x->∃u,vs[j]?=some u/\zD wr w.heap.size u x
theorem FL.nil (w wr:World) (h:zb w wr):FL w wr (.slice none 0 0) [] []:=⟨h,World.ownsRow_nil _ _ _ _,rfl,fun j x h=>by simp at h⟩
theorem FL.more {w w':World} {l:List (List Int)} (h:FL w wr v vs l) (z:zb wr w'):FL w w' v vs l:=by
 have B:wr.grownBy w' none:=⟨z.os,z.tape,z.output,z.size,fun i D _=>z.block i D⟩;refine ⟨h.ext.trans z,h.own.kept B (by cases h:v.ownBlock <;> simp),h.len,fun j x E=>?_⟩;obtain ⟨u,I,G⟩:=h.each j x E;exact ⟨u,I,G.kept B (by cases h:u.ownBlock <;> simp)⟩
theorem own_neT {w:World} {B B':Nat} {e e':TypeId} {sz sz' n':Nat} {xs xs':List Value} (h:w.ownsRow B e sz v n xs) (G:w.ownsRow B' e' sz' v' n' xs') (E:e≠e'):v.ownBlock=none\/v.ownBlock≠v'.ownBlock:=by
 rcases h.2 with ⟨rfl,_⟩ | ⟨g,cap,cur,rfl,_,I,_⟩
 ·left;rfl
 ·right
  rcases G.2 with ⟨rfl,_⟩ | ⟨g',cap',cur',rfl,_,z,_⟩
  ·simp [Value.ownBlock]
  ·intro he;have D:g=g':=by simpa [Value.ownBlock] using he
   subst D;rw [I] at z;injection z with z;injection z with _ J;exact E J
theorem FL.app {w w':World} {u:Value} {l:List (List Int)} {x:List Int} (h:FL w wr v vs l) (M:zD wr w.heap.size u x) (L:w'.ownsRow w.heap.size 23 1 v' (vs.length+1) (vs++[u])) (I:(wr.alloc o).grownBy w' v.ownBlock):FL w w' v' (vs++[u]) (l++[x]):=by
 have J:zb wr (wr.alloc o):=(zb.refl _).alloc _;have h1:=h.more J;have D:∀{u':Value} {x':List Int},zD wr w.heap.size u' x'->zD w' w.heap.size u' x':=fun z=>(World.ownsRow.alloc z o).kept I (own_neT z h.own (by decide))
 refine ⟨Ad h1.ext I h1.ext.size (fun k D=>(h1.own.lt k D).1),?_,by simp [h.len],fun j y B=>?_⟩
 ·show w'.ownsRow _ _ _ _ (vs++[u]).length _;rw [EO,Ff];exact L
 ·rcases Fc j l.length with hjl | hjl
  ·rw [EL hjl] at B;obtain ⟨u',z,G⟩:=h.each j y B;exact ⟨u',by rw [EL (by rw [h.len];exact hjl)];exact z,D G⟩
  ·have E:j=l.length:=by
    rcases Fc j (l++[x]).length with h1 | h1
    ·simp at h1;omega
    ·rw [EZ h1] at B;cases B
   subst E;rw [EM (EG _)] at B;have O:x=y:=by simpa using B
   subst O;exact ⟨u,by rw [<-h.len,EM (EG _)];simp,D M⟩
theorem FL.intss {w:World} {l:List (List Int)} (h:FL w wr v vs l):zv wr (fun b=>w.heap.size<=b) v l:=
 ⟨vs,by rw [<-h.len];exact AI.of_own h.own,fun j x z=>by
  obtain ⟨u,D,B⟩:=h.each j x z;exact ⟨u,D,AI.of_own B⟩⟩
def foundL (m:MZ) (ch:List Int):List (List Int):=if zX m ch=true then zP m ch else []
def Dd (w:World) (m:MZ) (ch:List Int) (e:Ending) (w':World):Prop:=
 ∃v,e=.returned (.tuple #[v,.bool (zX m ch)])/\zb w w'/\zv w' (fun b=>w.heap.size<=b) v (foundL m ch)
theorem found_c {X Y:Nat->Prop} {g gr cap:Nat} {m:MZ} {s:RS} {ptrs:List Nat} (w:World) (h:AY w X Y g gr cap m s ptrs) (gd:zC m) (hl:Lens m) (hc:zx m s.ch):
  Calls Tryz.prog 29 #[.pointer (some ⟨g,0,none⟩)] w (Dd w m s.ch):=by
 obtain ⟨p,hp,b0,d7⟩:=h.row.last;have hn:=hc.len300 gd;have c0:=zh (last_c (w':=w) h hp (by omega));have c6:Hid (∀w2,zb w w2->Calls Tryz.prog 63 #[.pointer (some ⟨g,0,none⟩)] w2 fun e w'=>e=.returned (.pointer (some ⟨p,0,none⟩))/\zK w2 w'):=fun w2 hE=>last_c (w':=w2) (h.ext hE) hp (by omega)
 have f0:w.cell? ⟨g,0,none⟩=some (.slice (some ⟨gr,0,none⟩) ptrs.length cap):=h.blk.cell (k:=0) rfl;have Q:ptrs.length=s.ch.length+1:=h.row.2.1;have d6:((ptrs.length:Int)==0)=false:=by rw [ET];omega
 have a0:=zh b0;have GD:=zh gd;have HL:=zh hl;have HC:=zh hc;obtain ⟨i0,hi,b3,b4,b5⟩:=info_parts Tryz.infoInts;have IF:=zh hi;have IZ0:=zh b3;have IZ1:=zh b4;have IZ2:=zh b5;clear hi b3 b4 b5;clear h gd hl hc Q hp d7 b0 hn;obtain ⟨cb,a2⟩:=zad (zX m s.ch);have B:=zh a2;clear a2
 go_enter Tryz.func29,Tryz.ntmps29
 go_wp2_with fail
 refine c0.out.mono ?_;rintro e w1 ⟨rfl,a3⟩;have V:zb w w1:=a3.below _;clear a3
 go_wp2_with fail
 refine (DS w1 (a0.out.ext V) GD.out HL.out HC.out).mono ?_;rintro e w2 ⟨rfl,a4⟩;have L:zb w w2:=V.trans (a4.below _);rw [<-B.out];clear a4 V d6
 cases cb with
 | false=>
  have z:Dd w m s.ch (.returned (.tuple #[.slice none 0 0,.bool false])) w2:=⟨_,by rw [B.out],L,by unfold foundL;rw [<-B.out];exact zv.nil _ _⟩;have D:=zh z;clear z
  go_wp2_with fail
  go_ret2
  exact D.out
 | true=>
  go_wp2_with fail
  refine (c6.out w2 L).mono ?_;rintro e w3 ⟨rfl,a5⟩;have e3:zb w w3:=L.trans (a5.below _);clear a5 L;obtain ⟨us,f,u,t,vc,vp,gu,_,J⟩:=a0.out;obtain ⟨_,_,_,_,_,_,_,r7,_⟩:=J.rules;have T:=J.ps;clear J;have a8:Hid (∀p∈zP m s.ch,p.length<=1000):=(HC.out.sok GD.out HL.out).pp;have Q:(zP m s.ch).length<=6:=by have:=(HC.out.sok GD.out HL.out).pl;have:=GD.out.tk;omega
  obtain ⟨ps,I⟩:=zad (zP m s.ch);rw [<-I] at T a8 Q;have c8:=zh I;clear I;have HP:=zh T;obtain ⟨vs,⟨Ap,cp,rfl,f1,a9⟩,a6⟩:=T;have c9:=zh a9;have b8:=zh a6;clear a9 a6;have H0:=zh (FL.nil w w3 e3)
  go_wp2_with fail
  go_loopg [4,29] ps.length (fun gk v vi wr=>∃(i:Nat) (vs:List Value),vi=.int .i64 i/\i<=ps.length/\gk=ps.length - i/\Hid (FL w wr v vs (ps.take i)))
  case atStart=>exact ⟨0,[],rfl,EU _,rfl,H0⟩
  clear H0
  case round=>
   obtain ⟨i,vl,rfl,hi,rfl,hF⟩:=hrel;have b2:=hF.out.ext;rcases Fc i ps.length with G | hge
   ·obtain ⟨bp,op,up,rfl,_,E,b1⟩:=Ai c9.out b8.out G G;have q0:=zb.rule E;clear E;have a7:=a8.out _ (EH G);have d4:=zh b1;clear b1
    obtain ⟨As,cs,rfl,f2⟩:∃A c,u4=.slice A vl.length c/\vl.length<=c:=by
     obtain ⟨A,c,e,hc,_⟩:=AI.of_own hF.out.own;exact ⟨A,c,e,hc⟩
    have U:=hF.out.len;have c5:=zh a7;clear a7;have e8:=zh U;have e7:vl.length<=6:=by rw [U,FA];omega
    clear U
    go_wp2_with fail
    refine (Bw _ (d4.out.below b2) (by have:=c5.out;omega)).mono ?_;rintro e w4 ⟨v4,rfl,hM⟩;have O:=zh (hF.out.more hM.ext);have c7:Hid (zD w4 w.heap.size v4 ps[i]):=World.ownsRow.mono hM.own b2.size;obtain ⟨A4,c4,rfl,_⟩:=hM.slice;have f4:w.heap.size<=w4.heap.size:=O.out.ext.size;clear hM
    go_wp2_with (at_builtin;refine wpList_append_own_at _ rfl _ _ 22 rfl w.heap.size 23 i0 (.slice none 0 0) 1 24 Tryz.underlying22 IF.out IZ0.out IZ1.out IZ2.out rfl (by decide) (.slice As vl.length cs) vl.length _ rfl (O.out.own.alloc _) ⟨w4.heap.size,0,none⟩ 1 1 [.slice A4 ps[i].length c4] rfl rfl (cell_one_new _ _ _) (by simp [Value.oneCell']) (by unfold maxLen;omega) (by omega) (by simp;omega) ?_)
    intro v' w5 M hg _ e0;have d5:=zh (O.out.app c7.out M hg);clear M hg e0
    go_wp2_with fail
    go_roundg (ps.length - (i+1))
    case measure=>omega
    case rel=>exact ⟨i+1,_,by go_num,G,rfl,by rw [EN G];exact d5⟩
   ·have d9:i=ps.length:=by omega
    subst d9
    have z:Dd w m s.ch (.returned (.tuple #[u4,.bool true])) wr:=by
     refine ⟨u4,by rw [B.out],hF.out.ext,?_⟩;unfold foundL;rw [<-B.out,if_pos rfl,<-c8.out];have:=hF.out.intss
     rwa [ER] at this
    have D:=zh z;clear z
    go_wp2_with fail
    go_ret2
    exact D.out
end
end Go.Proofs.YthbjngbhbbkkgaaGreat
