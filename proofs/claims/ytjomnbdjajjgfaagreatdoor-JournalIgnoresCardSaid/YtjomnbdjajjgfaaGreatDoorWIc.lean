import Derived.Test.YtjomnbdjajjgfaaGreatDoorWIb
import Derived.Deep.DeepCutAuto
import Derived.Deep.OwnRows
import Derived.BigQuiet
import Derived.Deep.RegionHeld3
import Derived.Deep.DrawnRows
set_option linter.unusedVariables false
set_option linter.unusedSimpArgs false
set_option maxRecDepth 100000
set_option maxHeartbeats 16000000
namespace Go.Proofs.YtjomnbdjajjgfaaGreatDoor
variable {c:Bool} {x:Int} {from_ used:List Int} {m:MZ} {g j k t:Nat} {ok:Nat->Prop} {a0 a1 a2 a3 a4 a5 v':Value} {w w2:World}
section
open Go.RowKit
theorem ap_t (h:c=true) (x:Int) (l:List Int):ap c x l=l++[x]:=by rw [h];rfl
theorem ap_f (h:c=false) (x:Int) (l:List Int):ap c x l=l:=by rw [h];rfl
theorem DP {v:Value} (m:MZ) (node:Int) (w:World) (hm:zY w ok v m) (d:Dim m) (h0:0<=node) (h1:node<m.w*m.h*m.l):
  Calls Tryz.prog 165 #[v,.int .i64 node] w fun e w'=>∃v',e=.returned v'/\Below w.heap.size w w'/\w'.ownsRow w.heap.size 3 1 v' (zm m node).length ((zm m node).map (Value.int .i64)):=by
 obtain ⟨f,u,t,rfl,_,hu,_⟩:=hm;obtain ⟨A,c,rfl,c9,c0⟩:=hu;have hl:=d.layer;obtain ⟨a8,a9⟩:=hl;obtain ⟨dw1,dw2,d4,d5,ll1,ll2,n1,b9⟩:=d;obtain ⟨W,H,L,fr,up,ts⟩:=m;simp only at*;have HU:=zh c0;clear c0;have b3:=zh b9;clear b9
 go_enter Tryz.func165,Tryz.ntmps165
 have d8:0<=node / W:=Int.ediv_nonneg h0 (by omega);have d9:node / W<=node:=Int.ediv_le_self _ h0
 go_wp2_with fail
 go_quiet (fail)
 have e0:0<=node / W % H:=Int.emod_nonneg _ (by omega);have e1:node / W % H<H:=Int.emod_lt_of_pos _ (by omega);have e2:0<=node % W:=Int.emod_nonneg _ (by omega);have e3:node % W<W:=Int.emod_lt_of_pos _ (by omega);generalize b0:((w.alloc (.cells #[.int .i64 W,.int .i64 H,.int .i64 L,f,.slice A up.length c,t] 32)).drewN nq)=w1;have a7:za w w1:=by rw [<-b0];exact ((za.refl w).alloc _).drewN _
 have b5:zl w1 w.heap.size 32 #[.int .i64 W,.int .i64 H,.int .i64 L,f,.slice A up.length c,t]:=by rw [<-b0];exact EL _ _
 have b2:=zh (HU.out.keep (Ar.of_below a7):AT w1 ok 1 A up.length (up.map Value.bool));clear b0 HU;have b1:=zh a7;clear a7;obtain ⟨m0,m1,m2,m3,m4,m5⟩:=zt b5;have r0:=za.rule m0;have r1:=za.rule m1;have r2:=za.rule m2;have r3:=za.rule m3;have r4:=za.rule m4;have r5:=za.rule m5;clear m0 m1 m2 m3 m4 m5 b5;have ra:=ext_allocs w1;have Q:za w1 w1:=za.refl w1;have o:=zh (Mk.nil w1);obtain ⟨c1,J⟩:∃b,b=(decide (W*H<=node) && up.getD (node - W*H).toNat false):=⟨_,rfl⟩;obtain ⟨c2,b4⟩:∃b,b=(decide (node+W*H<W*H*L) && up.getD node.toNat false):=⟨_,rfl⟩;have U:=zh J;clear J;have V:=zh b4;clear b4;go_upto_region 5 with fail;go_cut [36] (fun s wx=>s=.bool c1/\w1=wx)
 case first=>
  by_cases hp:W*H<=node
  ·have O:(node - W*H).toNat<up.length:=by have:=b3.out;omega
   obtain ⟨b,off,rfl,_,J⟩:=Bu b2.out O O;have I:up[(node - W*H).toNat]=c1:=(U.out.trans (by simp [hp,O])).symm;rw [I] at J;have rc:=za.rule J;clear J I
   go_wp2_with fail
   go_meet
   case rel=>exact ⟨rfl,rfl⟩
  ·have I:c1=false:=U.out.trans (by simp [hp]);have a6:=zh I;clear I
   go_wp2_with fail
   go_meet
   case rel=>exact ⟨by rw [a6.out],rfl⟩
 case rest=>
 obtain ⟨rfl,rfl⟩:=hcut
 go_upto_if 36 with fail
 go_cut [5] (fun s wx=>Hid (Mk w1 wx s (ap c1 (node - W*H) [])))
 case first=>
  obtain rfl | rfl:c1=true\/c1=false:=by cases c1 <;> simp
  ·skip
   have hz:w1.heap.size<=w1.heap.size:=Q.size
   go_wp2_with (at_builtin;refine AR rfl _ _ rfl _ [] (node - W*H) w1.heap.size w1.heap.size 1 _ rfl rfl (o.out.own.alloc _) ?d1 ?d2 ?d3 ?_)
   (try case d1=>simp)
   case d2=>(first | (simp;done) | (simp;omega) | omega)
   case d3=>exact Ea (show [].length<=0 from DY _) (by omega)
   intro v' wb E D _;have G:=zh ((o.out.alloc _).app E D);clear E D
   go_wp2_with fail
   go_meet
   case rel=>exact G.out.cast (ap_t (by rfl) _ _)
  ·skip
   go_wp2_with fail
   go_meet
   case rel=>exact o.out.cast (ap_f (by rfl) _ _)
 case rest=>
 have o:=hcut;clear hcut;have Q:za w1 wc:=o.out.ext;have a8:(ap c1 (node - W*H) []).length<=1:=Ea (ap_len _ _ _) (Nat.succ_le_succ (Em _));obtain ⟨wp,rfl⟩:∃wp:World,wp=wc:=⟨_,rfl⟩
 go_upto_if 44 with fail
 go_cut [5] (fun s wx=>Hid (Mk w1 wx s (ap (decide (0<node / W % H)) (node - W) (ap c1 (node - W*H) []))))
 case first=>
  by_cases hp:0<node / W % H
  ·have K:=zh hp;have hz:w1.heap.size<=wp.heap.size:=Q.size
   go_wp2_with (at_builtin;refine AR rfl _ _ rfl _ (ap c1 (node - W*H) []) (node - W) w1.heap.size wp.heap.size 1 _ rfl rfl (o.out.own.alloc _) ?d1 ?d2 ?d3 ?_)
   (try case d1=>simp)
   case d2=>(first | (simp;done) | (simp;omega) | omega)
   case d3=>exact Ea (show (ap c1 (node - W*H) []).length<=1 from a8) (by omega)
   intro v' wb E D _;have G:=zh ((o.out.alloc _).app E D);clear E D
   go_wp2_with fail
   go_meet
   case rel=>exact G.out.cast (ap_t (by exact Eb K.out) _ _)
  ·have K:=zh hp
   go_wp2_with fail
   go_meet
   case rel=>exact o.out.cast (ap_f (by exact Ec (by have:=K.out;omega)) _ _)
 case rest=>
 have o:=hcut;clear hcut;have Q:za w1 wc:=o.out.ext;have a9:(ap (decide (0<node / W % H)) (node - W) (ap c1 (node - W*H) [])).length<=2:=Ea (ap_len _ _ _) (Nat.succ_le_succ a8);obtain ⟨wp,rfl⟩:∃wp:World,wp=wc:=⟨_,rfl⟩
 go_upto_if 53 with fail
 go_cut [5] (fun s wx=>Hid (Mk w1 wx s (ap (decide (0<node % W)) (node - 1) (ap (decide (0<node / W % H)) (node - W) (ap c1 (node - W*H) [])))))
 case first=>
  by_cases hp:0<node % W
  ·have K:=zh hp;have hz:w1.heap.size<=wp.heap.size:=Q.size
   go_wp2_with (at_builtin;refine AR rfl _ _ rfl _ (ap (decide (0<node / W % H)) (node - W) (ap c1 (node - W*H) [])) (node - 1) w1.heap.size wp.heap.size 1 _ rfl rfl (o.out.own.alloc _) ?d1 ?d2 ?d3 ?_)
   (try case d1=>simp)
   case d2=>(first | (simp;done) | (simp;omega) | omega)
   case d3=>exact Ea (show (ap (decide (0<node / W % H)) (node - W) (ap c1 (node - W*H) [])).length<=2 from a9) (by omega)
   intro v' wb E D _;have G:=zh ((o.out.alloc _).app E D);clear E D
   go_wp2_with fail
   go_meet
   case rel=>exact G.out.cast (ap_t (by exact Eb K.out) _ _)
  ·have K:=zh hp
   go_wp2_with fail
   go_meet
   case rel=>exact o.out.cast (ap_f (by exact Ec (by have:=K.out;omega)) _ _)
 case rest=>
 have o:=hcut;clear hcut;have Q:za w1 wc:=o.out.ext;have b6:(ap (decide (0<node % W)) (node - 1) (ap (decide (0<node / W % H)) (node - W) (ap c1 (node - W*H) []))).length<=3:=Ea (ap_len _ _ _) (Nat.succ_le_succ a9);obtain ⟨wp,rfl⟩:∃wp:World,wp=wc:=⟨_,rfl⟩
 go_upto_if 63 with fail
 go_cut [5] (fun s wx=>Hid (Mk w1 wx s (ap (decide (node % W+1<W)) (node+1) (ap (decide (0<node % W)) (node - 1) (ap (decide (0<node / W % H)) (node - W) (ap c1 (node - W*H) []))))))
 case first=>
  by_cases hp:node % W+1<W
  ·have K:=zh hp;have hz:w1.heap.size<=wp.heap.size:=Q.size
   go_wp2_with (at_builtin;refine AR rfl _ _ rfl _ (ap (decide (0<node % W)) (node - 1) (ap (decide (0<node / W % H)) (node - W) (ap c1 (node - W*H) []))) (node+1) w1.heap.size wp.heap.size 1 _ rfl rfl (o.out.own.alloc _) ?d1 ?d2 ?d3 ?_)
   (try case d1=>simp)
   case d2=>(first | (simp;done) | (simp;omega) | omega)
   case d3=>exact Ea (show (ap (decide (0<node % W)) (node - 1) (ap (decide (0<node / W % H)) (node - W) (ap c1 (node - W*H) []))).length<=3 from b6) (by omega)
   intro v' wb E D _;have G:=zh ((o.out.alloc _).app E D);clear E D
   go_wp2_with fail
   go_meet
   case rel=>exact G.out.cast (ap_t (by exact Eb K.out) _ _)
  ·have K:=zh hp
   go_wp2_with fail
   go_meet
   case rel=>exact o.out.cast (ap_f (by exact Ec (by have:=K.out;omega)) _ _)
 case rest=>
 have o:=hcut;clear hcut;have Q:za w1 wc:=o.out.ext;have b7:(ap (decide (node % W+1<W)) (node+1) (ap (decide (0<node % W)) (node - 1) (ap (decide (0<node / W % H)) (node - W) (ap c1 (node - W*H) [])))).length<=4:=Ea (ap_len _ _ _) (Nat.succ_le_succ b6);obtain ⟨wp,rfl⟩:∃wp:World,wp=wc:=⟨_,rfl⟩
 go_upto_if 73 with fail
 go_cut [5] (fun s wx=>Hid (Mk w1 wx s (ap (decide (node / W % H+1<H)) (node+W) (ap (decide (node % W+1<W)) (node+1) (ap (decide (0<node % W)) (node - 1) (ap (decide (0<node / W % H)) (node - W) (ap c1 (node - W*H) [])))))))
 case first=>
  by_cases hp:node / W % H+1<H
  ·have K:=zh hp;have hz:w1.heap.size<=wp.heap.size:=Q.size
   go_wp2_with (at_builtin;refine AR rfl _ _ rfl _ (ap (decide (node % W+1<W)) (node+1) (ap (decide (0<node % W)) (node - 1) (ap (decide (0<node / W % H)) (node - W) (ap c1 (node - W*H) [])))) (node+W) w1.heap.size wp.heap.size 1 _ rfl rfl (o.out.own.alloc _) ?d1 ?d2 ?d3 ?_)
   (try case d1=>simp)
   case d2=>(first | (simp;done) | (simp;omega) | omega)
   case d3=>exact Ea (show (ap (decide (node % W+1<W)) (node+1) (ap (decide (0<node % W)) (node - 1) (ap (decide (0<node / W % H)) (node - W) (ap c1 (node - W*H) [])))).length<=4 from b7) (by omega)
   intro v' wb E D _;have G:=zh ((o.out.alloc _).app E D);clear E D
   go_wp2_with fail
   go_meet
   case rel=>exact G.out.cast (ap_t (by exact Eb K.out) _ _)
  ·have K:=zh hp
   go_wp2_with fail
   go_meet
   case rel=>exact o.out.cast (ap_f (by exact Ec (by have:=K.out;omega)) _ _)
 case rest=>
 have o:=hcut;clear hcut;have Q:za w1 wc:=o.out.ext;have b8:(ap (decide (node / W % H+1<H)) (node+W) (ap (decide (node % W+1<W)) (node+1) (ap (decide (0<node % W)) (node - 1) (ap (decide (0<node / W % H)) (node - W) (ap c1 (node - W*H) []))))).length<=5:=Ea (ap_len _ _ _) (Nat.succ_le_succ b7);obtain ⟨wp,rfl⟩:∃wp:World,wp=wc:=⟨_,rfl⟩;go_upto_region 15 with fail;go_cut [93] (fun s wx=>s=.bool c2/\Hid (za wp wx))
 case first=>
  by_cases hp:node+W*H<W*H*L
  ·have O:node.toNat<up.length:=by have:=b3.out;omega
   obtain ⟨b,off,rfl,_,J⟩:=Bu b2.out O O;have I:up[node.toNat]=c2:=(V.out.trans (by simp [hp,O])).symm;rw [I] at J;have rc:=za.rule J;clear J I
   go_wp2_with fail
   refine (Ai W H L _ _ _ _ (by omega) (by omega)).mono ?_;rintro e kn ⟨rfl,M⟩;have c7:za w1 kn:=Q.trans M
   go_wp2_with fail
   go_meet
   case rel=>exact ⟨rfl,M⟩
  ·have I:c2=false:=V.out.trans (by simp [hp]);have a6:=zh I;clear I
   go_wp2_with fail
   refine (Ai W H L _ _ _ _ (by omega) (by omega)).mono ?_;rintro e kn ⟨rfl,M⟩;have c7:za w1 kn:=Q.trans M
   go_wp2_with fail
   go_meet
   case rel=>exact ⟨by rw [a6.out],M⟩
 case rest=>
 obtain ⟨rfl,M⟩:=hcut;have o:=zh (o.out.more M.out);have Q:za w1 wc:=o.out.ext;obtain ⟨wp,rfl⟩:∃wp:World,wp=wc:=⟨_,rfl⟩
 go_upto_if 93 with fail
 go_cut [5] (fun s wx=>Hid (Mk w1 wx s (ap c2 (node+W*H) (ap (decide (node / W % H+1<H)) (node+W) (ap (decide (node % W+1<W)) (node+1) (ap (decide (0<node % W)) (node - 1) (ap (decide (0<node / W % H)) (node - W) (ap c1 (node - W*H) []))))))))
 case first=>
  obtain rfl | rfl:c2=true\/c2=false:=by cases c2 <;> simp
  ·skip
   have hz:w1.heap.size<=wp.heap.size:=Q.size
   go_wp2_with (at_builtin;refine AR rfl _ _ rfl _ (ap (decide (node / W % H+1<H)) (node+W) (ap (decide (node % W+1<W)) (node+1) (ap (decide (0<node % W)) (node - 1) (ap (decide (0<node / W % H)) (node - W) (ap c1 (node - W*H) []))))) (node+W*H) w1.heap.size wp.heap.size 1 _ rfl rfl (o.out.own.alloc _) ?d1 ?d2 ?d3 ?_)
   (try case d1=>simp)
   case d2=>(first | (simp;done) | (simp;omega) | omega)
   case d3=>exact Ea (show (ap (decide (node / W % H+1<H)) (node+W) (ap (decide (node % W+1<W)) (node+1) (ap (decide (0<node % W)) (node - 1) (ap (decide (0<node / W % H)) (node - W) (ap c1 (node - W*H) []))))).length<=5 from b8) (by omega)
   intro v' wb E D _;have G:=zh ((o.out.alloc _).app E D);clear E D
   go_wp2_with fail
   go_meet
   case rel=>exact G.out.cast (ap_t (by rfl) _ _)
  ·skip
   go_wp2_with fail
   go_meet
   case rel=>exact o.out.cast (ap_f (by rfl) _ _)
 case rest=>
 have o:=hcut;clear hcut;have Q:za w1 wc:=o.out.ext;have d7:(ap c2 (node+W*H) (ap (decide (node / W % H+1<H)) (node+W) (ap (decide (node % W+1<W)) (node+1) (ap (decide (0<node % W)) (node - 1) (ap (decide (0<node / W % H)) (node - W) (ap c1 (node - W*H) [])))))).length<=6:=Ea (ap_len _ _ _) (Nat.succ_le_succ b8);obtain ⟨wp,rfl⟩:∃wp:World,wp=wc:=⟨_,rfl⟩
 go_wp2_with fail
 go_ret;refine ⟨_,rfl,AZ b1.out o.out.ext (DY _),?_⟩;exact next_fin (o.out.own.mono b1.out.size) (next_eq ⟨W,H,L,fr,up,ts⟩ node c1 c2 U.out V.out)
end
section
open Go.RowKit
attribute [local go_sem ↓] Go.wp_at_zero Go.wp_at_succ
theorem Tryz.infoBool:(Tryz.prog.info? 4).map (fun i=>(i.zero,i.size,i.bytes))=some (some (.bool false),1,1):=by kernel_rfl
def memF (s:List Int) (i:Nat):Value:=.bool (decide ((i:Int)∈s))
open Classical in
noncomputable def Cs (m:MZ) (t:Nat) (from_ used:List Int):List Int:=((List.range m.n.toNat).map Int.ofNat).filter (fun x=>decide (RP m t from_ used x))
theorem reachL_of {s:List Int} (h:∀x,x∈s↔RP m t from_ used x):((List.range m.n.toNat).map Int.ofNat).filter (fun x=>decide (x∈s))=Cs m t from_ used:=by
 unfold Cs;apply List.filter_congr;intro x _;rw [decide_eq_decide];exact h x
theorem mem_reachL (d:Dim m):x∈Cs m t from_ used↔RP m t from_ used x:=by
 unfold Cs;simp only [EV,List.mem_map,EW,Ei];constructor
 ·rintro ⟨_,h⟩;exact h
 ·intro h;have o:=h.range d;exact ⟨⟨x.toNat,by omega,by simp;omega⟩,h⟩
structure QR (w1 wr:World) (gi gt n:Nat) (s tk:List Int) (v:Value) (todo:List Int):Prop where
 ext:za w1 wr
 hi:w1.heap.size<=gi
 lt:gi<gt
 inn:wr.rowIs gi 4 n (memF s)
 tak:wr.rowIs gt 4 n (memF tk)
 own:zL wr (gt+1) v todo
section
variable {w1 wr w':World} {gi gt n:Nat} {s tk todo:List Int} {v:Value}
theorem memF_more {s:List Int} {n:Nat} (h:¬ (0<=x/\x<n)) (d:j<n):memF s j=memF (s++[x]) j:=by
 unfold memF;congr 1;rw [decide_eq_decide,EN,EF];constructor
 ·exact .inl
 ·rintro (h1 | h1)
  ·exact h1
  ·omega
theorem memF_set {s:List Int} (h:0<=x) (j:Nat):(if j=x.toNat then Value.bool true else memF s j)=memF (s++[x]) j:=by
 unfold memF;by_cases d:j=x.toNat
 ·rw [if_pos d];congr 1;symm;rw [Ei,EN,EF]
  right;omega
 ·rw [if_neg d];congr 1;rw [decide_eq_decide,EN,EF];constructor
  ·exact .inl
  ·rintro (h1 | h1)
   ·exact h1
   ·omega
theorem QR.more (h:QR w1 wr gi gt n s tk v todo) (d:za wr w'):QR w1 w' gi gt n s tk v todo:=
 ⟨h.ext.trans d,h.hi,h.lt,h.inn.of_block (d.block _ h.inn.lt),h.tak.of_block (d.block _ h.tak.lt),
  h.own.kept (row:=none) ⟨d.os,d.tape,d.output,d.size,fun i o _=>d.block i o⟩ (by cases h:v.ownBlock <;> simp)⟩
theorem QR.setI (h:QR w1 wr gi gt n s tk v todo) (d:0<=x):QR w1 (wr.setCell ⟨gi,x.toNat,none⟩ (.bool true)) gi gt n (s++[x]) tk v todo:=
 ⟨h.ext.setCell h.hi _,h.hi,h.lt,(h.inn.set x.toNat (.bool true)).congr fun j _=>memF_set d j,h.tak.setOther (by show gt≠gi;have:=h.lt;omega) _,
  ownsRow_setCell_below h.own (by show gi<gt+1;have:=h.lt;omega) _⟩
theorem QR.setT (h:QR w1 wr gi gt n s tk v todo) (d:0<=x):QR w1 (wr.setCell ⟨gt,x.toNat,none⟩ (.bool true)) gi gt n s (tk++[x]) v todo:=
 ⟨h.ext.setCell (by show _<=gt;have:=h.lt;have:=h.hi;omega) _,h.hi,h.lt,h.inn.setOther (by show gi≠gt;have:=h.lt;omega) _,(h.tak.set x.toNat (.bool true)).congr fun j _=>memF_set d j,
  ownsRow_setCell_below h.own (by show gt<gt+1;omega) _⟩
theorem QR.skipT (h:QR w1 wr gi gt n s tk v todo) (o:¬ (0<=x/\x<n)):QR w1 wr gi gt n s (tk++[x]) v todo:=
 ⟨h.ext,h.hi,h.lt,h.inn,h.tak.congr fun j d=>memF_more o d,h.own⟩
theorem QR.app {l:List Int} (h:QR w1 wr gi gt n s tk v todo) (D:zL w' (gt+1) v' l) (d:Hid (wr.grownBy w' v.ownBlock)):QR w1 w' gi gt n s tk v' l:=
 ⟨Ao h.ext d h.ext.size (fun k o=>by have:=AO h.own o;have:=h.lt;have:=h.hi;omega),h.hi,h.lt,
  h.inn.of_block (d.out.block _ h.inn.lt (fun e=>by have:=AO h.own e.symm;have:=h.lt;omega)),
  h.tak.of_block (d.out.block _ h.tak.lt (fun e=>by have:=AO h.own e.symm;omega)),D⟩
theorem QR.cellI (h:QR w1 wr gi gt n s tk v todo) (h0:0<=x) (h1:x<n):wr.cell? ⟨gi,x.toNat,none⟩=some (.bool (decide (x∈s)))/\wr.frozen? ⟨gi,x.toNat,none⟩=false:=by
 refine ⟨?_,h.inn.frozen _⟩;rw [h.inn.cell (by omega)];unfold memF;rw [Int.toNat_of_nonneg h0]
theorem QR.cellT (h:QR w1 wr gi gt n s tk v todo) (h0:0<=x) (h1:x<n):wr.cell? ⟨gt,x.toNat,none⟩=some (.bool (decide (x∈tk)))/\wr.frozen? ⟨gt,x.toNat,none⟩=false:=by
 refine ⟨?_,h.tak.frozen _⟩;rw [h.tak.cell (by omega)];unfold memF;rw [Int.toNat_of_nonneg h0]
end
structure QL (wr:World) (B:Nat) (vl v:Value) (l:List Int):Prop where
 own:zL wr B vl l
 ne:∀k,vl.ownBlock=some k->v.ownBlock≠some k
section
variable {w1 wr w':World} {B:Nat} {l:List Int} {v vl:Value}
theorem QL.more (h:QL wr B vl v l) (d:za wr w'):QL w' B vl v l:=⟨h.own.kept (row:=none) ⟨d.os,d.tape,d.output,d.size,fun i o _=>d.block i o⟩ (by cases h:vl.ownBlock <;> simp),h.ne⟩
theorem QL.set (h:QL wr B vl v l) {a:Addr} (d:a.block<B) (u:Value):QL (wr.setCell a u) B vl v l:=⟨ownsRow_setCell_below h.own d u,h.ne⟩
theorem QL.app (h:QL wr B vl v l) (o:Hid (wr.grownBy w' v.ownBlock)) (D:Hid (v'.ownBlock=v.ownBlock\/v'.ownBlock=some wr.heap.size)):QL w' B vl v' l:=by
 refine ⟨h.own.kept o.out ?_,fun k d=>?_⟩
 ·cases d:vl.ownBlock with
  | none=>exact .inl rfl
  | some k=>exact .inr (fun e=>h.ne k d e.symm)
 ·rcases D.out with e | e
  ·rw [e];exact h.ne k d
  ·rw [e];intro e';injection e' with e';have:=(h.own.lt k d).2;omega
end
structure QO (m:MZ) (t:Nat) (from_ used s:List Int) (k:Nat):Prop where
 nd:s.Nodup
 rp:∀x∈s,RP m t from_ used x
 fr:∀x∈from_,0<=x->x<m.n->x∈s
 cl:∀y∈s.take k,∀z∈zm m y,zi m t z=true->z∉used->z∈s
 kl:k<=s.length
structure QJ (m:MZ) (t:Nat) (from_ used s:List Int) (k:Nat) (x:Int) (j:Nat):Prop where
 nd:s.Nodup
 rp:∀x∈s,RP m t from_ used x
 fr:∀x∈from_,0<=x->x<m.n->x∈s
 cl:∀y∈s.take k,∀z∈zm m y,zi m t z=true->z∉used->z∈s
 kl:k<s.length
 xs:s[k]?=some x
 cx:∀z∈(zm m x).take j,zi m t z=true->z∉used->z∈s
theorem QO.take_ {s:List Int} (h:QO m t from_ used s k) (d:k<s.length):QJ m t from_ used s k s[k] 0:=
 ⟨h.nd,h.rp,h.fr,h.cl,d,DW d,by simp⟩
theorem QJ.xm {s:List Int} (h:QJ m t from_ used s k x j):x∈s:=List.mem_of_getElem? h.xs
theorem QJ.skip {s:List Int} (h:QJ m t from_ used s k x j) (o:j<(zm m x).length) (D:(zm m x)[j]∈s\/zi m t (zm m x)[j]=false\/(zm m x)[j]∈used):QJ m t from_ used s k x (j+1):=
 ⟨h.nd,h.rp,h.fr,h.cl,h.kl,h.xs,fun z E hf d=>by
  rcases (zv o z).1 E with h1 | h1
  ·exact h.cx z h1 hf d
  ·subst h1;rcases D with h2 | h2 | h2
   ·exact h2
   ·rw [hf] at h2;cases h2
   ·exact absurd h2 d⟩
theorem QJ.push {s:List Int} (h:QJ m t from_ used s k x j) (G:j<(zm m x).length) (I:(zm m x)[j]∉s) (hf:zi m t (zm m x)[j]=true) (J:(zm m x)[j]∉used):QJ m t from_ used (s++[(zm m x)[j]]) k x (j+1):=
 ⟨Dv h.nd I,fun y d=>by
   rw [EN,EF] at d;rcases d with d | rfl
   ·exact h.rp y d
   ·exact (h.rp x h.xm).step (DZ G) hf J,
  fun y d h0 h1=>by simp [h.fr y d h0 h1],
  fun y d z E o D=>by
   rw [List.take_append_of_le_length (by have:=h.kl;omega)] at d;simp [h.cl y d z E o D],
  by have:=h.kl;simp;omega,
  by rw [Ed h.kl];exact h.xs,
  fun z E o D=>by
   rcases (zv G z).1 E with h1 | h1
   ·simp [h.cx z h1 o D]
   ·simp [h1]⟩
theorem QJ.done {s:List Int} (h:QJ m t from_ used s k x j) (o:(zm m x).length<=j):QO m t from_ used s (k+1):=
 ⟨h.nd,h.rp,h.fr,fun y E z G hf d=>by
  have D:s[k]'h.kl=x:=by
   have:=h.xs;rw [DW h.kl] at this;injection this
  rcases (zv h.kl y).1 E with h1 | h1
  ·exact h.cl y h1 z G hf d
  ·rw [D] at h1;subst h1;exact h.cx z (by rwa [List.take_of_length_le o]) hf d,h.kl⟩
theorem QO.end_ {s:List Int} (h:QO m t from_ used s s.length) (x:Int):x∈s↔RP m t from_ used x:=
 ⟨h.rp x,fun d=>d (·∈s) h.fr (fun y z E D hf o=>h.cl y (by rwa [Ej]) z D hf o)⟩
theorem qreach_calls {ok' ok2:Nat->Prop} {vm vf vu:Value} (t:Nat) (w:World) (hm:zY w ok vm m) (d:Dim m) (ht:t<m.free.length) (h8:∀f∈m.free,(f.length:Int)=m.n)
  (hf:zk w ok' vf from_) (hl:from_.length<=20000000000000) (hu:zk w ok2 vu used) (r8:used.length<=20000000000000):
  Calls Tryz.prog 179 #[vm,.int .i64 t,vf,vu] w fun e w'=>∃v',e=.returned v'/\Mk w w' v' (Cs m t from_ used):=by
 have i4:=hm;obtain ⟨vfr,vup,vts,rfl,d5,_,_⟩:=hm;obtain ⟨vsf,⟨Af,cf,rfl,p8,i8⟩,h6⟩:=d5;obtain ⟨A,c,rfl,hc,hr⟩:=hf;obtain ⟨A2,c2,rfl,p6,i5⟩:=hu;obtain ⟨q9,r6⟩:=d.layer;have D:=zh d;obtain ⟨dw1,dw2,q4,q5,ll1,ll2,n1,n2⟩:=d;have k4:=zh i4;clear i4;have k6:=zh i8;clear i8;have j7:=zh h6;clear h6;have HR:=zh hr;clear hr;have k5:=zh i5;clear i5;have j9:=zh h8;clear h8 n2;obtain ⟨N,hN⟩:∃N:Nat,m.w*m.h*m.l=(N:Int):=⟨(m.w*m.h*m.l).toNat,by omega⟩;have o9:N<=300:=by omega
 have HN:=zh hN;clear hN
 have m9:∀W:World,(Instr.makeSlice 29 (.int .i64 (m.w*m.h*m.l)) (.int .i64 (m.w*m.h*m.l))).run Tryz.prog W=.ok (.slice (some ⟨W.heap.size,0,none⟩) N N) (W.alloc (.cells (madeCells #[.bool false] N) 4)):=fun W=>by
  rw [HN.out];exact run_make_row' 29 4 (.bool false) 1 Tryz.underlying29 Tryz.infoBool rfl .i64 .i64 N (by omega) (by omega) W
 go_enter Tryz.func179,Tryz.ntmps179
 go_wp2_with fail
 generalize f8:w.alloc (.cells #[.int .i64 m.w,.int .i64 m.h,.int .i64 m.l,.slice Af m.free.length cf,vup,vts] 32)=w1;have b5:za w w1:=by rw [<-f8];exact (za.refl w).alloc _
 have i0:zl w1 w.heap.size 32 #[.int .i64 m.w,.int .i64 m.h,.int .i64 m.l,.slice Af m.free.length cf,vup,vts]:=by rw [<-f8];exact EL _ _
 clear f8;obtain ⟨m0,m1,m2,m3,m4,m5⟩:=zt i0;have r0:=za.rule m0;have r1:=za.rule m1;have r2:=za.rule m2;have r3:=za.rule m3;have r4:=za.rule m4;have r5:=za.rule m5;clear m0 m1 m2 m3 m4 m5 i0;have ra:=ext_allocs w1;have hx:za w1 w1:=za.refl w1
 go_wp2_with fail
 refine (Ai _ _ _ _ _ _ _ (by omega) (by omega)).mono ?_;rintro e wA ⟨rfl,h5⟩;have g0:za w1 wA:=hx.trans h5
 go_wp2_with fail
 refine (Ai _ _ _ _ _ _ _ (by omega) (by omega)).mono ?_;rintro e wB ⟨rfl,e2⟩;have g1:za w1 wB:=(g0.alloc _).trans e2;have n5:w1.heap.size<=wA.heap.size:=g0.size;have n6:wA.heap.size<wB.heap.size:=by have:=e2.size;simp at this;omega
 have hQ:Hid (QR w1 (wB.alloc (.cells (madeCells #[.bool false] N) 4)) wA.heap.size wB.heap.size N [] [] (.slice none 0 0) []):=by
  refine ⟨g1.alloc _,n5,n6,?_,?_,World.ownsRow_nil _ _ _ _⟩
  ·exact ((World.rowIs_made wA (.bool false) N 4).of_block (e2.block _ (by simp))).alloc _
  ·exact World.rowIs_made wB (.bool false) N 4
 have j3:=g1.alloc (.cells (madeCells #[.bool false] N) 4);generalize n3:wB.alloc (.cells (madeCells #[.bool false] N) 4)=wC at hQ j3
 go_wp2_with fail
 skip
 clear n3;generalize l7:wA.heap.size=gi at*;generalize m6:wB.heap.size=gt at*;clear l7 m6 h5 e2 hx g0 g1 m9;go_loopw [12] (fun i wr=>∃k:Nat,k<=used.length/\i=.int .i64 k/\Hid (QR w1 wr gi gt N [] (used.take k) (.slice none 0 0) [])) (fun i _=>used.length - (intOf i).toNat)
 case atStart=>exact ⟨0,by omega,rfl,hQ⟩
 clear hQ j3
 case round=>
  obtain ⟨k,hk,rfl,hQ⟩:=hrel;have hx:za w1 wr:=hQ.out.ext;by_cases E:k<used.length
  ·obtain ⟨b,off,rfl,_,o⟩:=AH (k5.out.keep (Ar.of_below (b5.trans hx))) E E;obtain ⟨y,hy⟩:=Fd (used[k]);have U:=zh (Ef E);rw [<-hy] at o U;clear hy;by_cases K:0<=y
   ·by_cases b7:y<N
    ·obtain ⟨e5,l6⟩:=hQ.out.cellT K b7;have a8:=zh (hQ.out.setT K);go_wp2;go_roundw
     case rel=>exact ⟨k+1,by omega,by go_num,by rw [U.out];exact a8⟩
     case measure=>simp [intOf];omega
    ·have a8:=zh (hQ.out.skipT (x:=y) (by omega));go_wp2;go_roundw
     case rel=>exact ⟨k+1,by omega,by go_num,by rw [U.out];exact a8⟩
     case measure=>simp [intOf];omega
   ·have a8:=zh (hQ.out.skipT (x:=y) (by omega));go_wp2;go_roundw
    case rel=>exact ⟨k+1,by omega,by go_num,by rw [U.out];exact a8⟩
    case measure=>simp [intOf];omega
  ·obtain rfl:k=used.length:=by omega
   rw [Ej] at hQ
   go_wp2_with fail
   go_loopw [11,13] (fun v i wr=>∃k s,k<=from_.length/\i=.int .i64 (k:Nat)/\Hid (QR w1 wr gi gt N s used v s)/\Hid (s.Nodup)/\Hid (∀x,x∈s↔x∈from_.take k/\0<=x/\x<m.n)) (fun _ i _=>from_.length - (intOf i).toNat)
   case atStart=>exact ⟨0,[],by omega,rfl,hQ,List.nodup_nil,by simp [Hid]⟩
   clear hQ hx E hk
   case round=>
    obtain ⟨k,s,hk,rfl,hQ,hnd,J⟩:=hrel;have hx:za w1 wr:=hQ.out.ext;by_cases E:k<from_.length
    ·obtain ⟨b,off,rfl,_,M⟩:=AH HR.out E E;have l4:Hid (b<w1.heap.size):=(EA (zn M) b5.size:b<w1.heap.size);have o:=(b5.trans hx).cell M;clear M;obtain ⟨y,hy⟩:=Fd (from_[k]);rw [<-hy] at o;have HY:=zh hy;clear hy;by_cases K:0<=y
     ·by_cases b7:y<N
      ·obtain ⟨e5,l6⟩:=hQ.out.cellI K b7;by_cases G:y∈s
       ·have b1:=zh G;rw [Eb G] at e5;clear G;go_wp2;go_roundw
        case rel=>exact ⟨k+1,s,by omega,by go_num,hQ,hnd,fun x=>by
         rw [zv E,J.out,<-HY.out];constructor
         ·rintro ⟨h1,h2⟩;exact ⟨.inl h1,h2⟩
         ·rintro ⟨h1 | rfl,h2⟩
          ·exact ⟨h1,h2⟩
          ·exact (J.out x).1 b1.out⟩
        case measure=>simp [intOf];omega
       ·have b1:=zh G;rw [Ec G] at e5;clear G;have c6:=Bp hnd.out m.n (fun x V=>((J.out x).1 V).2);have m8:s.length<=300:=by unfold MZ.n at c6;omega
        clear c6;have a8:=zh (hQ.out.setI K);have l9:gt+1<=wr.heap.size:=hQ.out.tak.lt;have b8:(wr.setCell ⟨gi,y.toNat,none⟩ (.bool true)).cell? ⟨b,off+k,none⟩=some (.int .i64 y):=(En (w:=wr) (Eh wr _ _ b (by show b≠gi;have:=l4.out;omega))).trans o
        go_wp2_with (at_builtin;refine AR rfl _ _ rfl _ s y (gt+1) wr.heap.size 1 _ rfl rfl (a8.out.own.alloc _) ?d1 ?d2 ?d3 ?_)
        (try case d1=>exact zA _ _ _ (by simp))
        case d2=>(first | (simp;done) | (simp;omega) | omega)
        case d3=>omega
        intro v' wb a9 O _;have I:=zh ((a8.out.more ((za.refl _).alloc _)).app a9 O);clear a9 O;go_wp2;go_roundw
        case rel=>exact ⟨k+1,s++[y],by omega,by go_num,I,Dv hnd.out b1.out,fun x=>by
         rw [EN,EF,zv E,J.out,<-HY.out];have a7:m.n=N:=HN.out;constructor
         ·rintro (⟨h1,h2⟩ | rfl)
          ·exact ⟨.inl h1,h2⟩
          ·exact ⟨.inr rfl,K,by omega⟩
         ·rintro ⟨h1 | rfl,h2⟩
          ·exact .inl ⟨h1,h2⟩
          ·exact .inr rfl⟩
        case measure=>simp [intOf];omega
      ·go_wp2;go_roundw
       case rel=>exact ⟨k+1,s,by omega,by go_num,hQ,hnd,fun x=>by
        rw [zv E,J.out,<-HY.out];have a7:m.n=N:=HN.out;constructor
        ·rintro ⟨h1,h2⟩;exact ⟨.inl h1,h2⟩
        ·rintro ⟨h1 | rfl,h2,h3⟩
         ·exact ⟨h1,h2,h3⟩
         ·omega⟩
       case measure=>simp [intOf];omega
     ·go_wp2;go_roundw
      case rel=>exact ⟨k+1,s,by omega,by go_num,hQ,hnd,fun x=>by
       rw [zv E,J.out,<-HY.out];constructor
       ·rintro ⟨h1,h2⟩;exact ⟨.inl h1,h2⟩
       ·rintro ⟨h1 | rfl,h2,h3⟩
        ·exact ⟨h1,h2,h3⟩
        ·omega⟩
      case measure=>simp [intOf];omega
    ·obtain rfl:k=from_.length:=by omega
     have hO:Hid (QO m t from_ used s 0):=⟨hnd.out,fun x h=>RP.base (by have:=((J.out x).1 h).1;rwa [Ej] at this) ((J.out x).1 h).2.1 ((J.out x).1 h).2.2,fun x h h0 h1=>(J.out x).2 ⟨by rwa [Ej],h0,h1⟩,by simp,Em _⟩;clear hnd J
     go_wp2_with fail
     go_loopw [11,14] (fun v i wr=>∃k s,i=.int .i64 (k:Nat)/\Hid (QR w1 wr gi gt N s used v s)/\Hid (QO m t from_ used s k)) (fun _ i _=>N - (intOf i).toNat)
     case atStart=>exact ⟨0,s,rfl,hQ,hO⟩
     clear hQ hO hx E hk
     case round=>
      obtain ⟨k,s,rfl,hQ,hO⟩:=hrel;have hx:za w1 wr:=hQ.out.ext;have a7:m.n=N:=HN.out;have n0:=Bp hO.out.nd m.n (fun y hy=>(hO.out.rp y hy).range D.out);have o2:s.length<=N:=by omega
      have q8:=hO.out.kl;clear n0 a7;obtain ⟨wk,rfl⟩:∃wk:World,wk=wr:=⟨_,rfl⟩;by_cases E:k<s.length
      ·obtain ⟨g9,c9,hv,p9,o0⟩:=hQ.out.own.form (by omega);subst hv
       have f5:wk.cell? ⟨g9,k,none⟩=some (.int .i64 s[k]):=by
        have:=hQ.out.own.cellAt k (by omega);rw [this];simp [E]
       have e5:=BE hQ.out.own;have hJ:=zh (hO.out.take_ E);have i9:=(hO.out.rp s[k] (DZ E)).range D.out;obtain ⟨x,V⟩:=Fd (s[k]);rw [<-V] at f5 hJ i9;clear V;obtain ⟨j2,f9⟩:=i9;unfold MZ.n at f9;have rx:=za.rule f5;have hR:=zh (za.refl wk);clear f5
       go_wp2_with fail
       go_region_held3 (fun w'=>za w1 w'/\za wk w')
        (first | (exact held_drew hx) | (exact held_ext (by assumption) h4))
        ((go_at_call 165;refine (DP m x _ (k4.out.keep (Ar.of_below (b5.trans hx.drew))) D.out j2 f9).mono ?_;rintro e w9 ⟨v9,rfl,h4,e6⟩))
       rename_i hS
       have g7:=zh (hQ.out.more hS.2)
       have g4:Hid (QL w9 wk.heap.size v9 (.slice (some ⟨g9,0,none⟩) s.length c9) (zm m x)):=⟨e6,fun k hk e=>by
        have h1:wk.heap.size<=k:=AO e6 hk;have e:some g9=some k:=e;injection e with e;omega⟩
       obtain ⟨A3,c3,rfl,p7,i6⟩:=Bv.of_own e6;have o6:=zh i6;clear i6;clear e6 h4 hS rx hQ hO;have r7:=Cr m x
       go_wp2_with fail
       go_loopw [11,16] (fun v i wi=>∃j s',j<=(zm m x).length/\i=.int .i64 (j:Nat)/\Hid (QR w1 wi gi gt N s' used v s')/\Hid (QL wi wk.heap.size (.slice A3 (zm m x).length c3) v (zm m x))/\Hid (QJ m t from_ used s' k x j)) (fun _ i _=>(zm m x).length - (intOf i).toNat)
       case atStart=>exact ⟨0,s,Em _,rfl,g7,g4,hJ⟩
       clear g7 g4 hJ
       case round=>
        obtain ⟨j,s',hj,rfl,hQ,hL,hJ⟩:=hrel;obtain ⟨wi,rfl⟩:∃wi:World,wi=wr:=⟨_,rfl⟩;have hx:za w1 wi:=hQ.out.ext;by_cases d6:j<(zm m x).length
        ·obtain ⟨b2,rfl,p4,o⟩:=own_at hL.out.own d6;have j4:=Bz D.out j2 f9 (DZ d6);have Q:=zh (hJ.out.skip d6);have d7:=zh (hJ.out.push d6);obtain ⟨y,hy⟩:=Fd ((zm m x)[j]);rw [<-hy] at o j4 Q d7;have o7:=zh hy;clear hy;obtain ⟨K,n4⟩:=j4;have b7:y<N:=by have a7:m.n=N:=HN.out;omega
         obtain ⟨bf,off3,uf,rfl,_,e9,l3⟩:=AX (k6.out.keep (Ar.of_below (b5.trans hx))) j7.out ht ht;have b6:=j9.out _ (DZ ht);obtain ⟨A4,c4,rfl,l5,i7⟩:=l3;have e7:y.toNat<(m.free[t]).length:=by omega
         obtain ⟨b4,off4,rfl,_,b9⟩:=Bu (i7.keep (Ar.of_below (b5.trans hx))) e7 e7;have d5:(m.free[t])[y.toNat]=zi m t y:=by simp [zi,ht,e7]
         rw [d5] at b9;have o3:=zh d5;clear d5;obtain ⟨nf,f7⟩:=Fd ((m.free[t]).length);rw [<-f7] at e9 e7 b6 l5;have o4:=zh f7;clear f7;have n7:=zh b6;clear b6;clear i7 n4;obtain ⟨e4,h7⟩:=hQ.out.cellI K b7;obtain ⟨d4,h9⟩:=hQ.out.cellT K b7;have f0:=Bp hJ.out.nd m.n (fun y hy=>(hJ.out.rp y hy).range D.out);have j1:s'.length<=N:=by have a7:m.n=N:=HN.out;omega
         clear f0;by_cases G:y∈s'
         ·rw [Eb G] at e4;have b1:=zh G;clear G
          go_wp2_with fail
          go_quiet (fail)
          have I:=zh (hQ.out.more ((za.refl wi).drewN nq));have b3:=zh (hL.out.more ((za.refl wi).drewN nq));go_wp2;go_roundw
          case rel=>exact ⟨j+1,s',by omega,by go_num,I,b3,Q.out (.inl b1.out)⟩
          case measure=>simp [intOf];omega
         ·rw [Ec G] at e4;have b1:=zh G;clear G;by_cases hf:zi m t y=true
          ·rw [hf] at b9;have HF:=zh hf;clear hf;by_cases c8:y∈used
           ·rw [Eb c8] at d4;have f2:=zh c8;clear c8
            go_wp2_with fail
            go_quiet (fail)
            have I:=zh (hQ.out.more ((za.refl wi).drewN nq));have b3:=zh (hL.out.more ((za.refl wi).drewN nq));go_wp2;go_roundw
            case rel=>exact ⟨j+1,s',by omega,by go_num,I,b3,Q.out (.inr (.inr f2.out))⟩
            case measure=>simp [intOf];omega
           ·rw [Ec c8] at d4;have f2:=zh c8;clear c8;have k8:=zh (d7.out b1.out HF.out f2.out)
            go_wp2_with fail
            go_quiet (fail)
            generalize g8:wi.drewN nq=W2;have f3:za wi W2:=by rw [<-g8];exact (za.refl wi).drewN _
            clear g8 e4 h7 d4 h9 e9 b9;have I:=zh (hQ.out.more f3);have b3:=zh (hL.out.more f3);have b8:W2.cell? ⟨b2,j,none⟩=some (.int .i64 y):=f3.cell o;clear o hx;have hx:=I.out.ext;obtain ⟨e4,h7⟩:=I.out.cellI K b7;have g6:=zh (I.out.setI K);have l8:gi<wk.heap.size:=by omega
            have k9:=zh (b3.out.set (a:=⟨gi,y.toNat,none⟩) l8 (.bool true));have l9:gt+1<=W2.heap.size:=I.out.tak.lt;have j6:(W2.setCell ⟨gi,y.toNat,none⟩ (.bool true)).cell? ⟨b2,j,none⟩=some (.int .i64 y):=(En (w:=W2) (Eh W2 _ _ b2 (by show b2≠gi;omega))).trans b8
            go_wp2_with (at_builtin;refine AR rfl _ _ rfl _ s' y (gt+1) W2.heap.size 1 _ rfl rfl (g6.out.own.alloc _) ?d1 ?d2 ?d3 ?_)
            (try case d1=>exact zA _ _ _ (by simp))
            case d2=>(first | (simp;done) | (simp;omega) | omega)
            case d3=>omega
            intro v' wb a9 O e3;have l2:=zh ((g6.out.more ((za.refl _).alloc _)).app a9 O);have l0:=zh ((k9.out.more ((za.refl _).alloc _)).app O (by have h:=e3.out;show _\/_;simpa using h));clear a9 O e3;go_wp2;go_roundw
            case rel=>exact ⟨j+1,s'++[y],by omega,by go_num,l2,l0,k8⟩
            case measure=>simp [intOf];omega
          ·have f6:zi m t y=false:=by simpa using hf
           rw [f6] at b9;have HF:=zh f6;clear hf f6
           go_wp2_with fail
           go_quiet (fail)
           have I:=zh (hQ.out.more ((za.refl wi).drewN nq));have b3:=zh (hL.out.more ((za.refl wi).drewN nq));go_wp2;go_roundw
           case rel=>exact ⟨j+1,s',by omega,by go_num,I,b3,Q.out (.inr (.inl HF.out))⟩
           case measure=>simp [intOf];omega
        ·have e1:=zh (hJ.out.done (by omega));have f0:=Bp e1.out.nd m.n (fun y hy=>(e1.out.rp y hy).range D.out);have j1:s'.length<=N:=by have a7:m.n=N:=HN.out;omega
         have q7:=e1.out.kl;go_wp2;go_roundw
         case rel=>exact ⟨k+1,s',by go_num,hQ,e1⟩
         case measure=>simp [intOf];omega
      ·have i2:k=s.length:=by omega
       subst i2;obtain ⟨A0,c0,rfl,p5⟩:=AL hQ.out.own;have hE:=zh (reachL_of hO.out.end_);have g5:=zh (Mk.nil wk)
       go_wp2_with fail
       go_loopw [17,18] (fun v i wr=>∃k:Nat,k<=N/\i=.int .i64 (k:Nat)/\Hid (Mk wk wr v (((List.range k).map Int.ofNat).filter (fun x=>decide (x∈s))))) (fun _ i _=>N - (intOf i).toNat)
       case atStart=>exact ⟨0,by omega,rfl,g5⟩
       clear g5
       case round=>
        obtain ⟨j,hj,rfl,hM⟩:=hrel;have V:=hM.out.ext;by_cases d6:j<N
        ·obtain ⟨f4,_⟩:=(hQ.out.more V).cellI (x:=(j:Int)) (by omega) (by omega);rw [EO] at f4;have s1:=hx.trans V
         have d8:((List.range (j+1)).map Int.ofNat).filter (fun x=>decide (x∈s))=((List.range j).map Int.ofNat).filter (fun x=>decide (x∈s))++[(j:Int)].filter (fun x=>decide (x∈s)):=by
          rw [List.range_succ,EP,List.filter_append];rfl
         have HS:=zh d8;clear d8;by_cases c7:(j:Int)∈s
         ·rw [Eb c7] at f4;have f1:=zh c7;clear c7;have c6:(((List.range j).map Int.ofNat).filter (fun x=>decide (x∈s))).length<=j:=Ea (EB _ _) (by simp);obtain ⟨lj,i3⟩:=Fd (((List.range j).map Int.ofNat).filter (fun x=>decide (x∈s)));rw [<-i3] at hM c6 HS;clear i3
          go_wp2_with (at_builtin;refine AR rfl _ _ rfl _ lj (j:Int) wk.heap.size wr.heap.size 1 _ rfl rfl (hM.out.own.alloc _) ?d1 ?d2 ?d3 ?_)
          (try case d1=>exact zA _ _ _ (by simp))
          case d2=>(first | (simp;done) | (have:=V.size;simp;omega) | (have:=V.size;omega))
          case d3=>omega
          intro v' wb a9 O e3;have l1:=zh ((hM.out.alloc _).app a9 O);clear a9 O e3;go_wp2;go_roundw
          case rel=>exact ⟨j+1,by omega,by go_num,by rw [HS.out,List.filter_cons_of_pos (by simpa using f1.out)];exact l1⟩
          case measure=>simp [intOf];omega
         ·rw [Ec c7] at f4;have f1:=zh c7;clear c7;go_wp2;go_roundw
          case rel=>exact ⟨j+1,by omega,by go_num,by rw [HS.out,EG (by simpa using f1.out),List.filter_nil,List.append_nil];exact hM⟩
          case measure=>simp [intOf];omega
        ·have m7:j=N:=by omega
         subst m7
         go_wp2_with fail
         go_ret;refine ⟨_,rfl,(b5.trans hx).mono_mk ?_⟩;rw [<-hE.out];have a7:m.n.toNat=j:=by have:m.n=(j:Int):=HN.out;omega
         rw [a7];exact hM.out
theorem BO {w1:World} (o:g<w1.heap.size) (m0:w1.cell? ⟨g,0,none⟩=some a0) (m1:w1.cell? ⟨g,1,none⟩=some a1) (m2:w1.cell? ⟨g,2,none⟩=some a2) (m3:w1.cell? ⟨g,3,none⟩=some a3) (m4:w1.cell? ⟨g,4,none⟩=some a4) (m5:w1.cell? ⟨g,5,none⟩=some a5) (d:Hid (Below w.heap.size w w1)):
  w1.drew.cell? ⟨g,0,none⟩=some a0/\w1.drew.cell? ⟨g,1,none⟩=some a1/\w1.drew.cell? ⟨g,2,none⟩=some a2/\w1.drew.cell? ⟨g,3,none⟩=some a3/\w1.drew.cell? ⟨g,4,none⟩=some a4/\w1.drew.cell? ⟨g,5,none⟩=some a5/\Hid (Below w.heap.size w w1.drew):=
 ⟨m0,m1,m2,m3,m4,m5,Below.drew d.out⟩
theorem held6 {w1:World} (o:g<w1.heap.size)
  (h:w1.drew.cell? ⟨g,0,none⟩=some a0/\w1.drew.cell? ⟨g,1,none⟩=some a1/\w1.drew.cell? ⟨g,2,none⟩=some a2/\w1.drew.cell? ⟨g,3,none⟩=some a3/\w1.drew.cell? ⟨g,4,none⟩=some a4/\w1.drew.cell? ⟨g,5,none⟩=some a5/\Hid (Below w.heap.size w w1.drew)) (d:Below w1.drew.heap.size w1.drew w2):
  w2.cell? ⟨g,0,none⟩=some a0/\w2.cell? ⟨g,1,none⟩=some a1/\w2.cell? ⟨g,2,none⟩=some a2/\w2.cell? ⟨g,3,none⟩=some a3/\w2.cell? ⟨g,4,none⟩=some a4/\w2.cell? ⟨g,5,none⟩=some a5/\Hid (Below w.heap.size w w2):=by
 obtain ⟨m0,m1,m2,m3,m4,m5,h⟩:=h;exact ⟨(d.cell o).trans m0,(d.cell o).trans m1,(d.cell o).trans m2,(d.cell o).trans m3,(d.cell o).trans m4,(d.cell o).trans m5,AZ h.out d (DY _)⟩
theorem BV {w1:World} {p:Addr} {v:Value} (h:w1.cell? p=some v) (d:Below w1.heap.size w1 w2):w2.cell? p=some v:=(d.cell (zn h)).trans h
theorem held_and {A B A' B':Prop} (h:A/\B) (f:A->A') (g:B->B'):A'/\B':=⟨f h.1,g h.2⟩
theorem drewn_below {a w':World} (h:Below a.drew.heap.size a.drew w'):Below a.heap.size a w':=((Below.refl a.heap.size a).drew).trans h
structure CQ (w wr:World) (a0 a1 a2 a3 a4 a5:Value):Prop where
 below:Below w.heap.size w wr
 m0:wr.cell? ⟨w.heap.size,0,none⟩=some a0
 m1:wr.cell? ⟨w.heap.size,1,none⟩=some a1
 m2:wr.cell? ⟨w.heap.size,2,none⟩=some a2
 m3:wr.cell? ⟨w.heap.size,3,none⟩=some a3
 m4:wr.cell? ⟨w.heap.size,4,none⟩=some a4
 m5:wr.cell? ⟨w.heap.size,5,none⟩=some a5
theorem Dx {v:Value} (w:World) (hm:zY w ok v m) (hl:Lens m):
  Calls Tryz.prog 60 #[v] w fun e w'=>e=.returned (.int .i64 (BM m))/\Below w.heap.size w w':=by
 have j3:=hm;obtain ⟨vfr,vup,vts,rfl,i9,j6,j5⟩:=hm;obtain ⟨vsf,⟨Af,cf,rfl,i2,f6⟩,e9⟩:=i9;obtain ⟨Au,cu,rfl,k9,j4⟩:=j6;obtain ⟨vst,⟨At,ct,rfl,i3,f7⟩,f0⟩:=j5;obtain ⟨l1,l2,l3,l4⟩:=hl;have e0:=zh f6;clear f6;have d7:=zh e9;clear e9;have g8:=zh f7;clear f7;have g3:=zh f0;clear f0;have g6:=zh l4;clear l4;clear j4 j3
 go_enter Tryz.func60,Tryz.ntmps60
 by_cases hs:[m.w,m.h,m.l].any side=true
 ·have HC:=zh (chk_side hs)
  have h6:(m.w<1)\/(¬ m.w<1/\m.h<1)\/(¬ m.w<1/\¬ m.h<1/\m.l<1)\/(¬ m.w<1/\¬ m.h<1/\¬ m.l<1/\300<m.w)\/(¬ m.w<1/\¬ m.h<1/\¬ m.l<1/\¬ 300<m.w/\300<m.h)\/(¬ m.w<1/\¬ m.h<1/\¬ m.l<1/\¬ 300<m.w/\¬ 300<m.h/\300<m.l):=by
   simp [side] at hs;omega
  clear hs;rcases h6 with h | ⟨h1,h⟩ | ⟨h1,h2,h⟩ | ⟨h1,h2,h3,h⟩ | ⟨h1,h2,h3,h4,h⟩ | ⟨h1,h2,h3,h4,h5,h⟩
  all_goals go_wp2
  all_goals go_ret
  all_goals exact ⟨AF HC.out.symm,(Below.refl _ _).alloc (DY _) _⟩
 have b3:[m.w,m.h,m.l].any side=false:=by simpa using hs
 clear hs;obtain ⟨⟨p1,p2⟩,p3,p4⟩:=sides_mul b3;obtain ⟨⟨a1,a2⟩,⟨b1,b2⟩,c1,c2⟩:=sides b3;have HN:=zh b3;clear b3
 have a7:300<m.n\/6<m.tasks.length->BM m=2:=by
  intro h;unfold BM;rw [if_neg (by rw [HN.out];simp),if_pos h]
 have d9:=zh a7;clear a7
 go_wp2_with fail
 refine (Ai _ _ _ _ _ _ _ (by omega) (by omega)).mono ?_;rintro e w' ⟨rfl,hb⟩;have b8:zl (w.alloc (.cells #[.int .i64 m.w,.int .i64 m.h,.int .i64 m.l,.slice Af m.free.length cf,.slice Au m.up.length cu,.slice At m.tasks.length ct] 32)) w.heap.size 32 _:=EL _ _;have b9:zl w' w.heap.size 32 _:=b8.below hb (zc b8);have e6:Below w.heap.size w w':=AZ ((Below.refl _ _).alloc (DY _) _) hb (by simp);clear b8 hb;obtain ⟨m0,m1,m2,m3,m4,m5⟩:=zt b9;have g1:=zh b9;clear b9;have Hb1:=zh e6;clear e6;by_cases V:300<m.w*m.h*m.l
 ·go_wp2;go_ret;exact ⟨AF (d9.out (.inl V)).symm,Hb1.out⟩
 by_cases ht:6<m.tasks.length
 ·go_wp2;go_ret;exact ⟨AF (d9.out (.inr ht)).symm,Hb1.out⟩
 have a6:(m.free.length≠m.tasks.length\/(m.up.length:Int)≠m.n\/m.free.any (fun f=>(f.length:Int) != m.n)=true)->BM m=1:=by
  intro h;unfold BM;rw [if_neg (by rw [HN.out];simp),if_neg (by unfold MZ.n;omega),if_pos h]
 have b6:=zh a6;clear a6;by_cases hf:m.free.length=m.tasks.length
 case neg=>
  have i5:decide ((m.free.length:Int)=(m.tasks.length:Int))=false:=by simp;omega
  have i6:((m.free.length:Int) != (m.tasks.length:Int))=true:=by simp;omega
  have i7:decide (m.free.length=m.tasks.length)=false:=by simp;omega
  have i8:(m.free.length != m.tasks.length)=true:=by simp;omega
  go_wp2_with fail
  go_quiet (fail)
  go_wp2;go_ret;exact ⟨AF (b6.out (.inl hf)).symm,Cx Hb1.out _⟩
 have i5:decide ((m.free.length:Int)=(m.tasks.length:Int))=true:=by simp;omega
 have i6:((m.free.length:Int) != (m.tasks.length:Int))=false:=by simp;omega
 have i7:decide (m.free.length=m.tasks.length)=true:=by simp;omega
 have i8:(m.free.length != m.tasks.length)=false:=by simp;omega
 have HF:=zh hf;clear hf;have d:w.heap.size<w'.heap.size:=zc g1.out
 go_wp2_with fail
 go_region_held3 (fun w'=>w'.cell? ⟨w.heap.size,0,none⟩=some (.int .i64 m.w)/\w'.cell? ⟨w.heap.size,1,none⟩=some (.int .i64 m.h)/\w'.cell? ⟨w.heap.size,2,none⟩=some (.int .i64 m.l)/\w'.cell? ⟨w.heap.size,3,none⟩=some (.slice Af m.free.length cf)/\w'.cell? ⟨w.heap.size,4,none⟩=some (.slice Au m.up.length cu)/\w'.cell? ⟨w.heap.size,5,none⟩=some (.slice At m.tasks.length ct)/\Hid (Below w.heap.size w w'))
  (first | exact BO d m0 m1 m2 m3 m4 m5 Hb1 | exact held6 d (by assumption) o)
  ((go_at_call 41;refine (Ai _ _ _ _ _ _ _ (by omega) (by omega)).mono ?_;rintro e w9 ⟨rfl,o⟩))
 rename_i hS
 obtain ⟨m0,m1,m2,m3,m4,m5,M⟩:=hS;have hI:=zh (CQ.mk M.out m0 m1 m2 m3 m4 m5);by_cases hu:(m.up.length:Int)=m.w*m.h*m.l
 case neg=>
  go_wp2;go_ret;exact ⟨AF (b6.out (.inr (.inl hu))).symm,M.out⟩
 clear m0 m1 m2 m3 m4 m5 o M d;have HU:=zh hu
 go_wp2_with fail
 rename ((m.up.length:Int) != m.w*m.h*m.l)=false=>hq
 clear hu hq;have e2:Bw w ok (.slice Af m.free.length cf) m.free:=⟨vsf,⟨Af,cf,rfl,i2,e0.out⟩,d7.out⟩;have k5:=zh e2;clear e2;go_loopw [3] (fun i wr=>∃k:Nat,k<=m.free.length/\i=.int .i64 k/\Hid ((m.free.take k).any (fun f=>(f.length:Int) != m.n)=false)/\Hid (CQ w wr (.int .i64 m.w) (.int .i64 m.h) (.int .i64 m.l) (.slice Af m.free.length cf) (.slice Au m.up.length cu) (.slice At m.tasks.length ct))) (fun i _=>m.free.length - (intOf i).toNat)
 case atStart=>exact ⟨0,by omega,rfl,by simp [Hid],hI⟩
 clear hI
 case round=>
  obtain ⟨k,hk,rfl,V,hI⟩:=hrel;obtain ⟨Hb1,m0,m1,m2,m3,m4,m5⟩:=hI;have Hb1:=zh Hb1;have d:=zn m0;by_cases I:k<m.free.length
  ·obtain ⟨b,off,u,rfl,_,E,hu⟩:=AX (e0.out.keep (Ar.of_below Hb1.out)) d7.out I I;obtain ⟨x,J⟩:=Fd (m.free[k]);rw [<-J] at hu;obtain ⟨Ax,cx,rfl,l5,_⟩:=hu;have D:=zh (AW (fun f=>(f.length:Int) != m.n) I);rw [<-J] at D;have HM:=zh (show x∈m.free by rw [J];exact DZ _);clear J
   go_wp2_with fail
   go_region_held3 (fun w'=>(w'.cell? ⟨w.heap.size,0,none⟩=some (.int .i64 m.w)/\w'.cell? ⟨w.heap.size,1,none⟩=some (.int .i64 m.h)/\w'.cell? ⟨w.heap.size,2,none⟩=some (.int .i64 m.l)/\w'.cell? ⟨w.heap.size,3,none⟩=some (.slice (some ⟨b,off,none⟩) m.free.length cf)/\w'.cell? ⟨w.heap.size,4,none⟩=some (.slice Au m.up.length cu)/\w'.cell? ⟨w.heap.size,5,none⟩=some (.slice At m.tasks.length ct)/\Hid (Below w.heap.size w w'))/\w'.cell? ⟨b,off+k,none⟩=some (.slice Ax x.length cx))
    (first | exact ⟨BO d m0 m1 m2 m3 m4 m5 Hb1,E⟩ | exact held_and (by assumption) (fun h=>held6 d h o) (fun h=>BV h o))
    ((go_at_call 41;refine (Ai _ _ _ _ _ _ _ (by omega) (by omega)).mono ?_;rintro e w9 ⟨rfl,o⟩))
   rename_i hS
   obtain ⟨⟨m0,m1,m2,m3,m4,m5,M⟩,_⟩:=hS;have hI:=zh (CQ.mk M.out m0 m1 m2 m3 m4 m5);clear o M;by_cases J:(x.length:Int)=m.w*m.h*m.l
   ·have HX:=zh J;go_wp2;clear J;go_roundw
    case rel=>exact ⟨k+1,by omega,by go_num,by
     show _=false;rw [D.out,V.out];show (false || ((x.length:Int) != m.w*m.h*m.l))=false;rw [HX.out];simp,hI⟩
    case measure=>simp [intOf];omega
   ·have HX:=zh J;go_wp2;go_ret
    exact ⟨AF (b6.out (.inr (.inr (EZ.2 ⟨x,HM.out,by
     show ((x.length:Int) != m.w*m.h*m.l)=true;simpa using HX.out⟩)))).symm,hI.out.below⟩
  ·obtain rfl:k=m.free.length:=by omega
   have ha:m.free.any (fun f=>(f.length:Int) != m.n)=false:=by have h:=V.out;rwa [Ej] at h
   have HA:=zh ha;clear ha V;have hI:=zh (CQ.mk Hb1.out m0 m1 m2 m3 m4 m5);have e3:BR w ok (.slice At m.tasks.length ct) m.tasks:=⟨vst,⟨At,ct,rfl,i3,g8.out⟩,g3.out⟩;have h7:=zh e3;clear e3
   go_wp2_with fail
   clear m0 m1 m2 m3 m4 m5 Hb1 d;go_loopw [4] (fun i wr=>∃k:Nat,k<=m.tasks.length/\i=.int .i64 k/\Hid ((m.tasks.take k).any (fun t=>t.1.any (zP m.n) || t.2.any (zP m.n))=false)/\Hid (CQ w wr (.int .i64 m.w) (.int .i64 m.h) (.int .i64 m.l) (.slice Af m.free.length cf) (.slice Au m.up.length cu) (.slice At m.tasks.length ct))) (fun i _=>m.tasks.length - (intOf i).toNat)
   case atStart=>exact ⟨0,by omega,rfl,by simp [Hid],hI⟩
   clear hI
   case round=>
    obtain ⟨k,hk,rfl,V,hI⟩:=hrel;obtain ⟨Hb1,m0,m1,m2,m3,m4,m5⟩:=hI;have Hb1:=zh Hb1;have d:=zn m0;by_cases I:k<m.tasks.length
    ·obtain ⟨b,off,sn,u1,u2,rfl,_,i1,Q,U,c6,c7⟩:=Ce (h7.out.below Hb1.out) I;obtain ⟨t,a9⟩:=Fd (m.tasks[k]);rw [<-a9] at c6 c7;obtain ⟨j1,j2⟩:=g6.out _ (DZ I);rw [<-a9] at j1 j2;have g4:=zh c6;clear c6;have g5:=zh c7;clear c7;have D:=zh (AW (fun t=>t.1.any (zP m.n) || t.2.any (zP m.n)) I);rw [<-a9] at D;have HM:=zh (show t∈m.tasks by rw [a9];exact DZ _);clear a9
     have b5:∀x,x∈[]++t.1++t.2->zP m.n x=true->BM m=50:=by
      intro x J h
      have ht:(t.1.any (zP m.n) || t.2.any (zP m.n))=true:=by
       rw [<-List.any_append];exact EZ.2 ⟨x,by simpa using J,h⟩
      unfold BM;rw [if_neg (by rw [HN.out];simp),if_neg (by unfold MZ.n;omega),if_neg (by rw [HA.out,HF.out,HU.out];simp [MZ.n]),if_pos (EZ.2 ⟨t,HM.out,ht⟩)]
     have O:=zh b5;clear b5
     go_wp2_with fail
     have h9:w.heap.size<=wr.heap.size:=Hb1.out.size
     go_region_held3 (fun w'=>(w'.cell? ⟨w.heap.size,0,none⟩=some (.int .i64 m.w)/\w'.cell? ⟨w.heap.size,1,none⟩=some (.int .i64 m.h)/\w'.cell? ⟨w.heap.size,2,none⟩=some (.int .i64 m.l)/\w'.cell? ⟨w.heap.size,3,none⟩=some (.slice Af m.free.length cf)/\w'.cell? ⟨w.heap.size,4,none⟩=some (.slice Au m.up.length cu)/\w'.cell? ⟨w.heap.size,5,none⟩=some (.slice (some ⟨b,off,none⟩) m.tasks.length ct)/\Hid (Below w.heap.size w w'))/\w'.cell? ⟨b,off+k*3+1,none⟩=some u1/\w'.cell? ⟨b,off+k*3+2,none⟩=some u2)
      (first | (exact ⟨BO d m0 m1 m2 m3 m4 m5 Hb1,Q,U⟩) | (exact ⟨held6 d (BO d m0 m1 m2 m3 m4 m5 Hb1) b0,BV (w1:=wr.drew) Q b0,BV (w1:=wr.drew) U b0⟩) | (exact ⟨held6 d (BO d m0 m1 m2 m3 m4 m5 Hb1) G,BV (w1:=wr.drew) Q G,BV (w1:=wr.drew) U G⟩) | (exact ⟨held6 d (BO d m0 m1 m2 m3 m4 m5 Hb1) ((Below.refl _ _).alloc (DY _) _),BV (w1:=wr.drew) Q ((Below.refl _ _).alloc (DY _) _),BV (w1:=wr.drew) U ((Below.refl _ _).alloc (DY _) _)⟩))
      (first | (refine AM (ok:=ok) (by rfl) _ _ _ (by rfl) wr.heap.size [] t.1 _ _ (by rfl) (by rfl) (BX wr.drew wr.heap.size (DY _)) (g4.out.keep (Ar.of_below (w:=wr) ((Below.drew (Below.refl _ _)).alloc (DY _) _))) (by simp) (by simp;omega) ?_;intro v1 w1 c9 f1 e4;have G:Below wr.drew.heap.size wr.drew w1:=(Ao ((Below.refl _ _).alloc (DY _) _) f1 (by simp) (fun k hk=>AO (BX wr.drew wr.heap.size (DY _)) hk))) | (refine AM (ok:=ok) (by rfl) _ _ _ (by rfl) wr.heap.size ([]++t.1) t.2 _ _ (by rfl) (by rfl) c9 (g5.out.keep (Ar.of_below (w:=wr.drew) G)) G.size (by simp;omega) ?_;intro v2 w2 f5 f2 e5;have b0:Below wr.drew.heap.size wr.drew w2:=(Ao G f2 G.size (fun k hk=>AO c9 hk))))
     rename_i hS
     obtain ⟨⟨m0,m1,m2,m3,m4,m5,M⟩,_,_⟩:=hS;have hI:=zh (CQ.mk M.out m0 m1 m2 m3 m4 m5);have d8:=zh (f5.mono h9:zL w2 w.heap.size v2 ([]++t.1++t.2));clear G b0 f1 e4 c9 f5 f2 e5 i1 Q U m0 m1 m2 m3 m4 m5 M d Hb1;obtain ⟨all,K⟩:=Fd ([]++t.1++t.2);rw [<-K] at d8 O;have l7:all.length<=800000000000:=by rw [K];simp;omega
     have d6:=zh K;clear K;obtain ⟨Av,cv,rfl,l0,f8⟩:=Bv.of_own d8.out;have g9:=zh f8;clear f8
     go_wp2_with fail
     go_loopw [6] (fun i wi=>∃j:Nat,j<=all.length/\i=.int .i64 j/\Hid ((all.take j).any (zP m.n)=false)/\Hid (Below w2.heap.size w2 wi)/\Hid (CQ w wi (.int .i64 m.w) (.int .i64 m.h) (.int .i64 m.l) (.slice Af m.free.length cf) (.slice Au m.up.length cu) (.slice (some ⟨b,off,none⟩) m.tasks.length ct))) (fun i _=>all.length - (intOf i).toNat)
     case atStart=>exact ⟨0,by omega,rfl,by simp [Hid],Below.refl _ _,hI⟩
     clear hI
     case round=>
      obtain ⟨j,hj,rfl,f4,e7,hI⟩:=hrel;obtain ⟨wi,rfl⟩:∃wi:World,wi=wr:=⟨_,rfl⟩;obtain ⟨Hb1,m0,m1,m2,m3,m4,m5⟩:=hI;have Hb1:=zh Hb1;have d:=zn m0;by_cases c8:j<all.length
      ·obtain ⟨bv,ov,rfl,_,E⟩:=AH (g9.out.keep (Ar.of_below e7.out)) c8 c8;obtain ⟨x,J⟩:=Fd (all[j]);rw [<-J] at E;have a8:=zh (AW (zP m.n) c8);rw [<-J] at a8;have e1:=zh (show x∈all by rw [J];exact DZ _);clear J;by_cases b4:x<0
       ·have hd:decide (x<0)=true:=by simpa using b4
        go_wp2_with fail
        go_quiet (fail)
        go_wp2;go_ret;exact ⟨AF (O.out x e1.out (by unfold zP;rw [hd];rfl)).symm,Cx Hb1.out _⟩
       ·have hd:decide (x<0)=false:=by simpa using b4
        go_wp2_with fail
        go_region_held3 (fun w'=>(w'.cell? ⟨w.heap.size,0,none⟩=some (.int .i64 m.w)/\w'.cell? ⟨w.heap.size,1,none⟩=some (.int .i64 m.h)/\w'.cell? ⟨w.heap.size,2,none⟩=some (.int .i64 m.l)/\w'.cell? ⟨w.heap.size,3,none⟩=some (.slice Af m.free.length cf)/\w'.cell? ⟨w.heap.size,4,none⟩=some (.slice Au m.up.length cu)/\w'.cell? ⟨w.heap.size,5,none⟩=some (.slice (some ⟨b,off,none⟩) m.tasks.length ct)/\Hid (Below w.heap.size w w'))/\w'.cell? ⟨bv,ov+j,none⟩=some (.int .i64 x))
         (first | exact ⟨BO d m0 m1 m2 m3 m4 m5 Hb1,E⟩ | exact held_and (by assumption) (fun h=>held6 d h o) (fun h=>BV h o))
         ((go_at_call 41;refine (Ai _ _ _ _ _ _ _ (by omega) (by omega)).mono ?_;rintro e w9 ⟨rfl,o⟩))
        rename_i hS
        obtain ⟨⟨m0,m1,m2,m3,m4,m5,M⟩,_⟩:=hS;have hI:=zh (CQ.mk M.out m0 m1 m2 m3 m4 m5);have e8:Hid (Below w2.heap.size w2 w9):=AZ e7.out (drewn_below o) (DY _);clear o M;by_cases d4:x<m.w*m.h*m.l
        ·have HX:=zh d4;have h8:=zh b4;go_wp2;clear d4 b4 hd;go_roundw
         case rel=>exact ⟨j+1,by omega,by go_num,by
          show _=false;rw [a8.out,f4.out];have h1:¬ m.w*m.h*m.l<=x:=by have:=HX.out;omega
          have h2:¬ x<0:=by have:=h8.out;omega
          show (false || (decide (x<0) || decide (m.w*m.h*m.l<=x)))=false;rw [Ec h1,Ec h2];rfl,e8,hI⟩
         case measure=>simp [intOf];omega
        ·have HX:=zh d4;go_wp2;go_ret
         exact ⟨AF (O.out x e1.out (by
          have h1:m.w*m.h*m.l<=x:=by have:=HX.out;omega
          show (decide (x<0) || decide (m.w*m.h*m.l<=x))=true;rw [Eb h1,Bool.or_true])).symm,hI.out.below⟩
      ·obtain rfl:j=all.length:=by omega
       go_wp2;go_roundw
       case rel=>exact ⟨k+1,by omega,by go_num,by
        show _=false;have h:=f4.out;rw [Ej,d6.out,List.nil_append,List.any_append] at h;rw [D.out,V.out];exact h,⟨Hb1.out,m0,m1,m2,m3,m4,m5⟩⟩
       case measure=>simp [intOf];omega
    ·obtain rfl:k=m.tasks.length:=by omega
     go_wp2;go_ret;refine ⟨AF ?_,Hb1.out⟩;have V:=V.out;rw [Ej] at V;unfold BM;rw [if_neg (by rw [HN.out];simp),if_neg (by unfold MZ.n;omega),if_neg (by rw [HA.out,HF.out,HU.out];simp [MZ.n]),if_neg (by rw [V];simp)]
structure AG (m:MZ):Prop where
 dim:Dim m
 fl:m.free.length=m.tasks.length
 fn:∀f∈m.free,(f.length:Int)=m.n
 tk:m.tasks.length<=6
 tn:∀t∈m.tasks,∀x,x∈t.1\/x∈t.2->0<=x/\x<m.n
theorem AG.of (h:BM m=0):AG m:=by
 unfold BM at h
 split at h
 ·cases h
 ·rename_i h1
  have o:[m.w,m.h,m.l].any side=false:=by simpa using h1
  obtain ⟨⟨a1,a2⟩,⟨b1,b2⟩,c1,c2⟩:=sides o
  split at h
  ·cases h
  ·rename_i h2
   split at h
   ·cases h
   ·rename_i h3
    split at h
    ·cases h
    ·rename_i J
     have d:m.n<=300/\m.tasks.length<=6:=by omega
     have D:m.free.length=m.tasks.length:=by
      by_cases h:m.free.length=m.tasks.length
      ·exact h
      ·exact absurd (.inl h) h3
     have E:(m.up.length:Int)=m.n:=by
      by_cases h:(m.up.length:Int)=m.n
      ·exact h
      ·exact absurd (.inr (.inl h)) h3
     have G:∀f∈m.free,(f.length:Int)=m.n:=by
      intro f hf;by_cases h:(f.length:Int)=m.n
      ·exact h
      ·exact absurd (.inr (.inr (EZ.2 ⟨f,hf,by simpa using h⟩))) h3
     refine ⟨⟨a1,a2,b1,b2,c1,c2,d.1,E⟩,D,G,d.2,fun t ht x hx=>?_⟩;by_cases I:zP m.n x=true
     ·exfalso
      apply J;refine EZ.2 ⟨t,ht,?_⟩;rw [EY];rcases hx with hx | hx
      ·exact .inl (EZ.2 ⟨x,hx,I⟩)
      ·exact .inr (EZ.2 ⟨x,hx,I⟩)
     ·simp [zP] at I;omega
theorem AG.n1 (g:AG m):1<=m.w*m.h*m.l:=by have:=g.dim.layer;omega
open Classical in
noncomputable def reachO (m:MZ) (t:Int) (from_ used:List Int):List Int:=if BM m=0/\0<=t/\t<m.tasks.length then Cs m t.toNat from_ used else []
end
end Go.Proofs.YtjomnbdjajjgfaaGreatDoor
