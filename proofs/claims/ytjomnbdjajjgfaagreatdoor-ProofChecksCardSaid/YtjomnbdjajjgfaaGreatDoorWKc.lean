import Derived.Test.YtjomnbdjajjgfaaGreatDoorWKb
import Derived.Deep.DeepCutAuto
import Derived.Deep.OwnRows
import Derived.BigQuiet
import Derived.Deep.RegionHeld3
import Derived.Deep.DrawnRows
set_option linter.unusedVariables false
set_option linter.unusedSimpArgs false
set_option maxRecDepth 100000
set_option maxHeartbeats 16000000
namespace Go.Proofs.YtjomnbdjajjgfaaGreatDoor
variable {c:Bool} {x:Int} {from_ used:List Int} {m:MZ} {g j k t:Nat} {ok:Nat->Prop} {a0 a1 a2 a3 a4 a5 v':Value} {w w2:World}
section
open Go.RowKit
theorem ap_t (h:c=true) (x:Int) (l:List Int):ap c x l=l++[x]:=by rw [h];rfl
theorem ap_f (h:c=false) (x:Int) (l:List Int):ap c x l=l:=by rw [h];rfl
theorem CU {v:Value} (m:MZ) (node:Int) (w:World) (hm:zt w ok v m) (d:Dim m) (h0:0<=node) (h1:node<m.w*m.h*m.l):
  Calls Tryz.prog 165 #[v,.int .i64 node] w fun e w'=>∃v',e=.returned v'/\Below w.heap.size w w'/\w'.ownsRow w.heap.size 3 1 v' (zo m node).length ((zo m node).map (Value.int .i64)):=by
 obtain ⟨f,u,t,rfl,_,hu,_⟩:=hm;obtain ⟨A,c,rfl,c8,b9⟩:=hu;have hl:=d.layer;obtain ⟨a7,a8⟩:=hl;obtain ⟨dw1,dw2,c9,d4,ll1,ll2,n1,b8⟩:=d;obtain ⟨W,H,L,fr,up,ts⟩:=m;simp only at*;have HU:=zh b9;clear b9;have b2:=zh b8;clear b8
 go_enter Tryz.func165,Tryz.ntmps165
 have d7:0<=node / W:=Int.ediv_nonneg h0 (by omega);have d8:node / W<=node:=Int.ediv_le_self _ h0
 go_wp2_with fail
 go_quiet (fail)
 have d9:0<=node / W % H:=Int.emod_nonneg _ (by omega);have e0:node / W % H<H:=Int.emod_lt_of_pos _ (by omega);have e1:0<=node % W:=Int.emod_nonneg _ (by omega);have e2:node % W<W:=Int.emod_lt_of_pos _ (by omega);generalize a9:((w.alloc (.cells #[.int .i64 W,.int .i64 H,.int .i64 L,f,.slice A up.length c,t] 32)).drewN nq)=w1;have a6:za w w1:=by rw [<-a9];exact ((za.refl w).alloc _).drewN _
 have b4:zd w1 w.heap.size 32 #[.int .i64 W,.int .i64 H,.int .i64 L,f,.slice A up.length c,t]:=by rw [<-a9];exact EE _ _
 have b1:=zh (HU.out.keep (zK.of_below a6):AE w1 ok 1 A up.length (up.map Value.bool));clear a9 HU;have b0:=zh a6;clear a6;obtain ⟨m0,m1,m2,m3,m4,m5⟩:=zq b4;have r0:=za.rule m0;have r1:=za.rule m1;have r2:=za.rule m2;have r3:=za.rule m3;have r4:=za.rule m4;have r5:=za.rule m5;clear m0 m1 m2 m3 m4 m5 b4;have ra:=Bj w1;have O:za w1 w1:=za.refl w1;have o:=zh (Mk.nil w1);obtain ⟨c1,J⟩:∃b,b=(decide (W*H<=node) && up.getD (node - W*H).toNat false):=⟨_,rfl⟩;obtain ⟨c2,b3⟩:∃b,b=(decide (node+W*H<W*H*L) && up.getD node.toNat false):=⟨_,rfl⟩;have Q:=zh J;clear J;have U:=zh b3;clear b3;go_upto_region 5 with fail;go_cut [36] (fun s wx=>s=.bool c1/\w1=wx)
 case first=>
  by_cases hp:W*H<=node
  ·have M:(node - W*H).toNat<up.length:=by have:=b2.out;omega
   obtain ⟨b,off,rfl,_,J⟩:=BP b1.out M M;have I:up[(node - W*H).toNat]=c1:=(Q.out.trans (by simp [hp,M])).symm;rw [I] at J;have rc:=za.rule J;clear J I
   go_wp2_with fail
   go_meet
   case rel=>exact ⟨rfl,rfl⟩
  ·have I:c1=false:=Q.out.trans (by simp [hp]);have V:=zh I;clear I
   go_wp2_with fail
   go_meet
   case rel=>exact ⟨by rw [V.out],rfl⟩
 case rest=>
 obtain ⟨rfl,rfl⟩:=hcut
 go_upto_if 36 with fail
 go_cut [5] (fun s wx=>Hid (Mk w1 wx s (ap c1 (node - W*H) [])))
 case first=>
  obtain rfl | rfl:c1=true\/c1=false:=by cases c1 <;> simp
  ·skip
   have hz:w1.heap.size<=w1.heap.size:=O.size
   go_wp2_with (at_builtin;refine AF rfl _ _ rfl _ [] (node - W*H) w1.heap.size w1.heap.size 1 _ rfl rfl (o.out.own.alloc _) ?d1 ?d2 ?d3 ?_)
   (try case d1=>simp)
   case d2=>(first | (simp;done) | (simp;omega) | omega)
   case d3=>exact DT (show [].length<=0 from DR _) (by omega)
   intro v' wb E D _;have G:=zh ((o.out.alloc _).app E D);clear E D
   go_wp2_with fail
   go_meet
   case rel=>exact G.out.cast (ap_t (by rfl) _ _)
  ·skip
   go_wp2_with fail
   go_meet
   case rel=>exact o.out.cast (ap_f (by rfl) _ _)
 case rest=>
 have o:=hcut;clear hcut;have O:za w1 wc:=o.out.ext;have a7:(ap c1 (node - W*H) []).length<=1:=DT (ap_len _ _ _) (Nat.succ_le_succ (Ef _));obtain ⟨wp,rfl⟩:∃wp:World,wp=wc:=⟨_,rfl⟩
 go_upto_if 44 with fail
 go_cut [5] (fun s wx=>Hid (Mk w1 wx s (ap (decide (0<node / W % H)) (node - W) (ap c1 (node - W*H) []))))
 case first=>
  by_cases hp:0<node / W % H
  ·have HP:=zh hp;have hz:w1.heap.size<=wp.heap.size:=O.size
   go_wp2_with (at_builtin;refine AF rfl _ _ rfl _ (ap c1 (node - W*H) []) (node - W) w1.heap.size wp.heap.size 1 _ rfl rfl (o.out.own.alloc _) ?d1 ?d2 ?d3 ?_)
   (try case d1=>simp)
   case d2=>(first | (simp;done) | (simp;omega) | omega)
   case d3=>exact DT (show (ap c1 (node - W*H) []).length<=1 from a7) (by omega)
   intro v' wb E D _;have G:=zh ((o.out.alloc _).app E D);clear E D
   go_wp2_with fail
   go_meet
   case rel=>exact G.out.cast (ap_t (by exact DU HP.out) _ _)
  ·have HP:=zh hp
   go_wp2_with fail
   go_meet
   case rel=>exact o.out.cast (ap_f (by exact DV (by have:=HP.out;omega)) _ _)
 case rest=>
 have o:=hcut;clear hcut;have O:za w1 wc:=o.out.ext;have a8:(ap (decide (0<node / W % H)) (node - W) (ap c1 (node - W*H) [])).length<=2:=DT (ap_len _ _ _) (Nat.succ_le_succ a7);obtain ⟨wp,rfl⟩:∃wp:World,wp=wc:=⟨_,rfl⟩
 go_upto_if 53 with fail
 go_cut [5] (fun s wx=>Hid (Mk w1 wx s (ap (decide (0<node % W)) (node - 1) (ap (decide (0<node / W % H)) (node - W) (ap c1 (node - W*H) [])))))
 case first=>
  by_cases hp:0<node % W
  ·have HP:=zh hp;have hz:w1.heap.size<=wp.heap.size:=O.size
   go_wp2_with (at_builtin;refine AF rfl _ _ rfl _ (ap (decide (0<node / W % H)) (node - W) (ap c1 (node - W*H) [])) (node - 1) w1.heap.size wp.heap.size 1 _ rfl rfl (o.out.own.alloc _) ?d1 ?d2 ?d3 ?_)
   (try case d1=>simp)
   case d2=>(first | (simp;done) | (simp;omega) | omega)
   case d3=>exact DT (show (ap (decide (0<node / W % H)) (node - W) (ap c1 (node - W*H) [])).length<=2 from a8) (by omega)
   intro v' wb E D _;have G:=zh ((o.out.alloc _).app E D);clear E D
   go_wp2_with fail
   go_meet
   case rel=>exact G.out.cast (ap_t (by exact DU HP.out) _ _)
  ·have HP:=zh hp
   go_wp2_with fail
   go_meet
   case rel=>exact o.out.cast (ap_f (by exact DV (by have:=HP.out;omega)) _ _)
 case rest=>
 have o:=hcut;clear hcut;have O:za w1 wc:=o.out.ext;have b5:(ap (decide (0<node % W)) (node - 1) (ap (decide (0<node / W % H)) (node - W) (ap c1 (node - W*H) []))).length<=3:=DT (ap_len _ _ _) (Nat.succ_le_succ a8);obtain ⟨wp,rfl⟩:∃wp:World,wp=wc:=⟨_,rfl⟩
 go_upto_if 63 with fail
 go_cut [5] (fun s wx=>Hid (Mk w1 wx s (ap (decide (node % W+1<W)) (node+1) (ap (decide (0<node % W)) (node - 1) (ap (decide (0<node / W % H)) (node - W) (ap c1 (node - W*H) []))))))
 case first=>
  by_cases hp:node % W+1<W
  ·have HP:=zh hp;have hz:w1.heap.size<=wp.heap.size:=O.size
   go_wp2_with (at_builtin;refine AF rfl _ _ rfl _ (ap (decide (0<node % W)) (node - 1) (ap (decide (0<node / W % H)) (node - W) (ap c1 (node - W*H) []))) (node+1) w1.heap.size wp.heap.size 1 _ rfl rfl (o.out.own.alloc _) ?d1 ?d2 ?d3 ?_)
   (try case d1=>simp)
   case d2=>(first | (simp;done) | (simp;omega) | omega)
   case d3=>exact DT (show (ap (decide (0<node % W)) (node - 1) (ap (decide (0<node / W % H)) (node - W) (ap c1 (node - W*H) []))).length<=3 from b5) (by omega)
   intro v' wb E D _;have G:=zh ((o.out.alloc _).app E D);clear E D
   go_wp2_with fail
   go_meet
   case rel=>exact G.out.cast (ap_t (by exact DU HP.out) _ _)
  ·have HP:=zh hp
   go_wp2_with fail
   go_meet
   case rel=>exact o.out.cast (ap_f (by exact DV (by have:=HP.out;omega)) _ _)
 case rest=>
 have o:=hcut;clear hcut;have O:za w1 wc:=o.out.ext;have b6:(ap (decide (node % W+1<W)) (node+1) (ap (decide (0<node % W)) (node - 1) (ap (decide (0<node / W % H)) (node - W) (ap c1 (node - W*H) [])))).length<=4:=DT (ap_len _ _ _) (Nat.succ_le_succ b5);obtain ⟨wp,rfl⟩:∃wp:World,wp=wc:=⟨_,rfl⟩
 go_upto_if 73 with fail
 go_cut [5] (fun s wx=>Hid (Mk w1 wx s (ap (decide (node / W % H+1<H)) (node+W) (ap (decide (node % W+1<W)) (node+1) (ap (decide (0<node % W)) (node - 1) (ap (decide (0<node / W % H)) (node - W) (ap c1 (node - W*H) [])))))))
 case first=>
  by_cases hp:node / W % H+1<H
  ·have HP:=zh hp;have hz:w1.heap.size<=wp.heap.size:=O.size
   go_wp2_with (at_builtin;refine AF rfl _ _ rfl _ (ap (decide (node % W+1<W)) (node+1) (ap (decide (0<node % W)) (node - 1) (ap (decide (0<node / W % H)) (node - W) (ap c1 (node - W*H) [])))) (node+W) w1.heap.size wp.heap.size 1 _ rfl rfl (o.out.own.alloc _) ?d1 ?d2 ?d3 ?_)
   (try case d1=>simp)
   case d2=>(first | (simp;done) | (simp;omega) | omega)
   case d3=>exact DT (show (ap (decide (node % W+1<W)) (node+1) (ap (decide (0<node % W)) (node - 1) (ap (decide (0<node / W % H)) (node - W) (ap c1 (node - W*H) [])))).length<=4 from b6) (by omega)
   intro v' wb E D _;have G:=zh ((o.out.alloc _).app E D);clear E D
   go_wp2_with fail
   go_meet
   case rel=>exact G.out.cast (ap_t (by exact DU HP.out) _ _)
  ·have HP:=zh hp
   go_wp2_with fail
   go_meet
   case rel=>exact o.out.cast (ap_f (by exact DV (by have:=HP.out;omega)) _ _)
 case rest=>
 have o:=hcut;clear hcut;have O:za w1 wc:=o.out.ext;have b7:(ap (decide (node / W % H+1<H)) (node+W) (ap (decide (node % W+1<W)) (node+1) (ap (decide (0<node % W)) (node - 1) (ap (decide (0<node / W % H)) (node - W) (ap c1 (node - W*H) []))))).length<=5:=DT (ap_len _ _ _) (Nat.succ_le_succ b6);obtain ⟨wp,rfl⟩:∃wp:World,wp=wc:=⟨_,rfl⟩;go_upto_region 15 with fail;go_cut [93] (fun s wx=>s=.bool c2/\Hid (za wp wx))
 case first=>
  by_cases hp:node+W*H<W*H*L
  ·have M:node.toNat<up.length:=by have:=b2.out;omega
   obtain ⟨b,off,rfl,_,J⟩:=BP b1.out M M;have I:up[node.toNat]=c2:=(U.out.trans (by simp [hp,M])).symm;rw [I] at J;have rc:=za.rule J;clear J I
   go_wp2_with fail
   refine (zQ W H L _ _ _ _ (by omega) (by omega)).mono ?_;rintro e kn ⟨rfl,K⟩;have c6:za w1 kn:=O.trans K
   go_wp2_with fail
   go_meet
   case rel=>exact ⟨rfl,K⟩
  ·have I:c2=false:=U.out.trans (by simp [hp]);have V:=zh I;clear I
   go_wp2_with fail
   refine (zQ W H L _ _ _ _ (by omega) (by omega)).mono ?_;rintro e kn ⟨rfl,K⟩;have c6:za w1 kn:=O.trans K
   go_wp2_with fail
   go_meet
   case rel=>exact ⟨by rw [V.out],K⟩
 case rest=>
 obtain ⟨rfl,K⟩:=hcut;have o:=zh (o.out.more K.out);have O:za w1 wc:=o.out.ext;obtain ⟨wp,rfl⟩:∃wp:World,wp=wc:=⟨_,rfl⟩
 go_upto_if 93 with fail
 go_cut [5] (fun s wx=>Hid (Mk w1 wx s (ap c2 (node+W*H) (ap (decide (node / W % H+1<H)) (node+W) (ap (decide (node % W+1<W)) (node+1) (ap (decide (0<node % W)) (node - 1) (ap (decide (0<node / W % H)) (node - W) (ap c1 (node - W*H) []))))))))
 case first=>
  obtain rfl | rfl:c2=true\/c2=false:=by cases c2 <;> simp
  ·skip
   have hz:w1.heap.size<=wp.heap.size:=O.size
   go_wp2_with (at_builtin;refine AF rfl _ _ rfl _ (ap (decide (node / W % H+1<H)) (node+W) (ap (decide (node % W+1<W)) (node+1) (ap (decide (0<node % W)) (node - 1) (ap (decide (0<node / W % H)) (node - W) (ap c1 (node - W*H) []))))) (node+W*H) w1.heap.size wp.heap.size 1 _ rfl rfl (o.out.own.alloc _) ?d1 ?d2 ?d3 ?_)
   (try case d1=>simp)
   case d2=>(first | (simp;done) | (simp;omega) | omega)
   case d3=>exact DT (show (ap (decide (node / W % H+1<H)) (node+W) (ap (decide (node % W+1<W)) (node+1) (ap (decide (0<node % W)) (node - 1) (ap (decide (0<node / W % H)) (node - W) (ap c1 (node - W*H) []))))).length<=5 from b7) (by omega)
   intro v' wb E D _;have G:=zh ((o.out.alloc _).app E D);clear E D
   go_wp2_with fail
   go_meet
   case rel=>exact G.out.cast (ap_t (by rfl) _ _)
  ·skip
   go_wp2_with fail
   go_meet
   case rel=>exact o.out.cast (ap_f (by rfl) _ _)
 case rest=>
 have o:=hcut;clear hcut;have O:za w1 wc:=o.out.ext;have d6:(ap c2 (node+W*H) (ap (decide (node / W % H+1<H)) (node+W) (ap (decide (node % W+1<W)) (node+1) (ap (decide (0<node % W)) (node - 1) (ap (decide (0<node / W % H)) (node - W) (ap c1 (node - W*H) [])))))).length<=6:=DT (ap_len _ _ _) (Nat.succ_le_succ b7);obtain ⟨wp,rfl⟩:∃wp:World,wp=wc:=⟨_,rfl⟩
 go_wp2_with fail
 go_ret;refine ⟨_,rfl,Ba b0.out o.out.ext (DR _),?_⟩;exact next_fin (o.out.own.mono b0.out.size) (next_eq ⟨W,H,L,fr,up,ts⟩ node c1 c2 Q.out U.out)
end
section
open Go.RowKit
attribute [local go_sem ↓] Go.wp_at_zero Go.wp_at_succ
theorem Tryz.infoBool:(Tryz.prog.info? 4).map (fun i=>(i.zero,i.size,i.bytes))=some (some (.bool false),1,1):=by kernel_rfl
def memF (s:List Int) (i:Nat):Value:=.bool (decide ((i:Int)∈s))
open Classical in
noncomputable def Cm (m:MZ) (t:Nat) (from_ used:List Int):List Int:=((List.range m.n.toNat).map Int.ofNat).filter (fun x=>decide (RP m t from_ used x))
theorem reachL_of {s:List Int} (h:∀x,x∈s↔RP m t from_ used x):((List.range m.n.toNat).map Int.ofNat).filter (fun x=>decide (x∈s))=Cm m t from_ used:=by
 unfold Cm;apply List.filter_congr;intro x _;rw [decide_eq_decide];exact h x
theorem CN (d:Dim m):x∈Cm m t from_ used↔RP m t from_ used x:=by
 unfold Cm;simp only [EO,EP,EQ,Eb];constructor
 ·rintro ⟨_,h⟩;exact h
 ·intro h;have o:=h.range d;exact ⟨⟨x.toNat,by omega,by simp;omega⟩,h⟩
structure QR (w1 wr:World) (gi gt n:Nat) (s tk:List Int) (v:Value) (todo:List Int):Prop where
 ext:za w1 wr
 hi:w1.heap.size<=gi
 lt:gi<gt
 inn:wr.rowIs gi 4 n (memF s)
 tak:wr.rowIs gt 4 n (memF tk)
 own:zB wr (gt+1) v todo
section
variable {w1 wr w':World} {gi gt n:Nat} {s tk todo:List Int} {v:Value}
theorem memF_more {s:List Int} {n:Nat} (h:¬ (0<=x/\x<n)) (o:j<n):memF s j=memF (s++[x]) j:=by
 unfold memF;congr 1;rw [decide_eq_decide,EH,Ey];constructor
 ·exact .inl
 ·rintro (h1 | h1)
  ·exact h1
  ·omega
theorem memF_set {s:List Int} (h:0<=x) (j:Nat):(if j=x.toNat then Value.bool true else memF s j)=memF (s++[x]) j:=by
 unfold memF;by_cases o:j=x.toNat
 ·rw [if_pos o];congr 1;symm;rw [Eb,EH,Ey]
  right;omega
 ·rw [if_neg o];congr 1;rw [decide_eq_decide,EH,Ey];constructor
  ·exact .inl
  ·rintro (h1 | h1)
   ·exact h1
   ·omega
theorem QR.more (h:QR w1 wr gi gt n s tk v todo) (o:za wr w'):QR w1 w' gi gt n s tk v todo:=
 ⟨h.ext.trans o,h.hi,h.lt,h.inn.of_block (o.block _ h.inn.lt),h.tak.of_block (o.block _ h.tak.lt),
  h.own.kept (row:=none) ⟨o.os,o.tape,o.output,o.size,fun i D _=>o.block i D⟩ (by cases h:v.ownBlock <;> simp)⟩
theorem QR.setI (h:QR w1 wr gi gt n s tk v todo) (o:0<=x):QR w1 (wr.setCell ⟨gi,x.toNat,none⟩ (.bool true)) gi gt n (s++[x]) tk v todo:=
 ⟨h.ext.setCell h.hi _,h.hi,h.lt,(h.inn.set x.toNat (.bool true)).congr fun j _=>memF_set o j,h.tak.setOther (by show gt≠gi;have:=h.lt;omega) _,
  ownsRow_setCell_below h.own (by show gi<gt+1;have:=h.lt;omega) _⟩
theorem QR.setT (h:QR w1 wr gi gt n s tk v todo) (o:0<=x):QR w1 (wr.setCell ⟨gt,x.toNat,none⟩ (.bool true)) gi gt n s (tk++[x]) v todo:=
 ⟨h.ext.setCell (by show _<=gt;have:=h.lt;have:=h.hi;omega) _,h.hi,h.lt,h.inn.setOther (by show gi≠gt;have:=h.lt;omega) _,(h.tak.set x.toNat (.bool true)).congr fun j _=>memF_set o j,
  ownsRow_setCell_below h.own (by show gt<gt+1;omega) _⟩
theorem QR.skipT (h:QR w1 wr gi gt n s tk v todo) (D:¬ (0<=x/\x<n)):QR w1 wr gi gt n s (tk++[x]) v todo:=
 ⟨h.ext,h.hi,h.lt,h.inn,h.tak.congr fun j o=>memF_more D o,h.own⟩
theorem QR.app {l:List Int} (h:QR w1 wr gi gt n s tk v todo) (E:zB w' (gt+1) v' l) (o:Hid (wr.grownBy w' v.ownBlock)):QR w1 w' gi gt n s tk v' l:=
 ⟨zS h.ext o h.ext.size (fun k D=>by have:=Ao h.own D;have:=h.lt;have:=h.hi;omega),h.hi,h.lt,
  h.inn.of_block (o.out.block _ h.inn.lt (fun e=>by have:=Ao h.own e.symm;have:=h.lt;omega)),
  h.tak.of_block (o.out.block _ h.tak.lt (fun e=>by have:=Ao h.own e.symm;omega)),E⟩
theorem QR.cellI (h:QR w1 wr gi gt n s tk v todo) (h0:0<=x) (h1:x<n):wr.cell? ⟨gi,x.toNat,none⟩=some (.bool (decide (x∈s)))/\wr.frozen? ⟨gi,x.toNat,none⟩=false:=by
 refine ⟨?_,h.inn.frozen _⟩;rw [h.inn.cell (by omega)];unfold memF;rw [Int.toNat_of_nonneg h0]
theorem QR.cellT (h:QR w1 wr gi gt n s tk v todo) (h0:0<=x) (h1:x<n):wr.cell? ⟨gt,x.toNat,none⟩=some (.bool (decide (x∈tk)))/\wr.frozen? ⟨gt,x.toNat,none⟩=false:=by
 refine ⟨?_,h.tak.frozen _⟩;rw [h.tak.cell (by omega)];unfold memF;rw [Int.toNat_of_nonneg h0]
end
structure QL (wr:World) (B:Nat) (vl v:Value) (l:List Int):Prop where
 own:zB wr B vl l
 ne:∀k,vl.ownBlock=some k->v.ownBlock≠some k
section
variable {w1 wr w':World} {B:Nat} {l:List Int} {v vl:Value}
theorem QL.more (h:QL wr B vl v l) (o:za wr w'):QL w' B vl v l:=⟨h.own.kept (row:=none) ⟨o.os,o.tape,o.output,o.size,fun i D _=>o.block i D⟩ (by cases h:vl.ownBlock <;> simp),h.ne⟩
theorem QL.set (h:QL wr B vl v l) {a:Addr} (o:a.block<B) (u:Value):QL (wr.setCell a u) B vl v l:=⟨ownsRow_setCell_below h.own o u,h.ne⟩
theorem QL.app (h:QL wr B vl v l) (D:Hid (wr.grownBy w' v.ownBlock)) (E:Hid (v'.ownBlock=v.ownBlock\/v'.ownBlock=some wr.heap.size)):QL w' B vl v' l:=by
 refine ⟨h.own.kept D.out ?_,fun k o=>?_⟩
 ·cases o:vl.ownBlock with
  | none=>exact .inl rfl
  | some k=>exact .inr (fun e=>h.ne k o e.symm)
 ·rcases E.out with e | e
  ·rw [e];exact h.ne k o
  ·rw [e];intro e';injection e' with e';have:=(h.own.lt k o).2;omega
end
structure QO (m:MZ) (t:Nat) (from_ used s:List Int) (k:Nat):Prop where
 nd:s.Nodup
 rp:∀x∈s,RP m t from_ used x
 fr:∀x∈from_,0<=x->x<m.n->x∈s
 cl:∀y∈s.take k,∀z∈zo m y,ze m t z=true->z∉used->z∈s
 kl:k<=s.length
structure QJ (m:MZ) (t:Nat) (from_ used s:List Int) (k:Nat) (x:Int) (j:Nat):Prop where
 nd:s.Nodup
 rp:∀x∈s,RP m t from_ used x
 fr:∀x∈from_,0<=x->x<m.n->x∈s
 cl:∀y∈s.take k,∀z∈zo m y,ze m t z=true->z∉used->z∈s
 kl:k<s.length
 xs:s[k]?=some x
 cx:∀z∈(zo m x).take j,ze m t z=true->z∉used->z∈s
theorem QO.take_ {s:List Int} (h:QO m t from_ used s k) (o:k<s.length):QJ m t from_ used s k s[k] 0:=
 ⟨h.nd,h.rp,h.fr,h.cl,o,DO o,by simp⟩
theorem QJ.xm {s:List Int} (h:QJ m t from_ used s k x j):x∈s:=List.mem_of_getElem? h.xs
theorem QJ.skip {s:List Int} (h:QJ m t from_ used s k x j) (D:j<(zo m x).length) (E:(zo m x)[j]∈s\/ze m t (zo m x)[j]=false\/(zo m x)[j]∈used):QJ m t from_ used s k x (j+1):=
 ⟨h.nd,h.rp,h.fr,h.cl,h.kl,h.xs,fun z G hf o=>by
  rcases (zr D z).1 G with h1 | h1
  ·exact h.cx z h1 hf o
  ·subst h1;rcases E with h2 | h2 | h2
   ·exact h2
   ·rw [hf] at h2;cases h2
   ·exact absurd h2 o⟩
theorem QJ.push {s:List Int} (h:QJ m t from_ used s k x j) (I:j<(zo m x).length) (J:(zo m x)[j]∉s) (hf:ze m t (zo m x)[j]=true) (K:(zo m x)[j]∉used):QJ m t from_ used (s++[(zo m x)[j]]) k x (j+1):=
 ⟨Dm h.nd J,fun y o=>by
   rw [EH,Ey] at o;rcases o with o | rfl
   ·exact h.rp y o
   ·exact (h.rp x h.xm).step (DS I) hf K,
  fun y o h0 h1=>by simp [h.fr y o h0 h1],
  fun y o z G D E=>by
   rw [List.take_append_of_le_length (by have:=h.kl;omega)] at o;simp [h.cl y o z G D E],
  by have:=h.kl;simp;omega,
  by rw [DW h.kl];exact h.xs,
  fun z G D E=>by
   rcases (zr I z).1 G with h1 | h1
   ·simp [h.cx z h1 D E]
   ·simp [h1]⟩
theorem QJ.done {s:List Int} (h:QJ m t from_ used s k x j) (D:(zo m x).length<=j):QO m t from_ used s (k+1):=
 ⟨h.nd,h.rp,h.fr,fun y G z I hf o=>by
  have E:s[k]'h.kl=x:=by
   have:=h.xs;rw [DO h.kl] at this;injection this
  rcases (zr h.kl y).1 G with h1 | h1
  ·exact h.cl y h1 z I hf o
  ·rw [E] at h1;subst h1;exact h.cx z (by rwa [List.take_of_length_le D]) hf o,h.kl⟩
theorem QO.end_ {s:List Int} (h:QO m t from_ used s s.length) (x:Int):x∈s↔RP m t from_ used x:=
 ⟨h.rp x,fun o=>o (·∈s) h.fr (fun y z G E hf D=>h.cl y (by rwa [Ec]) z E hf D)⟩
theorem qreach_calls {ok' ok2:Nat->Prop} {vm vf vu:Value} (t:Nat) (w:World) (hm:zt w ok vm m) (d:Dim m) (ht:t<m.free.length) (h7:∀f∈m.free,(f.length:Int)=m.n)
  (hf:zk w ok' vf from_) (hl:from_.length<=20000000000000) (hu:zk w ok2 vu used) (q7:used.length<=20000000000000):
  Calls Tryz.prog 179 #[vm,.int .i64 t,vf,vu] w fun e w'=>∃v',e=.returned v'/\Mk w w' v' (Cm m t from_ used):=by
 have i3:=hm;obtain ⟨vfr,vup,vts,rfl,d4,_,_⟩:=hm;obtain ⟨vsf,⟨Af,cf,rfl,p4,i7⟩,h5⟩:=d4;obtain ⟨A,c,rfl,hc,hr⟩:=hf;obtain ⟨A2,c2,rfl,o9,i4⟩:=hu;obtain ⟨q4,q5⟩:=d.layer;have D:=zh d;obtain ⟨dw1,dw2,p6,p7,ll1,ll2,n1,m8⟩:=d;have j8:=zh i3;clear i3;have k3:=zh i7;clear i7;have j5:=zh h5;clear h5;have HR:=zh hr;clear hr;have j9:=zh i4;clear i4;have j7:=zh h7;clear h7 m8;obtain ⟨N,hN⟩:∃N:Nat,m.w*m.h*m.l=(N:Int):=⟨(m.w*m.h*m.l).toNat,by omega⟩;have o6:N<=300:=by omega
 have HN:=zh hN;clear hN
 have m6:∀W:World,(Instr.makeSlice 29 (.int .i64 (m.w*m.h*m.l)) (.int .i64 (m.w*m.h*m.l))).run Tryz.prog W=.ok (.slice (some ⟨W.heap.size,0,none⟩) N N) (W.alloc (.cells (madeCells #[.bool false] N) 4)):=fun W=>by
  rw [HN.out];exact run_make_row' 29 4 (.bool false) 1 Tryz.underlying29 Tryz.infoBool rfl .i64 .i64 N (by omega) (by omega) W
 go_enter Tryz.func179,Tryz.ntmps179
 go_wp2_with fail
 generalize f7:w.alloc (.cells #[.int .i64 m.w,.int .i64 m.h,.int .i64 m.l,.slice Af m.free.length cf,vup,vts] 32)=w1;have b3:za w w1:=by rw [<-f7];exact (za.refl w).alloc _
 have h9:zd w1 w.heap.size 32 #[.int .i64 m.w,.int .i64 m.h,.int .i64 m.l,.slice Af m.free.length cf,vup,vts]:=by rw [<-f7];exact EE _ _
 clear f7;obtain ⟨m0,m1,m2,m3,m4,m5⟩:=zq h9;have r0:=za.rule m0;have r1:=za.rule m1;have r2:=za.rule m2;have r3:=za.rule m3;have r4:=za.rule m4;have r5:=za.rule m5;clear m0 m1 m2 m3 m4 m5 h9;have ra:=Bj w1;have V:za w1 w1:=za.refl w1
 go_wp2_with fail
 refine (zQ _ _ _ _ _ _ _ (by omega) (by omega)).mono ?_;rintro e wA ⟨rfl,h4⟩;have f9:za w1 wA:=V.trans h4
 go_wp2_with fail
 refine (zQ _ _ _ _ _ _ _ (by omega) (by omega)).mono ?_;rintro e wB ⟨rfl,e1⟩;have g0:za w1 wB:=(f9.alloc _).trans e1;have n2:w1.heap.size<=wA.heap.size:=f9.size;have n3:wA.heap.size<wB.heap.size:=by have:=e1.size;simp at this;omega
 have hQ:Hid (QR w1 (wB.alloc (.cells (madeCells #[.bool false] N) 4)) wA.heap.size wB.heap.size N [] [] (.slice none 0 0) []):=by
  refine ⟨g0.alloc _,n2,n3,?_,?_,World.ownsRow_nil _ _ _ _⟩
  ·exact ((World.rowIs_made wA (.bool false) N 4).of_block (e1.block _ (by simp))).alloc _
  ·exact World.rowIs_made wB (.bool false) N 4
 have j1:=g0.alloc (.cells (madeCells #[.bool false] N) 4);generalize m9:wB.alloc (.cells (madeCells #[.bool false] N) 4)=wC at hQ j1
 go_wp2_with fail
 skip
 clear m9;generalize l4:wA.heap.size=gi at*;generalize l7:wB.heap.size=gt at*;clear l4 l7 h4 e1 V f9 g0 m6;go_loopw [12] (fun i wr=>∃k:Nat,k<=used.length/\i=.int .i64 k/\Hid (QR w1 wr gi gt N [] (used.take k) (.slice none 0 0) [])) (fun i _=>used.length - (intOf i).toNat)
 case atStart=>exact ⟨0,by omega,rfl,hQ⟩
 clear hQ j1
 case round=>
  obtain ⟨k,hk,rfl,hQ⟩:=hrel;have V:za w1 wr:=hQ.out.ext;by_cases E:k<used.length
  ·obtain ⟨b,off,rfl,_,o⟩:=zE (j9.out.keep (zK.of_below (b3.trans V))) E E;obtain ⟨y,hy⟩:=EY (used[k]);have Q:=zh (DY E);rw [<-hy] at o Q;clear hy;by_cases K:0<=y
   ·by_cases b6:y<N
    ·obtain ⟨e4,l3⟩:=hQ.out.cellT K b6;have a7:=zh (hQ.out.setT K);go_wp2;go_roundw
     case rel=>exact ⟨k+1,by omega,by go_num,by rw [Q.out];exact a7⟩
     case measure=>simp [intOf];omega
    ·have a7:=zh (hQ.out.skipT (x:=y) (by omega));go_wp2;go_roundw
     case rel=>exact ⟨k+1,by omega,by go_num,by rw [Q.out];exact a7⟩
     case measure=>simp [intOf];omega
   ·have a7:=zh (hQ.out.skipT (x:=y) (by omega));go_wp2;go_roundw
    case rel=>exact ⟨k+1,by omega,by go_num,by rw [Q.out];exact a7⟩
    case measure=>simp [intOf];omega
  ·obtain rfl:k=used.length:=by omega
   rw [Ec] at hQ
   go_wp2_with fail
   go_loopw [11,13] (fun v i wr=>∃k s,k<=from_.length/\i=.int .i64 (k:Nat)/\Hid (QR w1 wr gi gt N s used v s)/\Hid (s.Nodup)/\Hid (∀x,x∈s↔x∈from_.take k/\0<=x/\x<m.n)) (fun _ i _=>from_.length - (intOf i).toNat)
   case atStart=>exact ⟨0,[],by omega,rfl,hQ,List.nodup_nil,by simp [Hid]⟩
   clear hQ V E hk
   case round=>
    obtain ⟨k,s,hk,rfl,hQ,hnd,J⟩:=hrel;have V:za w1 wr:=hQ.out.ext;by_cases E:k<from_.length
    ·obtain ⟨b,off,rfl,_,L⟩:=zE HR.out E E;have l1:Hid (b<w1.heap.size):=(Et (zA L) b3.size:b<w1.heap.size);have o:=(b3.trans V).cell L;clear L;obtain ⟨y,hy⟩:=EY (from_[k]);rw [<-hy] at o;have HY:=zh hy;clear hy;by_cases K:0<=y
     ·by_cases b6:y<N
      ·obtain ⟨e4,l3⟩:=hQ.out.cellI K b6;by_cases G:y∈s
       ·have b0:=zh G;rw [DU G] at e4;clear G;go_wp2;go_roundw
        case rel=>exact ⟨k+1,s,by omega,by go_num,hQ,hnd,fun x=>by
         rw [zr E,J.out,<-HY.out];constructor
         ·rintro ⟨h1,h2⟩;exact ⟨.inl h1,h2⟩
         ·rintro ⟨h1 | rfl,h2⟩
          ·exact ⟨h1,h2⟩
          ·exact (J.out x).1 b0.out⟩
        case measure=>simp [intOf];omega
       ·have b0:=zh G;rw [DV G] at e4;clear G;have b9:=Bp hnd.out m.n (fun x U=>((J.out x).1 U).2);have l9:s.length<=300:=by unfold MZ.n at b9;omega
        clear b9;have a7:=zh (hQ.out.setI K);have l6:gt+1<=wr.heap.size:=hQ.out.tak.lt;have b7:(wr.setCell ⟨gi,y.toNat,none⟩ (.bool true)).cell? ⟨b,off+k,none⟩=some (.int .i64 y):=(Eg (w:=wr) (Ea wr _ _ b (by show b≠gi;have:=l1.out;omega))).trans o
        go_wp2_with (at_builtin;refine AF rfl _ _ rfl _ s y (gt+1) wr.heap.size 1 _ rfl rfl (a7.out.own.alloc _) ?d1 ?d2 ?d3 ?_)
        (try case d1=>exact zC _ _ _ (by simp))
        case d2=>(first | (simp;done) | (simp;omega) | omega)
        case d3=>omega
        intro v' wb a8 M _;have I:=zh ((a7.out.more ((za.refl _).alloc _)).app a8 M);clear a8 M;go_wp2;go_roundw
        case rel=>exact ⟨k+1,s++[y],by omega,by go_num,I,Dm hnd.out b0.out,fun x=>by
         rw [EH,Ey,zr E,J.out,<-HY.out];have a6:m.n=N:=HN.out;constructor
         ·rintro (⟨h1,h2⟩ | rfl)
          ·exact ⟨.inl h1,h2⟩
          ·exact ⟨.inr rfl,K,by omega⟩
         ·rintro ⟨h1 | rfl,h2⟩
          ·exact .inl ⟨h1,h2⟩
          ·exact .inr rfl⟩
        case measure=>simp [intOf];omega
      ·go_wp2;go_roundw
       case rel=>exact ⟨k+1,s,by omega,by go_num,hQ,hnd,fun x=>by
        rw [zr E,J.out,<-HY.out];have a6:m.n=N:=HN.out;constructor
        ·rintro ⟨h1,h2⟩;exact ⟨.inl h1,h2⟩
        ·rintro ⟨h1 | rfl,h2,h3⟩
         ·exact ⟨h1,h2,h3⟩
         ·omega⟩
       case measure=>simp [intOf];omega
     ·go_wp2;go_roundw
      case rel=>exact ⟨k+1,s,by omega,by go_num,hQ,hnd,fun x=>by
       rw [zr E,J.out,<-HY.out];constructor
       ·rintro ⟨h1,h2⟩;exact ⟨.inl h1,h2⟩
       ·rintro ⟨h1 | rfl,h2,h3⟩
        ·exact ⟨h1,h2,h3⟩
        ·omega⟩
      case measure=>simp [intOf];omega
    ·obtain rfl:k=from_.length:=by omega
     have hO:Hid (QO m t from_ used s 0):=⟨hnd.out,fun x h=>RP.base (by have:=((J.out x).1 h).1;rwa [Ec] at this) ((J.out x).1 h).2.1 ((J.out x).1 h).2.2,fun x h h0 h1=>(J.out x).2 ⟨by rwa [Ec],h0,h1⟩,by simp,Ef _⟩;clear hnd J
     go_wp2_with fail
     go_loopw [11,14] (fun v i wr=>∃k s,i=.int .i64 (k:Nat)/\Hid (QR w1 wr gi gt N s used v s)/\Hid (QO m t from_ used s k)) (fun _ i _=>N - (intOf i).toNat)
     case atStart=>exact ⟨0,s,rfl,hQ,hO⟩
     clear hQ hO V E hk
     case round=>
      obtain ⟨k,s,rfl,hQ,hO⟩:=hrel;have V:za w1 wr:=hQ.out.ext;have a6:m.n=N:=HN.out;have m7:=Bp hO.out.nd m.n (fun y hy=>(hO.out.rp y hy).range D.out);have n9:s.length<=N:=by omega
      have q3:=hO.out.kl;clear m7 a6;obtain ⟨wk,rfl⟩:∃wk:World,wk=wr:=⟨_,rfl⟩;by_cases E:k<s.length
      ·obtain ⟨g9,c9,hv,p5,n7⟩:=hQ.out.own.form (by omega);subst hv
       have f4:wk.cell? ⟨g9,k,none⟩=some (.int .i64 s[k]):=by
        have:=hQ.out.own.cellAt k (by omega);rw [this];simp [E]
       have e4:=Bx hQ.out.own;have hJ:=zh (hO.out.take_ E);have i8:=(hO.out.rp s[k] (DS E)).range D.out;obtain ⟨x,U⟩:=EY (s[k]);rw [<-U] at f4 hJ i8;clear U;obtain ⟨j0,f8⟩:=i8;unfold MZ.n at f8;have rx:=za.rule f4;have hR:=zh (za.refl wk);clear f4
       go_wp2_with fail
       go_region_held3 (fun w'=>za w1 w'/\za wk w')
        (first | (exact CZ V) | (exact held_ext (by assumption) g8))
        ((go_at_call 165;refine (CU m x _ (j8.out.keep (zK.of_below (b3.trans V.drew))) D.out j0 f8).mono ?_;rintro e w9 ⟨v9,rfl,g8,e5⟩))
       rename_i hS
       have g6:=zh (hQ.out.more hS.2)
       have g3:Hid (QL w9 wk.heap.size v9 (.slice (some ⟨g9,0,none⟩) s.length c9) (zo m x)):=⟨e5,fun k hk e=>by
        have h1:wk.heap.size<=k:=Ao e5 hk;have e:some g9=some k:=e;injection e with e;omega⟩
       obtain ⟨A3,c3,rfl,p3,i5⟩:=Ae.of_own e5;have o3:=zh i5;clear i5;clear e5 g8 hS rx hQ hO;have q6:=BZ m x
       go_wp2_with fail
       go_loopw [11,16] (fun v i wi=>∃j s',j<=(zo m x).length/\i=.int .i64 (j:Nat)/\Hid (QR w1 wi gi gt N s' used v s')/\Hid (QL wi wk.heap.size (.slice A3 (zo m x).length c3) v (zo m x))/\Hid (QJ m t from_ used s' k x j)) (fun _ i _=>(zo m x).length - (intOf i).toNat)
       case atStart=>exact ⟨0,s,Ef _,rfl,g6,g3,hJ⟩
       clear g6 g3 hJ
       case round=>
        obtain ⟨j,s',hj,rfl,hQ,hL,hJ⟩:=hrel;obtain ⟨wi,rfl⟩:∃wi:World,wi=wr:=⟨_,rfl⟩;have V:za w1 wi:=hQ.out.ext;by_cases d5:j<(zo m x).length
        ·obtain ⟨b2,rfl,o7,o⟩:=own_at hL.out.own d5;have j2:=Bg D.out j0 f8 (DS d5);have O:=zh (hJ.out.skip d5);have d6:=zh (hJ.out.push d5);obtain ⟨y,hy⟩:=EY ((zo m x)[j]);rw [<-hy] at o j2 O d6;have o4:=zh hy;clear hy;obtain ⟨K,n0⟩:=j2;have b6:y<N:=by have a6:m.n=N:=HN.out;omega
         obtain ⟨bf,off3,uf,rfl,_,e8,l0⟩:=Br (k3.out.keep (zK.of_below (b3.trans V))) j5.out ht ht;have b5:=j7.out _ (DS ht);obtain ⟨A4,c4,rfl,l2,i6⟩:=l0;have e6:y.toNat<(m.free[t]).length:=by omega
         obtain ⟨b4,off4,rfl,_,b8⟩:=BP (i6.keep (zK.of_below (b3.trans V))) e6 e6;have d4:(m.free[t])[y.toNat]=ze m t y:=by simp [ze,ht,e6]
         rw [d4] at b8;have o0:=zh d4;clear d4;obtain ⟨nf,f6⟩:=EY ((m.free[t]).length);rw [<-f6] at e8 e6 b5 l2;have o1:=zh f6;clear f6;have n4:=zh b5;clear b5;clear i6 n0;obtain ⟨e3,h6⟩:=hQ.out.cellI K b6;obtain ⟨c8,h8⟩:=hQ.out.cellT K b6;have e9:=Bp hJ.out.nd m.n (fun y hy=>(hJ.out.rp y hy).range D.out);have i9:s'.length<=N:=by have a6:m.n=N:=HN.out;omega
         clear e9;by_cases G:y∈s'
         ·rw [DU G] at e3;have b0:=zh G;clear G
          go_wp2_with fail
          go_quiet (fail)
          have I:=zh (hQ.out.more ((za.refl wi).drewN nq));have b1:=zh (hL.out.more ((za.refl wi).drewN nq));go_wp2;go_roundw
          case rel=>exact ⟨j+1,s',by omega,by go_num,I,b1,O.out (.inl b0.out)⟩
          case measure=>simp [intOf];omega
         ·rw [DV G] at e3;have b0:=zh G;clear G;by_cases hf:ze m t y=true
          ·rw [hf] at b8;have HF:=zh hf;clear hf;by_cases c7:y∈used
           ·rw [DU c7] at c8;have f1:=zh c7;clear c7
            go_wp2_with fail
            go_quiet (fail)
            have I:=zh (hQ.out.more ((za.refl wi).drewN nq));have b1:=zh (hL.out.more ((za.refl wi).drewN nq));go_wp2;go_roundw
            case rel=>exact ⟨j+1,s',by omega,by go_num,I,b1,O.out (.inr (.inr f1.out))⟩
            case measure=>simp [intOf];omega
           ·rw [DV c7] at c8;have f1:=zh c7;clear c7;have k5:=zh (d6.out b0.out HF.out f1.out)
            go_wp2_with fail
            go_quiet (fail)
            generalize g7:wi.drewN nq=W2;have f2:za wi W2:=by rw [<-g7];exact (za.refl wi).drewN _
            clear g7 e3 h6 c8 h8 e8 b8;have I:=zh (hQ.out.more f2);have b1:=zh (hL.out.more f2);have b7:W2.cell? ⟨b2,j,none⟩=some (.int .i64 y):=f2.cell o;clear o V;have V:=I.out.ext;obtain ⟨e3,h6⟩:=I.out.cellI K b6;have g5:=zh (I.out.setI K);have l5:gi<wk.heap.size:=by omega
            have k6:=zh (b1.out.set (a:=⟨gi,y.toNat,none⟩) l5 (.bool true));have l6:gt+1<=W2.heap.size:=I.out.tak.lt;have j4:(W2.setCell ⟨gi,y.toNat,none⟩ (.bool true)).cell? ⟨b2,j,none⟩=some (.int .i64 y):=(Eg (w:=W2) (Ea W2 _ _ b2 (by show b2≠gi;omega))).trans b7
            go_wp2_with (at_builtin;refine AF rfl _ _ rfl _ s' y (gt+1) W2.heap.size 1 _ rfl rfl (g5.out.own.alloc _) ?d1 ?d2 ?d3 ?_)
            (try case d1=>exact zC _ _ _ (by simp))
            case d2=>(first | (simp;done) | (simp;omega) | omega)
            case d3=>omega
            intro v' wb a8 M e2;have k9:=zh ((g5.out.more ((za.refl _).alloc _)).app a8 M);have k7:=zh ((k6.out.more ((za.refl _).alloc _)).app M (by have h:=e2.out;show _\/_;simpa using h));clear a8 M e2;go_wp2;go_roundw
            case rel=>exact ⟨j+1,s'++[y],by omega,by go_num,k9,k7,k5⟩
            case measure=>simp [intOf];omega
          ·have f5:ze m t y=false:=by simpa using hf
           rw [f5] at b8;have HF:=zh f5;clear hf f5
           go_wp2_with fail
           go_quiet (fail)
           have I:=zh (hQ.out.more ((za.refl wi).drewN nq));have b1:=zh (hL.out.more ((za.refl wi).drewN nq));go_wp2;go_roundw
           case rel=>exact ⟨j+1,s',by omega,by go_num,I,b1,O.out (.inr (.inl HF.out))⟩
           case measure=>simp [intOf];omega
        ·have e0:=zh (hJ.out.done (by omega));have e9:=Bp e0.out.nd m.n (fun y hy=>(e0.out.rp y hy).range D.out);have i9:s'.length<=N:=by have a6:m.n=N:=HN.out;omega
         have p9:=e0.out.kl;go_wp2;go_roundw
         case rel=>exact ⟨k+1,s',by go_num,hQ,e0⟩
         case measure=>simp [intOf];omega
      ·have i1:k=s.length:=by omega
       subst i1;obtain ⟨A0,c0,rfl,o8⟩:=AA hQ.out.own;have hE:=zh (reachL_of hO.out.end_);have g4:=zh (Mk.nil wk)
       go_wp2_with fail
       go_loopw [17,18] (fun v i wr=>∃k:Nat,k<=N/\i=.int .i64 (k:Nat)/\Hid (Mk wk wr v (((List.range k).map Int.ofNat).filter (fun x=>decide (x∈s))))) (fun _ i _=>N - (intOf i).toNat)
       case atStart=>exact ⟨0,by omega,rfl,g4⟩
       clear g4
       case round=>
        obtain ⟨j,hj,rfl,hM⟩:=hrel;have U:=hM.out.ext;by_cases d5:j<N
        ·obtain ⟨f3,_⟩:=(hQ.out.more U).cellI (x:=(j:Int)) (by omega) (by omega);rw [Int.toNat_natCast] at f3;have r6:=V.trans U
         have d7:((List.range (j+1)).map Int.ofNat).filter (fun x=>decide (x∈s))=((List.range j).map Int.ofNat).filter (fun x=>decide (x∈s))++[(j:Int)].filter (fun x=>decide (x∈s)):=by
          rw [List.range_succ,EI,EF];rfl
         have HS:=zh d7;clear d7;by_cases c6:(j:Int)∈s
         ·rw [DU c6] at f3;have f0:=zh c6;clear c6;have b9:(((List.range j).map Int.ofNat).filter (fun x=>decide (x∈s))).length<=j:=DT (Eu _ _) (by simp);obtain ⟨lj,i2⟩:=EY (((List.range j).map Int.ofNat).filter (fun x=>decide (x∈s)));rw [<-i2] at hM b9 HS;clear i2
          go_wp2_with (at_builtin;refine AF rfl _ _ rfl _ lj (j:Int) wk.heap.size wr.heap.size 1 _ rfl rfl (hM.out.own.alloc _) ?d1 ?d2 ?d3 ?_)
          (try case d1=>exact zC _ _ _ (by simp))
          case d2=>(first | (simp;done) | (have:=U.size;simp;omega) | (have:=U.size;omega))
          case d3=>omega
          intro v' wb a8 M e2;have k8:=zh ((hM.out.alloc _).app a8 M);clear a8 M e2;go_wp2;go_roundw
          case rel=>exact ⟨j+1,by omega,by go_num,by rw [HS.out,EK (by simpa using f0.out)];exact k8⟩
          case measure=>simp [intOf];omega
         ·rw [DV c6] at f3;have f0:=zh c6;clear c6;go_wp2;go_roundw
          case rel=>exact ⟨j+1,by omega,by go_num,by rw [HS.out,Ez (by simpa using f0.out),List.filter_nil,List.append_nil];exact hM⟩
          case measure=>simp [intOf];omega
        ·have l8:j=N:=by omega
         subst l8
         go_wp2_with fail
         go_ret;refine ⟨_,rfl,(b3.trans V).mono_mk ?_⟩;rw [<-hE.out];have a6:m.n.toNat=j:=by have:m.n=(j:Int):=HN.out;omega
         rw [a6];exact hM.out
theorem BR {w1:World} (D:g<w1.heap.size) (m0:w1.cell? ⟨g,0,none⟩=some a0) (m1:w1.cell? ⟨g,1,none⟩=some a1) (m2:w1.cell? ⟨g,2,none⟩=some a2) (m3:w1.cell? ⟨g,3,none⟩=some a3) (m4:w1.cell? ⟨g,4,none⟩=some a4) (m5:w1.cell? ⟨g,5,none⟩=some a5) (o:Hid (Below w.heap.size w w1)):
  w1.drew.cell? ⟨g,0,none⟩=some a0/\w1.drew.cell? ⟨g,1,none⟩=some a1/\w1.drew.cell? ⟨g,2,none⟩=some a2/\w1.drew.cell? ⟨g,3,none⟩=some a3/\w1.drew.cell? ⟨g,4,none⟩=some a4/\w1.drew.cell? ⟨g,5,none⟩=some a5/\Hid (Below w.heap.size w w1.drew):=
 ⟨m0,m1,m2,m3,m4,m5,Below.drew o.out⟩
theorem held6 {w1:World} (D:g<w1.heap.size)
  (h:w1.drew.cell? ⟨g,0,none⟩=some a0/\w1.drew.cell? ⟨g,1,none⟩=some a1/\w1.drew.cell? ⟨g,2,none⟩=some a2/\w1.drew.cell? ⟨g,3,none⟩=some a3/\w1.drew.cell? ⟨g,4,none⟩=some a4/\w1.drew.cell? ⟨g,5,none⟩=some a5/\Hid (Below w.heap.size w w1.drew)) (o:Below w1.drew.heap.size w1.drew w2):
  w2.cell? ⟨g,0,none⟩=some a0/\w2.cell? ⟨g,1,none⟩=some a1/\w2.cell? ⟨g,2,none⟩=some a2/\w2.cell? ⟨g,3,none⟩=some a3/\w2.cell? ⟨g,4,none⟩=some a4/\w2.cell? ⟨g,5,none⟩=some a5/\Hid (Below w.heap.size w w2):=by
 obtain ⟨m0,m1,m2,m3,m4,m5,h⟩:=h;exact ⟨(o.cell D).trans m0,(o.cell D).trans m1,(o.cell D).trans m2,(o.cell D).trans m3,(o.cell D).trans m4,(o.cell D).trans m5,Ba h.out o (DR _)⟩
theorem BX {w1:World} {p:Addr} {v:Value} (h:w1.cell? p=some v) (o:Below w1.heap.size w1 w2):w2.cell? p=some v:=(o.cell (zA h)).trans h
theorem held_and {A B A' B':Prop} (h:A/\B) (f:A->A') (g:B->B'):A'/\B':=⟨f h.1,g h.2⟩
theorem drewn_below {a w':World} (h:Below a.drew.heap.size a.drew w'):Below a.heap.size a w':=((Below.refl a.heap.size a).drew).trans h
structure CQ (w wr:World) (a0 a1 a2 a3 a4 a5:Value):Prop where
 below:Below w.heap.size w wr
 m0:wr.cell? ⟨w.heap.size,0,none⟩=some a0
 m1:wr.cell? ⟨w.heap.size,1,none⟩=some a1
 m2:wr.cell? ⟨w.heap.size,2,none⟩=some a2
 m3:wr.cell? ⟨w.heap.size,3,none⟩=some a3
 m4:wr.cell? ⟨w.heap.size,4,none⟩=some a4
 m5:wr.cell? ⟨w.heap.size,5,none⟩=some a5
theorem Ce {v:Value} (w:World) (hm:zt w ok v m) (hl:Lens m):
  Calls Tryz.prog 60 #[v] w fun e w'=>e=.returned (.int .i64 (Bq m))/\Below w.heap.size w w':=by
 have j2:=hm;obtain ⟨vfr,vup,vts,rfl,i9,j5,j4⟩:=hm;obtain ⟨vsf,⟨Af,cf,rfl,i2,f6⟩,e9⟩:=i9;obtain ⟨Au,cu,rfl,k7,j3⟩:=j5;obtain ⟨vst,⟨At,ct,rfl,i3,f7⟩,f0⟩:=j4;obtain ⟨l1,l2,l3,l4⟩:=hl;have e0:=zh f6;clear f6;have d7:=zh e9;clear e9;have g8:=zh f7;clear f7;have g3:=zh f0;clear f0;have g6:=zh l4;clear l4;clear j3 j2
 go_enter Tryz.func60,Tryz.ntmps60
 by_cases hs:[m.w,m.h,m.l].any side=true
 ·have HC:=zh (chk_side hs)
  have h6:(m.w<1)\/(¬ m.w<1/\m.h<1)\/(¬ m.w<1/\¬ m.h<1/\m.l<1)\/(¬ m.w<1/\¬ m.h<1/\¬ m.l<1/\300<m.w)\/(¬ m.w<1/\¬ m.h<1/\¬ m.l<1/\¬ 300<m.w/\300<m.h)\/(¬ m.w<1/\¬ m.h<1/\¬ m.l<1/\¬ 300<m.w/\¬ 300<m.h/\300<m.l):=by
   simp [side] at hs;omega
  clear hs;rcases h6 with h | ⟨h1,h⟩ | ⟨h1,h2,h⟩ | ⟨h1,h2,h3,h⟩ | ⟨h1,h2,h3,h4,h⟩ | ⟨h1,h2,h3,h4,h5,h⟩
  all_goals go_wp2
  all_goals go_ret
  all_goals exact ⟨AB HC.out.symm,(Below.refl _ _).alloc (DR _) _⟩
 have b3:[m.w,m.h,m.l].any side=false:=by simpa using hs
 clear hs;obtain ⟨⟨p1,p2⟩,p3,p4⟩:=sides_mul b3;obtain ⟨⟨a1,a2⟩,⟨b1,b2⟩,c1,c2⟩:=sides b3;have HN:=zh b3;clear b3
 have a7:300<m.n\/6<m.tasks.length->Bq m=2:=by
  intro h;unfold Bq;rw [if_neg (by rw [HN.out];simp),if_pos h]
 have d9:=zh a7;clear a7
 go_wp2_with fail
 refine (zQ _ _ _ _ _ _ _ (by omega) (by omega)).mono ?_;rintro e w' ⟨rfl,hb⟩;have b8:zd (w.alloc (.cells #[.int .i64 m.w,.int .i64 m.h,.int .i64 m.l,.slice Af m.free.length cf,.slice Au m.up.length cu,.slice At m.tasks.length ct] 32)) w.heap.size 32 _:=EE _ _;have b9:zd w' w.heap.size 32 _:=b8.below hb (zc b8);have e6:Below w.heap.size w w':=Ba ((Below.refl _ _).alloc (DR _) _) hb (by simp);clear b8 hb;obtain ⟨m0,m1,m2,m3,m4,m5⟩:=zq b9;have g1:=zh b9;clear b9;have Hb1:=zh e6;clear e6;by_cases V:300<m.w*m.h*m.l
 ·go_wp2;go_ret;exact ⟨AB (d9.out (.inl V)).symm,Hb1.out⟩
 by_cases ht:6<m.tasks.length
 ·go_wp2;go_ret;exact ⟨AB (d9.out (.inr ht)).symm,Hb1.out⟩
 have a6:(m.free.length≠m.tasks.length\/(m.up.length:Int)≠m.n\/m.free.any (fun f=>(f.length:Int) != m.n)=true)->Bq m=1:=by
  intro h;unfold Bq;rw [if_neg (by rw [HN.out];simp),if_neg (by unfold MZ.n;omega),if_pos h]
 have b6:=zh a6;clear a6;by_cases hf:m.free.length=m.tasks.length
 case neg=>
  have i5:decide ((m.free.length:Int)=(m.tasks.length:Int))=false:=by simp;omega
  have i6:((m.free.length:Int) != (m.tasks.length:Int))=true:=by simp;omega
  have i7:decide (m.free.length=m.tasks.length)=false:=by simp;omega
  have i8:(m.free.length != m.tasks.length)=true:=by simp;omega
  go_wp2_with fail
  go_quiet (fail)
  go_wp2;go_ret;exact ⟨AB (b6.out (.inl hf)).symm,Cq Hb1.out _⟩
 have i5:decide ((m.free.length:Int)=(m.tasks.length:Int))=true:=by simp;omega
 have i6:((m.free.length:Int) != (m.tasks.length:Int))=false:=by simp;omega
 have i7:decide (m.free.length=m.tasks.length)=true:=by simp;omega
 have i8:(m.free.length != m.tasks.length)=false:=by simp;omega
 have HF:=zh hf;clear hf;have o:w.heap.size<w'.heap.size:=zc g1.out
 go_wp2_with fail
 go_region_held3 (fun w'=>w'.cell? ⟨w.heap.size,0,none⟩=some (.int .i64 m.w)/\w'.cell? ⟨w.heap.size,1,none⟩=some (.int .i64 m.h)/\w'.cell? ⟨w.heap.size,2,none⟩=some (.int .i64 m.l)/\w'.cell? ⟨w.heap.size,3,none⟩=some (.slice Af m.free.length cf)/\w'.cell? ⟨w.heap.size,4,none⟩=some (.slice Au m.up.length cu)/\w'.cell? ⟨w.heap.size,5,none⟩=some (.slice At m.tasks.length ct)/\Hid (Below w.heap.size w w'))
  (first | exact BR o m0 m1 m2 m3 m4 m5 Hb1 | exact held6 o (by assumption) D)
  ((go_at_call 41;refine (zQ _ _ _ _ _ _ _ (by omega) (by omega)).mono ?_;rintro e w9 ⟨rfl,D⟩))
 rename_i hS
 obtain ⟨m0,m1,m2,m3,m4,m5,M⟩:=hS;have hI:=zh (CQ.mk M.out m0 m1 m2 m3 m4 m5);by_cases hu:(m.up.length:Int)=m.w*m.h*m.l
 case neg=>
  go_wp2;go_ret;exact ⟨AB (b6.out (.inr (.inl hu))).symm,M.out⟩
 clear m0 m1 m2 m3 m4 m5 D M o;have HU:=zh hu
 go_wp2_with fail
 rename ((m.up.length:Int) != m.w*m.h*m.l)=false=>hq
 clear hu hq;have e2:Bi w ok (.slice Af m.free.length cf) m.free:=⟨vsf,⟨Af,cf,rfl,i2,e0.out⟩,d7.out⟩;have k3:=zh e2;clear e2;go_loopw [3] (fun i wr=>∃k:Nat,k<=m.free.length/\i=.int .i64 k/\Hid ((m.free.take k).any (fun f=>(f.length:Int) != m.n)=false)/\Hid (CQ w wr (.int .i64 m.w) (.int .i64 m.h) (.int .i64 m.l) (.slice Af m.free.length cf) (.slice Au m.up.length cu) (.slice At m.tasks.length ct))) (fun i _=>m.free.length - (intOf i).toNat)
 case atStart=>exact ⟨0,by omega,rfl,by simp [Hid],hI⟩
 clear hI
 case round=>
  obtain ⟨k,hk,rfl,V,hI⟩:=hrel;obtain ⟨Hb1,m0,m1,m2,m3,m4,m5⟩:=hI;have Hb1:=zh Hb1;have o:=zA m0;by_cases J:k<m.free.length
  ·obtain ⟨b,off,u,rfl,_,G,hu⟩:=Br (e0.out.keep (zK.of_below Hb1.out)) d7.out J J;obtain ⟨x,K⟩:=EY (m.free[k]);rw [<-K] at hu;obtain ⟨Ax,cx,rfl,k9,_⟩:=hu;have E:=zh (AH (fun f=>(f.length:Int) != m.n) J);rw [<-K] at E;have HM:=zh (show x∈m.free by rw [K];exact DS _);clear K
   go_wp2_with fail
   go_region_held3 (fun w'=>(w'.cell? ⟨w.heap.size,0,none⟩=some (.int .i64 m.w)/\w'.cell? ⟨w.heap.size,1,none⟩=some (.int .i64 m.h)/\w'.cell? ⟨w.heap.size,2,none⟩=some (.int .i64 m.l)/\w'.cell? ⟨w.heap.size,3,none⟩=some (.slice (some ⟨b,off,none⟩) m.free.length cf)/\w'.cell? ⟨w.heap.size,4,none⟩=some (.slice Au m.up.length cu)/\w'.cell? ⟨w.heap.size,5,none⟩=some (.slice At m.tasks.length ct)/\Hid (Below w.heap.size w w'))/\w'.cell? ⟨b,off+k,none⟩=some (.slice Ax x.length cx))
    (first | exact ⟨BR o m0 m1 m2 m3 m4 m5 Hb1,G⟩ | exact held_and (by assumption) (fun h=>held6 o h D) (fun h=>BX h D))
    ((go_at_call 41;refine (zQ _ _ _ _ _ _ _ (by omega) (by omega)).mono ?_;rintro e w9 ⟨rfl,D⟩))
   rename_i hS
   obtain ⟨⟨m0,m1,m2,m3,m4,m5,M⟩,_⟩:=hS;have hI:=zh (CQ.mk M.out m0 m1 m2 m3 m4 m5);clear D M;by_cases K:(x.length:Int)=m.w*m.h*m.l
   ·have HX:=zh K;go_wp2;clear K;go_roundw
    case rel=>exact ⟨k+1,by omega,by go_num,by
     show _=false;rw [E.out,V.out];show (false || ((x.length:Int) != m.w*m.h*m.l))=false;rw [HX.out];simp,hI⟩
    case measure=>simp [intOf];omega
   ·have HX:=zh K;go_wp2;go_ret
    exact ⟨AB (b6.out (.inr (.inr (ET.2 ⟨x,HM.out,by
     show ((x.length:Int) != m.w*m.h*m.l)=true;simpa using HX.out⟩)))).symm,hI.out.below⟩
  ·obtain rfl:k=m.free.length:=by omega
   have ha:m.free.any (fun f=>(f.length:Int) != m.n)=false:=by have h:=V.out;rwa [Ec] at h
   have HA:=zh ha;clear ha V;have hI:=zh (CQ.mk Hb1.out m0 m1 m2 m3 m4 m5);have e3:Bz w ok (.slice At m.tasks.length ct) m.tasks:=⟨vst,⟨At,ct,rfl,i3,g8.out⟩,g3.out⟩;have h7:=zh e3;clear e3
   go_wp2_with fail
   clear m0 m1 m2 m3 m4 m5 Hb1 o;go_loopw [4] (fun i wr=>∃k:Nat,k<=m.tasks.length/\i=.int .i64 k/\Hid ((m.tasks.take k).any (fun t=>t.1.any (zO m.n) || t.2.any (zO m.n))=false)/\Hid (CQ w wr (.int .i64 m.w) (.int .i64 m.h) (.int .i64 m.l) (.slice Af m.free.length cf) (.slice Au m.up.length cu) (.slice At m.tasks.length ct))) (fun i _=>m.tasks.length - (intOf i).toNat)
   case atStart=>exact ⟨0,by omega,rfl,by simp [Hid],hI⟩
   clear hI
   case round=>
    obtain ⟨k,hk,rfl,V,hI⟩:=hrel;obtain ⟨Hb1,m0,m1,m2,m3,m4,m5⟩:=hI;have Hb1:=zh Hb1;have o:=zA m0;by_cases J:k<m.tasks.length
    ·obtain ⟨b,off,sn,u1,u2,rfl,_,i1,Q,U,c6,c7⟩:=Bm (h7.out.below Hb1.out) J;obtain ⟨t,a9⟩:=EY (m.tasks[k]);rw [<-a9] at c6 c7;obtain ⟨j0,j1⟩:=g6.out _ (DS J);rw [<-a9] at j0 j1;have g4:=zh c6;clear c6;have g5:=zh c7;clear c7;have E:=zh (AH (fun t=>t.1.any (zO m.n) || t.2.any (zO m.n)) J);rw [<-a9] at E;have HM:=zh (show t∈m.tasks by rw [a9];exact DS _);clear a9
     have b5:∀x,x∈[]++t.1++t.2->zO m.n x=true->Bq m=50:=by
      intro x K h
      have ht:(t.1.any (zO m.n) || t.2.any (zO m.n))=true:=by
       rw [<-List.any_append];exact ET.2 ⟨x,by simpa using K,h⟩
      unfold Bq;rw [if_neg (by rw [HN.out];simp),if_neg (by unfold MZ.n;omega),if_neg (by rw [HA.out,HF.out,HU.out];simp [MZ.n]),if_pos (ET.2 ⟨t,HM.out,ht⟩)]
     have O:=zh b5;clear b5
     go_wp2_with fail
     have h9:w.heap.size<=wr.heap.size:=Hb1.out.size
     go_region_held3 (fun w'=>(w'.cell? ⟨w.heap.size,0,none⟩=some (.int .i64 m.w)/\w'.cell? ⟨w.heap.size,1,none⟩=some (.int .i64 m.h)/\w'.cell? ⟨w.heap.size,2,none⟩=some (.int .i64 m.l)/\w'.cell? ⟨w.heap.size,3,none⟩=some (.slice Af m.free.length cf)/\w'.cell? ⟨w.heap.size,4,none⟩=some (.slice Au m.up.length cu)/\w'.cell? ⟨w.heap.size,5,none⟩=some (.slice (some ⟨b,off,none⟩) m.tasks.length ct)/\Hid (Below w.heap.size w w'))/\w'.cell? ⟨b,off+k*3+1,none⟩=some u1/\w'.cell? ⟨b,off+k*3+2,none⟩=some u2)
      (first | (exact ⟨BR o m0 m1 m2 m3 m4 m5 Hb1,Q,U⟩) | (exact ⟨held6 o (BR o m0 m1 m2 m3 m4 m5 Hb1) b0,BX (w1:=wr.drew) Q b0,BX (w1:=wr.drew) U b0⟩) | (exact ⟨held6 o (BR o m0 m1 m2 m3 m4 m5 Hb1) I,BX (w1:=wr.drew) Q I,BX (w1:=wr.drew) U I⟩) | (exact ⟨held6 o (BR o m0 m1 m2 m3 m4 m5 Hb1) ((Below.refl _ _).alloc (DR _) _),BX (w1:=wr.drew) Q ((Below.refl _ _).alloc (DR _) _),BX (w1:=wr.drew) U ((Below.refl _ _).alloc (DR _) _)⟩))
      (first | (refine AJ (ok:=ok) (by rfl) _ _ _ (by rfl) wr.heap.size [] t.1 _ _ (by rfl) (by rfl) (CB wr.drew wr.heap.size (DR _)) (g4.out.keep (zK.of_below (w:=wr) ((Below.drew (Below.refl _ _)).alloc (DR _) _))) (by simp) (by simp;omega) ?_;intro v1 w1 c9 f1 e4;have I:Below wr.drew.heap.size wr.drew w1:=(zS ((Below.refl _ _).alloc (DR _) _) f1 (by simp) (fun k hk=>Ao (CB wr.drew wr.heap.size (DR _)) hk))) | (refine AJ (ok:=ok) (by rfl) _ _ _ (by rfl) wr.heap.size ([]++t.1) t.2 _ _ (by rfl) (by rfl) c9 (g5.out.keep (zK.of_below (w:=wr.drew) I)) I.size (by simp;omega) ?_;intro v2 w2 f5 f2 e5;have b0:Below wr.drew.heap.size wr.drew w2:=(zS I f2 I.size (fun k hk=>Ao c9 hk))))
     rename_i hS
     obtain ⟨⟨m0,m1,m2,m3,m4,m5,M⟩,_,_⟩:=hS;have hI:=zh (CQ.mk M.out m0 m1 m2 m3 m4 m5);have d8:=zh (f5.mono h9:zB w2 w.heap.size v2 ([]++t.1++t.2));clear I b0 f1 e4 c9 f5 f2 e5 i1 Q U m0 m1 m2 m3 m4 m5 M o Hb1;obtain ⟨all,L⟩:=EY ([]++t.1++t.2);rw [<-L] at d8 O;have l5:all.length<=800000000000:=by rw [L];simp;omega
     have d6:=zh L;clear L;obtain ⟨Av,cv,rfl,k8,f8⟩:=Ae.of_own d8.out;have g9:=zh f8;clear f8
     go_wp2_with fail
     go_loopw [6] (fun i wi=>∃j:Nat,j<=all.length/\i=.int .i64 j/\Hid ((all.take j).any (zO m.n)=false)/\Hid (Below w2.heap.size w2 wi)/\Hid (CQ w wi (.int .i64 m.w) (.int .i64 m.h) (.int .i64 m.l) (.slice Af m.free.length cf) (.slice Au m.up.length cu) (.slice (some ⟨b,off,none⟩) m.tasks.length ct))) (fun i _=>all.length - (intOf i).toNat)
     case atStart=>exact ⟨0,by omega,rfl,by simp [Hid],Below.refl _ _,hI⟩
     clear hI
     case round=>
      obtain ⟨j,hj,rfl,f4,e7,hI⟩:=hrel;obtain ⟨wi,rfl⟩:∃wi:World,wi=wr:=⟨_,rfl⟩;obtain ⟨Hb1,m0,m1,m2,m3,m4,m5⟩:=hI;have Hb1:=zh Hb1;have o:=zA m0;by_cases c8:j<all.length
      ·obtain ⟨bv,ov,rfl,_,G⟩:=zE (g9.out.keep (zK.of_below e7.out)) c8 c8;obtain ⟨x,K⟩:=EY (all[j]);rw [<-K] at G;have a8:=zh (AH (zO m.n) c8);rw [<-K] at a8;have e1:=zh (show x∈all by rw [K];exact DS _);clear K;by_cases b4:x<0
       ·have hd:decide (x<0)=true:=by simpa using b4
        go_wp2_with fail
        go_quiet (fail)
        go_wp2;go_ret;exact ⟨AB (O.out x e1.out (by unfold zO;rw [hd];rfl)).symm,Cq Hb1.out _⟩
       ·have hd:decide (x<0)=false:=by simpa using b4
        go_wp2_with fail
        go_region_held3 (fun w'=>(w'.cell? ⟨w.heap.size,0,none⟩=some (.int .i64 m.w)/\w'.cell? ⟨w.heap.size,1,none⟩=some (.int .i64 m.h)/\w'.cell? ⟨w.heap.size,2,none⟩=some (.int .i64 m.l)/\w'.cell? ⟨w.heap.size,3,none⟩=some (.slice Af m.free.length cf)/\w'.cell? ⟨w.heap.size,4,none⟩=some (.slice Au m.up.length cu)/\w'.cell? ⟨w.heap.size,5,none⟩=some (.slice (some ⟨b,off,none⟩) m.tasks.length ct)/\Hid (Below w.heap.size w w'))/\w'.cell? ⟨bv,ov+j,none⟩=some (.int .i64 x))
         (first | exact ⟨BR o m0 m1 m2 m3 m4 m5 Hb1,G⟩ | exact held_and (by assumption) (fun h=>held6 o h D) (fun h=>BX h D))
         ((go_at_call 41;refine (zQ _ _ _ _ _ _ _ (by omega) (by omega)).mono ?_;rintro e w9 ⟨rfl,D⟩))
        rename_i hS
        obtain ⟨⟨m0,m1,m2,m3,m4,m5,M⟩,_⟩:=hS;have hI:=zh (CQ.mk M.out m0 m1 m2 m3 m4 m5);have e8:Hid (Below w2.heap.size w2 w9):=Ba e7.out (drewn_below D) (DR _);clear D M;by_cases d4:x<m.w*m.h*m.l
        ·have HX:=zh d4;have h8:=zh b4;go_wp2;clear d4 b4 hd;go_roundw
         case rel=>exact ⟨j+1,by omega,by go_num,by
          show _=false;rw [a8.out,f4.out];have h1:¬ m.w*m.h*m.l<=x:=by have:=HX.out;omega
          have h2:¬ x<0:=by have:=h8.out;omega
          show (false || (decide (x<0) || decide (m.w*m.h*m.l<=x)))=false;rw [DV h1,DV h2];rfl,e8,hI⟩
         case measure=>simp [intOf];omega
        ·have HX:=zh d4;go_wp2;go_ret
         exact ⟨AB (O.out x e1.out (by
          have h1:m.w*m.h*m.l<=x:=by have:=HX.out;omega
          show (decide (x<0) || decide (m.w*m.h*m.l<=x))=true;rw [DU h1,Bool.or_true])).symm,hI.out.below⟩
      ·obtain rfl:j=all.length:=by omega
       go_wp2;go_roundw
       case rel=>exact ⟨k+1,by omega,by go_num,by
        show _=false;have h:=f4.out;rw [Ec,d6.out,List.nil_append,List.any_append] at h;rw [E.out,V.out];exact h,⟨Hb1.out,m0,m1,m2,m3,m4,m5⟩⟩
       case measure=>simp [intOf];omega
    ·obtain rfl:k=m.tasks.length:=by omega
     go_wp2;go_ret;refine ⟨AB ?_,Hb1.out⟩;have V:=V.out;rw [Ec] at V;unfold Bq;rw [if_neg (by rw [HN.out];simp),if_neg (by unfold MZ.n;omega),if_neg (by rw [HA.out,HF.out,HU.out];simp [MZ.n]),if_neg (by rw [V];simp)]
end
end Go.Proofs.YtjomnbdjajjgfaaGreatDoor
