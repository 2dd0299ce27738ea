import Derived.Test.YthbjngbhbbkkgaaGreatHPa
import Derived.Deep.DeepCutAuto
import Derived.Deep.OwnRows
import Derived.BigQuiet
import Derived.Deep.RegionHeld3
import Derived.Deep.DrawnRows
import Derived.Lib.SliceRun
import Derived.RangeFuncNested
import Derived.RangeFuncBound
import Derived.RangeFuncCalls
import Derived.RangeFuncLeaves
import Derived.RangeFuncBox
import Derived.Shelf.Abstract
import Derived.Maps.AppendAt
import Derived.RangeFuncWrites
import Derived.Shelf.RegionOpen
import Derived.OwnWalkIn
import Derived.TacticsInMore
import Derived.LoopNIn
import Derived.LoopIn
import Derived.Deep.RegionHeld
import Derived.CallsIn
import Derived.OrdersIn
set_option linter.unusedVariables false
set_option linter.unusedSimpArgs false
set_option maxRecDepth 100000
set_option maxHeartbeats 16000000
namespace Go.Proofs.YthbjngbhbbkkgaaGreat
variable {a a0:Act} {K:Act->World->Prop} {p:Addr} {listed:Array Bool} {cs:Array Value} {x:Int} {from_ l l' used:List Int} {js:List Nat} {B c fuel j k:Nat} {o:Oper} {a1 a2 a3 a4 a5:Value} {W b w2 wk:World}
section
open Go.RowKit
def zb (w w':World):Prop:=Below w.heap.size w w'
theorem zb.refl (w:World):zb w w:=Below.refl _ _
theorem zb.trans {a c:World} (h:zb a b) (z:zb b c):zb a c:=BI h z (EN _)
theorem zb.alloc {a b:World} (h:zb a b) (o:Obj):zb a (b.alloc o):=Below.alloc h h.size o
theorem zb.drew {a b:World} (h:zb a b):zb a b.drew:=Below.drew h
theorem zb.drewN {a b:World} (h:zb a b) (n:Nat):zb a (b.drewN n):=Df h n
theorem zb.cell {w W:World} {p:Addr} {v:Value} (h:w.cell? p=some v) (hW:zb w W):W.cell? p=some v:=(Below.cell hW (zp h)).trans h
theorem zb.rule {w:World} {v:Value} (h:w.cell? p=some v):∀W,zb w W->W.cell? p=some v:=fun _ hW=>hW.cell h
theorem zb.lt {w:World} (h:zb w W) {g:Nat} (z:g<w.heap.size):g<W.heap.size:=Fq z h.size
theorem Ah (w:World):∀W o,zb w W->zb w (W.alloc o):=fun _ o h=>h.alloc o
structure Mk (w1 w:World) (v:Value) (l:List Int):Prop where
 own:zA w w1.heap.size v l
 ext:zb w1 w
theorem Mk.nil (w1:World):Mk w1 w1 (.slice none 0 0) []:=⟨World.ownsRow_nil _ _ _ _,zb.refl _⟩
theorem Mk.nil' {w1 w:World} (h:zb w1 w):Mk w1 w (.slice none 0 0) []:=⟨World.ownsRow_nil _ _ _ _,h⟩
theorem Mk.app {w1 w w':World} {v v':Value} (h:Mk w1 w v l) (E:zA w' w1.heap.size v' l') (z:Hid (w.grownBy w' v.ownBlock)):Mk w1 w' v' l':=
 ⟨E,Ae h.ext z h.ext.size (fun k D=>Bq h.own D)⟩
theorem Mk.more {w1 w w':World} {v:Value} (h:Mk w1 w v l) (z:zb w w'):Mk w1 w' v l:=
 ⟨h.own.kept (row:=none) ⟨z.os,z.tape,z.output,z.size,fun i D _=>z.block i D⟩ (by cases h:v.ownBlock <;> simp),h.ext.trans z⟩
theorem Mk.alloc {w1 w:World} {v:Value} {l:List Int} (h:Mk w1 w v l) (o:Obj):Mk w1 (w.alloc o) v l:=h.more ((zb.refl _).alloc o)
theorem Mk.drew {w1 w:World} {v:Value} {l:List Int} (h:Mk w1 w v l):Mk w1 w.drew v l:=⟨h.own,h.ext.drew⟩
theorem Mk.drewN {w1 w:World} {v:Value} {l:List Int} (h:Mk w1 w v l) (n:Nat):Mk w1 (w.drewN n) v l:=⟨h.own,h.ext.drewN n⟩
theorem Mk.cast {w1 w:World} {v:Value} (h:Mk w1 w v l) (e:l'=l):Mk w1 w v l':=e ▸ h
theorem Mk.ints {w1 w:World} {v:Value} (h:Mk w1 w v l):zi w (fun b=>w1.heap.size<=b) v l:=zV.of_own h.own
theorem Mk.slice {w1 w:World} {v:Value} {l:List Int} (h:Mk w1 w v l):∃A c,v=.slice A l.length c/\l.length<=c:=by
 obtain ⟨A,c,e,z,_⟩:=h.ints;exact ⟨A,c,e,z⟩
theorem zb.mono_mk {w w1 w':World} {v:Value} (h:zb w w1) (hm:Mk w1 w' v l):Mk w w' v l:=⟨hm.own.mono h.size,h.trans hm.ext⟩
theorem held_ext {w1 a:World} (h:zb w1 a/\zb wk a) (z:Below a.heap.size a b):zb w1 b/\zb wk b:=⟨h.1.trans z,h.2.trans z⟩
theorem DR {w1:World} (h:zb w1 wk):zb w1 wk.drew/\zb wk wk.drew:=⟨h.drew,(zb.refl wk).drew⟩
theorem Bk {w:World} {v:Value} (h:zA w B v l):∃A c,v=.slice A l.length c/\l.length<=c:=by
 obtain ⟨A,c,e,z,_⟩:=zV.of_own h;exact ⟨A,c,e,z⟩
theorem own_at {w:World} {n:Nat} {A:Option Addr} (h:zA w B (.slice A n c) l) (D:k<l.length):∃b,A=some ⟨b,0,none⟩/\B<=b/\w.cell? ⟨b,k,none⟩=some (.int .i64 l[k]):=by
 obtain ⟨g,cap,G,z,E⟩:=World.ownsRow.form h (by omega);injection G with h1 h2 h3;subst h1 h2 h3;refine ⟨g,rfl,z,?_⟩;rw [World.ownsRow.cellAt h k (by omega)];simp [D]
theorem zr (W:World) (v:Value) (t:TypeId) {g:Nat} (h:g=W.heap.size):(W.alloc (.cells #[v] t)).cell? ⟨g,0,none⟩=some v:=by
 subst h;unfold World.cell?;simp only [FB];rfl
theorem ap_t {c:Bool} (h:c=true) (x:Int) (l:List Int):ap c x l=l++[x]:=by rw [h];rfl
theorem ap_f {c:Bool} (h:c=false) (x:Int) (l:List Int):ap c x l=l:=by rw [h];rfl
theorem DK {ok:Nat->Prop} {v:Value} (m:MZ) (node:Int) (w:World) (hm:zt w ok v m) (d:EF m) (h0:0<=node) (h1:node<m.w*m.h*m.l):
  Calls Tryz.prog 81 #[v,.int .i64 node] w fun e w'=>∃v',e=.returned v'/\Below w.heap.size w w'/\w'.ownsRow w.heap.size 3 1 v' (zm m node).length ((zm m node).map (Value.int .i64)):=by
 obtain ⟨f,u,t,rfl,_,hu,_⟩:=hm;obtain ⟨A,c,rfl,c7,c0⟩:=hu;have hl:=d.layer;obtain ⟨a8,a9⟩:=hl;obtain ⟨dw1,dw2,c8,c9,ll1,ll2,n1,b9⟩:=d;obtain ⟨W,H,L,fr,up,ts⟩:=m;simp only at*;have HU:=zh c0;clear c0;have b3:=zh b9;clear b9
 go_enter Tryz.func81,Tryz.ntmps81
 have d6:0<=node / W:=Int.ediv_nonneg h0 (by omega);have d7:node / W<=node:=Int.ediv_le_self _ h0
 go_wp2_with fail
 go_quiet (fail)
 have d8:0<=node / W % H:=Int.emod_nonneg _ (by omega);have d9:node / W % H<H:=Int.emod_lt_of_pos _ (by omega);have e0:0<=node % W:=Int.emod_nonneg _ (by omega);have e3:node % W<W:=Int.emod_lt_of_pos _ (by omega);generalize b0:((w.alloc (.cells #[.int .i64 W,.int .i64 H,.int .i64 L,f,.slice A up.length c,t] 32)).drewN nq)=w1;have a7:zb w w1:=by rw [<-b0];exact ((zb.refl w).alloc _).drewN _
 have b5:zg w1 w.heap.size 32 #[.int .i64 W,.int .i64 H,.int .i64 L,f,.slice A up.length c,t]:=by rw [<-b0];exact FB _ _
 have b2:=zh (HU.out.keep (Ao.of_below a7):zN w1 ok 1 A up.length (up.map Value.bool));clear b0 HU;have b1:=zh a7;clear a7;obtain ⟨m0,m1,m2,m3,m4,m5⟩:=zn b5;have r0:=zb.rule m0;have r1:=zb.rule m1;have r2:=zb.rule m2;have r3:=zb.rule m3;have r4:=zb.rule m4;have r5:=zb.rule m5;clear m0 m1 m2 m3 m4 m5 b5;have ra:=Ah w1;have U:zb w1 w1:=zb.refl w1;have z:=zh (Mk.nil w1);obtain ⟨c1,J⟩:∃b,b=(decide (W*H<=node) && up.getD (node - W*H).toNat false):=⟨_,rfl⟩;obtain ⟨c2,b4⟩:∃b,b=(decide (node+W*H<W*H*L) && up.getD node.toNat false):=⟨_,rfl⟩;have V:=zh J;clear J;have Z:=zh b4;clear b4;go_upto_region 5 with fail;go_cut [36] (fun s wx=>s=.bool c1/\w1=wx)
 case first=>
  by_cases hp:W*H<=node
  ·have T:(node - W*H).toNat<up.length:=by have:=b3.out;omega
   obtain ⟨b,off,rfl,_,J⟩:=BR b2.out T T;have I:up[(node - W*H).toNat]=c1:=(V.out.trans (by simp [hp,T])).symm;rw [I] at J;have rc:=zb.rule J;clear J I
   go_wp2_with fail
   go_meet
   case rel=>exact ⟨rfl,rfl⟩
  ·have I:c1=false:=V.out.trans (by simp [hp]);have a6:=zh I;clear I
   go_wp2_with fail
   go_meet
   case rel=>exact ⟨by rw [a6.out],rfl⟩
 case rest=>
 obtain ⟨rfl,rfl⟩:=hcut
 go_upto_if 36 with fail
 go_cut [5] (fun s wx=>Hid (Mk w1 wx s (ap c1 (node - W*H) [])))
 case first=>
  obtain rfl | rfl:c1=true\/c1=false:=by cases c1 <;> simp
  ·skip
   have hz:w1.heap.size<=w1.heap.size:=U.size
   go_wp2_with (at_builtin;refine AP rfl _ _ rfl _ [] (node - W*H) w1.heap.size w1.heap.size 1 _ rfl rfl (z.out.own.alloc _) ?d1 ?d2 ?d3 ?_)
   (try case d1=>simp)
   case d2=>(first | (simp;done) | (simp;omega) | omega)
   case d3=>exact EP (show [].length<=0 from EN _) (by omega)
   intro v' wb E D _;have G:=zh ((z.out.alloc _).app E D);clear E D
   go_wp2_with fail
   go_meet
   case rel=>exact G.out.cast (ap_t (by rfl) _ _)
  ·skip
   go_wp2_with fail
   go_meet
   case rel=>exact z.out.cast (ap_f (by rfl) _ _)
 case rest=>
 have z:=hcut;clear hcut;have U:zb w1 wc:=z.out.ext;have a8:(ap c1 (node - W*H) []).length<=1:=EP (ap_len _ _ _) (Nat.succ_le_succ (Fb _));obtain ⟨wp,rfl⟩:∃wp:World,wp=wc:=⟨_,rfl⟩
 go_upto_if 44 with fail
 go_cut [5] (fun s wx=>Hid (Mk w1 wx s (ap (decide (0<node / W % H)) (node - W) (ap c1 (node - W*H) []))))
 case first=>
  by_cases hp:0<node / W % H
  ·have M:=zh hp;have hz:w1.heap.size<=wp.heap.size:=U.size
   go_wp2_with (at_builtin;refine AP rfl _ _ rfl _ (ap c1 (node - W*H) []) (node - W) w1.heap.size wp.heap.size 1 _ rfl rfl (z.out.own.alloc _) ?d1 ?d2 ?d3 ?_)
   (try case d1=>simp)
   case d2=>(first | (simp;done) | (simp;omega) | omega)
   case d3=>exact EP (show (ap c1 (node - W*H) []).length<=1 from a8) (by omega)
   intro v' wb E D _;have G:=zh ((z.out.alloc _).app E D);clear E D
   go_wp2_with fail
   go_meet
   case rel=>exact G.out.cast (ap_t (by exact EQ M.out) _ _)
  ·have M:=zh hp
   go_wp2_with fail
   go_meet
   case rel=>exact z.out.cast (ap_f (by exact ER (by have:=M.out;omega)) _ _)
 case rest=>
 have z:=hcut;clear hcut;have U:zb w1 wc:=z.out.ext;have a9:(ap (decide (0<node / W % H)) (node - W) (ap c1 (node - W*H) [])).length<=2:=EP (ap_len _ _ _) (Nat.succ_le_succ a8);obtain ⟨wp,rfl⟩:∃wp:World,wp=wc:=⟨_,rfl⟩
 go_upto_if 53 with fail
 go_cut [5] (fun s wx=>Hid (Mk w1 wx s (ap (decide (0<node % W)) (node - 1) (ap (decide (0<node / W % H)) (node - W) (ap c1 (node - W*H) [])))))
 case first=>
  by_cases hp:0<node % W
  ·have M:=zh hp;have hz:w1.heap.size<=wp.heap.size:=U.size
   go_wp2_with (at_builtin;refine AP rfl _ _ rfl _ (ap (decide (0<node / W % H)) (node - W) (ap c1 (node - W*H) [])) (node - 1) w1.heap.size wp.heap.size 1 _ rfl rfl (z.out.own.alloc _) ?d1 ?d2 ?d3 ?_)
   (try case d1=>simp)
   case d2=>(first | (simp;done) | (simp;omega) | omega)
   case d3=>exact EP (show (ap (decide (0<node / W % H)) (node - W) (ap c1 (node - W*H) [])).length<=2 from a9) (by omega)
   intro v' wb E D _;have G:=zh ((z.out.alloc _).app E D);clear E D
   go_wp2_with fail
   go_meet
   case rel=>exact G.out.cast (ap_t (by exact EQ M.out) _ _)
  ·have M:=zh hp
   go_wp2_with fail
   go_meet
   case rel=>exact z.out.cast (ap_f (by exact ER (by have:=M.out;omega)) _ _)
 case rest=>
 have z:=hcut;clear hcut;have U:zb w1 wc:=z.out.ext;have b6:(ap (decide (0<node % W)) (node - 1) (ap (decide (0<node / W % H)) (node - W) (ap c1 (node - W*H) []))).length<=3:=EP (ap_len _ _ _) (Nat.succ_le_succ a9);obtain ⟨wp,rfl⟩:∃wp:World,wp=wc:=⟨_,rfl⟩
 go_upto_if 63 with fail
 go_cut [5] (fun s wx=>Hid (Mk w1 wx s (ap (decide (node % W+1<W)) (node+1) (ap (decide (0<node % W)) (node - 1) (ap (decide (0<node / W % H)) (node - W) (ap c1 (node - W*H) []))))))
 case first=>
  by_cases hp:node % W+1<W
  ·have M:=zh hp;have hz:w1.heap.size<=wp.heap.size:=U.size
   go_wp2_with (at_builtin;refine AP rfl _ _ rfl _ (ap (decide (0<node % W)) (node - 1) (ap (decide (0<node / W % H)) (node - W) (ap c1 (node - W*H) []))) (node+1) w1.heap.size wp.heap.size 1 _ rfl rfl (z.out.own.alloc _) ?d1 ?d2 ?d3 ?_)
   (try case d1=>simp)
   case d2=>(first | (simp;done) | (simp;omega) | omega)
   case d3=>exact EP (show (ap (decide (0<node % W)) (node - 1) (ap (decide (0<node / W % H)) (node - W) (ap c1 (node - W*H) []))).length<=3 from b6) (by omega)
   intro v' wb E D _;have G:=zh ((z.out.alloc _).app E D);clear E D
   go_wp2_with fail
   go_meet
   case rel=>exact G.out.cast (ap_t (by exact EQ M.out) _ _)
  ·have M:=zh hp
   go_wp2_with fail
   go_meet
   case rel=>exact z.out.cast (ap_f (by exact ER (by have:=M.out;omega)) _ _)
 case rest=>
 have z:=hcut;clear hcut;have U:zb w1 wc:=z.out.ext;have b7:(ap (decide (node % W+1<W)) (node+1) (ap (decide (0<node % W)) (node - 1) (ap (decide (0<node / W % H)) (node - W) (ap c1 (node - W*H) [])))).length<=4:=EP (ap_len _ _ _) (Nat.succ_le_succ b6);obtain ⟨wp,rfl⟩:∃wp:World,wp=wc:=⟨_,rfl⟩
 go_upto_if 73 with fail
 go_cut [5] (fun s wx=>Hid (Mk w1 wx s (ap (decide (node / W % H+1<H)) (node+W) (ap (decide (node % W+1<W)) (node+1) (ap (decide (0<node % W)) (node - 1) (ap (decide (0<node / W % H)) (node - W) (ap c1 (node - W*H) [])))))))
 case first=>
  by_cases hp:node / W % H+1<H
  ·have M:=zh hp;have hz:w1.heap.size<=wp.heap.size:=U.size
   go_wp2_with (at_builtin;refine AP rfl _ _ rfl _ (ap (decide (node % W+1<W)) (node+1) (ap (decide (0<node % W)) (node - 1) (ap (decide (0<node / W % H)) (node - W) (ap c1 (node - W*H) [])))) (node+W) w1.heap.size wp.heap.size 1 _ rfl rfl (z.out.own.alloc _) ?d1 ?d2 ?d3 ?_)
   (try case d1=>simp)
   case d2=>(first | (simp;done) | (simp;omega) | omega)
   case d3=>exact EP (show (ap (decide (node % W+1<W)) (node+1) (ap (decide (0<node % W)) (node - 1) (ap (decide (0<node / W % H)) (node - W) (ap c1 (node - W*H) [])))).length<=4 from b7) (by omega)
   intro v' wb E D _;have G:=zh ((z.out.alloc _).app E D);clear E D
   go_wp2_with fail
   go_meet
   case rel=>exact G.out.cast (ap_t (by exact EQ M.out) _ _)
  ·have M:=zh hp
   go_wp2_with fail
   go_meet
   case rel=>exact z.out.cast (ap_f (by exact ER (by have:=M.out;omega)) _ _)
 case rest=>
 have z:=hcut;clear hcut;have U:zb w1 wc:=z.out.ext;have b8:(ap (decide (node / W % H+1<H)) (node+W) (ap (decide (node % W+1<W)) (node+1) (ap (decide (0<node % W)) (node - 1) (ap (decide (0<node / W % H)) (node - W) (ap c1 (node - W*H) []))))).length<=5:=EP (ap_len _ _ _) (Nat.succ_le_succ b7);obtain ⟨wp,rfl⟩:∃wp:World,wp=wc:=⟨_,rfl⟩;go_upto_region 15 with fail;go_cut [93] (fun s wx=>s=.bool c2/\Hid (zb wp wx))
 case first=>
  by_cases hp:node+W*H<W*H*L
  ·have T:node.toNat<up.length:=by have:=b3.out;omega
   obtain ⟨b,off,rfl,_,J⟩:=BR b2.out T T;have I:up[node.toNat]=c2:=(Z.out.trans (by simp [hp,T])).symm;rw [I] at J;have rc:=zb.rule J;clear J I
   go_wp2_with fail
   refine (AA W H L _ _ _ _ (by omega) (by omega)).mono ?_;rintro e kn ⟨rfl,O⟩;have c5:zb w1 kn:=U.trans O
   go_wp2_with fail
   go_meet
   case rel=>exact ⟨rfl,O⟩
  ·have I:c2=false:=Z.out.trans (by simp [hp]);have a6:=zh I;clear I
   go_wp2_with fail
   refine (AA W H L _ _ _ _ (by omega) (by omega)).mono ?_;rintro e kn ⟨rfl,O⟩;have c5:zb w1 kn:=U.trans O
   go_wp2_with fail
   go_meet
   case rel=>exact ⟨by rw [a6.out],O⟩
 case rest=>
 obtain ⟨rfl,O⟩:=hcut;have z:=zh (z.out.more O.out);have U:zb w1 wc:=z.out.ext;obtain ⟨wp,rfl⟩:∃wp:World,wp=wc:=⟨_,rfl⟩
 go_upto_if 93 with fail
 go_cut [5] (fun s wx=>Hid (Mk w1 wx s (ap c2 (node+W*H) (ap (decide (node / W % H+1<H)) (node+W) (ap (decide (node % W+1<W)) (node+1) (ap (decide (0<node % W)) (node - 1) (ap (decide (0<node / W % H)) (node - W) (ap c1 (node - W*H) []))))))))
 case first=>
  obtain rfl | rfl:c2=true\/c2=false:=by cases c2 <;> simp
  ·skip
   have hz:w1.heap.size<=wp.heap.size:=U.size
   go_wp2_with (at_builtin;refine AP rfl _ _ rfl _ (ap (decide (node / W % H+1<H)) (node+W) (ap (decide (node % W+1<W)) (node+1) (ap (decide (0<node % W)) (node - 1) (ap (decide (0<node / W % H)) (node - W) (ap c1 (node - W*H) []))))) (node+W*H) w1.heap.size wp.heap.size 1 _ rfl rfl (z.out.own.alloc _) ?d1 ?d2 ?d3 ?_)
   (try case d1=>simp)
   case d2=>(first | (simp;done) | (simp;omega) | omega)
   case d3=>exact EP (show (ap (decide (node / W % H+1<H)) (node+W) (ap (decide (node % W+1<W)) (node+1) (ap (decide (0<node % W)) (node - 1) (ap (decide (0<node / W % H)) (node - W) (ap c1 (node - W*H) []))))).length<=5 from b8) (by omega)
   intro v' wb E D _;have G:=zh ((z.out.alloc _).app E D);clear E D
   go_wp2_with fail
   go_meet
   case rel=>exact G.out.cast (ap_t (by rfl) _ _)
  ·skip
   go_wp2_with fail
   go_meet
   case rel=>exact z.out.cast (ap_f (by rfl) _ _)
 case rest=>
 have z:=hcut;clear hcut;have U:zb w1 wc:=z.out.ext;have d5:(ap c2 (node+W*H) (ap (decide (node / W % H+1<H)) (node+W) (ap (decide (node % W+1<W)) (node+1) (ap (decide (0<node % W)) (node - 1) (ap (decide (0<node / W % H)) (node - W) (ap c1 (node - W*H) [])))))).length<=6:=EP (ap_len _ _ _) (Nat.succ_le_succ b8);obtain ⟨wp,rfl⟩:∃wp:World,wp=wc:=⟨_,rfl⟩
 go_wp2_with fail
 go_ret;refine ⟨_,rfl,BI b1.out z.out.ext (EN _),?_⟩;exact next_fin (z.out.own.mono b1.out.size) (next_eq ⟨W,H,L,fr,up,ts⟩ node c1 c2 V.out Z.out)
end
section
open Go.RowKit
attribute [local go_sem ↓] Go.wp_at_zero Go.wp_at_succ
theorem Tryz.infoBool:(Tryz.prog.info? 4).map (fun i=>(i.zero,i.size,i.bytes))=some (some (.bool false),1,1):=by kernel_rfl
def memF (s:List Int) (i:Nat):Value:=.bool (decide ((i:Int)∈s))
open Classical in
noncomputable def Cz (m:MZ) (t:Nat) (from_ used:List Int):List Int:=((List.range m.n.toNat).map Int.ofNat).filter (fun x=>decide (RP m t from_ used x))
theorem reachL_of {m:MZ} {t:Nat} {s:List Int} (h:∀x,x∈s↔RP m t from_ used x):((List.range m.n.toNat).map Int.ofNat).filter (fun x=>decide (x∈s))=Cz m t from_ used:=by
 unfold Cz;apply List.filter_congr;intro x _;rw [decide_eq_decide];exact h x
theorem Cw {m:MZ} (d:EF m) {t:Nat}:x∈Cz m t from_ used↔RP m t from_ used x:=by
 unfold Cz;simp only [zab,zac,zad,EX];constructor
 ·rintro ⟨_,h⟩;exact h
 ·intro h;have z:=h.range d;exact ⟨⟨x.toNat,by omega,by simp;omega⟩,h⟩
section
variable {w1 wr w':World} {gi gt n:Nat} {s tk todo:List Int} {v:Value}
theorem memF_more {s:List Int} {n:Nat} (h:¬ (0<=x/\x<n)) (z:j<n):memF s j=memF (s++[x]) j:=by
 unfold memF;congr 1;rw [decide_eq_decide,FE,Fv];constructor
 ·exact .inl
 ·rintro (h1 | h1)
  ·exact h1
  ·omega
theorem memF_set {s:List Int} (h:0<=x) (j:Nat):(if j=x.toNat then Value.bool true else memF s j)=memF (s++[x]) j:=by
 unfold memF;by_cases z:j=x.toNat
 ·rw [if_pos z];congr 1;symm;rw [EX,FE,Fv]
  right;omega
 ·rw [if_neg z];congr 1;rw [decide_eq_decide,FE,Fv];constructor
  ·exact .inl
  ·rintro (h1 | h1)
   ·exact h1
   ·omega
end
theorem Cv {w w1:World} {g:Nat} {a0:Value} (D:g<w1.heap.size) (m0:w1.cell? ⟨g,0,none⟩=some a0) (m1:w1.cell? ⟨g,1,none⟩=some a1) (m2:w1.cell? ⟨g,2,none⟩=some a2) (m3:w1.cell? ⟨g,3,none⟩=some a3) (m4:w1.cell? ⟨g,4,none⟩=some a4) (m5:w1.cell? ⟨g,5,none⟩=some a5) (z:Hid (Below w.heap.size w w1)):
  w1.drew.cell? ⟨g,0,none⟩=some a0/\w1.drew.cell? ⟨g,1,none⟩=some a1/\w1.drew.cell? ⟨g,2,none⟩=some a2/\w1.drew.cell? ⟨g,3,none⟩=some a3/\w1.drew.cell? ⟨g,4,none⟩=some a4/\w1.drew.cell? ⟨g,5,none⟩=some a5/\Hid (Below w.heap.size w w1.drew):=
 ⟨m0,m1,m2,m3,m4,m5,Below.drew z.out⟩
theorem held6 {w w1:World} {g:Nat} {a0:Value} (D:g<w1.heap.size)
  (h:w1.drew.cell? ⟨g,0,none⟩=some a0/\w1.drew.cell? ⟨g,1,none⟩=some a1/\w1.drew.cell? ⟨g,2,none⟩=some a2/\w1.drew.cell? ⟨g,3,none⟩=some a3/\w1.drew.cell? ⟨g,4,none⟩=some a4/\w1.drew.cell? ⟨g,5,none⟩=some a5/\Hid (Below w.heap.size w w1.drew)) (z:Below w1.drew.heap.size w1.drew w2):
  w2.cell? ⟨g,0,none⟩=some a0/\w2.cell? ⟨g,1,none⟩=some a1/\w2.cell? ⟨g,2,none⟩=some a2/\w2.cell? ⟨g,3,none⟩=some a3/\w2.cell? ⟨g,4,none⟩=some a4/\w2.cell? ⟨g,5,none⟩=some a5/\Hid (Below w.heap.size w w2):=by
 obtain ⟨m0,m1,m2,m3,m4,m5,h⟩:=h;exact ⟨(z.cell D).trans m0,(z.cell D).trans m1,(z.cell D).trans m2,(z.cell D).trans m3,(z.cell D).trans m4,(z.cell D).trans m5,BI h.out z (EN _)⟩
theorem CE {w1:World} {v:Value} (h:w1.cell? p=some v) (z:Below w1.heap.size w1 w2):w2.cell? p=some v:=(z.cell (zp h)).trans h
theorem held_and {A B A' B':Prop} (h:A/\B) (f:A->A') (g:B->B'):A'/\B':=⟨f h.1,g h.2⟩
theorem drewn_below {a w':World} (h:Below a.drew.heap.size a.drew w'):Below a.heap.size a w':=((Below.refl a.heap.size a).drew).trans h
structure CQ (w wr:World) (a0 a1 a2 a3 a4 a5:Value):Prop where
 below:Below w.heap.size w wr
 m0:wr.cell? ⟨w.heap.size,0,none⟩=some a0
 m1:wr.cell? ⟨w.heap.size,1,none⟩=some a1
 m2:wr.cell? ⟨w.heap.size,2,none⟩=some a2
 m3:wr.cell? ⟨w.heap.size,3,none⟩=some a3
 m4:wr.cell? ⟨w.heap.size,4,none⟩=some a4
 m5:wr.cell? ⟨w.heap.size,5,none⟩=some a5
theorem Cm {ok:Nat->Prop} {v:Value} {m:MZ} (w:World) (hm:zt w ok v m) (hl:Lens m):
  Calls Tryz.prog 50 #[v] w fun e w'=>e=.returned (.int .i64 (AY m))/\Below w.heap.size w w':=by
 have j4:=hm;obtain ⟨vfr,vup,vts,rfl,j1,j8,j7⟩:=hm;obtain ⟨vsf,⟨Af,cf,rfl,i3,f6⟩,e9⟩:=j1;obtain ⟨Au,cu,rfl,k9,j5⟩:=j8;obtain ⟨vst,⟨At,ct,rfl,i4,f7⟩,f0⟩:=j7;obtain ⟨l1,l2,l3,l4⟩:=hl;have d8:=zh f6;clear f6;have d5:=zh e9;clear e9;have g9:=zh f7;clear f7;have g4:=zh f0;clear f0;have g7:=zh l4;clear l4;clear j5 j4
 go_enter Tryz.func50,Tryz.ntmps50
 by_cases hs:[m.w,m.h,m.l].any side=true
 ·have HC:=zh (chk_side hs)
  have h6:(m.w<1)\/(¬ m.w<1/\m.h<1)\/(¬ m.w<1/\¬ m.h<1/\m.l<1)\/(¬ m.w<1/\¬ m.h<1/\¬ m.l<1/\300<m.w)\/(¬ m.w<1/\¬ m.h<1/\¬ m.l<1/\¬ 300<m.w/\300<m.h)\/(¬ m.w<1/\¬ m.h<1/\¬ m.l<1/\¬ 300<m.w/\¬ 300<m.h/\300<m.l):=by
   simp [side] at hs;omega
  clear hs;rcases h6 with h | ⟨h1,h⟩ | ⟨h1,h2,h⟩ | ⟨h1,h2,h3,h⟩ | ⟨h1,h2,h3,h4,h⟩ | ⟨h1,h2,h3,h4,h5,h⟩
  all_goals go_wp2
  all_goals go_ret
  all_goals exact ⟨Bb HC.out.symm,(Below.refl _ _).alloc (EN _) _⟩
 have b3:[m.w,m.h,m.l].any side=false:=by simpa using hs
 clear hs;obtain ⟨⟨p1,p2⟩,p3,p4⟩:=sides_mul b3;obtain ⟨⟨a1,a2⟩,⟨b1,b2⟩,c1,c2⟩:=sides b3;have HN:=zh b3;clear b3
 have a7:300<m.n\/6<m.tasks.length->AY m=2:=by
  intro h;unfold AY;rw [if_neg (by rw [HN.out];simp),if_pos h]
 have d7:=zh a7;clear a7
 go_wp2_with fail
 refine (AA _ _ _ _ _ _ _ (by omega) (by omega)).mono ?_;rintro e w' ⟨rfl,hb⟩;have b8:zg (w.alloc (.cells #[.int .i64 m.w,.int .i64 m.h,.int .i64 m.l,.slice Af m.free.length cf,.slice Au m.up.length cu,.slice At m.tasks.length ct] 32)) w.heap.size 32 _:=FB _ _;have b9:zg w' w.heap.size 32 _:=b8.below hb (zd b8);have e6:Below w.heap.size w w':=BI ((Below.refl _ _).alloc (EN _) _) hb (by simp);clear b8 hb;obtain ⟨m0,m1,m2,m3,m4,m5⟩:=zn b9;have g3:=zh b9;clear b9;have Hb1:=zh e6;clear e6;by_cases Z:300<m.w*m.h*m.l
 ·go_wp2;go_ret;exact ⟨Bb (d7.out (.inl Z)).symm,Hb1.out⟩
 by_cases ht:6<m.tasks.length
 ·go_wp2;go_ret;exact ⟨Bb (d7.out (.inr ht)).symm,Hb1.out⟩
 have a6:(m.free.length≠m.tasks.length\/(m.up.length:Int)≠m.n\/m.free.any (fun f=>(f.length:Int) != m.n)=true)->AY m=1:=by
  intro h;unfold AY;rw [if_neg (by rw [HN.out];simp),if_neg (by unfold MZ.n;omega),if_pos h]
 have b6:=zh a6;clear a6;by_cases hf:m.free.length=m.tasks.length
 case neg=>
  have i6:decide ((m.free.length:Int)=(m.tasks.length:Int))=false:=by simp;omega
  have i7:((m.free.length:Int) != (m.tasks.length:Int))=true:=by simp;omega
  have i8:decide (m.free.length=m.tasks.length)=false:=by simp;omega
  have i9:(m.free.length != m.tasks.length)=true:=by simp;omega
  go_wp2_with fail
  go_quiet (fail)
  go_wp2;go_ret;exact ⟨Bb (b6.out (.inl hf)).symm,Df Hb1.out _⟩
 have i6:decide ((m.free.length:Int)=(m.tasks.length:Int))=true:=by simp;omega
 have i7:((m.free.length:Int) != (m.tasks.length:Int))=false:=by simp;omega
 have i8:decide (m.free.length=m.tasks.length)=true:=by simp;omega
 have i9:(m.free.length != m.tasks.length)=false:=by simp;omega
 have HF:=zh hf;clear hf;have z:w.heap.size<w'.heap.size:=zd g3.out
 go_wp2_with fail
 go_region_held3 (fun w'=>w'.cell? ⟨w.heap.size,0,none⟩=some (.int .i64 m.w)/\w'.cell? ⟨w.heap.size,1,none⟩=some (.int .i64 m.h)/\w'.cell? ⟨w.heap.size,2,none⟩=some (.int .i64 m.l)/\w'.cell? ⟨w.heap.size,3,none⟩=some (.slice Af m.free.length cf)/\w'.cell? ⟨w.heap.size,4,none⟩=some (.slice Au m.up.length cu)/\w'.cell? ⟨w.heap.size,5,none⟩=some (.slice At m.tasks.length ct)/\Hid (Below w.heap.size w w'))
  (first | exact Cv z m0 m1 m2 m3 m4 m5 Hb1 | exact held6 z (by assumption) D)
  ((go_at_call 47;refine (AA _ _ _ _ _ _ _ (by omega) (by omega)).mono ?_;rintro e w9 ⟨rfl,D⟩))
 rename_i hS
 obtain ⟨m0,m1,m2,m3,m4,m5,O⟩:=hS;have hI:=zh (CQ.mk O.out m0 m1 m2 m3 m4 m5);by_cases hu:(m.up.length:Int)=m.w*m.h*m.l
 case neg=>
  go_wp2;go_ret;exact ⟨Bb (b6.out (.inr (.inl hu))).symm,O.out⟩
 clear m0 m1 m2 m3 m4 m5 D O z;have HU:=zh hu
 go_wp2_with fail
 rename ((m.up.length:Int) != m.w*m.h*m.l)=false=>hq
 clear hu hq;have e0:Bn w ok (.slice Af m.free.length cf) m.free:=⟨vsf,⟨Af,cf,rfl,i3,d8.out⟩,d5.out⟩;have k5:=zh e0;clear e0;go_loopw [3] (fun i wr=>∃k:Nat,k<=m.free.length/\i=.int .i64 k/\Hid ((m.free.take k).any (fun f=>(f.length:Int) != m.n)=false)/\Hid (CQ w wr (.int .i64 m.w) (.int .i64 m.h) (.int .i64 m.l) (.slice Af m.free.length cf) (.slice Au m.up.length cu) (.slice At m.tasks.length ct))) (fun i _=>m.free.length - (intOf i).toNat)
 case atStart=>exact ⟨0,by omega,rfl,by simp [Hid],hI⟩
 clear hI
 case round=>
  obtain ⟨k,hk,rfl,Z,hI⟩:=hrel;obtain ⟨Hb1,m0,m1,m2,m3,m4,m5⟩:=hI;have Hb1:=zh Hb1;have z:=zp m0;by_cases J:k<m.free.length
  ·obtain ⟨b,off,u,rfl,_,G,hu⟩:=zO (d8.out.keep (Ao.of_below Hb1.out)) d5.out J J;obtain ⟨x,L⟩:=zak (m.free[k]);rw [<-L] at hu;obtain ⟨Ax,cx,rfl,l5,_⟩:=hu;have E:=zh (BD (fun f=>(f.length:Int) != m.n) J);rw [<-L] at E;have HM:=zh (show x∈m.free by rw [L];exact EO _);clear L
   go_wp2_with fail
   go_region_held3 (fun w'=>(w'.cell? ⟨w.heap.size,0,none⟩=some (.int .i64 m.w)/\w'.cell? ⟨w.heap.size,1,none⟩=some (.int .i64 m.h)/\w'.cell? ⟨w.heap.size,2,none⟩=some (.int .i64 m.l)/\w'.cell? ⟨w.heap.size,3,none⟩=some (.slice (some ⟨b,off,none⟩) m.free.length cf)/\w'.cell? ⟨w.heap.size,4,none⟩=some (.slice Au m.up.length cu)/\w'.cell? ⟨w.heap.size,5,none⟩=some (.slice At m.tasks.length ct)/\Hid (Below w.heap.size w w'))/\w'.cell? ⟨b,off+k,none⟩=some (.slice Ax x.length cx))
    (first | exact ⟨Cv z m0 m1 m2 m3 m4 m5 Hb1,G⟩ | exact held_and (by assumption) (fun h=>held6 z h D) (fun h=>CE h D))
    ((go_at_call 47;refine (AA _ _ _ _ _ _ _ (by omega) (by omega)).mono ?_;rintro e w9 ⟨rfl,D⟩))
   rename_i hS
   obtain ⟨⟨m0,m1,m2,m3,m4,m5,O⟩,_⟩:=hS;have hI:=zh (CQ.mk O.out m0 m1 m2 m3 m4 m5);clear D O;by_cases L:(x.length:Int)=m.w*m.h*m.l
   ·have HX:=zh L;go_wp2;clear L;go_roundw
    case rel=>exact ⟨k+1,by omega,by go_num,by
     show _=false;rw [E.out,Z.out];show (false || ((x.length:Int) != m.w*m.h*m.l))=false;rw [HX.out];simp,hI⟩
    case measure=>simp [intOf];omega
   ·have HX:=zh L;go_wp2;go_ret
    exact ⟨Bb (b6.out (.inr (.inr (zaf.2 ⟨x,HM.out,by
     show ((x.length:Int) != m.w*m.h*m.l)=true;simpa using HX.out⟩)))).symm,hI.out.below⟩
  ·obtain rfl:k=m.free.length:=by omega
   have ha:m.free.any (fun f=>(f.length:Int) != m.n)=false:=by have h:=Z.out;rwa [EY] at h
   have HA:=zh ha;clear ha Z;have hI:=zh (CQ.mk Hb1.out m0 m1 m2 m3 m4 m5);have e3:BX w ok (.slice At m.tasks.length ct) m.tasks:=⟨vst,⟨At,ct,rfl,i4,g9.out⟩,g4.out⟩;have h8:=zh e3;clear e3
   go_wp2_with fail
   clear m0 m1 m2 m3 m4 m5 Hb1 z;go_loopw [4] (fun i wr=>∃k:Nat,k<=m.tasks.length/\i=.int .i64 k/\Hid ((m.tasks.take k).any (fun t=>t.1.any (Ag m.n) || t.2.any (Ag m.n))=false)/\Hid (CQ w wr (.int .i64 m.w) (.int .i64 m.h) (.int .i64 m.l) (.slice Af m.free.length cf) (.slice Au m.up.length cu) (.slice At m.tasks.length ct))) (fun i _=>m.tasks.length - (intOf i).toNat)
   case atStart=>exact ⟨0,by omega,rfl,by simp [Hid],hI⟩
   clear hI
   case round=>
    obtain ⟨k,hk,rfl,Z,hI⟩:=hrel;obtain ⟨Hb1,m0,m1,m2,m3,m4,m5⟩:=hI;have Hb1:=zh Hb1;have z:=zp m0;by_cases J:k<m.tasks.length
    ·obtain ⟨b,off,sn,u1,u2,rfl,_,i2,U,V,c4,c5⟩:=AO (h8.out.below Hb1.out) J;obtain ⟨t,a9⟩:=zak (m.tasks[k]);rw [<-a9] at c4 c5;obtain ⟨j2,j3⟩:=g7.out _ (EO J);rw [<-a9] at j2 j3;have g5:=zh c4;clear c4;have g6:=zh c5;clear c5;have E:=zh (BD (fun t=>t.1.any (Ag m.n) || t.2.any (Ag m.n)) J);rw [<-a9] at E;have HM:=zh (show t∈m.tasks by rw [a9];exact EO _);clear a9
     have b5:∀x,x∈[]++t.1++t.2->Ag m.n x=true->AY m=50:=by
      intro x L h
      have ht:(t.1.any (Ag m.n) || t.2.any (Ag m.n))=true:=by
       rw [<-List.any_append];exact zaf.2 ⟨x,by simpa using L,h⟩
      unfold AY;rw [if_neg (by rw [HN.out];simp),if_neg (by unfold MZ.n;omega),if_neg (by rw [HA.out,HF.out,HU.out];simp [MZ.n]),if_pos (zaf.2 ⟨t,HM.out,ht⟩)]
     have T:=zh b5;clear b5
     go_wp2_with fail
     have i0:w.heap.size<=wr.heap.size:=Hb1.out.size
     go_region_held3 (fun w'=>(w'.cell? ⟨w.heap.size,0,none⟩=some (.int .i64 m.w)/\w'.cell? ⟨w.heap.size,1,none⟩=some (.int .i64 m.h)/\w'.cell? ⟨w.heap.size,2,none⟩=some (.int .i64 m.l)/\w'.cell? ⟨w.heap.size,3,none⟩=some (.slice Af m.free.length cf)/\w'.cell? ⟨w.heap.size,4,none⟩=some (.slice Au m.up.length cu)/\w'.cell? ⟨w.heap.size,5,none⟩=some (.slice (some ⟨b,off,none⟩) m.tasks.length ct)/\Hid (Below w.heap.size w w'))/\w'.cell? ⟨b,off+k*3+1,none⟩=some u1/\w'.cell? ⟨b,off+k*3+2,none⟩=some u2)
      (first | (exact ⟨Cv z m0 m1 m2 m3 m4 m5 Hb1,U,V⟩) | (exact ⟨held6 z (Cv z m0 m1 m2 m3 m4 m5 Hb1) b0,CE (w1:=wr.drew) U b0,CE (w1:=wr.drew) V b0⟩) | (exact ⟨held6 z (Cv z m0 m1 m2 m3 m4 m5 Hb1) I,CE (w1:=wr.drew) U I,CE (w1:=wr.drew) V I⟩) | (exact ⟨held6 z (Cv z m0 m1 m2 m3 m4 m5 Hb1) ((Below.refl _ _).alloc (EN _) _),CE (w1:=wr.drew) U ((Below.refl _ _).alloc (EN _) _),CE (w1:=wr.drew) V ((Below.refl _ _).alloc (EN _) _)⟩))
      (first | (refine Bl (ok:=ok) (by rfl) _ _ _ (by rfl) wr.heap.size [] t.1 _ _ (by rfl) (by rfl) (Dr wr.drew wr.heap.size (EN _)) (g5.out.keep (Ao.of_below (w:=wr) ((Below.drew (Below.refl _ _)).alloc (EN _) _))) (by simp) (by simp;omega) ?_;intro v1 w1 c7 f1 e4;have I:Below wr.drew.heap.size wr.drew w1:=(Ae ((Below.refl _ _).alloc (EN _) _) f1 (by simp) (fun k hk=>Bq (Dr wr.drew wr.heap.size (EN _)) hk))) | (refine Bl (ok:=ok) (by rfl) _ _ _ (by rfl) wr.heap.size ([]++t.1) t.2 _ _ (by rfl) (by rfl) c7 (g6.out.keep (Ao.of_below (w:=wr.drew) I)) I.size (by simp;omega) ?_;intro v2 w2 f5 f2 e5;have b0:Below wr.drew.heap.size wr.drew w2:=(Ae I f2 I.size (fun k hk=>Bq c7 hk))))
     rename_i hS
     obtain ⟨⟨m0,m1,m2,m3,m4,m5,O⟩,_,_⟩:=hS;have hI:=zh (CQ.mk O.out m0 m1 m2 m3 m4 m5);have d6:=zh (f5.mono i0:zA w2 w.heap.size v2 ([]++t.1++t.2));clear I b0 f1 e4 c7 f5 f2 e5 i2 U V m0 m1 m2 m3 m4 m5 O z Hb1;obtain ⟨all,M⟩:=zak ([]++t.1++t.2);rw [<-M] at d6 T;have l7:all.length<=800000000000:=by rw [M];simp;omega
     have d4:=zh M;clear M;obtain ⟨Av,cv,rfl,l0,f8⟩:=zV.of_own d6.out;have h7:=zh f8;clear f8
     go_wp2_with fail
     go_loopw [6] (fun i wi=>∃j:Nat,j<=all.length/\i=.int .i64 j/\Hid ((all.take j).any (Ag m.n)=false)/\Hid (Below w2.heap.size w2 wi)/\Hid (CQ w wi (.int .i64 m.w) (.int .i64 m.h) (.int .i64 m.l) (.slice Af m.free.length cf) (.slice Au m.up.length cu) (.slice (some ⟨b,off,none⟩) m.tasks.length ct))) (fun i _=>all.length - (intOf i).toNat)
     case atStart=>exact ⟨0,by omega,rfl,by simp [Hid],Below.refl _ _,hI⟩
     clear hI
     case round=>
      obtain ⟨j,hj,rfl,f4,e7,hI⟩:=hrel;obtain ⟨wi,rfl⟩:∃wi:World,wi=wr:=⟨_,rfl⟩;obtain ⟨Hb1,m0,m1,m2,m3,m4,m5⟩:=hI;have Hb1:=zh Hb1;have z:=zp m0;by_cases c6:j<all.length
      ·obtain ⟨bv,ov,rfl,_,G⟩:=zy (h7.out.keep (Ao.of_below e7.out)) c6 c6;obtain ⟨x,L⟩:=zak (all[j]);rw [<-L] at G;have a8:=zh (BD (Ag m.n) c6);rw [<-L] at a8;have d9:=zh (show x∈all by rw [L];exact EO _);clear L;by_cases b4:x<0
       ·have hd:decide (x<0)=true:=by simpa using b4
        go_wp2_with fail
        go_quiet (fail)
        go_wp2;go_ret;exact ⟨Bb (T.out x d9.out (by unfold Ag;rw [hd];rfl)).symm,Df Hb1.out _⟩
       ·have hd:decide (x<0)=false:=by simpa using b4
        go_wp2_with fail
        go_region_held3 (fun w'=>(w'.cell? ⟨w.heap.size,0,none⟩=some (.int .i64 m.w)/\w'.cell? ⟨w.heap.size,1,none⟩=some (.int .i64 m.h)/\w'.cell? ⟨w.heap.size,2,none⟩=some (.int .i64 m.l)/\w'.cell? ⟨w.heap.size,3,none⟩=some (.slice Af m.free.length cf)/\w'.cell? ⟨w.heap.size,4,none⟩=some (.slice Au m.up.length cu)/\w'.cell? ⟨w.heap.size,5,none⟩=some (.slice (some ⟨b,off,none⟩) m.tasks.length ct)/\Hid (Below w.heap.size w w'))/\w'.cell? ⟨bv,ov+j,none⟩=some (.int .i64 x))
         (first | exact ⟨Cv z m0 m1 m2 m3 m4 m5 Hb1,G⟩ | exact held_and (by assumption) (fun h=>held6 z h D) (fun h=>CE h D))
         ((go_at_call 47;refine (AA _ _ _ _ _ _ _ (by omega) (by omega)).mono ?_;rintro e w9 ⟨rfl,D⟩))
        rename_i hS
        obtain ⟨⟨m0,m1,m2,m3,m4,m5,O⟩,_⟩:=hS;have hI:=zh (CQ.mk O.out m0 m1 m2 m3 m4 m5);have e8:Hid (Below w2.heap.size w2 w9):=BI e7.out (drewn_below D) (EN _);clear D O;by_cases c8:x<m.w*m.h*m.l
        ·have HX:=zh c8;have h9:=zh b4;go_wp2;clear c8 b4 hd;go_roundw
         case rel=>exact ⟨j+1,by omega,by go_num,by
          show _=false;rw [a8.out,f4.out];have h1:¬ m.w*m.h*m.l<=x:=by have:=HX.out;omega
          have h2:¬ x<0:=by have:=h9.out;omega
          show (false || (decide (x<0) || decide (m.w*m.h*m.l<=x)))=false;rw [ER h1,ER h2];rfl,e8,hI⟩
         case measure=>simp [intOf];omega
        ·have HX:=zh c8;go_wp2;go_ret
         exact ⟨Bb (T.out x d9.out (by
          have h1:m.w*m.h*m.l<=x:=by have:=HX.out;omega
          show (decide (x<0) || decide (m.w*m.h*m.l<=x))=true;rw [EQ h1,Bool.or_true])).symm,hI.out.below⟩
      ·obtain rfl:j=all.length:=by omega
       go_wp2;go_roundw
       case rel=>exact ⟨k+1,by omega,by go_num,by
        show _=false;have h:=f4.out;rw [EY,d4.out,List.nil_append,List.any_append] at h;rw [E.out,Z.out];exact h,⟨Hb1.out,m0,m1,m2,m3,m4,m5⟩⟩
       case measure=>simp [intOf];omega
    ·obtain rfl:k=m.tasks.length:=by omega
     go_wp2;go_ret;refine ⟨Bb ?_,Hb1.out⟩;have Z:=Z.out;rw [EY] at Z;unfold AY;rw [if_neg (by rw [HN.out];simp),if_neg (by unfold MZ.n;omega),if_neg (by rw [HA.out,HF.out,HU.out];simp [MZ.n]),if_neg (by rw [Z];simp)]
structure zI (m:MZ):Prop where
 dim:EF m
 fl:m.free.length=m.tasks.length
 fn:∀f∈m.free,(f.length:Int)=m.n
 tk:m.tasks.length<=6
 tn:∀t∈m.tasks,∀x,x∈t.1\/x∈t.2->0<=x/\x<m.n
theorem zI.of {m:MZ} (h:AY m=0):zI m:=by
 unfold AY at h
 split at h
 ·cases h
 ·rename_i h1
  have D:[m.w,m.h,m.l].any side=false:=by simpa using h1
  obtain ⟨⟨a1,a2⟩,⟨b1,b2⟩,c1,c2⟩:=sides D
  split at h
  ·cases h
  ·rename_i h2
   split at h
   ·cases h
   ·rename_i h3
    split at h
    ·cases h
    ·rename_i L
     have z:m.n<=300/\m.tasks.length<=6:=by omega
     have E:m.free.length=m.tasks.length:=by
      by_cases h:m.free.length=m.tasks.length
      ·exact h
      ·exact absurd (.inl h) h3
     have G:(m.up.length:Int)=m.n:=by
      by_cases h:(m.up.length:Int)=m.n
      ·exact h
      ·exact absurd (.inr (.inl h)) h3
     have I:∀f∈m.free,(f.length:Int)=m.n:=by
      intro f M;by_cases h:(f.length:Int)=m.n
      ·exact h
      ·exact absurd (.inr (.inr (zaf.2 ⟨f,M,by simpa using h⟩))) h3
     refine ⟨⟨a1,a2,b1,b2,c1,c2,z.1,G⟩,E,I,z.2,fun t O x hx=>?_⟩;by_cases J:Ag m.n x=true
     ·exfalso
      apply L;refine zaf.2 ⟨t,O,?_⟩;rw [zae];rcases hx with hx | hx
      ·exact .inl (zaf.2 ⟨x,hx,J⟩)
      ·exact .inr (zaf.2 ⟨x,hx,J⟩)
     ·simp [Ag] at J;omega
theorem zI.n1 {m:MZ} (g:zI m):1<=m.w*m.h*m.l:=by have:=g.dim.layer;omega
def BC (m:MZ) (node:Int):List Int:=if AY m=0/\0<=node/\node<m.n then zm m node else []
open Classical in
noncomputable def reachO (m:MZ) (t:Int) (from_ used:List Int):List Int:=if AY m=0/\0<=t/\t<m.tasks.length then Cz m t.toNat from_ used else []
theorem rNext_calls {ok:Nat->Prop} {v:Value} {m:MZ} (node:Int) (w:World) (hm:zt w ok v m) (hl:Lens m):
  Calls Tryz.prog 26 #[v,.int .i64 node] w fun e w'=>∃v',e=.returned v'/\Mk w w' v' (BC m node):=by
 have T:=hm;obtain ⟨vfr,vup,vts,rfl,a7,_,a8⟩:=hm;obtain ⟨vst,⟨At,ct,rfl,b2,_⟩,_⟩:=a8;have L:=zh T;clear T;have HL:=zh hl;obtain ⟨l1,l2,l3,l4⟩:=hl;clear l4 a7
 go_enter Tryz.func26,Tryz.ntmps26
 go_wp2_with fail
 generalize I:w.alloc (.cells #[.int .i64 m.w,.int .i64 m.h,.int .i64 m.l,vfr,vup,.slice At m.tasks.length ct] 32)=w1;have z:zb w w1:=by rw [<-I];exact (zb.refl w).alloc _
 have O:zg w1 w.heap.size 32 #[.int .i64 m.w,.int .i64 m.h,.int .i64 m.l,vfr,vup,.slice At m.tasks.length ct]:=by rw [<-I];exact FB _ _
 clear I;obtain ⟨m0,m1,m2,m3,m4,m5⟩:=zn O;have r0:=zb.rule m0;have r1:=zb.rule m1;have r2:=zb.rule m2;have r3:=zb.rule m3;have r4:=zb.rule m4;have r5:=zb.rule m5;clear m0 m1 m2 m3 m4 m5 O;have ra:=Ah w1;have hx:zb w1 w1:=zb.refl w1
 go_wp2_with fail
 refine (BO w1 (L.out.below z) HL.out).mono ?_;rintro e wA ⟨rfl,Z⟩;have J:zb w1 wA:=Z;clear hx;by_cases E:AY m=0
 case neg=>
  have hd:(AY m != 0)=true:=by simpa using E
  have V:=zh E;clear E;go_wp2;go_ret;exact ⟨_,rfl,(z.trans J).mono_mk (Mk.cast (Mk.nil _) (by unfold BC;rw [if_neg (fun h=>V.out h.1)]))⟩
 have hd:(AY m != 0)=false:=by simpa using E
 have G:=zh (zI.of E);have V:=zh E;clear E;obtain ⟨b4,b5⟩:=G.out.dim.layer;have b6:=G.out.dim.n1;by_cases h0:0<=node
 case neg=>
  go_wp2;go_ret;exact ⟨_,rfl,(z.trans J).mono_mk (Mk.cast (Mk.nil _) (by unfold BC;rw [if_neg (fun h=>by have:=h.2.1;omega)]))⟩
 go_wp2_with fail
 refine (AN _ _ _ _ _ _ _ (by omega) (by omega)).mono ?_;rintro e wB ⟨rfl,a6⟩;have D:zb w1 wB:=J.trans a6;by_cases h1:node<m.w*m.h*m.l
 case neg=>
  go_wp2;go_ret;exact ⟨_,rfl,(z.trans D).mono_mk (Mk.cast (Mk.nil _) (by unfold BC;rw [if_neg (fun h=>by have:=h.2.2;unfold MZ.n at this;omega)]))⟩
 go_wp2_with fail
 refine (DC m node _ (L.out.below (z.trans D)) G.out.dim h0 h1).mono ?_;rintro e wC ⟨v',rfl,M,U⟩;have HM:Hid (Mk wB wC v' (zm m node)):=⟨U,M⟩;clear U;have b8:zb w1 wC:=D.trans M
 go_wp2_with fail
 go_ret;exact ⟨_,rfl,(z.trans D).mono_mk (HM.out.cast (by unfold BC;rw [if_pos ⟨V.out,h0,h1⟩]))⟩
theorem EA {ok:Nat->Prop} {v:Value} {m:MZ} (node:Int) (w:World) (hm:zt w ok v m) (hl:Lens m):
  Calls Tryz.prog 53 #[v,.int .i64 node] w fun e w'=>∃v',e=.returned v'/\Mk w w' v' (BC m node):=by
 have T:=hm;obtain ⟨vfr,vup,vts,rfl,a7,_,a8⟩:=hm;obtain ⟨vst,⟨At,ct,rfl,b2,_⟩,_⟩:=a8;have L:=zh T;clear T;have HL:=zh hl;obtain ⟨l1,l2,l3,l4⟩:=hl;clear l4 a7
 go_enter Tryz.func53,Tryz.ntmps53
 go_wp2_with fail
 generalize I:w.alloc (.cells #[.int .i64 m.w,.int .i64 m.h,.int .i64 m.l,vfr,vup,.slice At m.tasks.length ct] 32)=w1;have z:zb w w1:=by rw [<-I];exact (zb.refl w).alloc _
 have O:zg w1 w.heap.size 32 #[.int .i64 m.w,.int .i64 m.h,.int .i64 m.l,vfr,vup,.slice At m.tasks.length ct]:=by rw [<-I];exact FB _ _
 clear I;obtain ⟨m0,m1,m2,m3,m4,m5⟩:=zn O;have r0:=zb.rule m0;have r1:=zb.rule m1;have r2:=zb.rule m2;have r3:=zb.rule m3;have r4:=zb.rule m4;have r5:=zb.rule m5;clear m0 m1 m2 m3 m4 m5 O;have ra:=Ah w1;have hx:zb w1 w1:=zb.refl w1
 go_wp2_with fail
 refine (Cm w1 (L.out.below z) HL.out).mono ?_;rintro e wA ⟨rfl,Z⟩;have J:zb w1 wA:=Z;clear hx;by_cases E:AY m=0
 case neg=>
  have hd:(AY m != 0)=true:=by simpa using E
  have V:=zh E;clear E;go_wp2;go_ret;exact ⟨_,rfl,(z.trans J).mono_mk (Mk.cast (Mk.nil _) (by unfold BC;rw [if_neg (fun h=>V.out h.1)]))⟩
 have hd:(AY m != 0)=false:=by simpa using E
 have G:=zh (zI.of E);have V:=zh E;clear E;obtain ⟨b4,b5⟩:=G.out.dim.layer;have b6:=G.out.dim.n1;by_cases h0:0<=node
 case neg=>
  go_wp2;go_ret;exact ⟨_,rfl,(z.trans J).mono_mk (Mk.cast (Mk.nil _) (by unfold BC;rw [if_neg (fun h=>by have:=h.2.1;omega)]))⟩
 go_wp2_with fail
 refine (AA _ _ _ _ _ _ _ (by omega) (by omega)).mono ?_;rintro e wB ⟨rfl,a6⟩;have D:zb w1 wB:=J.trans a6;by_cases h1:node<m.w*m.h*m.l
 case neg=>
  go_wp2;go_ret;exact ⟨_,rfl,(z.trans D).mono_mk (Mk.cast (Mk.nil _) (by unfold BC;rw [if_neg (fun h=>by have:=h.2.2;unfold MZ.n at this;omega)]))⟩
 go_wp2_with fail
 refine (DK m node _ (L.out.below (z.trans D)) G.out.dim h0 h1).mono ?_;rintro e wC ⟨v',rfl,M,U⟩;have HM:Hid (Mk wB wC v' (zm m node)):=⟨U,M⟩;clear U;have b8:zb w1 wC:=D.trans M
 go_wp2_with fail
 go_ret;exact ⟨_,rfl,(z.trans D).mono_mk (HM.out.cast (by unfold BC;rw [if_pos ⟨V.out,h0,h1⟩]))⟩
theorem rReach_calls {ok ok1 ok2:Nat->Prop} {v vf vu:Value} {m:MZ} (t:Int) (w:World) (hm:zt w ok v m) (hl:Lens m) (hf:zi w ok1 vf from_) (d8:from_.length<=20000000000000) (hu:zi w ok2 vu used) (e0:used.length<=20000000000000):
  Calls Tryz.prog 25 #[v,.int .i64 t,vf,vu] w fun e w'=>∃v',e=.returned v'/\Mk w w' v' (reachO m t from_ used):=by
 have b7:=hm;obtain ⟨vfr,vup,vts,rfl,d6,_,e4⟩:=hm;obtain ⟨vst,⟨At,ct,rfl,g0,_⟩,_⟩:=e4;have a9:=zh b7;clear b7;have HL:=zh hl;obtain ⟨l1,l2,l3,l4⟩:=hl;clear l4 d6;have HF:=zh hf;clear hf;have HU:=zh hu;clear hu
 go_enter Tryz.func25,Tryz.ntmps25
 go_wp2_with fail
 generalize a8:w.alloc (.cells #[.int .i64 m.w,.int .i64 m.h,.int .i64 m.l,vfr,vup,.slice At m.tasks.length ct] 32)=w1;have D:zb w w1:=by rw [<-a8];exact (zb.refl w).alloc _
 have b3:zg w1 w.heap.size 32 #[.int .i64 m.w,.int .i64 m.h,.int .i64 m.l,vfr,vup,.slice At m.tasks.length ct]:=by rw [<-a8];exact FB _ _
 clear a8;obtain ⟨m0,m1,m2,m3,m4,m5⟩:=zn b3;have r0:=zb.rule m0;have r1:=zb.rule m1;have r2:=zb.rule m2;have r3:=zb.rule m3;have r4:=zb.rule m4;have r5:=zb.rule m5;clear m0 m1 m2 m3 m4 m5 b3;have ra:=Ah w1;have hx:zb w1 w1:=zb.refl w1
 go_wp2_with fail
 refine (BO w1 (a9.out.below D) HL.out).mono ?_;rintro e wA ⟨rfl,d4⟩;have z:zb w1 wA:=d4;clear hx;by_cases hc:AY m=0
 case neg=>
  have hd:(AY m != 0)=true:=by simpa using hc
  have HC:=zh hc;clear hc;go_wp2;go_ret;exact ⟨_,rfl,(D.trans z).mono_mk (Mk.cast (Mk.nil _) (by unfold reachO;rw [if_neg (fun h=>HC.out h.1)]))⟩
 have hd:(AY m != 0)=false:=by simpa using hc
 have G:=zh (zI.of hc);have HC:=zh hc;clear hc;obtain ⟨g5,g6⟩:=G.out.dim.layer;have g7:=G.out.dim.n1;by_cases h0:0<=t
 case neg=>
  go_wp2;go_ret;exact ⟨_,rfl,(D.trans z).mono_mk (Mk.cast (Mk.nil _) (by unfold reachO;rw [if_neg (fun h=>by have:=h.2.1;omega)]))⟩
 by_cases h1:t<m.tasks.length
 case neg=>
  have f7:(m.tasks.length:Int)<=t:=by omega
  go_wp2;go_ret;exact ⟨_,rfl,(D.trans z).mono_mk (Mk.cast (Mk.nil _) (by unfold reachO;rw [if_neg (fun h=>by have:=h.2.2;omega)]))⟩
 obtain ⟨tn,rfl⟩:∃tn:Nat,t=tn:=⟨t.toNat,by omega⟩;have e3:tn<m.free.length:=by have:=G.out.fl;omega
 have f1:tn<m.tasks.length:=by omega
 go_wp2_with fail
 have g9:=zh z
 go_region_held3 (fun w'=>zb w1 w'/\zb wA w')
  (first | (exact DR z) | (exact held_ext (DR z) I) | (exact held_ext (held_ext (DR z) I) b1))
  (first | ((go_at_call 60;refine (setOf_calls _ (HU.out.keep (Ao.of_below (D.trans z.drew))) e0).mono ?_;rintro e w8 ⟨s8,rfl,I,b9,L⟩)) | ((go_at_call 59;refine (reach_calls tn _ (a9.out.keep (Ao.of_below (D.trans (z.drew.trans I)))) G.out.dim e3 G.out.fn (HF.out.keep (Ao.of_below (D.trans (z.drew.trans I)))) d8 b9).mono ?_;rintro e w9 ⟨s9,rfl,b1,c0,U⟩)))
 rename_i hS
 have e5:=hS.1;have O:=zh c0;clear c0;have hE:=zh (reachL_of (used:=used) (fun x=>(U x).trans ⟨fun h=>h.congr (fun _=>Iff.rfl) L,fun h=>h.congr (fun _=>Iff.rfl) (fun y=>(L y).symm)⟩));clear U;have b4:w8.heap.size+1<w9.heap.size:=zd O.out;obtain ⟨gs,J⟩:∃gs,gs=w8.heap.size+1:=⟨_,rfl⟩;rw [<-J] at O b4;have HG:=zh J;clear I b9 L hS
 go_wp2_with fail
 rw [<-HG.out];clear J b1;refine (AN _ _ _ _ _ _ _ (by omega) (by omega)).mono ?_;rintro e wB ⟨rfl,a6⟩;have e6:zb w1 wB:=e5.trans a6;have c7:=zh (O.out.below a6);clear O b4 a6;obtain ⟨N,hN⟩:∃N:Nat,m.w*m.h*m.l=(N:Int):=⟨(m.w*m.h*m.l).toNat,by omega⟩;have HN:=zh hN;clear hN;have f9:N<=300:=by have h:=HN.out;have:=G.out.dim.n1;omega
 have b0:=zh (Mk.nil wB);rw [HN.out]
 go_wp2_with fail
 go_loopw [9,34] (fun v i wr=>∃k:Nat,k<=N/\i=.int .i64 (k:Nat)/\Hid (Mk wB wr v (((List.range k).map Int.ofNat).filter (fun x=>decide (x∈s9))))) (fun _ i _=>N - (intOf i).toNat)
 case atStart=>exact ⟨0,by omega,rfl,b0⟩
 clear b0
 case round=>
  obtain ⟨j,hj,rfl,Z⟩:=hrel;by_cases g4:j<N
  ·have M:((List.range (j+1)).map Int.ofNat).filter (fun x=>decide (x∈s9))=((List.range j).map Int.ofNat).filter (fun x=>decide (x∈s9))++[(j:Int)].filter (fun x=>decide (x∈s9)):=by
    rw [List.range_succ,FG,FC];rfl
   have HS:=zh M;clear M;have T:=c7.out.below Z.out.ext;by_cases E:(j:Int)∈s9
   ·have d9:=look_t T E;have V:=zh E;clear E;have b5:(((List.range j).map Int.ofNat).filter (fun x=>decide (x∈s9))).length<=j:=EP (Fr _ _) (by simp);obtain ⟨lj,b6⟩:=zak (((List.range j).map Int.ofNat).filter (fun x=>decide (x∈s9)));rw [<-b6] at Z b5 HS;clear b6;have h4:=Z.out.ext.size
    go_wp2_with (at_builtin;refine AP rfl _ _ rfl _ lj (j:Int) wB.heap.size wr.heap.size 1 _ rfl rfl (Z.out.own.alloc _) ?d1 ?d2 ?d3 ?_)
    (try case d1=>exact zr _ _ _ (by simp))
    case d2=>(first | (simp;done) | (simp;omega) | omega)
    case d3=>omega
    intro v' wb b8 b2 d5;have c8:=zh ((Z.out.alloc _).app b8 b2);clear b8 b2 d5;go_wp2;go_roundw
    case rel=>exact ⟨j+1,by omega,by go_num,by rw [HS.out,FJ (by simpa using V.out)];exact c8⟩
    case measure=>simp [intOf];omega
   ·have d9:=look_f T E;have V:=zh E;clear E;go_wp2;go_roundw
    case rel=>exact ⟨j+1,by omega,by go_num,by rw [HS.out,Fw (by simpa using V.out),List.filter_nil,List.append_nil];exact Z⟩
    case measure=>simp [intOf];omega
  ·have d7:j=N:=by omega
   subst d7
   go_wp2_with fail
   go_ret;refine ⟨_,rfl,(D.trans e6).mono_mk (Z.out.cast ?_)⟩;have c9:m.n.toNat=j:=by have:m.n=(j:Int):=HN.out;omega
   unfold reachO;rw [if_pos ⟨HC.out,by omega,by omega⟩,FF,<-hE.out,c9]
def stCells (m:MZ) (f u t vc vp:Value) (gu:Nat):Array Value:=#[.int .i64 m.w,.int .i64 m.h,.int .i64 m.l,f,u,t,vc,vp,.map (some gu)]
structure BM (w:World) (ok:Nat->Prop) (g:Nat) (m:MZ) (ch:List Int) (ps:List (List Int)) (us:List Int) (f u t vc vp:Value) (gu:Nat):Prop where
 blk:zg w g 100 (stCells m f u t vc vp gu)
 okg:ok g
 maze:zt w ok (.agg #[.int .i64 m.w,.int .i64 m.h,.int .i64 m.l,f,u,t]) m
 ch:zi w ok vc ch
 ps:zq w ok vp ps
 oku:ok gu
 us:zD w gu us
def Dt (w:World) (ok:Nat->Prop) (v:Value) (m:MZ) (ch:List Int) (ps:List (List Int)) (us:List Int):Prop:=
 ∃g f u t vc vp gu,v=.pointer (some ⟨g,0,none⟩)/\BM w ok g m ch ps us f u t vc vp gu
section
variable {w w':World} {ok ok':Nat->Prop} {v f u t vc vp:Value} {m:MZ} {ch us:List Int} {ps:List (List Int)} {g gu:Nat}
theorem BM.keep (h:BM w ok g m ch ps us f u t vc vp gu) (z:Ao ok w w'):BM w' ok g m ch ps us f u t vc vp gu:=
 ⟨(z g h.okg (zd h.blk)).trans h.blk,h.okg,h.maze.keep z,h.ch.keep z,h.ps.keep z,h.oku,h.us.keep z h.oku⟩
theorem BM.weaken (h:BM w ok g m ch ps us f u t vc vp gu) (z:∀b,ok b->ok' b):BM w ok' g m ch ps us f u t vc vp gu:=
 ⟨h.blk,z _ h.okg,h.maze.weaken z,h.ch.weaken z,h.ps.weaken z,z _ h.oku,h.us⟩
theorem Dt.keep (h:Dt w ok v m ch ps us) (z:Ao ok w w'):Dt w' ok v m ch ps us:=by
 obtain ⟨g,f,u,t,vc,vp,gu,e,h⟩:=h;exact ⟨g,f,u,t,vc,vp,gu,e,h.keep z⟩
theorem Dt.weaken (h:Dt w ok v m ch ps us) (z:∀b,ok b->ok' b):Dt w ok' v m ch ps us:=by
 obtain ⟨g,f,u,t,vc,vp,gu,e,h⟩:=h;exact ⟨g,f,u,t,vc,vp,gu,e,h.weaken z⟩
theorem Dt.below (h:Dt w ok v m ch ps us) (z:Below w.heap.size w w'):Dt w' ok v m ch ps us:=h.keep (Ao.of_below z)
theorem BM.ext (h:BM w ok g m ch ps us f u t vc vp gu) (z:zb w w'):BM w' ok g m ch ps us f u t vc vp gu:=h.keep (Ao.of_below z)
theorem BM.rules (h:BM w ok g m ch ps us f u t vc vp gu):
  (∀W,zb w W->W.cell? ⟨g,0,none⟩=some (.int .i64 m.w))/\(∀W,zb w W->W.cell? ⟨g,1,none⟩=some (.int .i64 m.h))/\(∀W,zb w W->W.cell? ⟨g,2,none⟩=some (.int .i64 m.l))/\
  (∀W,zb w W->W.cell? ⟨g,3,none⟩=some f)/\(∀W,zb w W->W.cell? ⟨g,4,none⟩=some u)/\(∀W,zb w W->W.cell? ⟨g,5,none⟩=some t)/\
  (∀W,zb w W->W.cell? ⟨g,6,none⟩=some vc)/\(∀W,zb w W->W.cell? ⟨g,7,none⟩=some vp)/\(∀W,zb w W->W.cell? ⟨g,8,none⟩=some (.map (some gu))):=by
 have D:=h.blk;unfold zg stCells at D
 have z:∀k x,(#[Value.int .i64 m.w,.int .i64 m.h,.int .i64 m.l,f,u,t,vc,vp,.map (some gu)]:Array Value)[k]?=some x->w.cell? ⟨g,k,none⟩=some x:=by
  intro k x E;unfold World.cell?;simp only [D];exact E
 exact ⟨zb.rule (z 0 _ rfl),zb.rule (z 1 _ rfl),zb.rule (z 2 _ rfl),zb.rule (z 3 _ rfl),zb.rule (z 4 _ rfl),zb.rule (z 5 _ rfl),zb.rule (z 6 _ rfl),zb.rule (z 7 _ rfl),zb.rule (z 8 _ rfl)⟩
end
structure SOk (m:MZ) (ch:List Int) (ps:List (List Int)):Prop where
 good:zI m
 lens:Lens m
 pl:ps.length<=m.tasks.length
 pn:0<m.tasks.length->0<ps.length
 pp:∀p∈ps,p.length<=1000
 pr:∀p∈ps,∀x∈p,0<=x/\x<m.n
 cl:ch.length<=1000
def finB (m:MZ) (ps:List (List Int)):Bool:=
 match (ps.getD (ps.length - 1) []).getLast? with
 | none=>false
 | some x=>decide (x∈(m.tasks.getD (ps.length - 1) ([],[])).2)
def cmpB (m:MZ) (ps:List (List Int)):Bool:=decide (m.tasks.length=0) || (decide (ps.length=m.tasks.length) && finB m ps)
theorem DA {w:World}:zb w w.drew:=(zb.refl w).drew
theorem Bv {ok:Nat->Prop} {m:MZ} {ch us:List Int} {ps:List (List Int)} {g gu:Nat} {f u t vc vp:Value} (w:World) (h:BM w ok g m ch ps us f u t vc vp gu) (D:ps.length<=20000000000000):
  Calls Tryz.prog 103 #[.pointer (some ⟨g,0,none⟩)] w fun e w'=>e=.returned (.int .i64 ((ps.length:Int) - 1))/\w=w':=by
 obtain ⟨r0,r1,r2,r3,r4,r5,r6,r7,r8⟩:=h.rules;obtain ⟨vs,⟨Ap,cp,rfl,z,_⟩,_⟩:=h.ps;clear h;have E:=zb.refl w
 go_enter Tryz.func103,Tryz.ntmps103
 go_wp2;go_ret;exact ⟨rfl,rfl⟩
theorem Eu {ok:Nat->Prop} {m:MZ} {ch us:List Int} {ps:List (List Int)} {g gu:Nat} {f u t vc vp:Value} (w:World) (h:BM w ok g m ch ps us f u t vc vp gu) (so:SOk m ch ps) (hp:0<ps.length):
  Calls Tryz.prog 87 #[.pointer (some ⟨g,0,none⟩)] w fun e w'=>e=.returned (.bool (finB m ps))/\zM w w':=by
 obtain ⟨r0,r1,r2,r3,r4,r5,r6,r7,r8⟩:=h.rules;have d6:=h.ps;have d5:=h.maze;have HS:=zh h;clear h;obtain ⟨vs,⟨Ap,cp,rfl,e4,b8⟩,b0⟩:=d6;obtain ⟨fr',up',ts',he,_,_,a7⟩:=d5;injection he with he;injection he with he;simp only [List.cons.injEq,and_true,true_and] at he;obtain ⟨rfl,rfl,rfl⟩:=he;have d8:=a7;obtain ⟨vst,⟨At,ct,rfl,e5,_⟩,_⟩:=d8;have hk:ps.length - 1<ps.length:=by omega
 obtain ⟨b,off,up,rfl,_,E,c0⟩:=zO b8 b0 hk hk;have G:ps.length - 1<m.tasks.length:=by have:=so.pl;omega
 obtain ⟨bt,offt,sn,u1,u2,rfl,_,c9,a8,V,b1,Z⟩:=AO a7 G;have b9:=so.lens;have e8:=so.pl;have f4:=so.good.tk;have M:=so.pp _ (EO hk);have b5:=(b9.tl _ (EO G)).2;clear b9 b8 b0 a7
 have D:finB m ps=match (ps[ps.length - 1]).getLast? with | none=>false | some x=>decide (x∈(m.tasks[ps.length - 1]).2):=by
  unfold finB;simp [hk,G]
 obtain ⟨p,b6⟩:=zak (ps[ps.length - 1]);obtain ⟨tk,T⟩:=zak (m.tasks[ps.length - 1]);rw [<-b6] at c0 M D;rw [<-T] at b1 Z b5 D;clear b6 T b1;have c7:=zh Z;clear Z;have HF:=zh D;clear D;obtain ⟨Aq,cq,rfl,J,a6⟩:=c0;obtain ⟨k,b4⟩:∃k,ps.length - 1=k:=⟨_,rfl⟩;rw [b4] at E a8 V G;have b3:(ps.length:Int) - 1=(k:Int):=by omega
 have U:=zh b3;clear b3;have e7:(k:Int)<(ps.length:Int):=by omega
 have e6:(0:Int)<=(k:Int):=by omega
 have e0:(k:Int)<(m.tasks.length:Int):=by omega
 have rp:=zb.rule E;have rt:=zb.rule V;clear E c9 a8 V b4 hk G;have hx:=zb.refl w;rcases List.eq_nil_or_concat p with rfl | ⟨q,x,rfl⟩
 ·have hz:([]:List Int).length=0:=rfl;rw [hz] at J
  go_enter Tryz.func87,Tryz.ntmps87
  go_wp2_with fail
  go_quiet ((go_at_call 103;refine (Bv _ (HS.out.ext ((zb.refl w).drewN _)) (by omega)).mono ?_;rintro e w9 ⟨z,rfl⟩;rw [U.out] at z;exact ⟨z,⟨_,rfl⟩⟩))
  go_wp2_with fail
  go_quiet (fail)
  go_wp2;go_ret;exact ⟨zf (by rw [HF.out];rfl),(zM.refl w).more _ |>.more _⟩
 ·rw [List.concat_eq_append] at a6 M J HF;have b7:(q++[x]).length=q.length+1:=by simp
  rw [b7] at J M
  have L:∃bq offq,Aq=some ⟨bq,offq,none⟩/\w.cell? ⟨bq,offq+q.length,none⟩=some (.int .i64 x):=by
   obtain ⟨bq,offq,e,_,hc⟩:=zy a6 (k:=q.length) (by omega) (by omega);exact ⟨bq,offq,e,by rw [hc];simp⟩
  obtain ⟨bq,offq,rfl,L⟩:=L;have rx:=zb.rule L;clear L a6;have I:(q++[x]).getLast?=some x:=by simp
  rw [I] at HF;have O:(q.concat x).length=q.length+1:=by simp
  rw [O] at rp;clear I b7 O;generalize q.length=n at*;obtain ⟨N,hN⟩:=zak (n+1);rw [<-hN] at rp J M;have e9:(0:Int)<=(n:Int):=by omega
  have f0:(n:Int)<(N:Int):=by omega
  have d7:(N:Int) - 1=(n:Int):=by omega
  have f1:(0:Int)<(N:Int):=by omega
  have f2:0<N:=by omega
  have f3:IntKind.i64.wrap ((N:Int) - 1)=(n:Int):=by rw [Fi];omega
  clear hN d7
  go_enter Tryz.func87,Tryz.ntmps87
  go_wp2_with fail
  go_quiet ((go_at_call 103;refine (Bv _ (HS.out.ext ((zb.refl w).drewN _)) (by omega)).mono ?_;rintro e w9 ⟨z,rfl⟩;rw [U.out] at z;exact ⟨z,⟨_,rfl⟩⟩))
  generalize c4:w.drewN nq=w1;have a9:zM w w1:=⟨nq,c4.symm⟩;have c5:zb w w1:=a9.below _;clear c4
  go_wp2_with fail
  go_quiet (first | ((go_at_call 103;refine (Bv _ (HS.out.ext (c5.drewN _)) (by omega)).mono ?_;rintro e w9 ⟨z,rfl⟩;rw [U.out] at z;exact ⟨z,⟨_,rfl⟩⟩)) | ((go_at_call 42;refine (zE x _ (c7.out.below (c5.drewN _)) (by omega)).mono ?_;rintro e w8 ⟨d4,rfl⟩;exact ⟨d4,⟨_,rfl⟩⟩)))
  go_wp2;go_ret;exact ⟨zf (by rw [HF.out]),a9.more _⟩
theorem CL {ok:Nat->Prop} {m:MZ} {ch us:List Int} {ps:List (List Int)} {g gu:Nat} {f u t vc vp:Value} (w:World) (h:BM w ok g m ch ps us f u t vc vp gu) (so:SOk m ch ps):
  Calls Tryz.prog 64 #[.pointer (some ⟨g,0,none⟩)] w fun e w'=>e=.returned (.bool (cmpB m ps))/\zM w w':=by
 obtain ⟨r0,r1,r2,r3,r4,r5,r6,r7,r8⟩:=h.rules;have b0:=h.ps;have a9:=h.maze;have HS:=zh h;clear h;obtain ⟨vs,⟨Ap,cp,rfl,O,b1⟩,a8⟩:=b0;obtain ⟨fr',up',ts',he,_,_,b3⟩:=a9;injection he with he;injection he with he;simp only [List.cons.injEq,and_true,true_and] at he;obtain ⟨rfl,rfl,rfl⟩:=he;obtain ⟨vst,⟨At,ct,rfl,U,_⟩,_⟩:=b3;have I:=so.pl;have E:=so.pn;have b2:=so.good.tk;have SO:=zh so;clear so;clear b1 a8;have hx:=zb.refl w;obtain ⟨cb,D⟩:=zak (cmpB m ps);have z:=zh D;rw [<-D];clear D;unfold cmpB at z;obtain ⟨T,M⟩:=zak m.tasks.length;obtain ⟨Pn,L⟩:=zak ps.length;rw [<-M] at r5 U z I E b2;rw [<-L] at r7 O z I E;have HT:=zh M;clear M;have HP:=zh L;clear L;by_cases h0:T=0
 ·have G:Hid (cb=true):=by have:=z.out;rw [EQ h0] at this;simpa [Hid] using this
  have V:decide ((T:Int)=0)=true:=EQ (by omega);have Z:((T:Int)==0)=true:=by rw [beq_iff_eq];omega
  clear h0 E
  go_enter Tryz.func64,Tryz.ntmps64
  go_wp2_with fail
  go_quiet (fail)
  go_wp2;go_ret;exact ⟨zf G.out.symm,(zM.refl w).more _⟩
 ·have V:decide ((T:Int)=0)=false:=ER (by omega);have Z:((T:Int)==0)=false:=by rw [Fa];omega
  by_cases h1:Pn=T
  ·have G:Hid (cb=finB m ps):=by have:=z.out;rw [ER h0,EQ h1] at this;simpa [Hid] using this
   have J:Hid (0<ps.length):=(by have:=HP.out;omega:0<ps.length);subst h1;have a6:((Pn:Int)==(Pn:Int))=true:=by rw [beq_iff_eq]
   clear h0
   go_enter Tryz.func64,Tryz.ntmps64
   go_wp2_with fail
   go_quiet ((go_at_call 87;refine (Eu _ (HS.out.ext ((zb.refl w).drewN _)) SO.out J.out).mono ?_;rintro e w9 ⟨a7,nd,rfl⟩;exact ⟨a7,⟨_,World.drewN_drewN _ _ _⟩⟩))
   go_wp2;go_ret;exact ⟨zf G.out.symm,(zM.refl w).more _⟩
  ·have G:Hid (cb=false):=by have:=z.out;rw [ER h0,ER h1] at this;simpa [Hid] using this
   have b6:decide ((Pn:Int)=(T:Int))=false:=ER (by omega);have a6:((Pn:Int)==(T:Int))=false:=by rw [Fa];omega
   clear h1 h0
   go_enter Tryz.func64,Tryz.ntmps64
   go_wp2_with fail
   go_quiet (fail)
   go_wp2;go_ret;exact ⟨zf G.out.symm,(zM.refl w).more _⟩
theorem Tryz.infoInts:(Tryz.prog.info? 23).map (fun i=>(i.zero,i.size,i.bytes))=some (some (.slice none 0 0),1,24):=by kernel_rfl
def Cf (w:World) (B:Nat) (v:Value) (vs:List Value):Prop:=w.ownsRow B 23 1 v vs.length vs
theorem CO {w:World} {ok:Nat->Prop} {v:Value} (h:zi w ok v l):v.oneCell'=true:=by
 obtain ⟨A,c,rfl,_⟩:=h;rfl
theorem BH {ok:Nat->Prop} {ops:Array Oper} {rest:List Oper} {Q:Exit->Act->World->Prop} (E:o.guard=none) (W:World) (s x:Operand)
  (T:o.op=.call { callee:=.builtin .append,args:=#[s,x],argTypes:=#[22,22] }) (base:Nat) (l l2:List Value) (v u:Value) (V:a.eval s=v) (hx:a.eval x=u)
  (D:Cf W base v l) (Z:zV W ok 1 u l2.length l2) (h1:∀u∈l2,u.oneCell'=true) (z:base<=W.heap.size) (hl:l.length+l2.length<=1000000000000)
  (h:∀v' w',Cf w' base v' (l++l2)->Hid (W.grownBy w' v.ownBlock)->Hid (v'.ownBlock=v.ownBlock\/v'.ownBlock=some W.heap.size)->wpList Tryz.prog ops Q rest (a.put o.dst v') w'):wpList Tryz.prog ops Q (o :: rest) a W:=by
 refine wpList_plain E fun K M=>?_
 obtain ⟨i0,O,G,I,J⟩:=info_parts Tryz.infoInts;obtain ⟨v',w',U,h2,h3,L⟩:=EC (ok:=ok) W base 22 o.type 23 i0 (.slice none 0 0) 24 Tryz.underlying22 O G I J rfl v _ _ D u _ _ Z h1 (by unfold maxLen;omega) (by omega) z;unfold Oper.wp execOp;simp only [T,resolve,invoke,builtin,Sem.run_bind,Sem.run_pure,Result.andThen_ok,List.map_toArray,List.map_cons,List.map_nil,V,hx,U];refine M _ _ (h v' w' ?_ h3 L);unfold Cf;rw [EV];exact h2
theorem slice_own {g n:Nat} (h:(Value.slice (some ⟨g,0,none⟩) n c).ownBlock=some k):g<=k:=by
 have h:some g=some k:=h;injection h with h;omega
theorem own_emptyL (W:World) (B:Nat) (z:B<=W.heap.size):Cf (W.alloc (.cells #[] 23)) B (.slice (some ⟨W.heap.size,0,none⟩) 0 0) []:=
 ⟨rfl,.inr ⟨W.heap.size,0,#[],rfl,z,FB W _,EN _,by decide,rfl,rfl⟩⟩
theorem nilEq (t e:TypeId) (z:Tryz.prog.underlying t=some (.slice e)):∀(w:World) (a:Option Addr) (n c n' c':Nat),(binOp .eql t (.slice a n c) (.slice none n' c')).run Tryz.prog w=.ok (.bool a.isNone) w:=fun w a n c n' c'=>Lib.run_eql_slice_nil w _ _ a n c n' c' z
theorem Eb {ok:Nat->Prop} {v:Value} (w:World) (h:zi w ok v l) (O:l.length<=100000000000):
  Calls Tryz.prog 46 #[v] w fun e w'=>∃v',e=.returned v'/\Mk w w' v' l:=by
 have H:=zh h;have G:=nilEq 23 3 Tryz.underlying23;obtain ⟨A,c,rfl,M,D⟩:=h;rcases A with _ | a
 ·have z:l=[]:=by
   rcases Fz l.length with h | h
   ·exact Fe h
   ·obtain ⟨b,off,e,_⟩:=D.2 h;cases e
  subst z;clear D
  go_enter Tryz.func46,Tryz.ntmps46
  go_wp2_with fail
  go_ret;exact ⟨_,rfl,Mk.nil _⟩
 ·clear D;have T:=zb.refl w
  go_enter Tryz.func46,Tryz.ntmps46
  go_wp2_with (at_builtin;refine BV (ok:=ok) rfl _ _ _ rfl w.heap.size [] l _ _ rfl rfl (Dr w w.heap.size (EN _)) (H.out.below ((zb.refl w).alloc _)) ?d1 ?d2 ?_)
  case d1=>simp
  case d2=>simp;omega
  intro v' w1 I E _;have J:Hid (Mk w w1 v' l):=⟨I,Ae ((zb.refl w).alloc _) E (by simp) (fun k L=>slice_own L)⟩;clear I E
  go_wp2_with fail
  go_ret;exact ⟨_,rfl,J.out⟩
theorem cloneL_calls {ok:Nat->Prop} {v:Value} {vs:List Value} (w:World) (h:zV w ok 1 v vs.length vs) (h1:∀u∈vs,u.oneCell'=true) (U:vs.length<=100000000000):
  Calls Tryz.prog 108 #[v] w fun e w'=>∃v',e=.returned v'/\zb w w'/\Cf w' w.heap.size v' vs:=by
 have H:=zh h;have J:=zh h1;clear h1;have G:=nilEq 22 23 Tryz.underlying22;obtain ⟨A,c,rfl,T,D⟩:=h;rcases A with _ | a
 ·have z:vs=[]:=by
   rcases Fz vs.length with h | h
   ·exact Fe h
   ·obtain ⟨b,off,e,_⟩:=D.2 h;cases e
  subst z;clear D
  go_enter Tryz.func108,Tryz.ntmps108
  go_wp2_with fail
  go_ret;exact ⟨_,rfl,zb.refl _,World.ownsRow_nil _ _ _ _⟩
 ·clear D;have V:=zb.refl w
  go_enter Tryz.func108,Tryz.ntmps108
  go_wp2_with (at_builtin;refine BH (ok:=ok) rfl _ _ _ rfl w.heap.size [] vs _ _ rfl rfl (own_emptyL w w.heap.size (EN _)) (H.out.below ((zb.refl w).alloc _)) J.out ?d1 ?d2 ?_)
  case d1=>simp
  case d2=>simp;omega
  intro v' w1 I E _;have M:zb w w1:=Ae ((zb.refl w).alloc _) E (by simp) (fun k O=>slice_own O);have L:=zh I;clear I E
  go_wp2_with fail
  go_ret;exact ⟨_,rfl,M,L.out⟩
def ps0 (m:MZ):List (List Int):=if m.tasks.length=0 then [] else [[]]
theorem zg.set {w:World} {g:Nat} {t:TypeId} (h:zg w g t cs) (v:Value):zg (w.setCell ⟨g,k,none⟩ v) g t (cs.setIfInBounds k v):=by
 unfold zg at h⊢;simp [World.setCell,Array.getElem?_modify,h]
theorem zg.setOther {w:World} {g:Nat} {t:TypeId} (h:zg w g t cs) {a:Addr} (z:g≠a.block) (v:Value):zg (w.setCell a v) g t cs:=
 (EW w a v g z).trans h
theorem zg.ext {w w':World} {g:Nat} {t:TypeId} (h:zg w g t cs) (z:zb w w'):zg w' g t cs:=(z.block g (zd h)).trans h
theorem zg.cell {w:World} {g k:Nat} {t:TypeId} {cs:Array Value} {v:Value} (h:zg w g t cs) (z:cs[k]?=some v):w.cell? ⟨g,k,none⟩=some v:=by
 unfold zg at h;unfold World.cell?;simp only [h];exact z
theorem zg.frozen {w:World} {g:Nat} {t:TypeId} {cs:Array Value} (h:zg w g t cs) (k:Nat):w.frozen? ⟨g,k,none⟩=false:=by
 unfold zg at h;unfold World.frozen?;simp [h]
theorem zg.new (w:World) (cs:Array Value) (t:TypeId) {g:Nat} (z:g=w.heap.size):zg (w.alloc (.cells cs t)) g t cs:=by
 subst z;exact FB _ _
theorem BM.make {ok ok':Nat->Prop} {w:World} {g gu:Nat} {m:MZ} {ch us:List Int} {ps:List (List Int)} {f u t vc vp:Value} (I:zb w W) (hm:zt w ok (.agg #[.int .i64 m.w,.int .i64 m.h,.int .i64 m.l,f,u,t]) m)
  (M:∀b,ok b->ok' b) (J:zg W g 100 (stCells m f u t vc vp gu)) (L:ok' g) (z:zi W ok' vc ch) (E:zq W ok' vp ps) (D:ok' gu) (G:zD W gu us):BM W ok' g m ch ps us f u t vc vp gu:=
 ⟨J,L,(hm.below I).weaken M,z,E,D,G⟩
theorem zq.nil (w:World) (ok:Nat->Prop):zq w ok (.slice none 0 0) []:=⟨[],⟨none,0,rfl,EN _,zN.nil _ _ _ _⟩,by simp⟩
theorem zN.block {w:World} {ok:Nat->Prop} {g:Nat} {t:TypeId} (h:zg w g t cs) (z:ok g) {n:Nat} (D:cs.size=n):zN w ok 1 (some ⟨g,0,none⟩) n cs.toList:=
 ⟨by simp [D],fun _=>⟨g,0,rfl,z,fun j u E=>by rw [Nat.zero_add];exact h.cell (by simpa using E)⟩⟩
theorem begin_calls {ok:Nat->Prop} {v:Value} {m:MZ} (w:World) (hm:zt w ok v m) (hl:m.tasks.length<=100000):
  Calls Tryz.prog 83 #[v] w fun e w'=>∃v',e=.returned v'/\zb w w'/\Dt w' (fun b=>ok b\/w.heap.size<=b) v' m [] (ps0 m) []:=by
 have D:=hm;obtain ⟨vfr,vup,vts,rfl,_,_,a8⟩:=hm;obtain ⟨vst,⟨At,ct,rfl,b2,_⟩,_⟩:=a8;have b3:=@run_makeMap Tryz.prog;by_cases h0:m.tasks.length=0
 ·have z:ps0 m=[]:=by unfold ps0;rw [if_pos h0]
  rw [h0] at D;have G:=zh D;clear D;have T:=zh z;clear z
  go_enter Tryz.func83,Tryz.ntmps83
  go_wp2_with fail
  go_ret;rw [T.out];have E:zb w (w.alloc (.cells #[.int .i64 m.w,.int .i64 m.h,.int .i64 m.l,vfr,vup,.slice At 0 ct] 32)):=(zb.refl w).alloc _;refine ⟨_,rfl,(E.alloc _).alloc _,w.heap.size+2,_,_,_,_,_,w.heap.size+1,rfl,BM.make ((E.alloc _).alloc _) G.out (fun _ h=>.inl h) (zg.new _ _ _ (by simp)) (.inr (by omega)) (zi.nil _ _) (zq.nil _ _) (.inr (by omega)) ?_⟩
  have h1:zD ((w.alloc (.cells #[.int .i64 m.w,.int .i64 m.h,.int .i64 m.l,vfr,vup,.slice At 0 ct] 32)).alloc (.map #[] 0)) (w.heap.size+1) []:=by
   have:=zD.new (w.alloc (.cells #[.int .i64 m.w,.int .i64 m.h,.int .i64 m.l,vfr,vup,.slice At 0 ct] 32));simpa using this
  exact h1.below ((zb.refl _).alloc _)
 ·have z:ps0 m=[[]]:=by unfold ps0;rw [if_neg h0]
  have G:=zh D;clear D;have T:=zh z;clear z
  go_enter Tryz.func83,Tryz.ntmps83
  go_wp2_with fail
  go_ret;rw [T.out];generalize M:w.alloc (.cells #[.int .i64 m.w,.int .i64 m.h,.int .i64 m.l,vfr,vup,.slice At m.tasks.length ct] 32)=w1;have E:zb w w1:=by rw [<-M];exact (zb.refl w).alloc _
  have O:w1.heap.size=w.heap.size+1:=by rw [<-M];simp
  have h1:zD (w1.alloc (.map #[] 0)) (w.heap.size+1) []:=by rw [<-O];exact zD.new w1
  have V:zb w (w1.alloc (.map #[] 0)):=E.alloc _;generalize a9:w1.alloc (.map #[] 0)=w2 at*;have b1:w2.heap.size=w.heap.size+2:=by rw [<-a9];simp [O]
  generalize I:w2.alloc (.cells #[.int .i64 m.w,.int .i64 m.h,.int .i64 m.l,vfr,vup,.slice At m.tasks.length ct,.slice none 0 0,.slice (some ⟨w.heap.size+1+1+1,0,none⟩) 1 1,.map (some (w.heap.size+1))] 100)=w3;have Z:zg w3 (w.heap.size+2) 100 (stCells m vfr vup (.slice At m.tasks.length ct) (.slice none 0 0) (.slice (some ⟨w.heap.size+3,0,none⟩) 1 1) (w.heap.size+1)):=by rw [<-I];exact zg.new _ _ _ (by omega)
  have b4:w3.heap.size=w.heap.size+3:=by rw [<-I];simp [b1]
  have U:zb w2 w3:=by rw [<-I];exact (zb.refl _).alloc _
  have J:=U.alloc (.cells #[.slice none 0 0] 23);have L:=V.trans J;have a6:=Z.alloc (.cells #[.slice none 0 0] 23);have a7:zg (w3.alloc (.cells #[.slice none 0 0] 23)) (w.heap.size+3) 23 #[.slice none 0 0]:=zg.new _ _ _ (by omega);refine ⟨_,rfl,L,w.heap.size+2,_,_,_,_,_,w.heap.size+1,rfl,BM.make L G.out (fun _ h=>.inl h) a6 (.inr (by omega)) (zi.nil _ _) ?_ (.inr (by omega)) (h1.below J)⟩
  ·exact ⟨[.slice none 0 0],⟨some ⟨w.heap.size+3,0,none⟩,1,rfl,EN _,zN.block a7 (.inr (by omega)) rfl⟩,fun i x hx=>by
    match i,hx with
    | 0,hx=>
     have:x=[]:=by simpa using hx.symm
     subst this;exact ⟨_,rfl,zi.nil _ _⟩⟩
end
section
open Go.RowKit Go.Shelf
attribute [local go_sem] Oper.semAt_some
theorem values1_in (F:Fence) (n:Nat) (h7:F.fn 128) (Z:F.round=none) (hn:1<=n) (l Bs n₀:Nat) (A:Option Addr) (cap:Nat) (zs:List Int) (a8:zs.length<=1000000000000) (J Jx:List Int->World->Prop)
  (hY:∀pre x W,J pre W->pre.length<zs.length->YieldAt F (n - 1) Tryz.prog l #[.int .i64 x] W fun e W'=>
   (e=.returned (.bool true)/\J (pre++[x]) W'/\Below n₀ W W')\/(e=.returned (.bool false)/\Jx (pre++[x]) W'))
  (W:World) (b3:W.cell? ⟨Bs,0,none⟩=some (.slice A zs.length cap)) (hc:∀(j:Nat) (hj:j<zs.length),∃b off,A=some ⟨b,off,none⟩/\b<n₀/\W.cell? ⟨b,off+j,none⟩=some (.int .i64 (zs[j]))) (h0:J [] W):
  CallsIn F n Tryz.prog 128 #[.func (.yield l) #[] #[],.pointer (some ⟨Bs,0,none⟩)] W fun e W'=>(∃v,e=.returned v)/\
   ((∃ys,ys=zs/\J ys W')\/(∃pre,pre <+: zs/\Jx pre W')):=by
 have HC:=zh hc;clear hc;refine callsIn_of_wp Tryz.func128 rfl h7 ?_ Z;simp only [Tryz.ntmps128,List.size_toArray,zai,zaj,Nat.reduceAdd,Nat.reduceSub,Array.replicate_succ,Array.replicate_zero,List.push_toArray,List.append_toArray,List.nil_append,List.cons_append]
 gi_wp2
 gi_loopw [7] (fun i wr=>∃k:Nat,k<=zs.length/\i=.int .i64 k/\Hid (J (zs.take k) wr)/\Hid (Below n₀ W wr))
  (fun i _=>zs.length - (intOf i).toNat)
 case atStart=>exact ⟨0,Fb _,rfl,h0,Below.refl _ _⟩
 case round=>
  obtain ⟨k,hk,rfl,L,T⟩:=hrel;by_cases O:k<zs.length
  ·obtain ⟨b,off,rfl,hb,D⟩:=HC.out k O;have V:wr.cell? ⟨b,off+k,none⟩=some (.int .i64 (zs[k])):=(T.out.cell (p:=⟨b,off+k,none⟩) hb).trans D;clear D;have G:=zh (EU O);obtain ⟨x,hx⟩:=zak (zs[k]);rw [<-hx] at V G;clear hx;obtain ⟨fn,tmps,assign,body,hy,hR⟩:=hY _ x wr L.out (by simp;omega);have HR:=zh hR;clear hR
   gi_wp2
   refine HR.out.mono ?_;rintro e W3 (⟨rfl,I,M⟩ | ⟨rfl,z⟩)
   ·have E:=zh I;clear I;have U:=zh M;clear M
    gi_wp2
    go_roundw
    case rel=>exact ⟨k+1,by omega,by go_num,by rw [G.out];exact E,T.out.trans U.out⟩
    case measure=>simp [intOf];omega
   ·have E:=zh z;clear z
    gi_wp2
    refine FK (results_none rfl _ _ _) rfl ?_;exact ⟨⟨_,rfl⟩,.inr ⟨_,List.take_prefix (k+1) zs,by rw [G.out];exact E.out⟩⟩
  ·obtain rfl:k=zs.length:=by omega
   gi_wp2
   go_end0
   exact ⟨⟨_,rfl⟩,.inl ⟨_,rfl,by have:=L.out;rwa [EY] at this⟩⟩
theorem values_stops {ok:Nat->Prop} {v:Value} (Bs n₀ n:Nat) (V:1<=n) (w:World) (G:Bs<w.heap.size) (hn₀:n₀<=w.heap.size) (U:w.cell? ⟨Bs,0,none⟩=some v) (h:zi w ok v l) (I:∀b,ok b->b<w.heap.size->b<n₀) (D:l.length<=1000000000000):
  SeqStopsK Fence.wide n Tryz.prog 128 #[.pointer (some ⟨Bs,0,none⟩)] (fun x:Int=>#[Value.int .i64 x]) (Below n₀) (fun ys=>ys=l) (fun pre=>pre <+: l) l.length w:=fun lb J Jx W hW _ _ O h0=>by
 obtain ⟨A,cap,rfl,L,Z⟩:=h;refine values1_in Fence.wide n trivial rfl V lb Bs n₀ A cap l D J Jx O W ((hW.cell (p:=⟨Bs,0,none⟩) G).trans U) (fun j M=>?_) h0;obtain ⟨b,off,e,T,z⟩:=zy Z M M;have E:=zp z;exact ⟨b,off,e,I b T E,(hW.cell (p:=⟨b,off+j,none⟩) E).trans z⟩
theorem zi.bound {w:World} {ok:Nat->Prop} {v:Value} (h:zi w ok v l):zi w (fun b=>ok b/\b<w.heap.size) v l:=by
 obtain ⟨A,c,e,I,J,z⟩:=h;refine ⟨A,c,e,I,J,fun E=>?_⟩;obtain ⟨b,off,e',G,D⟩:=z E;have h0:0<(l.map (Value.int .i64)).length:=by simpa using E
 exact ⟨b,off,e',⟨G,zp (D 0 _ (EL h0))⟩,D⟩
theorem appendSeq_calls {ok:Nat->Prop} {v:Value} (Bs:Nat) (w:World) (U:w.cell? ⟨Bs,0,none⟩=some v) (h:zi w ok v l) (O:l.length<=1000000000000):
  Calls Tryz.prog 133 #[.slice none 0 0,.func (.func 128) #[] #[.pointer (some ⟨Bs,0,none⟩)]] w fun e w'=>∃v',e=.returned v'/\Mk w w' v' l:=by
 refine (callsIn_wide (n:=6)).1 ?_;obtain ⟨i0,hi,a8,a9,b0⟩:=info_parts Tryz.infoInt;have HI:=zh h;clear h;have b2:=zp U;refine callsIn_of_wp_marks Tryz.func133 rfl trivial ?_ rfl;simp only [Tryz.ntmps133,List.size_toArray,zai,zaj,Nat.reduceAdd,Nat.reduceSub,Array.replicate_succ,Array.replicate_zero,List.push_toArray,List.append_toArray,List.nil_append,List.cons_append]
 gi_wp2
 have bO:=Boxed.new w 23 (.slice none 0 0);have J:Below w.heap.size w (w.alloc (.cells #[.slice none 0 0] 23)):=(Below.refl _ w).alloc (EN _) _
 refine wpIn_rangeFunc_ownG (F:=Fence.wide) rfl (by omega) (gf:=128) (lb:=#[.pointer (some ⟨Bs,0,none⟩)]) rfl trivial (enters_of Tryz.func128 (by kernel_rfl) rfl)
  (values_stops (ok:=fun b=>ok b/\b<w.heap.size) Bs w.heap.size _ (by omega) _ (by simp;omega) (by simp) ((zb.refl w).alloc _ |>.cell U) (HI.out.bound.below J) (fun b hb _=>hb.2) O) belowK_t (belowK_b (by simp)) (Below.refl _ _) (fun _=>rfl)
  (fun pre W=>(∃v,Boxed W w.heap.size 23 v/\W.ownsRow w.heap.size 3 1 v pre.length (pre.map (Value.int .i64))/\True)/\Below w.heap.size w W)
  (fun _ _ _=>False)
  (OwnFrom.and (Own.from (holdsRow_own w.heap.size w.heap.size 23 3 1 (fun pre:List Int=>pre.length) (fun pre:List Int=>pre.map (Value.int .i64)) (fun pre v=>True)) _) (ownFrom_below (EN _) (by simp)))
  (fun _ _ _ _ _ hs _ _=>hs)
  ⟨⟨_,bO,World.ownsRow_nil _ _ _ _,trivial⟩,J⟩
  (fun x=>{ tmps:=#[.slice none 0 0,.func (.func 128) #[] #[.pointer (some ⟨Bs,0,none⟩)],.pointer (some ⟨w.heap.size,0,none⟩),undef,.slice none 0 0,.int .i64 x,.func (.func 128) #[] #[.pointer (some ⟨Bs,0,none⟩)],.int .i64 x,undef,undef,undef,undef,undef],defers:=[] }) ?assign ?body ?done ?stop
 case assign=>
  intro l x W K L
  gi_wp2
  exact L
 case body=>
  rintro lb pre x W ⟨⟨v,V,z,_⟩,I⟩ b8;have U:=V.cell
  gi_wp2_with (gi_at_builtin;refine wpListIn_append_own _ rfl _ _ 23 rfl w.heap.size 3 i0 (.int .i64 0) 1 8 Tryz.underlying23 hi a8 a9 b0 rfl (by decide) _ _ _ rfl (z.alloc _) ⟨W.heap.size,0,none⟩ 1 1 [.int .i64 x] rfl rfl (cell_one_new _ _ _) (by simp [Value.oneCell']) (by unfold maxLen;omega) (by omega) (by have:=I.size;simp;omega) ?_;intro v' w1 E G _;obtain ⟨g',cap',rfl⟩:=ownsRow_succ E;obtain ⟨T,a7,a6,Z,M⟩:=V.appended (by decide) z I.size (EN _) E G;have b5:=T.cell;have b6:=T.frozen)
  exact ⟨Z.from _,M,⟨_,a7,by simpa using a6,trivial⟩,I.trans M⟩
 case done=>
  rintro D ys W hD rfl ⟨⟨v,V,z,_⟩,I⟩ L;have U:=V.cell
  gi_wp2
  refine ⟨by simp,.inl ⟨_,_,rfl,run_takeDeferred L,?_⟩⟩;exact ⟨_,results_tmp rfl _ _ _,v,rfl,ownsRow_putObj z _ L rfl,I.trans (belowK_b (w:=w) (EN _) W D _ _ (by simp at hD;omega) L rfl rfl)⟩
 case stop=>
  rintro D c pre W _ _ h _;exact h.elim
end
section
open Go.RowKit
section
variable {P:Program} {ops:Array Oper} {Q:Exit->Act->World->Prop} {md:Region.Mode} {S:World->Prop}
def Co (ops:Array Oper) (j:Nat):Option Tmp:=(ops[j]?).bind (·.dst)
def zS (ops:Array Oper) (v:Nat->Value):List Nat->Act->Act
 | [],a=>a
 | j :: js,a=>zS ops v js (a.put (Co ops j) (v j))
def AI {α:Type} (f:Nat->α) (j:Nat) (x:α):Nat->α:=fun k=>if k=j then x else f k
theorem BK {α:Type} (f:Nat->α) (j:Nat) (x:α):AI f j x j=x:=by simp [AI]
theorem AB {α:Type} (f:Nat->α) (x:α) (h:k≠j):AI f j x k=f k:=by simp [AI,h]
theorem put_put (a:Act) (d:Option Tmp) (x y:Value):(a.put d x).put d y=a.put d y:=by
 cases d with
 | none=>rfl
 | some d=>simp [Act.put]
theorem put_comm (a:Act) {d d':Option Tmp} (x y:Value) (h:d=d'->d=none):(a.put d x).put d' y=(a.put d' y).put d x:=by
 cases d with
 | none=>rfl
 | some d=>
  cases d' with
  | none=>rfl
  | some d'=>
   have z:d≠d':=fun e=>by subst e;exact absurd (h rfl) (by simp)
   simp only [Act.put];rw [Array.setIfInBounds_comm _ _ z]
theorem putAll_put (v:Nat->Value) (d:Option Tmp) (x:Value):∀(js:List Nat) (a:Act),(∀k∈js,Co ops k=d->d=none)->(zS ops v js a).put d x=zS ops v js (a.put d x)
 | [],_,_=>rfl
 | k :: js,a,h=>by
  simp only [zS];rw [putAll_put v d x js _ (fun k' z=>h k' (Fh _ z)),put_comm a _ _ (fun e=>by rw [e];exact h k (FA ..) e)]
theorem putAll_upd (v:Nat->Value) (j:Nat) (x:Value):∀(js:List Nat) (a:Act),j∉js->zS ops (AI v j x) js a=zS ops v js a
 | [],_,_=>rfl
 | k :: js,a,h=>by
  simp only [zS];rw [AB v x (fun e=>h (by simp [e])),putAll_upd v j x js _ (fun z=>h (Fh _ z))]
def Dist (ops:Array Oper) (js:List Nat):Prop:=∀j∈js,∀k∈js,j≠k->Co ops j=Co ops k->Co ops k=none
theorem putAll_set (v:Nat->Value) (j:Nat) (x:Value):∀(js:List Nat) (a:Act),js.Nodup->Dist ops js->j∈js->(zS ops v js a).put (Co ops j) x=zS ops (AI v j x) js a
 | [],_,_,_,h=>by cases h
 | k :: js,a,M,E,h=>by
  obtain ⟨G,D⟩:=List.nodup_cons.1 M;simp only [zS];by_cases e:j=k
  ·subst e;rw [BK,putAll_upd v j x js _ G,putAll_put v _ x js _ (fun k' z he=>E k' (Fh _ z) j (FA ..) (fun e=>G (e ▸ z)) he),put_put]
  ·have L:j∈js:=by
    rcases FD.1 h with h | h
    ·exact absurd h e
    ·exact h
   rw [AB v x (fun h=>e h.symm)];exact putAll_set v j x js _ D (fun a I b J=>E a (Fh _ I) b (Fh _ J)) L
theorem put_self (a:Act) (d:Option Tmp):∃x,a.put d x=a:=by
 cases d with
 | none=>exact ⟨undef,rfl⟩
 | some d=>
  refine ⟨a.tmps.getD d undef,?_⟩;obtain ⟨t,ds⟩:=a;simp only [Act.put,Act.mk.injEq,and_true];apply Array.ext_getElem?;intro i;rw [Array.getElem?_setIfInBounds]
  split
  ·rename_i h
   subst h
   split
   ·rename_i h;simp [Array.getD,h]
   ·rename_i h;rw [Array.getElem?_eq_none (by omega)]
  ·rfl
theorem Ez (a:Act):∀(js:List Nat),js.Nodup->∃v,zS ops v js a=a
 | [],_=>⟨fun _=>undef,rfl⟩
 | j :: js,h=>by
  obtain ⟨z,D⟩:=List.nodup_cons.1 h;obtain ⟨v,E⟩:=Ez a js D;obtain ⟨x,G⟩:=put_self a (Co ops j);refine ⟨AI v j x,?_⟩;simp only [zS];rw [BK,putAll_upd v j x js _ z,G,E]
def Dc (md:Region.Mode) (ops:Array Oper) (js:List Nat):Bool:=
 ((List.range ops.size).all fun j=>match ops[j]? with | none=>false | some o=>o.after.toList.all fun e=>!Region.binds md e || decide (e.on<j)) &&
 decide js.Nodup && (js.all fun j=>decide (j<ops.size)) && (js.all fun j=>js.all fun k=>decide (j=k) || !(decide (Co ops j=Co ops k)) || decide (Co ops k=none))
def leftB (ops:Array Oper) (listed:Array Bool) (js:List Nat):Bool:=decide (listed.size=ops.size) && (List.range listed.size).all fun k=>listed.getD k true || decide (k∈js)
def StepTo (ops:Array Oper) (S:World->Prop) (J:(Nat->Bool)->(Nat->Value)->World->Prop) (js:List Nat) (a0:Act) (j:Nat) (e:Nat->Bool) (v:Nat->Value) (K:Act->World->Prop):Prop:=
 ∀a' x w',(zS ops v js a0).put (Co ops j) x=a'->S w'->J (AI e j true) (AI v j x) w'->K a' w'
theorem wpAnyH_inv {J:(Nat->Bool)->(Nat->Value)->World->Prop} (hB:Dc md ops js=true)
  (step:∀j∈js,∀e v w,J e v w->S w->e j=false->(∀o,ops[j]?=some o->∀d∈o.after,Region.binds md d=true->e d.on=true)->∀o,ops[j]?=some o->∀K:Act->World->Prop,Hid (StepTo ops S J js a0 j e v K)->
   if Region.wanted o (yielded ops (zS ops v js a0).tmps)=true then Oper.wp P o (zS ops v js a0) w K Q else K ((zS ops v js a0).put o.dst undef) w)
  (fin:∀v w,J (fun _=>true) v w->S w->Q .normal (zS ops v js a0) w):
  ∀(fuel:Nat) (listed:Array Bool) (v:Nat->Value) (w:World),listed.size=ops.size->(∀k,listed.getD k true=false->k∈js)->(js.filter fun k=>!listed.getD k true).length<=fuel->S w->J (fun k=>listed.getD k true) v w->
   wpAnyH P md ops Q S fuel listed (zS ops v js a0) w:=by
 unfold Dc at hB;simp only [EZ,zag,EX,zae,Bool.not_eq_true',Fl] at hB;obtain ⟨⟨⟨h1,h2⟩,h3⟩,h4⟩:=hB
 have hD:Dist ops js:=fun j hj k L b8 he=>by
  rcases h4 j hj k L with (h | h) | h
  ·exact absurd h b8
  ·exact absurd he h
  ·exact h
 have U:∀listed:Array Bool,(∀k,listed.getD k true=true)->(fun k=>listed.getD k true)=fun _=>true:=fun listed h=>funext h
 have O:∀listed:Array Bool,listed.size=ops.size->(∀k,listed.getD k true=false->k∈js)->Region.ready md ops listed=[]->∀k,listed.getD k true=true:=by
  intro listed T z hr
  have L:∀n k,k<n->listed.getD k true=true:=by
   intro n
   induction n with
   | zero=>intro k h;omega
   | succ n ih=>
    intro k d8
    cases hv:listed.getD k true with
    | true=>rfl
    | false=>
     exfalso
     have G:=h3 k (z k hv)
     have V:k∈Region.ready md ops listed:=mem_ready.2 ⟨hv,ops[k],Array.getElem?_eq_getElem G,fun e he hb=>by
      have:=h1 k (zad.2 G);rw [Array.getElem?_eq_getElem G] at this;have h5:=(zag.1 this) e (by simpa using he);simp only [zae,Bool.not_eq_true',EX] at h5
      have h6:e.on<k:=by
       rcases h5 with h5 | h5
       ·rw [hb] at h5;cases h5
       ·exact h5
      have h7:=ih e.on (by omega);have h8:e.on<listed.size:=by omega
      simp only [Array.getD,h8,dif_pos] at h7⊢;exact h7⟩
     rw [hr] at V;cases V
  exact fun k=>L (k+1) k (by omega)
 intro fuel
 induction fuel with
 | zero=>
  intro listed v w T z hc hS hJ
  have hf:∀k,listed.getD k true=true:=fun k=>by
   cases hv:listed.getD k true with
   | true=>rfl
   | false=>
    exfalso
    have:k∈js.filter fun k=>!listed.getD k true:=zab.2 ⟨z k hv,by rw [hv];rfl⟩
    rw [Fe (Nat.le_zero.1 hc)] at this;cases this
  refine ⟨?_,fin v w (by rw [<-U listed hf];exact hJ) hS⟩;apply List.eq_nil_iff_forall_not_mem.2;intro j hj;have:=(mem_ready.1 hj).1;rw [hf j] at this;cases this
 | succ fuel ih=>
  intro listed v w T z hc hS hJ;refine ⟨fun hr=>fin v w (by rw [<-U listed (O listed T z hr)];exact hJ) hS,fun i hi=>?_⟩;obtain ⟨a6,o,ho,Z⟩:=mem_ready.1 hi;have E:=z i a6;refine wpOp_step ho fun K' hK=>?_
  have G:i<listed.size:=by have:=h3 i E;omega
  refine step i E (fun k=>listed.getD k true) v w hJ hS a6 (fun o' M d hd hb=>?_) o ho K' fun a' x w' ha a9 a8=>?_
  ·rw [ho] at M;injection M with M;subst M;have h9:=Z d hd hb;by_cases a7:d.on<listed.size
   ·simp only [Array.getD,a7,dif_pos] at h9⊢;exact h9
   ·simp only [Array.getD,a7,dif_neg,not_false_eq_true] at h9;cases h9
  ·refine hK _ _ ⟨a9,?_⟩
   have I:AI (fun k=>listed.getD k true) i true=fun k=>(listed.setIfInBounds i true).getD k true:=by
    funext k;by_cases L:k=i
    ·subst L;rw [BK];simp [Array.getD,G]
    ·rw [AB _ _ L];simp only [Array.getD,Array.size_setIfInBounds]
     split
     ·rename_i h
      show listed[k]=(listed.setIfInBounds i true)[k]'(by simpa using h);rw [Array.getElem_setIfInBounds,if_neg (Ne.symm L)]
     ·rfl
   rw [I] at a8;rw [<-ha,putAll_set v i x js a0 h2 hD E];refine ih (listed.setIfInBounds i true) (AI v i x) w' (by simpa using T) (fun k L=>?_) ?_ a9 a8
   ·by_cases D:k=i
    ·rw [D];exact E
    ·have:=congrFun I k;rw [AB _ _ D] at this;exact z k (this.trans L)
   ·have b6:(js.filter fun k=>!(listed.setIfInBounds i true).getD k true)=(js.filter fun k=>!listed.getD k true).erase i:=by
     rw [List.Nodup.erase_eq_filter (h2.filter _),List.filter_filter];apply List.filter_congr;intro k L;have:=congrFun I k;rw [<-this];by_cases D:k=i
     ·subst D;simp [BK]
     ·rw [AB _ _ D];simp [D]
    rw [b6,List.length_erase_of_mem (zab.2 ⟨E,by show (!listed.getD i true)=true;rw [a6];rfl⟩)];omega
theorem wpAnyH_by_inv (js:List Nat) (J:(Nat->Bool)->(Nat->Value)->World->Prop) {w:World} (D:Dc md ops js=true) (E:leftB ops listed js=true) (M:js.length<=fuel) (L:S w)
  (init:∀e v,(∀j∈js,e j=false)->J e v w)
  (G:(js.all fun j=>!listed.getD j true)=true)
  (step:∀j∈js,∀e v w,J e v w->S w->e j=false->(∀o,ops[j]?=some o->∀d∈o.after,Region.binds md d=true->e d.on=true)->∀o,ops[j]?=some o->∀K:Act->World->Prop,Hid (StepTo ops S J js a0 j e v K)->
   if Region.wanted o (yielded ops (zS ops v js a0).tmps)=true then Oper.wp P o (zS ops v js a0) w K Q else K ((zS ops v js a0).put o.dst undef) w)
  (fin:∀v w,J (fun _=>true) v w->S w->Q .normal (zS ops v js a0) w):wpAnyH P md ops Q S fuel listed a0 w:=by
 unfold leftB at E;simp only [EZ,zag,EX,zae] at E
 have T:js.Nodup:=by
  unfold Dc at D;simp only [EZ,EX] at D;exact D.1.1.2
 obtain ⟨v,U⟩:=Ez (ops:=ops) a0 js T
 have h:=wpAnyH_inv D step fin fuel listed v w E.1 (fun k I=>by
  by_cases z:k<listed.size
  ·rcases E.2 k (zad.2 z) with h | h
   ·rw [I] at h;cases h
   ·exact h
  ·simp [Array.getD,z] at I) (EP (Fr _ _) M) L (init _ _ (fun j O=>by
   have:=zag.1 G j O;simpa using this))
 rwa [U] at h
end
def noDeferB (ops:Array Oper):Bool:=ops.toList.all fun o=>match o.op with | .defer _=>false | _=>true
theorem operIn_of {P:Program} {w:World} {Q:Exit->Act->World->Prop} (l n:Nat) (D:∀c,o.op≠.defer c) (h:o.wp P a w K Q):o.wpIn (Fence.wide.inRound l) n P a w K Q:=by
 have z:(Fence.wide.inRound l).depth.isSome=true->1<=n:=fun h=>absurd h (by simp [Fence.wide])
 refine ⟨fun f _=>trivial,?_⟩;rw [Oper.semAt_eq _ _ _ D];unfold Oper.wp at h;generalize (execOp a.eval o).run P w=r at*
 cases r with
 | ok x w'=>
  cases x with
  | enter f args=>exact ⟨z,(CallsIn.inRound l (callsIn_wide.2 h)).mono (fun e w'' he=>by cases e <;> exact he)⟩
  | row row args=>exact ⟨z,fun c cs _=>let ⟨v,w'',r,s⟩:=h c cs;⟨v,w'',r,stepsIn_wide.2 s⟩⟩
  | _=>first | exact h | exact (h:False).elim
 | halt x w'=>cases x <;> exact h
section
variable {P:Program} {ops:Array Oper} {Q:Exit->Act->World->Prop} {md:Region.Mode} {S:World->Prop}
theorem wpOpIn_step (l n:Nat) (D:noDeferB ops=true) {i:Nat} {w:World} (E:ops[i]?=some o)
  (h:∀K':Act->World->Prop,(∀a w,K a w->K' a w)->if Region.wanted o (yielded ops a.tmps)=true then Oper.wp P o a w K' Q else K' (a.put o.dst undef) w):wpOpIn (Fence.wide.inRound l) n P ops Q i K a w:=by
 have h1:=h K (fun _ _ h=>h);unfold wpOpIn;rw [E]
 have G:∀c,o.op≠.defer c:=by
  intro c e;have:=zag.1 D o (by simpa using Array.mem_of_getElem? E);rw [e] at this;cases this
 by_cases z:Region.wanted o (yielded ops a.tmps)=true
 ·rw [if_pos z] at h1;simp only [z,if_true];exact operIn_of l n G h1
 ·rw [if_neg z] at h1;simp only [z];exact ⟨fun f _=>trivial,h1⟩
theorem wpAnyIn_inv (l n:Nat) (b3:noDeferB ops=true) {J:(Nat->Bool)->(Nat->Value)->World->Prop} (hB:Dc md ops js=true)
  (step:∀j∈js,∀e v w,J e v w->e j=false->(∀o,ops[j]?=some o->∀d∈o.after,Region.binds md d=true->e d.on=true)->∀o,ops[j]?=some o->∀K:Act->World->Prop,Hid (StepTo ops (fun _=>True) J js a0 j e v K)->
   if Region.wanted o (yielded ops (zS ops v js a0).tmps)=true then Oper.wp P o (zS ops v js a0) w K Q else K ((zS ops v js a0).put o.dst undef) w)
  (fin:∀v w,J (fun _=>true) v w->Q .normal (zS ops v js a0) w):
  ∀(fuel:Nat) (listed:Array Bool) (v:Nat->Value) (w:World),listed.size=ops.size->(∀k,listed.getD k true=false->k∈js)->(js.filter fun k=>!listed.getD k true).length<=fuel->J (fun k=>listed.getD k true) v w->
   wpAnyIn (Fence.wide.inRound l) n P md ops Q fuel listed (zS ops v js a0) w:=by
 unfold Dc at hB;simp only [EZ,zag,EX,zae,Bool.not_eq_true',Fl] at hB;obtain ⟨⟨⟨h1,h2⟩,h3⟩,h4⟩:=hB
 have hD:Dist ops js:=fun j hj k L b7 he=>by
  rcases h4 j hj k L with (h | h) | h
  ·exact absurd h b7
  ·exact absurd he h
  ·exact h
 have U:∀listed:Array Bool,(∀k,listed.getD k true=true)->(fun k=>listed.getD k true)=fun _=>true:=fun listed h=>funext h
 have O:∀listed:Array Bool,listed.size=ops.size->(∀k,listed.getD k true=false->k∈js)->Region.ready md ops listed=[]->∀k,listed.getD k true=true:=by
  intro listed T z hr
  have L:∀n k,k<n->listed.getD k true=true:=by
   intro n
   induction n with
   | zero=>intro k h;omega
   | succ n ih=>
    intro k d8
    cases hv:listed.getD k true with
    | true=>rfl
    | false=>
     exfalso
     have G:=h3 k (z k hv)
     have V:k∈Region.ready md ops listed:=mem_ready.2 ⟨hv,ops[k],Array.getElem?_eq_getElem G,fun e he hb=>by
      have:=h1 k (zad.2 G);rw [Array.getElem?_eq_getElem G] at this;have h5:=(zag.1 this) e (by simpa using he);simp only [zae,Bool.not_eq_true',EX] at h5
      have h6:e.on<k:=by
       rcases h5 with h5 | h5
       ·rw [hb] at h5;cases h5
       ·exact h5
      have h7:=ih e.on (by omega);have h8:e.on<listed.size:=by omega
      simp only [Array.getD,h8,dif_pos] at h7⊢;exact h7⟩
     rw [hr] at V;cases V
  exact fun k=>L (k+1) k (by omega)
 intro fuel
 induction fuel with
 | zero=>
  intro listed v w T z hc hJ
  have hf:∀k,listed.getD k true=true:=fun k=>by
   cases hv:listed.getD k true with
   | true=>rfl
   | false=>
    exfalso
    have:k∈js.filter fun k=>!listed.getD k true:=zab.2 ⟨z k hv,by rw [hv];rfl⟩
    rw [Fe (Nat.le_zero.1 hc)] at this;cases this
  refine ⟨?_,fin v w (by rw [<-U listed hf];exact hJ)⟩;apply List.eq_nil_iff_forall_not_mem.2;intro j hj;have:=(mem_ready.1 hj).1;rw [hf j] at this;cases this
 | succ fuel ih=>
  intro listed v w T z hc hJ;refine ⟨fun hr=>fin v w (by rw [<-U listed (O listed T z hr)];exact hJ),fun i hi=>?_⟩;obtain ⟨a6,o,ho,Z⟩:=mem_ready.1 hi;have E:=z i a6;refine wpOpIn_step l n b3 ho fun K' hK=>?_
  have G:i<listed.size:=by have:=h3 i E;omega
  refine step i E (fun k=>listed.getD k true) v w hJ a6 (fun o' M d hd hb=>?_) o ho K' fun a' x w' ha d4 a8=>?_
  ·rw [ho] at M;injection M with M;subst M;have h9:=Z d hd hb;by_cases a7:d.on<listed.size
   ·simp only [Array.getD,a7,dif_pos] at h9⊢;exact h9
   ·simp only [Array.getD,a7,dif_neg,not_false_eq_true] at h9;cases h9
  ·refine hK _ _ ?_
   have I:AI (fun k=>listed.getD k true) i true=fun k=>(listed.setIfInBounds i true).getD k true:=by
    funext k;by_cases L:k=i
    ·subst L;rw [BK];simp [Array.getD,G]
    ·rw [AB _ _ L];simp only [Array.getD,Array.size_setIfInBounds]
     split
     ·rename_i h
      show listed[k]=(listed.setIfInBounds i true)[k]'(by simpa using h);rw [Array.getElem_setIfInBounds,if_neg (Ne.symm L)]
     ·rfl
   rw [I] at a8;rw [<-ha,putAll_set v i x js a0 h2 hD E];refine ih (listed.setIfInBounds i true) (AI v i x) w' (by simpa using T) (fun k L=>?_) ?_ a8
   ·by_cases D:k=i
    ·rw [D];exact E
    ·have:=congrFun I k;rw [AB _ _ D] at this;exact z k (this.trans L)
   ·have b5:(js.filter fun k=>!(listed.setIfInBounds i true).getD k true)=(js.filter fun k=>!listed.getD k true).erase i:=by
     rw [List.Nodup.erase_eq_filter (h2.filter _),List.filter_filter];apply List.filter_congr;intro k L;have:=congrFun I k;rw [<-this];by_cases D:k=i
     ·subst D;simp [BK]
     ·rw [AB _ _ D];simp [D]
    rw [b5,List.length_erase_of_mem (zab.2 ⟨E,by show (!listed.getD i true)=true;rw [a6];rfl⟩)];omega
theorem wpAnyIn_by_inv (l n:Nat) (G:noDeferB ops=true) (js:List Nat) (J:(Nat->Bool)->(Nat->Value)->World->Prop) {w:World} (D:Dc md ops js=true) (E:leftB ops listed js=true) (M:js.length<=fuel)
  (init:∀e v,(∀j∈js,e j=false)->J e v w)
  (I:(js.all fun j=>!listed.getD j true)=true)
  (step:∀j∈js,∀e v w,J e v w->e j=false->(∀o,ops[j]?=some o->∀d∈o.after,Region.binds md d=true->e d.on=true)->∀o,ops[j]?=some o->∀K:Act->World->Prop,Hid (StepTo ops (fun _=>True) J js a0 j e v K)->
   if Region.wanted o (yielded ops (zS ops v js a0).tmps)=true then Oper.wp P o (zS ops v js a0) w K Q else K ((zS ops v js a0).put o.dst undef) w)
  (fin:∀v w,J (fun _=>true) v w->Q .normal (zS ops v js a0) w):wpAnyIn (Fence.wide.inRound l) n P md ops Q fuel listed a0 w:=by
 unfold leftB at E;simp only [EZ,zag,EX,zae] at E
 have T:js.Nodup:=by
  unfold Dc at D;simp only [EZ,EX] at D;exact D.1.1.2
 obtain ⟨v,U⟩:=Ez (ops:=ops) a0 js T
 have h:=wpAnyIn_inv l n G D step fin fuel listed v w E.1 (fun k L=>by
  by_cases z:k<listed.size
  ·rcases E.2 k (zad.2 z) with h | h
   ·rw [L] at h;cases h
   ·exact h
  ·simp [Array.getD,z] at L) (EP (Fr _ _) M) (init _ _ (fun j O=>by
   have:=zag.1 I j O;simpa using this))
 rwa [U] at h
end
section
variable {P:Program} {ops:Array Oper} {Q:Exit->Act->World->Prop} {md:Region.Mode} {S:World->Prop}
def StepToF (F:(Nat->Value)->Act) (d:Option Tmp) (S:World->Prop) (J:(Nat->Bool)->(Nat->Value)->World->Prop) (j:Nat) (e:Nat->Bool) (v:Nat->Value) (K:Act->World->Prop):Prop:=
 ∀a' x w',(F v).put d x=a'->S w'->J (AI e j true) (AI v j x) w'->K a' w'
def zk (P:Program) (ops:Array Oper) (Q:Exit->Act->World->Prop) (md:Region.Mode) (F:(Nat->Value)->Act) (S:World->Prop) (J:(Nat->Bool)->(Nat->Value)->World->Prop) (js:List Nat):Prop:=
 ∀j∈js,∀e v w,J e v w->S w->e j=false->∀o,ops[j]?=some o->(∀d∈o.after,Region.binds md d=true->e d.on=true)->∀K:Act->World->Prop,Hid (StepToF F o.dst S J j e v K)->
   if Region.wanted o (yielded ops (F v).tmps)=true then Oper.wp P o (F v) w K Q else K ((F v).put o.dst undef) w
theorem zk.nil {F:(Nat->Value)->Act} {J:(Nat->Bool)->(Nat->Value)->World->Prop}:zk P ops Q md F S J []:=fun _ h=>by cases h
theorem zk.cons {F:(Nat->Value)->Act} {J:(Nat->Bool)->(Nat->Value)->World->Prop} {j:Nat} {js:List Nat} {o:Oper} (L:ops[j]?=some o)
  (h:∀e v w (K:Act->World->Prop),J e v w->S w->e j=false->(∀d∈o.after,Region.binds md d=true->e d.on=true)->Hid (StepToF F o.dst S J j e v K)->
   if Region.wanted o (yielded ops (F v).tmps)=true then Oper.wp P o (F v) w K Q else K ((F v).put o.dst undef) w)
  (M:zk P ops Q md F S J js):zk P ops Q md F S J (j :: js):=by
 intro k hk;rcases FD.1 hk with rfl | hk
 ·intro e v w D G he o' z I K E;rw [L] at z;injection z with z;subst z;exact h e v w K D G he I E
 ·exact M k hk
theorem BL (js:List Nat) (J:(Nat->Bool)->(Nat->Value)->World->Prop) {F:(Nat->Value)->Act} {w:World} (O:Dc md ops js=true) (U:leftB ops listed js=true) (hf:js.length<=fuel) (z:S w)
  (hF:∀v,zS ops v js a0=F v) (init:∀e v,(∀j∈js,e j=false)->J e v w) (M:(js.all fun j=>!listed.getD j true)=true) (step:zk P ops Q md F S J js)
  (fin:∀v w,J (fun _=>true) v w->S w->Q .normal (F v) w):wpAnyH P md ops Q S fuel listed a0 w:=by
 refine wpAnyH_by_inv js J O U hf z init M (fun j hj e v w E z he Z o L K T=>?_) (fun v w E z=>by rw [hF v];exact fin v w E z);have D:Co ops j=o.dst:=by unfold Co;rw [L];rfl
 have h:=step j hj e v w E z he o L (Z o L) K (fun a' x w' V I G=>T.out a' x w' (by rw [hF v,D];exact V) I G);rw [hF v];exact h
theorem wpAnyIn_by_invF (l n:Nat) (G:noDeferB ops=true) (js:List Nat) (J:(Nat->Bool)->(Nat->Value)->World->Prop) {F:(Nat->Value)->Act} {w:World} (O:Dc md ops js=true) (U:leftB ops listed js=true) (hf:js.length<=fuel)
  (hF:∀v,zS ops v js a0=F v) (init:∀e v,(∀j∈js,e j=false)->J e v w) (M:(js.all fun j=>!listed.getD j true)=true) (step:zk P ops Q md F (fun _=>True) J js)
  (fin:∀v w,J (fun _=>true) v w->Q .normal (F v) w):wpAnyIn (Fence.wide.inRound l) n P md ops Q fuel listed a0 w:=by
 refine wpAnyIn_by_inv l n G js J O U hf init M (fun j hj e v w D he Z o L K T=>?_) (fun v w D=>by rw [hF v];exact fin v w D);have z:Co ops j=o.dst:=by unfold Co;rw [L];rfl
 have h:=step j hj e v w D trivial he o L (Z o L) K (fun a' x w' V I E=>T.out a' x w' (by rw [hF v,z];exact V) I E);rw [hF v];exact h
end
def GivesB {α:Type} (n:Nat) (P:Program) (g:Nat) (lb:Array Value) (encs:α->Array Value) (G:Nat->α->World->Prop) (N:Nat) (w:World):Prop:=
 ∀(l:Nat) (J:Nat->World->Prop) (Jx:World->Prop) (W:World),zb w W->w.heap.size<=l->l<W.heap.size->(∀k A B,J k A->Below W.heap.size A B->J k B)->(∀A B,Jx A->Below W.heap.size A B->Jx B)->
  (∀k x W1,k<N->J k W1->G k x W1->YieldAt Fence.wide (n - 1) P l (encs x) W1 fun e W'=>(e=.returned (.bool true)/\J (k+1) W'/\W1.grownBy W' (some l))\/(e=.returned (.bool false)/\Jx W'))->
  J 0 W->
  CallsIn Fence.wide n P g (#[.func (.yield l) #[] #[]]++lb) W fun e W'=>(∃v,e=.returned v)/\(J N W'\/Jx W')
def postB (B k:Nat) (I:Nat->World->Prop) (Ix:Code->World->Prop) (W:World):Exit->Act->World->Prop
 | .normal,_,W'=>zb W W'/\I (k+1) W'
 | .ret,_,W'=>(∀b,B<=b->b<W.heap.size->W'.heap[b]?=W.heap[b]?)/\Ix .ret W'
 | .exit id,_,W'=>(∀b,B<=b->b<W.heap.size->W'.heap[b]?=W.heap[b]?)/\Ix (.exit id) W'
 | .goto t,_,W'=>(∀b,B<=b->b<W.heap.size->W'.heap[b]?=W.heap[b]?)/\Ix (.goto t) W'
 | .panic _,_,_=>False
 | .outgrown,_,_=>False
theorem AW {l:Nat} (o:Obj) (h:B<=l) (z:l<W.heap.size):Below B W (W.putObj l o):=
 (Below.refl B W).grown (grownBy_putObj' W l o) (by omega) (fun k e=>by cases e;exact h)
theorem wpIn_loopB {P:Program} {n:Nat} {α:Type} {g:Operand} {ps:Array Tmp} {assign body:Code} {Q:Exit->Act->World->Prop} {w:World}
  {gf:Nat} {lb:Array Value} (hg:a.eval g=.func (.func gf) #[] lb) (eg:∀args w,(callFunc gf args).run P w=.ok (.enter gf args) w)
  {encs:α->Array Value} {G:Nat->α->World->Prop} {N:Nat} {w0:World} (b8:GivesB (n - 1) P gf lb encs G N w0) (b7:zb w0 w) (c8:∀x,(encs x).size=ps.size)
  (I:Nat->World->Prop) (Ix:Code->World->Prop) (hI:∀k A B,I k A->Below w.heap.size A B->I k B) (hIx:∀c A B,Ix c A->Below w.heap.size A B->Ix c B)
  (hG:∀k x A l,G k x A->w.heap.size<l->l<A.heap.size->(∃r,A.heap[l]?=some (.loop r))->∀o,G k x (A.putObj l o)) (h0:I 0 w) (a₁:α->Act)
  (a7:∀(l:Nat) (x:α) (W:World) (K:Act->World->Prop),K (a₁ x) W->
   assign.wpIn (Fence.wide.inRound l) (n - 1 - 1) P (Exit.then K (fun _ _ _=>False)) { tmps:=(ps.zip (encs x)).foldl (fun t (p,v)=>t.setIfInBounds p v) a.tmps,defers:=[] } W)
  (b1:∀(l k:Nat) (x:α) (W:World),k<N->I k W->G k x W->w.heap.size<W.heap.size->body.wpIn (Fence.wide.inRound l) (n - 1 - 1) P (postB w.heap.size k I Ix W) (a₁ x) W)
  (b2:∀(D:Nat) (W:World),w.heap.size<=D->I N W->W.heap[D]?=some (.deferred (some []))->Q .normal { a with defers:={ target:=.collected D,args:=#[] } :: a.defers } W)
  (b4:∀(D:Nat) (c:Code) (W:World),w.heap.size<=D->Ix c W->W.heap[D]?=some (.deferred (some []))->c.wpIn Fence.wide n P Q { a with defers:={ target:=.collected D,args:=#[] } :: a.defers } W):
  (Code.rangeFunc g ps assign body).wpIn Fence.wide n P Q a w:=by
 refine wpIn_rangeFunc ?_;intro fn c4;obtain ⟨rec,E⟩:∃rec:LoopState->Option Code->Loop,rec=fun st pe=>{ state:=st,pending:=pe,fn,tmps:=a.tmps,params:=ps,assign,body,defers:=w.heap.size }:=⟨_,rfl⟩
 obtain ⟨W1,a6⟩:∃W1,(w.alloc (.deferred (some []))).alloc (.loop (rec .ready none))=W1:=⟨_,rfl⟩;have d6:W1.heap.size=w.heap.size+2:=by rw [<-a6];simp
 have c0:W1.heap[w.heap.size+1]?=some (.loop (rec .ready none)):=by
  rw [<-a6];have:=World.alloc_heap_new (w.alloc (.deferred (some []))) (.loop (rec .ready none))
  rwa [World.size_alloc] at this
 have b9:W1.heap[w.heap.size]?=some (.deferred (some [])):=by
  rw [<-a6];exact (Ff _ _ _ (by simp)).trans (World.alloc_heap_new w _)
 have b6:zb w W1:=by rw [<-a6];exact ((zb.refl w).alloc _).alloc _
 refine ⟨w.heap.size+1,[{ target:=.collected w.heap.size,args:=#[] }],W1,{ target:=.fn (.func gf) lb,args:=#[.func (.yield (w.heap.size+1)) #[] #[]] },W1,gf,
  #[.func (.yield (w.heap.size+1)) #[] #[]]++lb,W1,?_,?_,fun _ _=>trivial,?_,fun h=>absurd h (by simp [Fence.wide]),?_⟩
 ·rw [<-a6,E];exact run_enterLoop_outer _ _ _ _ _
 ·simp only [resolve,hg];simp [go_sem]
 ·simp [invoke,go_sem,eg]
 ·refine (b8 (w.heap.size+1)
   (fun k W=>I k W/\W.heap[w.heap.size+1]?=some (.loop (rec .ready none))/\W.heap[w.heap.size]?=some (.deferred (some []))/\w.heap.size+1<W.heap.size)
   (fun W=>∃c,Ix c W/\W.heap[w.heap.size+1]?=some (.loop (rec .done (some c)))/\W.heap[w.heap.size]?=some (.deferred (some [])))
   W1 (b7.trans b6) (by have:=b7.size;omega) (by omega) ?_ ?_ ?_ ⟨hI _ _ _ h0 b6,c0,b9,by omega⟩).mono ?_
  ·rintro k A B ⟨h1,h2,h3,h4⟩ L;exact ⟨hI _ _ _ h1 (L.mono (by omega)),(L.block _ (by omega)).trans h2,(L.block _ (by omega)).trans h3,Fq h4 L.size⟩
  ·rintro A B ⟨c,h1,h2,h3⟩ L;exact ⟨c,hIx _ _ _ h1 (L.mono (by omega)),(L.block _ (by omega)).trans h2,(L.block _ (by omega)).trans h3⟩
  ·-- one round
   rintro k x W c7 ⟨hi,hl,hD,Z⟩ c6;have hy:=run_yield (P:=P) (args:=encs x) hl (by rw [E];exact c8 x);rw [E] at hy;refine ⟨fn,_,assign,body,hy,roundIn_of_wpIn c4 (a7 _ x W _ ⟨_,run_beginRound hl (by rw [E]),?_⟩)⟩;have a8:(W.putObj (w.heap.size+1) (.loop { rec .ready none with state:=.busy })).heap[w.heap.size+1]?=some (.loop { rec .ready none with state:=.busy }):=World.putObj_heap_same Z;have a9:(W.putObj (w.heap.size+1) (.loop { rec .ready none with state:=.busy })).heap[w.heap.size]?=some (.deferred (some [])):=(World.putObj_heap_other (by omega)).trans hD;have O:w.heap.size+1<(W.putObj (w.heap.size+1) (.loop { rec .ready none with state:=.busy })).heap.size:=(FN.1 a8).1;have c5:W.grownBy (W.putObj (w.heap.size+1) (.loop { rec .ready none with state:=.busy })) (some (w.heap.size+1)):=grownBy_putObj' _ _ _;refine wpIn_mono (b1 _ k x _ c7 (hI _ _ _ hi (AW _ (by omega) Z)) (hG _ _ _ _ c6 (by omega) Z ⟨_,hl⟩ _) (Nat.lt_trans (Nat.lt_succ_self _) O)) ?_;generalize W.putObj (w.heap.size+1) (.loop { rec .ready none with state:=.busy })=W2 at*
   have fin:∀(jump:Option Code) (W3:World),W3.heap[w.heap.size+1]?=some (.loop { rec .ready none with state:=.busy })->
     (Instr.endRound (w.heap.size+1) jump).run P W3=.ok (.bool jump.isNone) (W3.putObj (w.heap.size+1) (.loop (rec (if jump.isNone then .ready else .done) jump))):=fun jump W3 J=>by
    have:=run_endRound (P:=P) jump J;rw [E] at this⊢;exact this
   rintro e a3 W3 hp
   cases e with
   | normal=>
    obtain ⟨U,V⟩:=hp;have J:=(U.block _ O).trans a8;have z:=(FN.1 J).1;have T:=(U.block _ (by omega)).trans a9;refine ⟨_,_,fin none W3 J,.inl ⟨rfl,⟨hI _ _ _ V (AW _ (by omega) z),World.putObj_heap_same z,(World.putObj_heap_other (by omega)).trans T,?_⟩,?_⟩⟩
    ·exact (FN.1 (World.putObj_heap_same z)).1
    ·exact (c5.trans ⟨U.os,U.tape,U.output,U.size,fun i hi _=>U.block i hi⟩).trans (grownBy_putObj' _ _ _)
   | ret=>
    obtain ⟨M,V⟩:=hp;have J:=(M _ (by omega) O).trans a8;have z:=(FN.1 J).1;have T:=(M _ (EN _) (by omega)).trans a9;exact ⟨_,_,fin (some .ret) W3 J,.inr ⟨rfl,.ret,hIx _ _ _ V (AW _ (by omega) z),World.putObj_heap_same z,(World.putObj_heap_other (by omega)).trans T⟩⟩
   | exit id=>
    obtain ⟨M,V⟩:=hp;have J:=(M _ (by omega) O).trans a8;have z:=(FN.1 J).1;have T:=(M _ (EN _) (by omega)).trans a9;exact ⟨_,_,fin (some (.exit id)) W3 J,.inr ⟨rfl,.exit id,hIx _ _ _ V (AW _ (by omega) z),World.putObj_heap_same z,(World.putObj_heap_other (by omega)).trans T⟩⟩
   | goto t=>
    obtain ⟨M,V⟩:=hp;have J:=(M _ (by omega) O).trans a8;have z:=(FN.1 J).1;have T:=(M _ (EN _) (by omega)).trans a9;exact ⟨_,_,fin (some (.goto t)) W3 J,.inr ⟨rfl,.goto t,hIx _ _ _ V (AW _ (by omega) z),World.putObj_heap_same z,(World.putObj_heap_other (by omega)).trans T⟩⟩
   | panic ch=>exact hp.elim
   | outgrown=>exact hp.elim
  ·-- behind the iterator
   rintro e W2 ⟨⟨v,rfl⟩,(⟨hi,hl,hD,Z⟩ | ⟨c,hi,hl,hD⟩)⟩
   ·exact ⟨none,_,by have:=run_endLoop (P:=P) hl (by rw [E];simp);rw [E] at this;exact this,b2 _ _ (EN _) (hI _ _ _ hi (AW _ (by omega) Z)) ((World.putObj_heap_other (by omega)).trans hD)⟩
   ·have Z:=(FN.1 hl).1;exact ⟨some c,_,by have:=run_endLoop (P:=P) hl (by rw [E];simp);rw [E] at this;exact this,b4 _ c _ (EN _) (hIx _ _ _ hi (AW _ (by omega) Z)) ((World.putObj_heap_other (by omega)).trans hD)⟩
end
end Go.Proofs.YthbjngbhbbkkgaaGreat
