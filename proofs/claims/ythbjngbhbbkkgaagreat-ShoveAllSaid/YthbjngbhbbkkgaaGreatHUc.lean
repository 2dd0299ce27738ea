/- RtH RtI RtG RtJ RtS -/
import Derived.Test.YthbjngbhbbkkgaaGreatHUa
import Derived.Test.YthbjngbhbbkkgaaGreatHUb
import Derived.Deep.DeepCutAuto
import Derived.Deep.OwnRows
import Derived.BigQuiet
import Derived.Deep.RegionHeld3
import Derived.Deep.DrawnRows
set_option linter.unusedVariables false
set_option linter.unusedSimpArgs false
set_option maxRecDepth 100000
set_option maxHeartbeats 16000000
namespace Go.Proofs.YthbjngbhbbkkgaaGreat
open Go.RowKit
theorem ap_t {c:Bool} (h:c=true) (x:Int) (l:List Int):ap c x l=l++[x]:=by rw [h];rfl
theorem ap_f {c:Bool} (h:c=false) (x:Int) (l:List Int):ap c x l=l:=by rw [h];rfl
theorem zdg {ok:Nat→Prop} {v:Value} (m:MZ) (node:Int) (w:World) (hm:zr w ok v m) (d:Dim m) (h0:0≤node) (h1:node<m.w*m.h*m.l):
  Calls Tryz.prog 81 #[v,.int .i64 node] w fun e w'=>∃v',e=.returned v'∧Below w.heap.size w w'∧w'.ownsRow w.heap.size 3 1 v' (zi m node).length ((zi m node).map (Value.int .i64)):=by
 obtain ⟨f,u,t,rfl,_,hu,_⟩:=hm;obtain ⟨A,c,rfl,hcc,hur⟩:=hu;have hl:=d.layer;obtain ⟨hl1,hl2⟩:=hl;obtain ⟨dw1,dw2,hh1,hh2,ll1,ll2,n1,hup⟩:=d;obtain ⟨W,H,L,fr,up,ts⟩:=m;simp only at*;have HU:=zh hur;clear hur;have HUP:=zh hup;clear hup
 go_enter Tryz.func81,Tryz.ntmps81
 have hq0:0≤node / W:=Int.ediv_nonneg h0 (by omega);have hq1:node / W≤node:=Int.ediv_le_self _ h0
 go_wp2_with fail
 go_quiet (fail)
 have hr0:0≤node / W % H:=Int.emod_nonneg _ (by omega);have hr1:node / W % H<H:=Int.emod_lt_of_pos _ (by omega);have hr2:0≤node % W:=Int.emod_nonneg _ (by omega);have hr3:node % W<W:=Int.emod_lt_of_pos _ (by omega);generalize hw1:((w.alloc (.cells #[.int .i64 W,.int .i64 H,.int .i64 L,f,.slice A up.length c,t] 32)).drewN nq)=w1;have hb1:Ext w w1:=by rw [←hw1];exact ((Ext.refl w).alloc _).drewN _
 have hgm:Blk w1 w.heap.size 32 #[.int .i64 W,.int .i64 H,.int .i64 L,f,.slice A up.length c,t]:=by rw [←hw1];exact heap_alloc_new _ _
 have HU1:=zh (HU.out.keep (zX.of_below hb1):zY w1 ok 1 A up.length (up.map Value.bool));clear hw1 HU;have HB1:=zh hb1;clear hb1;obtain ⟨m0,m1,m2,m3,m4,m5⟩:=zw hgm;have r0:=Ext.rule m0;have r1:=Ext.rule m1;have r2:=Ext.rule m2;have r3:=Ext.rule m3;have r4:=Ext.rule m4;have r5:=Ext.rule m5;clear m0 m1 m2 m3 m4 m5 hgm;have ra:=zQ w1;have hx:Ext w1 w1:=Ext.refl w1;have HM:=zh (Mk.nil w1);obtain ⟨c1,hc1⟩:∃b,b=(decide (W*H≤node) && up.getD (node - W*H).toNat false):=⟨_,rfl⟩;obtain ⟨c2,hc2⟩:∃b,b=(decide (node+W*H<W*H*L) && up.getD node.toNat false):=⟨_,rfl⟩;have HC1:=zh hc1;clear hc1;have HC2:=zh hc2;clear hc2;go_upto_region 5 with fail;go_cut [36] (fun s wx=>s=.bool c1∧w1=wx)
 case first=>
  by_cases hp:W*H≤node
  ·have hi1:(node - W*H).toNat<up.length:=by have:=HUP.out;omega
   obtain ⟨b,off,rfl,_,hc1⟩:=zbn HU1.out hi1 hi1;have hcv:up[(node - W*H).toNat]=c1:=(HC1.out.trans (by simp [hp,hi1])).symm;rw [hcv] at hc1;have rc:=Ext.rule hc1;clear hc1 hcv
   go_wp2_with fail
   go_meet
   case rel=>exact ⟨rfl,rfl⟩
  ·have hcv:c1=false:=HC1.out.trans (by simp [hp]);have HCV:=zh hcv;clear hcv
   go_wp2_with fail
   go_meet
   case rel=>exact ⟨by rw [HCV.out],rfl⟩
 case rest=>
 obtain ⟨rfl,rfl⟩:=hcut
 go_upto_if 36 with fail
 go_cut [5] (fun s wx=>Hid (Mk w1 wx s (ap c1 (node - W*H) [])))
 case first=>
  obtain rfl | rfl:c1=true∨c1=false:=by cases c1 <;> simp
  ·skip
   have hz:w1.heap.size≤w1.heap.size:=hx.size
   go_wp2_with (at_builtin;refine zan rfl _ _ rfl _ [] (node - W*H) w1.heap.size w1.heap.size 1 _ rfl rfl (HM.out.own.alloc _) ?d1 ?d2 ?d3 ?_)
   (try case d1=>simp)
   case d2=>(first | (simp;done) | (simp;omega) | omega)
   case d3=>exact Nat.le_trans (show [].length≤0 from Nat.le_refl _) (by omega)
   intro v' wb hob hgb _;have hM':=zh ((HM.out.alloc _).app hob hgb);clear hob hgb
   go_wp2_with fail
   go_meet
   case rel=>exact hM'.out.cast (ap_t (by rfl) _ _)
  ·skip
   go_wp2_with fail
   go_meet
   case rel=>exact HM.out.cast (ap_f (by rfl) _ _)
 case rest=>
 have HM:=hcut;clear hcut;have hx:Ext w1 wc:=HM.out.ext;have hl1:(ap c1 (node - W*H) []).length≤1:=Nat.le_trans (ap_len _ _ _) (Nat.succ_le_succ (Nat.zero_le _));obtain ⟨wp,rfl⟩:∃wp:World,wp=wc:=⟨_,rfl⟩
 go_upto_if 44 with fail
 go_cut [5] (fun s wx=>Hid (Mk w1 wx s (ap (decide (0<node / W % H)) (node - W) (ap c1 (node - W*H) []))))
 case first=>
  by_cases hp:0<node / W % H
  ·have HP:=zh hp;have hz:w1.heap.size≤wp.heap.size:=hx.size
   go_wp2_with (at_builtin;refine zan rfl _ _ rfl _ (ap c1 (node - W*H) []) (node - W) w1.heap.size wp.heap.size 1 _ rfl rfl (HM.out.own.alloc _) ?d1 ?d2 ?d3 ?_)
   (try case d1=>simp)
   case d2=>(first | (simp;done) | (simp;omega) | omega)
   case d3=>exact Nat.le_trans (show (ap c1 (node - W*H) []).length≤1 from hl1) (by omega)
   intro v' wb hob hgb _;have hM':=zh ((HM.out.alloc _).app hob hgb);clear hob hgb
   go_wp2_with fail
   go_meet
   case rel=>exact hM'.out.cast (ap_t (by exact decide_eq_true HP.out) _ _)
  ·have HP:=zh hp
   go_wp2_with fail
   go_meet
   case rel=>exact HM.out.cast (ap_f (by exact decide_eq_false (by have:=HP.out;omega)) _ _)
 case rest=>
 have HM:=hcut;clear hcut;have hx:Ext w1 wc:=HM.out.ext;have hl2:(ap (decide (0<node / W % H)) (node - W) (ap c1 (node - W*H) [])).length≤2:=Nat.le_trans (ap_len _ _ _) (Nat.succ_le_succ hl1);obtain ⟨wp,rfl⟩:∃wp:World,wp=wc:=⟨_,rfl⟩
 go_upto_if 53 with fail
 go_cut [5] (fun s wx=>Hid (Mk w1 wx s (ap (decide (0<node % W)) (node - 1) (ap (decide (0<node / W % H)) (node - W) (ap c1 (node - W*H) [])))))
 case first=>
  by_cases hp:0<node % W
  ·have HP:=zh hp;have hz:w1.heap.size≤wp.heap.size:=hx.size
   go_wp2_with (at_builtin;refine zan rfl _ _ rfl _ (ap (decide (0<node / W % H)) (node - W) (ap c1 (node - W*H) [])) (node - 1) w1.heap.size wp.heap.size 1 _ rfl rfl (HM.out.own.alloc _) ?d1 ?d2 ?d3 ?_)
   (try case d1=>simp)
   case d2=>(first | (simp;done) | (simp;omega) | omega)
   case d3=>exact Nat.le_trans (show (ap (decide (0<node / W % H)) (node - W) (ap c1 (node - W*H) [])).length≤2 from hl2) (by omega)
   intro v' wb hob hgb _;have hM':=zh ((HM.out.alloc _).app hob hgb);clear hob hgb
   go_wp2_with fail
   go_meet
   case rel=>exact hM'.out.cast (ap_t (by exact decide_eq_true HP.out) _ _)
  ·have HP:=zh hp
   go_wp2_with fail
   go_meet
   case rel=>exact HM.out.cast (ap_f (by exact decide_eq_false (by have:=HP.out;omega)) _ _)
 case rest=>
 have HM:=hcut;clear hcut;have hx:Ext w1 wc:=HM.out.ext;have hl3:(ap (decide (0<node % W)) (node - 1) (ap (decide (0<node / W % H)) (node - W) (ap c1 (node - W*H) []))).length≤3:=Nat.le_trans (ap_len _ _ _) (Nat.succ_le_succ hl2);obtain ⟨wp,rfl⟩:∃wp:World,wp=wc:=⟨_,rfl⟩
 go_upto_if 63 with fail
 go_cut [5] (fun s wx=>Hid (Mk w1 wx s (ap (decide (node % W+1<W)) (node+1) (ap (decide (0<node % W)) (node - 1) (ap (decide (0<node / W % H)) (node - W) (ap c1 (node - W*H) []))))))
 case first=>
  by_cases hp:node % W+1<W
  ·have HP:=zh hp;have hz:w1.heap.size≤wp.heap.size:=hx.size
   go_wp2_with (at_builtin;refine zan rfl _ _ rfl _ (ap (decide (0<node % W)) (node - 1) (ap (decide (0<node / W % H)) (node - W) (ap c1 (node - W*H) []))) (node+1) w1.heap.size wp.heap.size 1 _ rfl rfl (HM.out.own.alloc _) ?d1 ?d2 ?d3 ?_)
   (try case d1=>simp)
   case d2=>(first | (simp;done) | (simp;omega) | omega)
   case d3=>exact Nat.le_trans (show (ap (decide (0<node % W)) (node - 1) (ap (decide (0<node / W % H)) (node - W) (ap c1 (node - W*H) []))).length≤3 from hl3) (by omega)
   intro v' wb hob hgb _;have hM':=zh ((HM.out.alloc _).app hob hgb);clear hob hgb
   go_wp2_with fail
   go_meet
   case rel=>exact hM'.out.cast (ap_t (by exact decide_eq_true HP.out) _ _)
  ·have HP:=zh hp
   go_wp2_with fail
   go_meet
   case rel=>exact HM.out.cast (ap_f (by exact decide_eq_false (by have:=HP.out;omega)) _ _)
 case rest=>
 have HM:=hcut;clear hcut;have hx:Ext w1 wc:=HM.out.ext;have hl4:(ap (decide (node % W+1<W)) (node+1) (ap (decide (0<node % W)) (node - 1) (ap (decide (0<node / W % H)) (node - W) (ap c1 (node - W*H) [])))).length≤4:=Nat.le_trans (ap_len _ _ _) (Nat.succ_le_succ hl3);obtain ⟨wp,rfl⟩:∃wp:World,wp=wc:=⟨_,rfl⟩
 go_upto_if 73 with fail
 go_cut [5] (fun s wx=>Hid (Mk w1 wx s (ap (decide (node / W % H+1<H)) (node+W) (ap (decide (node % W+1<W)) (node+1) (ap (decide (0<node % W)) (node - 1) (ap (decide (0<node / W % H)) (node - W) (ap c1 (node - W*H) [])))))))
 case first=>
  by_cases hp:node / W % H+1<H
  ·have HP:=zh hp;have hz:w1.heap.size≤wp.heap.size:=hx.size
   go_wp2_with (at_builtin;refine zan rfl _ _ rfl _ (ap (decide (node % W+1<W)) (node+1) (ap (decide (0<node % W)) (node - 1) (ap (decide (0<node / W % H)) (node - W) (ap c1 (node - W*H) [])))) (node+W) w1.heap.size wp.heap.size 1 _ rfl rfl (HM.out.own.alloc _) ?d1 ?d2 ?d3 ?_)
   (try case d1=>simp)
   case d2=>(first | (simp;done) | (simp;omega) | omega)
   case d3=>exact Nat.le_trans (show (ap (decide (node % W+1<W)) (node+1) (ap (decide (0<node % W)) (node - 1) (ap (decide (0<node / W % H)) (node - W) (ap c1 (node - W*H) [])))).length≤4 from hl4) (by omega)
   intro v' wb hob hgb _;have hM':=zh ((HM.out.alloc _).app hob hgb);clear hob hgb
   go_wp2_with fail
   go_meet
   case rel=>exact hM'.out.cast (ap_t (by exact decide_eq_true HP.out) _ _)
  ·have HP:=zh hp
   go_wp2_with fail
   go_meet
   case rel=>exact HM.out.cast (ap_f (by exact decide_eq_false (by have:=HP.out;omega)) _ _)
 case rest=>
 have HM:=hcut;clear hcut;have hx:Ext w1 wc:=HM.out.ext;have hl5:(ap (decide (node / W % H+1<H)) (node+W) (ap (decide (node % W+1<W)) (node+1) (ap (decide (0<node % W)) (node - 1) (ap (decide (0<node / W % H)) (node - W) (ap c1 (node - W*H) []))))).length≤5:=Nat.le_trans (ap_len _ _ _) (Nat.succ_le_succ hl4);obtain ⟨wp,rfl⟩:∃wp:World,wp=wc:=⟨_,rfl⟩;go_upto_region 15 with fail;go_cut [93] (fun s wx=>s=.bool c2∧Hid (Ext wp wx))
 case first=>
  by_cases hp:node+W*H<W*H*L
  ·have hi1:node.toNat<up.length:=by have:=HUP.out;omega
   obtain ⟨b,off,rfl,_,hc1⟩:=zbn HU1.out hi1 hi1;have hcv:up[node.toNat]=c2:=(HC2.out.trans (by simp [hp,hi1])).symm;rw [hcv] at hc1;have rc:=Ext.rule hc1;clear hc1 hcv
   go_wp2_with fail
   refine (zax W H L _ _ _ _ (by omega) (by omega)).mono ?_;rintro e kn ⟨rfl,hbn⟩;have hx9:Ext w1 kn:=hx.trans hbn
   go_wp2_with fail
   go_meet
   case rel=>exact ⟨rfl,hbn⟩
  ·have hcv:c2=false:=HC2.out.trans (by simp [hp]);have HCV:=zh hcv;clear hcv
   go_wp2_with fail
   refine (zax W H L _ _ _ _ (by omega) (by omega)).mono ?_;rintro e kn ⟨rfl,hbn⟩;have hx9:Ext w1 kn:=hx.trans hbn
   go_wp2_with fail
   go_meet
   case rel=>exact ⟨by rw [HCV.out],hbn⟩
 case rest=>
 obtain ⟨rfl,hbn⟩:=hcut;have HM:=zh (HM.out.more hbn.out);have hx:Ext w1 wc:=HM.out.ext;obtain ⟨wp,rfl⟩:∃wp:World,wp=wc:=⟨_,rfl⟩
 go_upto_if 93 with fail
 go_cut [5] (fun s wx=>Hid (Mk w1 wx s (ap c2 (node+W*H) (ap (decide (node / W % H+1<H)) (node+W) (ap (decide (node % W+1<W)) (node+1) (ap (decide (0<node % W)) (node - 1) (ap (decide (0<node / W % H)) (node - W) (ap c1 (node - W*H) []))))))))
 case first=>
  obtain rfl | rfl:c2=true∨c2=false:=by cases c2 <;> simp
  ·skip
   have hz:w1.heap.size≤wp.heap.size:=hx.size
   go_wp2_with (at_builtin;refine zan rfl _ _ rfl _ (ap (decide (node / W % H+1<H)) (node+W) (ap (decide (node % W+1<W)) (node+1) (ap (decide (0<node % W)) (node - 1) (ap (decide (0<node / W % H)) (node - W) (ap c1 (node - W*H) []))))) (node+W*H) w1.heap.size wp.heap.size 1 _ rfl rfl (HM.out.own.alloc _) ?d1 ?d2 ?d3 ?_)
   (try case d1=>simp)
   case d2=>(first | (simp;done) | (simp;omega) | omega)
   case d3=>exact Nat.le_trans (show (ap (decide (node / W % H+1<H)) (node+W) (ap (decide (node % W+1<W)) (node+1) (ap (decide (0<node % W)) (node - 1) (ap (decide (0<node / W % H)) (node - W) (ap c1 (node - W*H) []))))).length≤5 from hl5) (by omega)
   intro v' wb hob hgb _;have hM':=zh ((HM.out.alloc _).app hob hgb);clear hob hgb
   go_wp2_with fail
   go_meet
   case rel=>exact hM'.out.cast (ap_t (by rfl) _ _)
  ·skip
   go_wp2_with fail
   go_meet
   case rel=>exact HM.out.cast (ap_f (by rfl) _ _)
 case rest=>
 have HM:=hcut;clear hcut;have hx:Ext w1 wc:=HM.out.ext;have hl6:(ap c2 (node+W*H) (ap (decide (node / W % H+1<H)) (node+W) (ap (decide (node % W+1<W)) (node+1) (ap (decide (0<node % W)) (node - 1) (ap (decide (0<node / W % H)) (node - W) (ap c1 (node - W*H) [])))))).length≤6:=Nat.le_trans (ap_len _ _ _) (Nat.succ_le_succ hl5);obtain ⟨wp,rfl⟩:∃wp:World,wp=wc:=⟨_,rfl⟩
 go_wp2_with fail
 go_ret;refine ⟨_,rfl,zaR HB1.out HM.out.ext (Nat.le_refl _),?_⟩;exact next_fin (HM.out.own.mono HB1.out.size) (next_eq ⟨W,H,L,fr,up,ts⟩ node c1 c2 HC1.out HC2.out)
end Go.Proofs.YthbjngbhbbkkgaaGreat
namespace Go.Proofs.YthbjngbhbbkkgaaGreat
open Go.RowKit
attribute [local go_sem ↓] Go.wp_at_zero Go.wp_at_succ
theorem Tryz.infoBool:(Tryz.prog.info? 4).map (fun i=>(i.zero,i.size,i.bytes))=some (some (.bool false),1,1):=by kernel_rfl
open Classical in
noncomputable def zaA (m:MZ) (t:Nat) (from_ used:List Int):List Int:=((List.range m.n.toNat).map Int.ofNat).filter (fun x=>decide (RP m t from_ used x))
theorem reachL_of {m:MZ} {t:Nat} {from_ used s:List Int} (h:∀x,x∈s↔RP m t from_ used x):((List.range m.n.toNat).map Int.ofNat).filter (fun x=>decide (x∈s))=zaA m t from_ used:=by
 unfold zaA;apply List.filter_congr;intro x _;rw [decide_eq_decide];exact h x
theorem zaP {m:MZ} (d:Dim m) {t:Nat} {from_ used:List Int} {x:Int}:x∈zaA m t from_ used↔RP m t from_ used x:=by
 unfold zaA;simp only [List.mem_filter,List.mem_map,List.mem_range,decide_eq_true_eq];constructor
 ·rintro ⟨_,h⟩;exact h
 ·intro h;have hr:=h.range d;exact ⟨⟨x.toNat,by omega,by simp;omega⟩,h⟩
theorem zby {w w1:World} {g:Nat} {a0 a1 a2 a3 a4 a5:Value} (hg:g<w1.heap.size) (m0:w1.cell? ⟨g,0,none⟩=some a0) (m1:w1.cell? ⟨g,1,none⟩=some a1) (m2:w1.cell? ⟨g,2,none⟩=some a2) (m3:w1.cell? ⟨g,3,none⟩=some a3) (m4:w1.cell? ⟨g,4,none⟩=some a4) (m5:w1.cell? ⟨g,5,none⟩=some a5) (hb:Hid (Below w.heap.size w w1)):
  w1.drew.cell? ⟨g,0,none⟩=some a0∧w1.drew.cell? ⟨g,1,none⟩=some a1∧w1.drew.cell? ⟨g,2,none⟩=some a2∧w1.drew.cell? ⟨g,3,none⟩=some a3∧w1.drew.cell? ⟨g,4,none⟩=some a4∧w1.drew.cell? ⟨g,5,none⟩=some a5∧Hid (Below w.heap.size w w1.drew):=
 ⟨m0,m1,m2,m3,m4,m5,Below.drew hb.out⟩
theorem held6 {w w1 w2:World} {g:Nat} {a0 a1 a2 a3 a4 a5:Value} (hg:g<w1.heap.size)
  (h:w1.drew.cell? ⟨g,0,none⟩=some a0∧w1.drew.cell? ⟨g,1,none⟩=some a1∧w1.drew.cell? ⟨g,2,none⟩=some a2∧w1.drew.cell? ⟨g,3,none⟩=some a3∧w1.drew.cell? ⟨g,4,none⟩=some a4∧w1.drew.cell? ⟨g,5,none⟩=some a5∧Hid (Below w.heap.size w w1.drew)) (hb:Below w1.drew.heap.size w1.drew w2):
  w2.cell? ⟨g,0,none⟩=some a0∧w2.cell? ⟨g,1,none⟩=some a1∧w2.cell? ⟨g,2,none⟩=some a2∧w2.cell? ⟨g,3,none⟩=some a3∧w2.cell? ⟨g,4,none⟩=some a4∧w2.cell? ⟨g,5,none⟩=some a5∧Hid (Below w.heap.size w w2):=by
 obtain ⟨m0,m1,m2,m3,m4,m5,h⟩:=h;exact ⟨(hb.cell hg).trans m0,(hb.cell hg).trans m1,(hb.cell hg).trans m2,(hb.cell hg).trans m3,(hb.cell hg).trans m4,(hb.cell hg).trans m5,zaR h.out hb (Nat.le_refl _)⟩
theorem zb5 {w1 w2:World} {p:Addr} {v:Value} (h:w1.cell? p=some v) (hb:Below w1.heap.size w1 w2):w2.cell? p=some v:=(hb.cell (zl h)).trans h
theorem held_and {A B A' B':Prop} (h:A∧B) (f:A→A') (g:B→B'):A'∧B':=⟨f h.1,g h.2⟩
theorem drewn_below {a w':World} (h:Below a.drew.heap.size a.drew w'):Below a.heap.size a w':=((Below.refl a.heap.size a).drew).trans h
structure CQ (w wr:World) (a0 a1 a2 a3 a4 a5:Value):Prop where
 below:Below w.heap.size w wr
 m0:wr.cell? ⟨w.heap.size,0,none⟩=some a0
 m1:wr.cell? ⟨w.heap.size,1,none⟩=some a1
 m2:wr.cell? ⟨w.heap.size,2,none⟩=some a2
 m3:wr.cell? ⟨w.heap.size,3,none⟩=some a3
 m4:wr.cell? ⟨w.heap.size,4,none⟩=some a4
 m5:wr.cell? ⟨w.heap.size,5,none⟩=some a5
theorem zca {ok:Nat→Prop} {v:Value} {m:MZ} (w:World) (hm:zr w ok v m) (hl:Lens m):
  Calls Tryz.prog 50 #[v] w fun e w'=>e=.returned (.int .i64 (chk m))∧Below w.heap.size w w':=by
 have hmz:=hm;obtain ⟨vfr,vup,vts,rfl,hfr,hup,hts⟩:=hm;obtain ⟨vsf,⟨Af,cf,rfl,hcf,hrf⟩,hef⟩:=hfr;obtain ⟨Au,cu,rfl,hcu,hru⟩:=hup;obtain ⟨vst,⟨At,ct,rfl,hct,hrt⟩,het⟩:=hts;obtain ⟨l1,l2,l3,l4⟩:=hl;have HRF:=zh hrf;clear hrf;have HEF:=zh hef;clear hef;have HRT:=zh hrt;clear hrt;have HET:=zh het;clear het;have HL4:=zh l4;clear l4;clear hru hmz
 go_enter Tryz.func50,Tryz.ntmps50
 by_cases hs:[m.w,m.h,m.l].any side=true
 ·have HC:=zh (chk_side hs)
  have h6:(m.w<1)∨(¬ m.w<1∧m.h<1)∨(¬ m.w<1∧¬ m.h<1∧m.l<1)∨(¬ m.w<1∧¬ m.h<1∧¬ m.l<1∧300<m.w)∨(¬ m.w<1∧¬ m.h<1∧¬ m.l<1∧¬ 300<m.w∧300<m.h)∨(¬ m.w<1∧¬ m.h<1∧¬ m.l<1∧¬ 300<m.w∧¬ 300<m.h∧300<m.l):=by
   simp [side] at hs;omega
  clear hs;rcases h6 with h | ⟨h1,h⟩ | ⟨h1,h2,h⟩ | ⟨h1,h2,h3,h⟩ | ⟨h1,h2,h3,h4,h⟩ | ⟨h1,h2,h3,h4,h5,h⟩
  all_goals go_wp2
  all_goals go_ret
  all_goals exact ⟨zaz HC.out.symm,(Below.refl _ _).alloc (Nat.le_refl _) _⟩
 have hs':[m.w,m.h,m.l].any side=false:=by simpa using hs
 clear hs;obtain ⟨⟨p1,p2⟩,p3,p4⟩:=sides_mul hs';obtain ⟨⟨a1,a2⟩,⟨b1,b2⟩,c1,c2⟩:=sides hs';have HN:=zh hs';clear hs'
 have hret2:300<m.n∨6<m.tasks.length→chk m=2:=by
  intro h;unfold chk;rw [if_neg (by rw [HN.out];simp),if_pos h]
 have HR2:=zh hret2;clear hret2
 go_wp2_with fail
 refine (zax _ _ _ _ _ _ _ (by omega) (by omega)).mono ?_;rintro e w' ⟨rfl,hb⟩;have hB0:Blk (w.alloc (.cells #[.int .i64 m.w,.int .i64 m.h,.int .i64 m.l,.slice Af m.free.length cf,.slice Au m.up.length cu,.slice At m.tasks.length ct] 32)) w.heap.size 32 _:=heap_alloc_new _ _;have hB1:Blk w' w.heap.size 32 _:=hB0.below hb (zb hB0);have hb1:Below w.heap.size w w':=zaR ((Below.refl _ _).alloc (Nat.le_refl _) _) hb (by simp);clear hB0 hb;obtain ⟨m0,m1,m2,m3,m4,m5⟩:=zw hB1;have HB1:=zh hB1;clear hB1;have Hb1:=zh hb1;clear hb1;by_cases hn:300<m.w*m.h*m.l
 ·go_wp2;go_ret;exact ⟨zaz (HR2.out (.inl hn)).symm,Hb1.out⟩
 by_cases ht:6<m.tasks.length
 ·go_wp2;go_ret;exact ⟨zaz (HR2.out (.inr ht)).symm,Hb1.out⟩
 have hret1:(m.free.length≠m.tasks.length∨(m.up.length:Int)≠m.n∨m.free.any (fun f=>(f.length:Int) != m.n)=true)→chk m=1:=by
  intro h;unfold chk;rw [if_neg (by rw [HN.out];simp),if_neg (by unfold MZ.n;omega),if_pos h]
 have HR1:=zh hret1;clear hret1;by_cases hf:m.free.length=m.tasks.length
 case neg=>
  have hd1:decide ((m.free.length:Int)=(m.tasks.length:Int))=false:=by simp;omega
  have hd2:((m.free.length:Int) != (m.tasks.length:Int))=true:=by simp;omega
  have hd3:decide (m.free.length=m.tasks.length)=false:=by simp;omega
  have hd4:(m.free.length != m.tasks.length)=true:=by simp;omega
  go_wp2_with fail
  go_quiet (fail)
  go_wp2;go_ret;exact ⟨zaz (HR1.out (.inl hf)).symm,zbQ Hb1.out _⟩
 have hd1:decide ((m.free.length:Int)=(m.tasks.length:Int))=true:=by simp;omega
 have hd2:((m.free.length:Int) != (m.tasks.length:Int))=false:=by simp;omega
 have hd3:decide (m.free.length=m.tasks.length)=true:=by simp;omega
 have hd4:(m.free.length != m.tasks.length)=false:=by simp;omega
 have HF:=zh hf;clear hf;have hlt:w.heap.size<w'.heap.size:=zb HB1.out
 go_wp2_with fail
 go_region_held3 (fun w'=>w'.cell? ⟨w.heap.size,0,none⟩=some (.int .i64 m.w)∧w'.cell? ⟨w.heap.size,1,none⟩=some (.int .i64 m.h)∧w'.cell? ⟨w.heap.size,2,none⟩=some (.int .i64 m.l)∧w'.cell? ⟨w.heap.size,3,none⟩=some (.slice Af m.free.length cf)∧w'.cell? ⟨w.heap.size,4,none⟩=some (.slice Au m.up.length cu)∧w'.cell? ⟨w.heap.size,5,none⟩=some (.slice At m.tasks.length ct)∧Hid (Below w.heap.size w w'))
  (first | exact zby hlt m0 m1 m2 m3 m4 m5 Hb1 | exact held6 hlt (by assumption) hb9)
  ((go_at_call 47;refine (zax _ _ _ _ _ _ _ (by omega) (by omega)).mono ?_;rintro e w9 ⟨rfl,hb9⟩))
 rename_i hS
 obtain ⟨m0,m1,m2,m3,m4,m5,hB⟩:=hS;have hI:=zh (CQ.mk hB.out m0 m1 m2 m3 m4 m5);by_cases hu:(m.up.length:Int)=m.w*m.h*m.l
 case neg=>
  go_wp2;go_ret;exact ⟨zaz (HR1.out (.inr (.inl hu))).symm,hB.out⟩
 clear m0 m1 m2 m3 m4 m5 hb9 hB hlt;have HU:=zh hu
 go_wp2_with fail
 rename ((m.up.length:Int) != m.w*m.h*m.l)=false=>hq
 clear hu hq;have hBB:zaG w ok (.slice Af m.free.length cf) m.free:=⟨vsf,⟨Af,cf,rfl,hcf,HRF.out⟩,HEF.out⟩;have HBB:=zh hBB;clear hBB;go_loopw [3] (fun i wr=>∃k:Nat,k≤m.free.length∧i=.int .i64 k∧Hid ((m.free.take k).any (fun f=>(f.length:Int) != m.n)=false)∧Hid (CQ w wr (.int .i64 m.w) (.int .i64 m.h) (.int .i64 m.l) (.slice Af m.free.length cf) (.slice Au m.up.length cu) (.slice At m.tasks.length ct))) (fun i _=>m.free.length - (intOf i).toNat)
 case atStart=>exact ⟨0,by omega,rfl,by simp [Hid],hI⟩
 clear hI
 case round=>
  obtain ⟨k,hk,rfl,hn,hI⟩:=hrel;obtain ⟨Hb1,m0,m1,m2,m3,m4,m5⟩:=hI;have Hb1:=zh Hb1;have hlt:=zl m0;by_cases hkl:k<m.free.length
  ·obtain ⟨b,off,u,rfl,_,hcell,hu⟩:=zP (HRF.out.keep (zX.of_below Hb1.out)) HEF.out hkl hkl;obtain ⟨x,hx⟩:∃x,x=m.free[k]:=⟨_,rfl⟩;rw [←hx] at hu;obtain ⟨Ax,cx,rfl,hcx,_⟩:=hu;have hsucc:=zh (za3 (fun f=>(f.length:Int) != m.n) hkl);rw [←hx] at hsucc;have HM:=zh (show x∈m.free by rw [hx];exact List.getElem_mem _);clear hx
   go_wp2_with fail
   go_region_held3 (fun w'=>(w'.cell? ⟨w.heap.size,0,none⟩=some (.int .i64 m.w)∧w'.cell? ⟨w.heap.size,1,none⟩=some (.int .i64 m.h)∧w'.cell? ⟨w.heap.size,2,none⟩=some (.int .i64 m.l)∧w'.cell? ⟨w.heap.size,3,none⟩=some (.slice (some ⟨b,off,none⟩) m.free.length cf)∧w'.cell? ⟨w.heap.size,4,none⟩=some (.slice Au m.up.length cu)∧w'.cell? ⟨w.heap.size,5,none⟩=some (.slice At m.tasks.length ct)∧Hid (Below w.heap.size w w'))∧w'.cell? ⟨b,off+k,none⟩=some (.slice Ax x.length cx))
    (first | exact ⟨zby hlt m0 m1 m2 m3 m4 m5 Hb1,hcell⟩ | exact held_and (by assumption) (fun h=>held6 hlt h hb9) (fun h=>zb5 h hb9))
    ((go_at_call 47;refine (zax _ _ _ _ _ _ _ (by omega) (by omega)).mono ?_;rintro e w9 ⟨rfl,hb9⟩))
   rename_i hS
   obtain ⟨⟨m0,m1,m2,m3,m4,m5,hB⟩,_⟩:=hS;have hI:=zh (CQ.mk hB.out m0 m1 m2 m3 m4 m5);clear hb9 hB;by_cases hx:(x.length:Int)=m.w*m.h*m.l
   ·have HX:=zh hx;go_wp2;clear hx;go_roundw
    case rel=>exact ⟨k+1,by omega,by go_num,by
     show _=false;rw [hsucc.out,hn.out];show (false || ((x.length:Int) != m.w*m.h*m.l))=false;rw [HX.out];simp,hI⟩
    case measure=>simp [intOf];omega
   ·have HX:=zh hx;go_wp2;go_ret
    exact ⟨zaz (HR1.out (.inr (.inr (List.any_eq_true.2 ⟨x,HM.out,by
     show ((x.length:Int) != m.w*m.h*m.l)=true;simpa using HX.out⟩)))).symm,hI.out.below⟩
  ·obtain rfl:k=m.free.length:=by omega
   have ha:m.free.any (fun f=>(f.length:Int) != m.n)=false:=by have h:=hn.out;rwa [List.take_length] at h
   have HA:=zh ha;clear ha hn;have hI:=zh (CQ.mk Hb1.out m0 m1 m2 m3 m4 m5);have hTT:zbh w ok (.slice At m.tasks.length ct) m.tasks:=⟨vst,⟨At,ct,rfl,hct,HRT.out⟩,HET.out⟩;have HTT:=zh hTT;clear hTT
   go_wp2_with fail
   clear m0 m1 m2 m3 m4 m5 Hb1 hlt;go_loopw [4] (fun i wr=>∃k:Nat,k≤m.tasks.length∧i=.int .i64 k∧Hid ((m.tasks.take k).any (fun t=>t.1.any (zU m.n) || t.2.any (zU m.n))=false)∧Hid (CQ w wr (.int .i64 m.w) (.int .i64 m.h) (.int .i64 m.l) (.slice Af m.free.length cf) (.slice Au m.up.length cu) (.slice At m.tasks.length ct))) (fun i _=>m.tasks.length - (intOf i).toNat)
   case atStart=>exact ⟨0,by omega,rfl,by simp [Hid],hI⟩
   clear hI
   case round=>
    obtain ⟨k,hk,rfl,hn,hI⟩:=hrel;obtain ⟨Hb1,m0,m1,m2,m3,m4,m5⟩:=hI;have Hb1:=zh Hb1;have hlt:=zl m0;by_cases hkl:k<m.tasks.length
    ·obtain ⟨b,off,sn,u1,u2,rfl,_,hc0,hc1,hc2,hi1,hi2⟩:=zam (HTT.out.below Hb1.out) hkl;obtain ⟨t,htt⟩:∃t,t=m.tasks[k]:=⟨_,rfl⟩;rw [←htt] at hi1 hi2;obtain ⟨hl1,hl2⟩:=HL4.out _ (List.getElem_mem hkl);rw [←htt] at hl1 hl2;have HI1:=zh hi1;clear hi1;have HI2:=zh hi2;clear hi2;have hsucc:=zh (za3 (fun t=>t.1.any (zU m.n) || t.2.any (zU m.n)) hkl);rw [←htt] at hsucc;have HM:=zh (show t∈m.tasks by rw [htt];exact List.getElem_mem _);clear htt
     have hret:∀x,x∈[]++t.1++t.2→zU m.n x=true→chk m=50:=by
      intro x hx h
      have ht:(t.1.any (zU m.n) || t.2.any (zU m.n))=true:=by
       rw [←List.any_append];exact List.any_eq_true.2 ⟨x,by simpa using hx,h⟩
      unfold chk;rw [if_neg (by rw [HN.out];simp),if_neg (by unfold MZ.n;omega),if_neg (by rw [HA.out,HF.out,HU.out];simp [MZ.n]),if_pos (List.any_eq_true.2 ⟨t,HM.out,ht⟩)]
     have HRET:=zh hret;clear hret
     go_wp2_with fail
     have hN0:w.heap.size≤wr.heap.size:=Hb1.out.size
     go_region_held3 (fun w'=>(w'.cell? ⟨w.heap.size,0,none⟩=some (.int .i64 m.w)∧w'.cell? ⟨w.heap.size,1,none⟩=some (.int .i64 m.h)∧w'.cell? ⟨w.heap.size,2,none⟩=some (.int .i64 m.l)∧w'.cell? ⟨w.heap.size,3,none⟩=some (.slice Af m.free.length cf)∧w'.cell? ⟨w.heap.size,4,none⟩=some (.slice Au m.up.length cu)∧w'.cell? ⟨w.heap.size,5,none⟩=some (.slice (some ⟨b,off,none⟩) m.tasks.length ct)∧Hid (Below w.heap.size w w'))∧w'.cell? ⟨b,off+k*3+1,none⟩=some u1∧w'.cell? ⟨b,off+k*3+2,none⟩=some u2)
      (first | (exact ⟨zby hlt m0 m1 m2 m3 m4 m5 Hb1,hc1,hc2⟩) | (exact ⟨held6 hlt (zby hlt m0 m1 m2 m3 m4 m5 Hb1) hbB,zb5 (w1:=wr.drew) hc1 hbB,zb5 (w1:=wr.drew) hc2 hbB⟩) | (exact ⟨held6 hlt (zby hlt m0 m1 m2 m3 m4 m5 Hb1) hbA,zb5 (w1:=wr.drew) hc1 hbA,zb5 (w1:=wr.drew) hc2 hbA⟩) | (exact ⟨held6 hlt (zby hlt m0 m1 m2 m3 m4 m5 Hb1) ((Below.refl _ _).alloc (Nat.le_refl _) _),zb5 (w1:=wr.drew) hc1 ((Below.refl _ _).alloc (Nat.le_refl _) _),zb5 (w1:=wr.drew) hc2 ((Below.refl _ _).alloc (Nat.le_refl _) _)⟩))
      (first | (refine za7 (ok:=ok) (by rfl) _ _ _ (by rfl) wr.heap.size [] t.1 _ _ (by rfl) (by rfl) (zce wr.drew wr.heap.size (Nat.le_refl _)) (HI1.out.keep (zX.of_below (w:=wr) ((Below.drew (Below.refl _ _)).alloc (Nat.le_refl _) _))) (by simp) (by simp;omega) ?_;intro v1 w1 ho1 hg1 hat1;have hbA:Below wr.drew.heap.size wr.drew w1:=(zT ((Below.refl _ _).alloc (Nat.le_refl _) _) hg1 (by simp) (fun k hk=>za8 (zce wr.drew wr.heap.size (Nat.le_refl _)) hk))) | (refine za7 (ok:=ok) (by rfl) _ _ _ (by rfl) wr.heap.size ([]++t.1) t.2 _ _ (by rfl) (by rfl) ho1 (HI2.out.keep (zX.of_below (w:=wr.drew) hbA)) hbA.size (by simp;omega) ?_;intro v2 w2 ho2 hg2 hat2;have hbB:Below wr.drew.heap.size wr.drew w2:=(zT hbA hg2 hbA.size (fun k hk=>za8 ho1 hk))))
     rename_i hS
     obtain ⟨⟨m0,m1,m2,m3,m4,m5,hB⟩,_,_⟩:=hS;have hI:=zh (CQ.mk hB.out m0 m1 m2 m3 m4 m5);have HO2:=zh (ho2.mono hN0:zy w2 w.heap.size v2 ([]++t.1++t.2));clear hbA hbB hg1 hat1 ho1 ho2 hg2 hat2 hc0 hc1 hc2 m0 m1 m2 m3 m4 m5 hB hlt Hb1;obtain ⟨all,hall⟩:∃all,all=[]++t.1++t.2:=⟨_,rfl⟩;rw [←hall] at HO2 HRET;have hll:all.length≤800000000000:=by rw [hall];simp;omega
     have HALL:=zh hall;clear hall;obtain ⟨Av,cv,rfl,hcv,hrv⟩:=Row.of_own HO2.out;have HRV:=zh hrv;clear hrv
     go_wp2_with fail
     go_loopw [6] (fun i wi=>∃j:Nat,j≤all.length∧i=.int .i64 j∧Hid ((all.take j).any (zU m.n)=false)∧Hid (Below w2.heap.size w2 wi)∧Hid (CQ w wi (.int .i64 m.w) (.int .i64 m.h) (.int .i64 m.l) (.slice Af m.free.length cf) (.slice Au m.up.length cu) (.slice (some ⟨b,off,none⟩) m.tasks.length ct))) (fun i _=>all.length - (intOf i).toNat)
     case atStart=>exact ⟨0,by omega,rfl,by simp [Hid],Below.refl _ _,hI⟩
     clear hI
     case round=>
      obtain ⟨j,hj,rfl,hnj,hb2,hI⟩:=hrel;obtain ⟨wi,rfl⟩:∃wi:World,wi=wr:=⟨_,rfl⟩;obtain ⟨Hb1,m0,m1,m2,m3,m4,m5⟩:=hI;have Hb1:=zh Hb1;have hlt:=zl m0;by_cases hjl:j<all.length
      ·obtain ⟨bv,ov,rfl,_,hcell⟩:=zt (HRV.out.keep (zX.of_below hb2.out)) hjl hjl;obtain ⟨x,hx⟩:∃x,x=all[j]:=⟨_,rfl⟩;rw [←hx] at hcell;have hsucj:=zh (za3 (zU m.n) hjl);rw [←hx] at hsucj;have HXM:=zh (show x∈all by rw [hx];exact List.getElem_mem _);clear hx;by_cases hx0:x<0
       ·have hd:decide (x<0)=true:=by simpa using hx0
        go_wp2_with fail
        go_quiet (fail)
        go_wp2;go_ret;exact ⟨zaz (HRET.out x HXM.out (by unfold zU;rw [hd];rfl)).symm,zbQ Hb1.out _⟩
       ·have hd:decide (x<0)=false:=by simpa using hx0
        go_wp2_with fail
        go_region_held3 (fun w'=>(w'.cell? ⟨w.heap.size,0,none⟩=some (.int .i64 m.w)∧w'.cell? ⟨w.heap.size,1,none⟩=some (.int .i64 m.h)∧w'.cell? ⟨w.heap.size,2,none⟩=some (.int .i64 m.l)∧w'.cell? ⟨w.heap.size,3,none⟩=some (.slice Af m.free.length cf)∧w'.cell? ⟨w.heap.size,4,none⟩=some (.slice Au m.up.length cu)∧w'.cell? ⟨w.heap.size,5,none⟩=some (.slice (some ⟨b,off,none⟩) m.tasks.length ct)∧Hid (Below w.heap.size w w'))∧w'.cell? ⟨bv,ov+j,none⟩=some (.int .i64 x))
         (first | exact ⟨zby hlt m0 m1 m2 m3 m4 m5 Hb1,hcell⟩ | exact held_and (by assumption) (fun h=>held6 hlt h hb9) (fun h=>zb5 h hb9))
         ((go_at_call 47;refine (zax _ _ _ _ _ _ _ (by omega) (by omega)).mono ?_;rintro e w9 ⟨rfl,hb9⟩))
        rename_i hS
        obtain ⟨⟨m0,m1,m2,m3,m4,m5,hB⟩,_⟩:=hS;have hI:=zh (CQ.mk hB.out m0 m1 m2 m3 m4 m5);have hb29:Hid (Below w2.heap.size w2 w9):=zaR hb2.out (drewn_below hb9) (Nat.le_refl _);clear hb9 hB;by_cases hxn:x<m.w*m.h*m.l
        ·have HX:=zh hxn;have HX0:=zh hx0;go_wp2;clear hxn hx0 hd;go_roundw
         case rel=>exact ⟨j+1,by omega,by go_num,by
          show _=false;rw [hsucj.out,hnj.out];have h1:¬ m.w*m.h*m.l≤x:=by have:=HX.out;omega
          have h2:¬ x<0:=by have:=HX0.out;omega
          show (false || (decide (x<0) || decide (m.w*m.h*m.l≤x)))=false;rw [decide_eq_false h1,decide_eq_false h2];rfl,hb29,hI⟩
         case measure=>simp [intOf];omega
        ·have HX:=zh hxn;go_wp2;go_ret
         exact ⟨zaz (HRET.out x HXM.out (by
          have h1:m.w*m.h*m.l≤x:=by have:=HX.out;omega
          show (decide (x<0) || decide (m.w*m.h*m.l≤x))=true;rw [decide_eq_true h1,Bool.or_true])).symm,hI.out.below⟩
      ·obtain rfl:j=all.length:=by omega
       go_wp2;go_roundw
       case rel=>exact ⟨k+1,by omega,by go_num,by
        show _=false;have h:=hnj.out;rw [List.take_length,HALL.out,List.nil_append,List.any_append] at h;rw [hsucc.out,hn.out];exact h,⟨Hb1.out,m0,m1,m2,m3,m4,m5⟩⟩
       case measure=>simp [intOf];omega
    ·obtain rfl:k=m.tasks.length:=by omega
     go_wp2;go_ret;refine ⟨zaz ?_,Hb1.out⟩;have hn:=hn.out;rw [List.take_length] at hn;unfold chk;rw [if_neg (by rw [HN.out];simp),if_neg (by unfold MZ.n;omega),if_neg (by rw [HA.out,HF.out,HU.out];simp [MZ.n]),if_neg (by rw [hn];simp)]
structure zx (m:MZ):Prop where
 dim:Dim m
 fl:m.free.length=m.tasks.length
 fn:∀f∈m.free,(f.length:Int)=m.n
 tk:m.tasks.length≤6
 tn:∀t∈m.tasks,∀x,x∈t.1∨x∈t.2→0≤x∧x<m.n
theorem zx.of {m:MZ} (h:chk m=0):zx m:=by
 unfold chk at h
 split at h
 ·cases h
 ·rename_i h1
  have h1':[m.w,m.h,m.l].any side=false:=by simpa using h1
  obtain ⟨⟨a1,a2⟩,⟨b1,b2⟩,c1,c2⟩:=sides h1'
  split at h
  ·cases h
  ·rename_i h2
   split at h
   ·cases h
   ·rename_i h3
    split at h
    ·cases h
    ·rename_i h4
     have h2':m.n≤300∧m.tasks.length≤6:=by omega
     have h3a:m.free.length=m.tasks.length:=by
      by_cases h:m.free.length=m.tasks.length
      ·exact h
      ·exact absurd (.inl h) h3
     have h3b:(m.up.length:Int)=m.n:=by
      by_cases h:(m.up.length:Int)=m.n
      ·exact h
      ·exact absurd (.inr (.inl h)) h3
     have h3c:∀f∈m.free,(f.length:Int)=m.n:=by
      intro f hf;by_cases h:(f.length:Int)=m.n
      ·exact h
      ·exact absurd (.inr (.inr (List.any_eq_true.2 ⟨f,hf,by simpa using h⟩))) h3
     refine ⟨⟨a1,a2,b1,b2,c1,c2,h2'.1,h3b⟩,h3a,h3c,h2'.2,fun t ht x hx=>?_⟩;by_cases hb:zU m.n x=true
     ·exfalso
      apply h4;refine List.any_eq_true.2 ⟨t,ht,?_⟩;rw [Bool.or_eq_true];rcases hx with hx | hx
      ·exact .inl (List.any_eq_true.2 ⟨x,hx,hb⟩)
      ·exact .inr (List.any_eq_true.2 ⟨x,hx,hb⟩)
     ·simp [zU] at hb;omega
theorem zx.n1 {m:MZ} (g:zx m):1≤m.w*m.h*m.l:=by have:=g.dim.layer;omega
def zap (m:MZ) (node:Int):List Int:=if chk m=0∧0≤node∧node<m.n then zi m node else []
open Classical in
noncomputable def zcr (m:MZ) (t:Int) (from_ used:List Int):List Int:=if chk m=0∧0≤t∧t<m.tasks.length then zaA m t.toNat from_ used else []
theorem zcy {ok:Nat→Prop} {v:Value} {m:MZ} (node:Int) (w:World) (hm:zr w ok v m) (hl:Lens m):
  Calls Tryz.prog 26 #[v,.int .i64 node] w fun e w'=>∃v',e=.returned v'∧Mk w w' v' (zap m node):=by
 have hmz:=hm;obtain ⟨vfr,vup,vts,rfl,hfr,_,hts⟩:=hm;obtain ⟨vst,⟨At,ct,rfl,hct,_⟩,_⟩:=hts;have HMZ:=zh hmz;clear hmz;have HL:=zh hl;obtain ⟨l1,l2,l3,l4⟩:=hl;clear l4 hfr
 go_enter Tryz.func26,Tryz.ntmps26
 go_wp2_with fail
 generalize hw1:w.alloc (.cells #[.int .i64 m.w,.int .i64 m.h,.int .i64 m.l,vfr,vup,.slice At m.tasks.length ct] 32)=w1;have hb1:Ext w w1:=by rw [←hw1];exact (Ext.refl w).alloc _
 have hgm:Blk w1 w.heap.size 32 #[.int .i64 m.w,.int .i64 m.h,.int .i64 m.l,vfr,vup,.slice At m.tasks.length ct]:=by rw [←hw1];exact heap_alloc_new _ _
 clear hw1;obtain ⟨m0,m1,m2,m3,m4,m5⟩:=zw hgm;have r0:=Ext.rule m0;have r1:=Ext.rule m1;have r2:=Ext.rule m2;have r3:=Ext.rule m3;have r4:=Ext.rule m4;have r5:=Ext.rule m5;clear m0 m1 m2 m3 m4 m5 hgm;have ra:=zQ w1;have hx:Ext w1 w1:=Ext.refl w1
 go_wp2_with fail
 refine (zaM w1 (HMZ.out.below hb1) HL.out).mono ?_;rintro e wA ⟨rfl,hbA⟩;have hxA:Ext w1 wA:=hbA;clear hx;by_cases hc:chk m=0
 case neg=>
  have hd:(chk m != 0)=true:=by simpa using hc
  have HC:=zh hc;clear hc;go_wp2;go_ret;exact ⟨_,rfl,(hb1.trans hxA).mono_mk (Mk.cast (Mk.nil _) (by unfold zap;rw [if_neg (fun h=>HC.out h.1)]))⟩
 have hd:(chk m != 0)=false:=by simpa using hc
 have G:=zh (zx.of hc);have HC:=zh hc;clear hc;obtain ⟨hl1,hl2⟩:=G.out.dim.layer;have hn1:=G.out.dim.n1;by_cases h0:0≤node
 case neg=>
  go_wp2;go_ret;exact ⟨_,rfl,(hb1.trans hxA).mono_mk (Mk.cast (Mk.nil _) (by unfold zap;rw [if_neg (fun h=>by have:=h.2.1;omega)]))⟩
 go_wp2_with fail
 refine (zal _ _ _ _ _ _ _ (by omega) (by omega)).mono ?_;rintro e wB ⟨rfl,hbB⟩;have hxB:Ext w1 wB:=hxA.trans hbB;by_cases h1:node<m.w*m.h*m.l
 case neg=>
  go_wp2;go_ret;exact ⟨_,rfl,(hb1.trans hxB).mono_mk (Mk.cast (Mk.nil _) (by unfold zap;rw [if_neg (fun h=>by have:=h.2.2;unfold MZ.n at this;omega)]))⟩
 go_wp2_with fail
 refine (zcq m node _ (HMZ.out.below (hb1.trans hxB)) G.out.dim h0 h1).mono ?_;rintro e wC ⟨v',rfl,hbC,hoC⟩;have HM:Hid (Mk wB wC v' (zi m node)):=⟨hoC,hbC⟩;clear hoC;have hxC:Ext w1 wC:=hxB.trans hbC
 go_wp2_with fail
 go_ret;exact ⟨_,rfl,(hb1.trans hxB).mono_mk (HM.out.cast (by unfold zap;rw [if_pos ⟨HC.out,h0,h1⟩]))⟩
theorem zdf {ok:Nat→Prop} {v:Value} {m:MZ} (node:Int) (w:World) (hm:zr w ok v m) (hl:Lens m):
  Calls Tryz.prog 53 #[v,.int .i64 node] w fun e w'=>∃v',e=.returned v'∧Mk w w' v' (zap m node):=by
 have hmz:=hm;obtain ⟨vfr,vup,vts,rfl,hfr,_,hts⟩:=hm;obtain ⟨vst,⟨At,ct,rfl,hct,_⟩,_⟩:=hts;have HMZ:=zh hmz;clear hmz;have HL:=zh hl;obtain ⟨l1,l2,l3,l4⟩:=hl;clear l4 hfr
 go_enter Tryz.func53,Tryz.ntmps53
 go_wp2_with fail
 generalize hw1:w.alloc (.cells #[.int .i64 m.w,.int .i64 m.h,.int .i64 m.l,vfr,vup,.slice At m.tasks.length ct] 32)=w1;have hb1:Ext w w1:=by rw [←hw1];exact (Ext.refl w).alloc _
 have hgm:Blk w1 w.heap.size 32 #[.int .i64 m.w,.int .i64 m.h,.int .i64 m.l,vfr,vup,.slice At m.tasks.length ct]:=by rw [←hw1];exact heap_alloc_new _ _
 clear hw1;obtain ⟨m0,m1,m2,m3,m4,m5⟩:=zw hgm;have r0:=Ext.rule m0;have r1:=Ext.rule m1;have r2:=Ext.rule m2;have r3:=Ext.rule m3;have r4:=Ext.rule m4;have r5:=Ext.rule m5;clear m0 m1 m2 m3 m4 m5 hgm;have ra:=zQ w1;have hx:Ext w1 w1:=Ext.refl w1
 go_wp2_with fail
 refine (zca w1 (HMZ.out.below hb1) HL.out).mono ?_;rintro e wA ⟨rfl,hbA⟩;have hxA:Ext w1 wA:=hbA;clear hx;by_cases hc:chk m=0
 case neg=>
  have hd:(chk m != 0)=true:=by simpa using hc
  have HC:=zh hc;clear hc;go_wp2;go_ret;exact ⟨_,rfl,(hb1.trans hxA).mono_mk (Mk.cast (Mk.nil _) (by unfold zap;rw [if_neg (fun h=>HC.out h.1)]))⟩
 have hd:(chk m != 0)=false:=by simpa using hc
 have G:=zh (zx.of hc);have HC:=zh hc;clear hc;obtain ⟨hl1,hl2⟩:=G.out.dim.layer;have hn1:=G.out.dim.n1;by_cases h0:0≤node
 case neg=>
  go_wp2;go_ret;exact ⟨_,rfl,(hb1.trans hxA).mono_mk (Mk.cast (Mk.nil _) (by unfold zap;rw [if_neg (fun h=>by have:=h.2.1;omega)]))⟩
 go_wp2_with fail
 refine (zax _ _ _ _ _ _ _ (by omega) (by omega)).mono ?_;rintro e wB ⟨rfl,hbB⟩;have hxB:Ext w1 wB:=hxA.trans hbB;by_cases h1:node<m.w*m.h*m.l
 case neg=>
  go_wp2;go_ret;exact ⟨_,rfl,(hb1.trans hxB).mono_mk (Mk.cast (Mk.nil _) (by unfold zap;rw [if_neg (fun h=>by have:=h.2.2;unfold MZ.n at this;omega)]))⟩
 go_wp2_with fail
 refine (zdg m node _ (HMZ.out.below (hb1.trans hxB)) G.out.dim h0 h1).mono ?_;rintro e wC ⟨v',rfl,hbC,hoC⟩;have HM:Hid (Mk wB wC v' (zi m node)):=⟨hoC,hbC⟩;clear hoC;have hxC:Ext w1 wC:=hxB.trans hbC
 go_wp2_with fail
 go_ret;exact ⟨_,rfl,(hb1.trans hxB).mono_mk (HM.out.cast (by unfold zap;rw [if_pos ⟨HC.out,h0,h1⟩]))⟩
theorem rReach_calls {ok ok1 ok2:Nat→Prop} {v vf vu:Value} {m:MZ} {from_ used:List Int} (t:Int) (w:World) (hm:zr w ok v m) (hl:Lens m) (hf:zf w ok1 vf from_) (hlf:from_.length≤20000000000000) (hu:zf w ok2 vu used) (hlu:used.length≤20000000000000):
  Calls Tryz.prog 25 #[v,.int .i64 t,vf,vu] w fun e w'=>∃v',e=.returned v'∧Mk w w' v' (zcr m t from_ used):=by
 have hmz:=hm;obtain ⟨vfr,vup,vts,rfl,hfr,_,hts⟩:=hm;obtain ⟨vst,⟨At,ct,rfl,hct,_⟩,_⟩:=hts;have HMZ:=zh hmz;clear hmz;have HL:=zh hl;obtain ⟨l1,l2,l3,l4⟩:=hl;clear l4 hfr;have HF:=zh hf;clear hf;have HU:=zh hu;clear hu
 go_enter Tryz.func25,Tryz.ntmps25
 go_wp2_with fail
 generalize hw1:w.alloc (.cells #[.int .i64 m.w,.int .i64 m.h,.int .i64 m.l,vfr,vup,.slice At m.tasks.length ct] 32)=w1;have hb1:Ext w w1:=by rw [←hw1];exact (Ext.refl w).alloc _
 have hgm:Blk w1 w.heap.size 32 #[.int .i64 m.w,.int .i64 m.h,.int .i64 m.l,vfr,vup,.slice At m.tasks.length ct]:=by rw [←hw1];exact heap_alloc_new _ _
 clear hw1;obtain ⟨m0,m1,m2,m3,m4,m5⟩:=zw hgm;have r0:=Ext.rule m0;have r1:=Ext.rule m1;have r2:=Ext.rule m2;have r3:=Ext.rule m3;have r4:=Ext.rule m4;have r5:=Ext.rule m5;clear m0 m1 m2 m3 m4 m5 hgm;have ra:=zQ w1;have hx:Ext w1 w1:=Ext.refl w1
 go_wp2_with fail
 refine (zaM w1 (HMZ.out.below hb1) HL.out).mono ?_;rintro e wA ⟨rfl,hbA⟩;have hxA:Ext w1 wA:=hbA;clear hx;by_cases hc:chk m=0
 case neg=>
  have hd:(chk m != 0)=true:=by simpa using hc
  have HC:=zh hc;clear hc;go_wp2;go_ret;exact ⟨_,rfl,(hb1.trans hxA).mono_mk (Mk.cast (Mk.nil _) (by unfold zcr;rw [if_neg (fun h=>HC.out h.1)]))⟩
 have hd:(chk m != 0)=false:=by simpa using hc
 have G:=zh (zx.of hc);have HC:=zh hc;clear hc;obtain ⟨hl1,hl2⟩:=G.out.dim.layer;have hn1:=G.out.dim.n1;by_cases h0:0≤t
 case neg=>
  go_wp2;go_ret;exact ⟨_,rfl,(hb1.trans hxA).mono_mk (Mk.cast (Mk.nil _) (by unfold zcr;rw [if_neg (fun h=>by have:=h.2.1;omega)]))⟩
 by_cases h1:t<m.tasks.length
 case neg=>
  have h1':(m.tasks.length:Int)≤t:=by omega
  go_wp2;go_ret;exact ⟨_,rfl,(hb1.trans hxA).mono_mk (Mk.cast (Mk.nil _) (by unfold zcr;rw [if_neg (fun h=>by have:=h.2.2;omega)]))⟩
 obtain ⟨tn,rfl⟩:∃tn:Nat,t=tn:=⟨t.toNat,by omega⟩;have htn:tn<m.free.length:=by have:=G.out.fl;omega
 have htn2:tn<m.tasks.length:=by omega
 go_wp2_with fail
 have hxD:=zh hxA
 go_region_held3 (fun w'=>Ext w1 w'∧Ext wA w')
  (first | (exact zc6 hxA) | (exact held_ext (zc6 hxA) hb8) | (exact held_ext (held_ext (zc6 hxA) hb8) hb9))
  (first | ((go_at_call 60;refine (setOf_calls _ (HU.out.keep (zX.of_below (hb1.trans hxA.drew))) hlu).mono ?_;rintro e w8 ⟨s8,rfl,hb8,hs8,hss8⟩)) | ((go_at_call 59;refine (reach_calls tn _ (HMZ.out.keep (zX.of_below (hb1.trans (hxA.drew.trans hb8)))) G.out.dim htn G.out.fn (HF.out.keep (zX.of_below (hb1.trans (hxA.drew.trans hb8)))) hlf hs8).mono ?_;rintro e w9 ⟨s9,rfl,hb9,hs9,hss9⟩)))
 rename_i hS
 have hx9:=hS.1;have HS9:=zh hs9;clear hs9;have hE:=zh (reachL_of (used:=used) (fun x=>(hss9 x).trans ⟨fun h=>h.congr (fun _=>Iff.rfl) hss8,fun h=>h.congr (fun _=>Iff.rfl) (fun y=>(hss8 y).symm)⟩));clear hss9;have hgs:w8.heap.size+1<w9.heap.size:=zb HS9.out;obtain ⟨gs,hgs'⟩:∃gs,gs=w8.heap.size+1:=⟨_,rfl⟩;rw [←hgs'] at HS9 hgs;have HG:=zh hgs';clear hb8 hs8 hss8 hS
 go_wp2_with fail
 rw [←HG.out];clear hgs' hb9;refine (zal _ _ _ _ _ _ _ (by omega) (by omega)).mono ?_;rintro e wB ⟨rfl,hbB⟩;have hxB:Ext w1 wB:=hx9.trans hbB;have HSB:=zh (HS9.out.below hbB);clear HS9 hgs hbB;obtain ⟨N,hN⟩:∃N:Nat,m.w*m.h*m.l=(N:Int):=⟨(m.w*m.h*m.l).toNat,by omega⟩;have HN:=zh hN;clear hN;have hN3:N≤300:=by have h:=HN.out;have:=G.out.dim.n1;omega
 have hMk:=zh (Mk.nil wB);rw [HN.out]
 go_wp2_with fail
 go_loopw [9,34] (fun v i wr=>∃k:Nat,k≤N∧i=.int .i64 (k:Nat)∧Hid (Mk wB wr v (((List.range k).map Int.ofNat).filter (fun x=>decide (x∈s9))))) (fun _ i _=>N - (intOf i).toNat)
 case atStart=>exact ⟨0,by omega,rfl,hMk⟩
 clear hMk
 case round=>
  obtain ⟨j,hj,rfl,hM⟩:=hrel;by_cases hjl:j<N
  ·have hstep:((List.range (j+1)).map Int.ofNat).filter (fun x=>decide (x∈s9))=((List.range j).map Int.ofNat).filter (fun x=>decide (x∈s9))++[(j:Int)].filter (fun x=>decide (x∈s9)):=by
    rw [List.range_succ,List.map_append,List.filter_append];rfl
   have HS:=zh hstep;clear hstep;have hset:=HSB.out.below hM.out.ext;by_cases hjs:(j:Int)∈s9
   ·have hlk:=look_t hset hjs;have HJS:=zh hjs;clear hjs;have hlen:(((List.range j).map Int.ofNat).filter (fun x=>decide (x∈s9))).length≤j:=Nat.le_trans (List.length_filter_le _ _) (by simp);obtain ⟨lj,hlj⟩:∃lj,lj=((List.range j).map Int.ofNat).filter (fun x=>decide (x∈s9)):=⟨_,rfl⟩;rw [←hlj] at hM hlen HS;clear hlj;have hzB:=hM.out.ext.size
    go_wp2_with (at_builtin;refine zan rfl _ _ rfl _ lj (j:Int) wB.heap.size wr.heap.size 1 _ rfl rfl (hM.out.own.alloc _) ?d1 ?d2 ?d3 ?_)
    (try case d1=>exact zm _ _ _ (by simp))
    case d2=>(first | (simp;done) | (simp;omega) | omega)
    case d3=>omega
    intro v' wb hob hgb hbl;have hM':=zh ((hM.out.alloc _).app hob hgb);clear hob hgb hbl;go_wp2;go_roundw
    case rel=>exact ⟨j+1,by omega,by go_num,by rw [HS.out,List.filter_cons_of_pos (by simpa using HJS.out)];exact hM'⟩
    case measure=>simp [intOf];omega
   ·have hlk:=look_f hset hjs;have HJS:=zh hjs;clear hjs;go_wp2;go_roundw
    case rel=>exact ⟨j+1,by omega,by go_num,by rw [HS.out,List.filter_cons_of_neg (by simpa using HJS.out),List.filter_nil,List.append_nil];exact hM⟩
    case measure=>simp [intOf];omega
  ·have hjN:j=N:=by omega
   subst hjN
   go_wp2_with fail
   go_ret;refine ⟨_,rfl,(hb1.trans hxB).mono_mk (hM.out.cast ?_)⟩;have hN':m.n.toNat=j:=by have:m.n=(j:Int):=HN.out;omega
   unfold zcr;rw [if_pos ⟨HC.out,by omega,by omega⟩,Int.toNat_natCast,←hE.out,hN']
def stCells (m:MZ) (f u t vc vp:Value) (gu:Nat):Array Value:=#[.int .i64 m.w,.int .i64 m.h,.int .i64 m.l,f,u,t,vc,vp,.map (some gu)]
structure zaZ (w:World) (ok:Nat→Prop) (g:Nat) (m:MZ) (ch:List Int) (ps:List (List Int)) (us:List Int) (f u t vc vp:Value) (gu:Nat):Prop where
 blk:Blk w g 100 (stCells m f u t vc vp gu)
 okg:ok g
 maze:zr w ok (.agg #[.int .i64 m.w,.int .i64 m.h,.int .i64 m.l,f,u,t]) m
 ch:zf w ok vc ch
 ps:zo w ok vp ps
 oku:ok gu
 us:zA w gu us
def StateV (w:World) (ok:Nat→Prop) (v:Value) (m:MZ) (ch:List Int) (ps:List (List Int)) (us:List Int):Prop:=
 ∃g f u t vc vp gu,v=.pointer (some ⟨g,0,none⟩)∧zaZ w ok g m ch ps us f u t vc vp gu
section
variable {w w':World} {ok ok':Nat→Prop} {v f u t vc vp:Value} {m:MZ} {ch us:List Int} {ps:List (List Int)} {g gu:Nat}
theorem zaZ.keep (h:zaZ w ok g m ch ps us f u t vc vp gu) (hk:zX ok w w'):zaZ w' ok g m ch ps us f u t vc vp gu:=
 ⟨(hk g h.okg (zb h.blk)).trans h.blk,h.okg,h.maze.keep hk,h.ch.keep hk,h.ps.keep hk,h.oku,h.us.keep hk h.oku⟩
theorem zaZ.weaken (h:zaZ w ok g m ch ps us f u t vc vp gu) (hk:∀b,ok b→ok' b):zaZ w ok' g m ch ps us f u t vc vp gu:=
 ⟨h.blk,hk _ h.okg,h.maze.weaken hk,h.ch.weaken hk,h.ps.weaken hk,hk _ h.oku,h.us⟩
theorem zaZ.ext (h:zaZ w ok g m ch ps us f u t vc vp gu) (hb:Ext w w'):zaZ w' ok g m ch ps us f u t vc vp gu:=h.keep (zX.of_below hb)
theorem zaZ.rules (h:zaZ w ok g m ch ps us f u t vc vp gu):
  (∀W,Ext w W→W.cell? ⟨g,0,none⟩=some (.int .i64 m.w))∧(∀W,Ext w W→W.cell? ⟨g,1,none⟩=some (.int .i64 m.h))∧(∀W,Ext w W→W.cell? ⟨g,2,none⟩=some (.int .i64 m.l))∧
  (∀W,Ext w W→W.cell? ⟨g,3,none⟩=some f)∧(∀W,Ext w W→W.cell? ⟨g,4,none⟩=some u)∧(∀W,Ext w W→W.cell? ⟨g,5,none⟩=some t)∧
  (∀W,Ext w W→W.cell? ⟨g,6,none⟩=some vc)∧(∀W,Ext w W→W.cell? ⟨g,7,none⟩=some vp)∧(∀W,Ext w W→W.cell? ⟨g,8,none⟩=some (.map (some gu))):=by
 have hb:=h.blk;unfold Blk stCells at hb
 have hc:∀k x,(#[Value.int .i64 m.w,.int .i64 m.h,.int .i64 m.l,f,u,t,vc,vp,.map (some gu)]:Array Value)[k]?=some x→w.cell? ⟨g,k,none⟩=some x:=by
  intro k x hk;unfold World.cell?;simp only [hb];exact hk
 exact ⟨Ext.rule (hc 0 _ rfl),Ext.rule (hc 1 _ rfl),Ext.rule (hc 2 _ rfl),Ext.rule (hc 3 _ rfl),Ext.rule (hc 4 _ rfl),Ext.rule (hc 5 _ rfl),Ext.rule (hc 6 _ rfl),Ext.rule (hc 7 _ rfl),Ext.rule (hc 8 _ rfl)⟩
end
structure SOk (m:MZ) (ch:List Int) (ps:List (List Int)):Prop where
 good:zx m
 lens:Lens m
 pl:ps.length≤m.tasks.length
 pn:0<m.tasks.length→0<ps.length
 pp:∀p∈ps,p.length≤1000
 pr:∀p∈ps,∀x∈p,0≤x∧x<m.n
 cl:ch.length≤1000
def finB (m:MZ) (ps:List (List Int)):Bool:=
 match (ps.getD (ps.length - 1) []).getLast? with
 | none=>false
 | some x=>decide (x∈(m.tasks.getD (ps.length - 1) ([],[])).2)
def cmpB (m:MZ) (ps:List (List Int)):Bool:=decide (m.tasks.length=0) || (decide (ps.length=m.tasks.length) && finB m ps)
theorem zco {w:World}:Ext w w.drew:=(Ext.refl w).drew
theorem zaB {ok:Nat→Prop} {m:MZ} {ch us:List Int} {ps:List (List Int)} {g gu:Nat} {f u t vc vp:Value} (w:World) (h:zaZ w ok g m ch ps us f u t vc vp gu) (hl:ps.length≤20000000000000):
  Calls Tryz.prog 103 #[.pointer (some ⟨g,0,none⟩)] w fun e w'=>e=.returned (.int .i64 ((ps.length:Int) - 1))∧w=w':=by
 obtain ⟨r0,r1,r2,r3,r4,r5,r6,r7,r8⟩:=h.rules;obtain ⟨vs,⟨Ap,cp,rfl,hcp,_⟩,_⟩:=h.ps;clear h;have hx:=Ext.refl w
 go_enter Tryz.func103,Tryz.ntmps103
 go_wp2;go_ret;exact ⟨rfl,rfl⟩
theorem zcY {ok:Nat→Prop} {m:MZ} {ch us:List Int} {ps:List (List Int)} {g gu:Nat} {f u t vc vp:Value} (w:World) (h:zaZ w ok g m ch ps us f u t vc vp gu) (so:SOk m ch ps) (hp:0<ps.length):
  Calls Tryz.prog 87 #[.pointer (some ⟨g,0,none⟩)] w fun e w'=>e=.returned (.bool (finB m ps))∧zG w w':=by
 obtain ⟨r0,r1,r2,r3,r4,r5,r6,r7,r8⟩:=h.rules;have hps:=h.ps;have hmz:=h.maze;have HS:=zh h;clear h;obtain ⟨vs,⟨Ap,cp,rfl,hcp,hrp⟩,hep⟩:=hps;obtain ⟨fr',up',ts',he,_,_,hts⟩:=hmz;injection he with he;injection he with he;simp only [List.cons.injEq,and_true,true_and] at he;obtain ⟨rfl,rfl,rfl⟩:=he;have htt:=hts;obtain ⟨vst,⟨At,ct,rfl,hct,_⟩,_⟩:=htt;have hk:ps.length - 1<ps.length:=by omega
 obtain ⟨b,off,up,rfl,_,hcp0,hup⟩:=zP hrp hep hk hk;have hkt:ps.length - 1<m.tasks.length:=by have:=so.pl;omega
 obtain ⟨bt,offt,sn,u1,u2,rfl,_,hc0,hc1,hc2,hi1,hi2⟩:=zam hts hkt;have hto:=so.lens;have hpl:=so.pl;have htk:=so.good.tk;have hlp:=so.pp _ (List.getElem_mem hk);have hlt2:=(hto.tl _ (List.getElem_mem hkt)).2;clear hto hrp hep hts
 have hfin:finB m ps=match (ps[ps.length - 1]).getLast? with | none=>false | some x=>decide (x∈(m.tasks[ps.length - 1]).2):=by
  unfold finB;simp [hk,hkt]
 obtain ⟨p,hpp⟩:∃p,p=ps[ps.length - 1]:=⟨_,rfl⟩;obtain ⟨tk,htkk⟩:∃tk,tk=m.tasks[ps.length - 1]:=⟨_,rfl⟩;rw [←hpp] at hup hlp hfin;rw [←htkk] at hi1 hi2 hlt2 hfin;clear hpp htkk hi1;have HI2:=zh hi2;clear hi2;have HF:=zh hfin;clear hfin;obtain ⟨Aq,cq,rfl,hcq,hrq⟩:=hup;obtain ⟨k,hkk⟩:∃k,ps.length - 1=k:=⟨_,rfl⟩;rw [hkk] at hcp0 hc1 hc2 hkt;have hki:(ps.length:Int) - 1=(k:Int):=by omega
 have HKI:=zh hki;clear hki;have hk1:(k:Int)<(ps.length:Int):=by omega
 have hk0:(0:Int)≤(k:Int):=by omega
 have hkt1:(k:Int)<(m.tasks.length:Int):=by omega
 have rp:=Ext.rule hcp0;have rt:=Ext.rule hc2;clear hcp0 hc0 hc1 hc2 hkk hk hkt;have hx:=Ext.refl w;rcases List.eq_nil_or_concat p with rfl | ⟨q,x,rfl⟩
 ·have hz:([]:List Int).length=0:=rfl;rw [hz] at hcq
  go_enter Tryz.func87,Tryz.ntmps87
  go_wp2_with fail
  go_quiet ((go_at_call 103;refine (zaB _ (HS.out.ext ((Ext.refl w).drewN _)) (by omega)).mono ?_;rintro e w9 ⟨he9,rfl⟩;rw [HKI.out] at he9;exact ⟨he9,⟨_,rfl⟩⟩))
  go_wp2_with fail
  go_quiet (fail)
  go_wp2;go_ret;exact ⟨zd (by rw [HF.out];rfl),(zG.refl w).more _ |>.more _⟩
 ·rw [List.concat_eq_append] at hrq hlp hcq HF;have hql:(q++[x]).length=q.length+1:=by simp
  rw [hql] at hcq hlp
  have hcx:∃bq offq,Aq=some ⟨bq,offq,none⟩∧w.cell? ⟨bq,offq+q.length,none⟩=some (.int .i64 x):=by
   obtain ⟨bq,offq,e,_,hc⟩:=zt hrq (k:=q.length) (by omega) (by omega);exact ⟨bq,offq,e,by rw [hc];simp⟩
  obtain ⟨bq,offq,rfl,hcx⟩:=hcx;have rx:=Ext.rule hcx;clear hcx hrq;have hlast:(q++[x]).getLast?=some x:=by simp
  rw [hlast] at HF;have hlen:(q.concat x).length=q.length+1:=by simp
  rw [hlen] at rp;clear hlast hql hlen;generalize q.length=n at*;obtain ⟨N,hN⟩:∃N,N=n+1:=⟨_,rfl⟩;rw [←hN] at rp hcq hlp;have hq0:(0:Int)≤(n:Int):=by omega
  have hq1:(n:Int)<(N:Int):=by omega
  have hq2:(N:Int) - 1=(n:Int):=by omega
  have hq3:(0:Int)<(N:Int):=by omega
  have hq4:0<N:=by omega
  have hqw:IntKind.i64.wrap ((N:Int) - 1)=(n:Int):=by rw [IntKind.wrap_i64];omega
  clear hN hq2
  go_enter Tryz.func87,Tryz.ntmps87
  go_wp2_with fail
  go_quiet ((go_at_call 103;refine (zaB _ (HS.out.ext ((Ext.refl w).drewN _)) (by omega)).mono ?_;rintro e w9 ⟨he9,rfl⟩;rw [HKI.out] at he9;exact ⟨he9,⟨_,rfl⟩⟩))
  generalize hw1:w.drewN nq=w1;have hd1:zG w w1:=⟨nq,hw1.symm⟩;have hx1:Ext w w1:=hd1.below _;clear hw1
  go_wp2_with fail
  go_quiet (first | ((go_at_call 103;refine (zaB _ (HS.out.ext (hx1.drewN _)) (by omega)).mono ?_;rintro e w9 ⟨he9,rfl⟩;rw [HKI.out] at he9;exact ⟨he9,⟨_,rfl⟩⟩)) | ((go_at_call 42;refine (zv x _ (HI2.out.below (hx1.drewN _)) (by omega)).mono ?_;rintro e w8 ⟨he8,rfl⟩;exact ⟨he8,⟨_,rfl⟩⟩)))
  go_wp2;go_ret;exact ⟨zd (by rw [HF.out]),hd1.more _⟩
theorem zb8 {ok:Nat→Prop} {m:MZ} {ch us:List Int} {ps:List (List Int)} {g gu:Nat} {f u t vc vp:Value} (w:World) (h:zaZ w ok g m ch ps us f u t vc vp gu) (so:SOk m ch ps):
  Calls Tryz.prog 64 #[.pointer (some ⟨g,0,none⟩)] w fun e w'=>e=.returned (.bool (cmpB m ps))∧zG w w':=by
 obtain ⟨r0,r1,r2,r3,r4,r5,r6,r7,r8⟩:=h.rules;have hps:=h.ps;have hmz:=h.maze;have HS:=zh h;clear h;obtain ⟨vs,⟨Ap,cp,rfl,hcp,hrp⟩,hep⟩:=hps;obtain ⟨fr',up',ts',he,_,_,hts⟩:=hmz;injection he with he;injection he with he;simp only [List.cons.injEq,and_true,true_and] at he;obtain ⟨rfl,rfl,rfl⟩:=he;obtain ⟨vst,⟨At,ct,rfl,hct,_⟩,_⟩:=hts;have hpl:=so.pl;have hpn:=so.pn;have htk:=so.good.tk;have SO:=zh so;clear so;clear hrp hep;have hx:=Ext.refl w;obtain ⟨cb,hcb⟩:∃cb,cb=cmpB m ps:=⟨_,rfl⟩;have HCB:=zh hcb;rw [←hcb];clear hcb;unfold cmpB at HCB;obtain ⟨T,hT⟩:∃T,T=m.tasks.length:=⟨_,rfl⟩;obtain ⟨Pn,hP⟩:∃Pn,Pn=ps.length:=⟨_,rfl⟩;rw [←hT] at r5 hct HCB hpl hpn htk;rw [←hP] at r7 hcp HCB hpl hpn;have HT:=zh hT;clear hT;have HP:=zh hP;clear hP;by_cases h0:T=0
 ·have HC:Hid (cb=true):=by have:=HCB.out;rw [decide_eq_true h0] at this;simpa [Hid] using this
  have hd1:decide ((T:Int)=0)=true:=decide_eq_true (by omega);have hd2:((T:Int)==0)=true:=by rw [beq_iff_eq];omega
  clear h0 hpn
  go_enter Tryz.func64,Tryz.ntmps64
  go_wp2_with fail
  go_quiet (fail)
  go_wp2;go_ret;exact ⟨zd HC.out.symm,(zG.refl w).more _⟩
 ·have hd1:decide ((T:Int)=0)=false:=decide_eq_false (by omega);have hd2:((T:Int)==0)=false:=by rw [beq_eq_false_iff_ne];omega
  by_cases h1:Pn=T
  ·have HC:Hid (cb=finB m ps):=by have:=HCB.out;rw [decide_eq_false h0,decide_eq_true h1] at this;simpa [Hid] using this
   have h1':Hid (0<ps.length):=(by have:=HP.out;omega:0<ps.length);subst h1;have he2:((Pn:Int)==(Pn:Int))=true:=by rw [beq_iff_eq]
   clear h0
   go_enter Tryz.func64,Tryz.ntmps64
   go_wp2_with fail
   go_quiet ((go_at_call 87;refine (zcY _ (HS.out.ext ((Ext.refl w).drewN _)) SO.out h1'.out).mono ?_;rintro e w9 ⟨he9,nd,rfl⟩;exact ⟨he9,⟨_,World.drewN_drewN _ _ _⟩⟩))
   go_wp2;go_ret;exact ⟨zd HC.out.symm,(zG.refl w).more _⟩
  ·have HC:Hid (cb=false):=by have:=HCB.out;rw [decide_eq_false h0,decide_eq_false h1] at this;simpa [Hid] using this
   have he1:decide ((Pn:Int)=(T:Int))=false:=decide_eq_false (by omega);have he2:((Pn:Int)==(T:Int))=false:=by rw [beq_eq_false_iff_ne];omega
   clear h1 h0
   go_enter Tryz.func64,Tryz.ntmps64
   go_wp2_with fail
   go_quiet (fail)
   go_wp2;go_ret;exact ⟨zd HC.out.symm,(zG.refl w).more _⟩
end Go.Proofs.YthbjngbhbbkkgaaGreat
