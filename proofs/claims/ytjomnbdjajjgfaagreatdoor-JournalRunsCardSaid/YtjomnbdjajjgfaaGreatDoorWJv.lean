import Derived.Test.YtjomnbdjajjgfaaGreatDoorWJu
import Derived.Deep.CutBlock
set_option linter.unusedVariables false
set_option linter.unusedSimpArgs false
set_option maxRecDepth 100000
set_option maxHeartbeats 16000000
namespace Go.Proofs.YtjomnbdjajjgfaaGreatDoor
variable {a:Act} {Q:Exit->Act->World->Prop} {mh ml mw n:Int} {r:Int×PT×Nat} {ch:List Int} {m:MZ} {cL cc cf ct cu gm gp gz j k lf lt lu tn:Nat} {ok:Nat->Prop} {Ac Af At Au:Option Addr} {u0 u10 u100 u101 u102 u103 u104 u105 u106 u107 u108 u109 u11 u110 u111 u112 u113 u114 u115 u116 u117 u118 u119 u12 u120 u121 u122 u123 u124 u125 u126 u127 u128 u129 u13 u130 u131 u132 u14 u15 u16 u17 u18 u19 u2 u20 u21 u22 u23 u24 u25 u26 u27 u28 u29 u30 u31 u32 u33 u34 u35 u36 u37 u38 u39 u4 u40 u41 u42 u43 u44 u45 u46 u47 u48 u49 u5 u50 u51 u52 u53 u54 u55 u56 u57 u58 u59 u6 u60 u61 u62 u63 u64 u65 u66 u67 u68 u69 u7 u70 u71 u72 u73 u74 u75 u76 u77 u78 u79 u8 u80 u81 u82 u83 u84 u85 u86 u87 u88 u89 u9 u90 u91 u92 u93 u94 u95 u96 u97 u98 u99 x y z:Value} {WZ w w2 w9 wq:World}
section
open Go.RowKit
attribute [local go_sem ↓] Go.wp_at_zero Go.wp_at_succ
attribute [local go_sem] Oper.semAt_some
def Mk1 (w:World) (r:Int×PT×Nat) (e:Ending) (w':World):Prop:=∃v,e=.returned (.tuple #[v,.int .i64 r.2.2,.int .i64 r.1])/\za w w'/\Ce w' (fun b=>w.heap.size<=b) v r.2.1
noncomputable def mk11:Code:=(Tryz.f61.body.bind (regOf 11)).getD .skip
noncomputable def mk16:Code:=(Tryz.f61.body.bind (regOf 16)).getD .skip
noncomputable def mk24:Code:=(Tryz.f61.body.bind (regOf 24)).getD .skip
theorem u11_wp {wk:World} {vch vpp:Value} {HP:World->Value->Prop} {RP:World->World->Value->Prop}
  (r0:∀W,za wk W->W.cell? ⟨gm,0,none⟩=some (.int .i64 mw)) (r1:∀W,za wk W->W.cell? ⟨gm,1,none⟩=some (.int .i64 mh)) (r2:∀W,za wk W->W.cell? ⟨gm,2,none⟩=some (.int .i64 ml))
  (r3:∀W,za wk W->W.cell? ⟨gm,3,none⟩=some (.slice Af lf cf)) (r4:∀W,za wk W->W.cell? ⟨gm,4,none⟩=some (.slice Au lu cu)) (r5:∀W,za wk W->W.cell? ⟨gm,5,none⟩=some (.slice At lt ct))
  (M:Hid (∀W,za wk W->Calls Tryz.prog 121 #[.agg #[.int .i64 mw,.int .i64 mh,.int .i64 ml,.slice Af lf cf,.slice Au lu cu,.slice At lt ct],vch,vpp,.int .i64 tn] W fun e w'=>∃v,e=.returned v/\za W w'/\HP w' v))
  (O:Hid (∀W v,za wk W->HP W v->Calls Tryz.prog 120 #[.agg #[.int .i64 mw,.int .i64 mh,.int .i64 ml,.slice Af lf cf,.slice Au lu cu,.slice At lt ct],.int .i64 tn,v,vch] W fun e w'=>∃v',e=.returned v'/\za W w'/\RP W w' v'))
  (o:∀c (a a':Act) w,a.defers=a'.defers->Q (.panic c) a w->Q (.panic c) a' w)
  (hQ:∀(w6 w7:World) (v6 v7:Value),za wk w6->HP w6 v6->za w6 w7->RP w6 w7 v7->∀(x50 x51 x52 x53 x54 x55 x56 x57 x58:Value),Q .normal ⟨(u0 :: vch :: u2 :: Value.pointer (some ⟨gm,0,none⟩) :: u4 :: u5 :: u6 :: u7 :: u8 :: vpp :: u10 :: u11 :: Value.int .i64 tn :: v7 :: u14 :: u15 :: u16 :: u17 :: u18 :: u19 :: u20 :: u21 :: u22 :: u23 :: u24 :: u25 :: u26 :: u27 :: u28 :: u29 :: u30 :: u31 :: u32 :: u33 :: u34 :: u35 :: u36 :: u37 :: u38 :: u39 :: u40 :: u41 :: u42 :: u43 :: u44 :: u45 :: u46 :: u47 :: u48 :: u49 :: x50 :: x51 :: x52 :: x53 :: x54 :: x55 :: x56 :: x57 :: x58 :: u59 :: u60 :: u61 :: u62 :: u63 :: u64 :: u65 :: u66 :: u67 :: u68 :: u69 :: u70 :: u71 :: u72 :: u73 :: u74 :: u75 :: u76 :: u77 :: u78 :: u79 :: u80 :: u81 :: u82 :: u83 :: u84 :: u85 :: u86 :: u87 :: u88 :: u89 :: u90 :: u91 :: u92 :: u93 :: u94 :: u95 :: u96 :: u97 :: u98 :: u99 :: u100 :: u101 :: u102 :: u103 :: u104 :: u105 :: u106 :: u107 :: u108 :: u109 :: u110 :: u111 :: u112 :: u113 :: u114 :: u115 :: u116 :: u117 :: u118 :: u119 :: u120 :: u121 :: u122 :: u123 :: u124 :: u125 :: u126 :: u127 :: u128 :: u129 :: u130 :: u131 :: u132 :: []).toArray,[]⟩ w7):
  mk11.wp Tryz.prog Q ⟨(u0 :: vch :: u2 :: Value.pointer (some ⟨gm,0,none⟩) :: u4 :: u5 :: u6 :: u7 :: u8 :: vpp :: u10 :: u11 :: Value.int .i64 tn :: u13 :: u14 :: u15 :: u16 :: u17 :: u18 :: u19 :: u20 :: u21 :: u22 :: u23 :: u24 :: u25 :: u26 :: u27 :: u28 :: u29 :: u30 :: u31 :: u32 :: u33 :: u34 :: u35 :: u36 :: u37 :: u38 :: u39 :: u40 :: u41 :: u42 :: u43 :: u44 :: u45 :: u46 :: u47 :: u48 :: u49 :: u50 :: u51 :: u52 :: u53 :: u54 :: u55 :: u56 :: u57 :: u58 :: u59 :: u60 :: u61 :: u62 :: u63 :: u64 :: u65 :: u66 :: u67 :: u68 :: u69 :: u70 :: u71 :: u72 :: u73 :: u74 :: u75 :: u76 :: u77 :: u78 :: u79 :: u80 :: u81 :: u82 :: u83 :: u84 :: u85 :: u86 :: u87 :: u88 :: u89 :: u90 :: u91 :: u92 :: u93 :: u94 :: u95 :: u96 :: u97 :: u98 :: u99 :: u100 :: u101 :: u102 :: u103 :: u104 :: u105 :: u106 :: u107 :: u108 :: u109 :: u110 :: u111 :: u112 :: u113 :: u114 :: u115 :: u116 :: u117 :: u118 :: u119 :: u120 :: u121 :: u122 :: u123 :: u124 :: u125 :: u126 :: u127 :: u128 :: u129 :: u130 :: u131 :: u132 :: []).toArray,[]⟩ wk:=by
 conv=>arg 2;whnf
 have hx:za wk wk:=za.refl wk;refine zab (S:=(fun W=>za wk W)) zG (hx.drew) fun zH=>?_;have U:za wk wk.drew:=(za.refl wk).drew;generalize wk.drew=wd at zH U⊢;refine zi 0 zH ?_ (hQ:=fun _ _ _ h=>o _ _ _ _ (by rfl) h);simp only [zc,Fv];refine zi 1 zH ?_ (hQ:=fun _ _ _ h=>o _ _ _ _ (by rfl) h);simp only [zc,Fv];refine zi 2 zH ?_ (hQ:=fun _ _ _ h=>o _ _ _ _ (by rfl) h);simp only [zc,Fv];refine zi 3 zH ?_ (hQ:=fun _ _ _ h=>o _ _ _ _ (by rfl) h);simp only [zc,Fv];refine zi 4 zH ?_ (hQ:=fun _ _ _ h=>o _ _ _ _ (by rfl) h);simp only [zc,Fv];refine zi 5 zH ?_ (hQ:=fun _ _ _ h=>o _ _ _ _ (by rfl) h);simp only [zc,Fv];refine zi 7 zH ?_ (hQ:=fun _ _ _ h=>o _ _ _ _ (by rfl) h);simp only [zc,Fv];refine BO 6 fun K G=>?_;go_simp;go_at_call 121;refine (M.out _ zH).mono ?_;rintro e w6 ⟨v6,rfl,D,I⟩;have J:Hid (za wk w6):=zH.trans D;go_simp;refine zaJ G (zH.trans D) fun zH=>?_;clear G K;try simp only [zc,Fv]
 refine BO 8 fun K G=>?_;go_simp;go_at_call 120;refine (O.out _ _ zH I).mono ?_;rintro e w7 ⟨v7,rfl,E,V⟩;go_simp;refine zaJ G (zH.trans E) fun zH=>?_;clear G K;try simp only [zc,Fv]
 refine zi 9 zH ?_ (hQ:=fun _ _ _ h=>o _ _ _ _ (by rfl) h);simp only [zc,Fv];refine zao (by kernel_rfl) ?_ _;exact hQ _ _ _ _ J.out I E V _ _ _ _ _ _ _ _ _
theorem u16_wp {wj:World} {bt offt bs offs ls c7 l2 c2:Nat} {A2:Option Addr} {b d:Bool} {u1:Value}
  (q5:∀W,za wj W->W.cell? ⟨gm,5,none⟩=some (.slice (some ⟨bt,offt,none⟩) lt ct)) (q2:∀W,za wj W->W.cell? ⟨bt,offt+tn*3+2,none⟩=some (.slice A2 l2 c2)) (qs:∀W,za wj W->W.cell? ⟨bs,offs+j,none⟩=some (.int .i64 n))
  (V:tn<lt) (hj:j<ls)
  (E:Hid (∀W,za wj W->Calls Tryz.prog 73 #[.slice A2 l2 c2,.int .i64 n] W fun e w'=>e=.returned (.bool d)/\W=w'))
  (o:∀c (a a':Act) w,a.defers=a'.defers->Q (.panic c) a w->Q (.panic c) a' w)
  (hQ:∀(w7:World),za wj w7->∀(x65 x66 x67 x68 x69 x70 x71 x72 x73 x74 x75 x76 x77 x78:Value),Q .normal ⟨(u0 :: u1 :: u2 :: Value.pointer (some ⟨gm,0,none⟩) :: u4 :: u5 :: u6 :: u7 :: u8 :: u9 :: u10 :: u11 :: Value.int .i64 tn :: Value.slice (some ⟨bs,offs,none⟩) ls c7 :: Value.bool (b || d) :: Value.int .i64 j :: u16 :: u17 :: u18 :: u19 :: u20 :: u21 :: u22 :: u23 :: u24 :: u25 :: u26 :: u27 :: u28 :: u29 :: u30 :: u31 :: u32 :: u33 :: u34 :: u35 :: u36 :: u37 :: u38 :: u39 :: u40 :: u41 :: u42 :: u43 :: u44 :: u45 :: u46 :: u47 :: u48 :: u49 :: u50 :: u51 :: u52 :: u53 :: u54 :: u55 :: u56 :: u57 :: u58 :: u59 :: u60 :: u61 :: u62 :: u63 :: u64 :: x65 :: x66 :: x67 :: x68 :: x69 :: x70 :: x71 :: x72 :: x73 :: x74 :: x75 :: x76 :: x77 :: x78 :: u79 :: u80 :: u81 :: u82 :: u83 :: u84 :: u85 :: u86 :: u87 :: u88 :: u89 :: u90 :: u91 :: u92 :: u93 :: u94 :: u95 :: u96 :: u97 :: u98 :: u99 :: u100 :: u101 :: u102 :: u103 :: u104 :: u105 :: u106 :: u107 :: u108 :: u109 :: u110 :: u111 :: u112 :: u113 :: u114 :: u115 :: u116 :: u117 :: u118 :: u119 :: u120 :: u121 :: u122 :: u123 :: u124 :: u125 :: u126 :: u127 :: u128 :: u129 :: u130 :: u131 :: u132 :: []).toArray,[]⟩ w7):
  mk16.wp Tryz.prog Q ⟨(u0 :: u1 :: u2 :: Value.pointer (some ⟨gm,0,none⟩) :: u4 :: u5 :: u6 :: u7 :: u8 :: u9 :: u10 :: u11 :: Value.int .i64 tn :: Value.slice (some ⟨bs,offs,none⟩) ls c7 :: Value.bool b :: Value.int .i64 j :: u16 :: u17 :: u18 :: u19 :: u20 :: u21 :: u22 :: u23 :: u24 :: u25 :: u26 :: u27 :: u28 :: u29 :: u30 :: u31 :: u32 :: u33 :: u34 :: u35 :: u36 :: u37 :: u38 :: u39 :: u40 :: u41 :: u42 :: u43 :: u44 :: u45 :: u46 :: u47 :: u48 :: u49 :: u50 :: u51 :: u52 :: u53 :: u54 :: u55 :: u56 :: u57 :: u58 :: u59 :: u60 :: u61 :: u62 :: u63 :: u64 :: u65 :: u66 :: u67 :: u68 :: u69 :: u70 :: u71 :: u72 :: u73 :: u74 :: u75 :: u76 :: u77 :: u78 :: u79 :: u80 :: u81 :: u82 :: u83 :: u84 :: u85 :: u86 :: u87 :: u88 :: u89 :: u90 :: u91 :: u92 :: u93 :: u94 :: u95 :: u96 :: u97 :: u98 :: u99 :: u100 :: u101 :: u102 :: u103 :: u104 :: u105 :: u106 :: u107 :: u108 :: u109 :: u110 :: u111 :: u112 :: u113 :: u114 :: u115 :: u116 :: u117 :: u118 :: u119 :: u120 :: u121 :: u122 :: u123 :: u124 :: u125 :: u126 :: u127 :: u128 :: u129 :: u130 :: u131 :: u132 :: []).toArray,[]⟩ wj:=by
 conv=>arg 2;whnf
 have I:za wj wj:=za.refl wj;have U:(tn:Int)<(lt:Int):=by omega
 have M:(j:Int)<(ls:Int):=by omega
 have O:(0:Int)<=(tn:Int):=by omega
 have J:(0:Int)<=(j:Int):=by omega
 cases b with
 | true=>
  refine zab (S:=(fun W=>za wj W)) zG (I.drew) fun zH=>?_;have D:za wj wj.drew:=(za.refl wj).drew;generalize wj.drew=wd at zH D⊢;refine zi 0 zH ?_ (hQ:=fun _ _ _ h=>o _ _ _ _ (by rfl) h);simp only [zc,Fv];refine zi 1 zH ?_ (hQ:=fun _ _ _ h=>o _ _ _ _ (by rfl) h);simp only [zc,Fv];refine DI 2 zH ?_ (hQ:=fun _ _ _ h=>o _ _ _ _ (by rfl) h);simp only [zc,Fv];refine DI 3 zH ?_ (hQ:=fun _ _ _ h=>o _ _ _ _ (by rfl) h);simp only [zc,Fv];refine DI 4 zH ?_ (hQ:=fun _ _ _ h=>o _ _ _ _ (by rfl) h);simp only [zc,Fv];refine DI 5 zH ?_ (hQ:=fun _ _ _ h=>o _ _ _ _ (by rfl) h);simp only [zc,Fv];refine DI 6 zH ?_ (hQ:=fun _ _ _ h=>o _ _ _ _ (by rfl) h);simp only [zc,Fv];refine DI 7 zH ?_ (hQ:=fun _ _ _ h=>o _ _ _ _ (by rfl) h);simp only [zc,Fv];refine DI 8 zH ?_ (hQ:=fun _ _ _ h=>o _ _ _ _ (by rfl) h);simp only [zc,Fv];refine DI 9 zH ?_ (hQ:=fun _ _ _ h=>o _ _ _ _ (by rfl) h);simp only [zc,Fv];refine DI 10 zH ?_ (hQ:=fun _ _ _ h=>o _ _ _ _ (by rfl) h);simp only [zc,Fv];refine DI 11 zH ?_ (hQ:=fun _ _ _ h=>o _ _ _ _ (by rfl) h);simp only [zc,Fv];refine DI 12 zH ?_ (hQ:=fun _ _ _ h=>o _ _ _ _ (by rfl) h);simp only [zc,Fv];refine zi 13 zH ?_ (hQ:=fun _ _ _ h=>o _ _ _ _ (by rfl) h);simp only [zc,Fv];refine zi 14 zH ?_ (hQ:=fun _ _ _ h=>o _ _ _ _ (by rfl) h);simp only [zc,Fv];refine zao (by kernel_rfl) ?_ _;exact hQ _ zH _ _ _ _ _ _ _ _ _ _ _ _ _ _
 | false=>
  refine zab (S:=(fun W=>za wj W)) zG (I.drew) fun zH=>?_;have D:za wj wj.drew:=(za.refl wj).drew;generalize wj.drew=wd at zH D⊢;refine zi 0 zH ?_ (hQ:=fun _ _ _ h=>o _ _ _ _ (by rfl) h);simp only [zc,Fv];refine zi 1 zH ?_ (hQ:=fun _ _ _ h=>o _ _ _ _ (by rfl) h);simp only [zc,Fv];refine zi 2 zH ?_ (hQ:=fun _ _ _ h=>o _ _ _ _ (by rfl) h);simp only [zc,Fv];refine zi 3 zH ?_ (hQ:=fun _ _ _ h=>o _ _ _ _ (by rfl) h);simp only [zc,Fv];refine zi 4 zH ?_ (hQ:=fun _ _ _ h=>o _ _ _ _ (by rfl) h);simp only [zc,Fv];refine zi 5 zH ?_ (hQ:=fun _ _ _ h=>o _ _ _ _ (by rfl) h);simp only [zc,Fv];refine zi 6 zH ?_ (hQ:=fun _ _ _ h=>o _ _ _ _ (by rfl) h);simp only [zc,Fv];refine zi 7 zH ?_ (hQ:=fun _ _ _ h=>o _ _ _ _ (by rfl) h);simp only [zc,Fv];refine zi 8 zH ?_ (hQ:=fun _ _ _ h=>o _ _ _ _ (by rfl) h);simp only [zc,Fv];refine zi 9 zH ?_ (hQ:=fun _ _ _ h=>o _ _ _ _ (by rfl) h);simp only [zc,Fv];refine zi 10 zH ?_ (hQ:=fun _ _ _ h=>o _ _ _ _ (by rfl) h);simp only [zc,Fv];refine zi 11 zH ?_ (hQ:=fun _ _ _ h=>o _ _ _ _ (by rfl) h);simp only [zc,Fv];refine BO 12 fun K G=>?_;go_simp;go_at_call 73;refine (E.out _ zH).mono ?_;rintro e w10 ⟨rfl,rfl⟩;go_simp;refine zaJ G (zH) fun zH=>?_;clear G K;try simp only [zc,Fv]
  refine zi 13 zH ?_ (hQ:=fun _ _ _ h=>o _ _ _ _ (by rfl) h);simp only [zc,Fv];refine zi 14 zH ?_ (hQ:=fun _ _ _ h=>o _ _ _ _ (by rfl) h);simp only [zc,Fv];refine zao (by kernel_rfl) ?_ _;exact hQ _ zH _ _ _ _ _ _ _ _ _ _ _ _ _ _
theorem u24_wp {lL bl offl lc kk:Nat}
  (s0:∀W,za wq W->W.cell? ⟨gm,0,none⟩=some (.int .i64 mw)) (s1:∀W,za wq W->W.cell? ⟨gm,1,none⟩=some (.int .i64 mh)) (s2:∀W,za wq W->W.cell? ⟨gm,2,none⟩=some (.int .i64 ml))
  (s3:∀W,za wq W->W.cell? ⟨gm,3,none⟩=some (.slice Af lf cf)) (s4:∀W,za wq W->W.cell? ⟨gm,4,none⟩=some (.slice Au lu cu)) (s5:∀W,za wq W->W.cell? ⟨gm,5,none⟩=some (.slice At lt ct))
  (qn:∀W,za wq W->W.cell? ⟨bl,offl+j,none⟩=some (.int .i64 n)) (hj:j<lL)
  (d6:Hid (∀W,za wq W->Calls Tryz.prog 123 #[.slice Ac lc cc,.int .i64 n] W fun e w'=>∃v',e=.returned v'/\Mk W w' v' (ch++[n])))
  (b4:Hid (∀W (ok:Nat->Prop) v,za wq W->zg W ok v (ch++[n])->Calls Tryz.prog 61 #[.agg #[.int .i64 mw,.int .i64 mh,.int .i64 ml,.slice Af lf cf,.slice Au lu cu,.slice At lt ct],v,.int .i64 kk] W (Mk1 W r)))
  (D:∀c (a a':Act) w,a.defers=a'.defers->Q (.panic c) a w->Q (.panic c) a' w)
  (hQ:∀(wz:World) (g:Nat) (As2 Ak2:Option Addr) (cs2 ck2:Nat),za wq wz->Hid (wq.heap.size<=g)->ze wz g 41 #[.int .i64 r.2.1.task,.slice As2 r.2.1.side.length cs2,.slice Ak2 r.2.1.kids.length ck2]->
   Ce wz (fun b=>wq.heap.size<=b/\b≠g) (.agg #[.int .i64 r.2.1.task,.slice As2 r.2.1.side.length cs2,.slice Ak2 r.2.1.kids.length ck2]) r.2.1->∀(x106 x107 x108 x109 x110 x111 x112 x113 x114 x115 x116 x117 x118:Value),Q .normal ⟨(u0 :: Value.slice Ac lc cc :: Value.int .i64 kk :: Value.pointer (some ⟨gm,0,none⟩) :: u4 :: u5 :: u6 :: u7 :: u8 :: u9 :: u10 :: u11 :: u12 :: u13 :: u14 :: u15 :: u16 :: Value.slice (some ⟨bl,offl,none⟩) lL cL :: Value.int .i64 j :: Value.pointer (some ⟨g,0,none⟩) :: Value.int .i64 r.2.2 :: Value.int .i64 r.1 :: u22 :: u23 :: u24 :: u25 :: u26 :: u27 :: u28 :: u29 :: u30 :: u31 :: u32 :: u33 :: u34 :: u35 :: u36 :: u37 :: u38 :: u39 :: u40 :: u41 :: u42 :: u43 :: u44 :: u45 :: u46 :: u47 :: u48 :: u49 :: u50 :: u51 :: u52 :: u53 :: u54 :: u55 :: u56 :: u57 :: u58 :: u59 :: u60 :: u61 :: u62 :: u63 :: u64 :: u65 :: u66 :: u67 :: u68 :: u69 :: u70 :: u71 :: u72 :: u73 :: u74 :: u75 :: u76 :: u77 :: u78 :: u79 :: u80 :: u81 :: u82 :: u83 :: u84 :: u85 :: u86 :: u87 :: u88 :: u89 :: u90 :: u91 :: u92 :: u93 :: u94 :: u95 :: u96 :: u97 :: u98 :: u99 :: u100 :: u101 :: u102 :: u103 :: u104 :: u105 :: x106 :: x107 :: x108 :: x109 :: x110 :: x111 :: x112 :: x113 :: x114 :: x115 :: x116 :: x117 :: x118 :: u119 :: u120 :: u121 :: u122 :: u123 :: u124 :: u125 :: u126 :: u127 :: u128 :: u129 :: u130 :: u131 :: u132 :: []).toArray,[]⟩ wz):
  mk24.wp Tryz.prog Q ⟨(u0 :: Value.slice Ac lc cc :: Value.int .i64 kk :: Value.pointer (some ⟨gm,0,none⟩) :: u4 :: u5 :: u6 :: u7 :: u8 :: u9 :: u10 :: u11 :: u12 :: u13 :: u14 :: u15 :: u16 :: Value.slice (some ⟨bl,offl,none⟩) lL cL :: Value.int .i64 j :: u19 :: u20 :: u21 :: u22 :: u23 :: u24 :: u25 :: u26 :: u27 :: u28 :: u29 :: u30 :: u31 :: u32 :: u33 :: u34 :: u35 :: u36 :: u37 :: u38 :: u39 :: u40 :: u41 :: u42 :: u43 :: u44 :: u45 :: u46 :: u47 :: u48 :: u49 :: u50 :: u51 :: u52 :: u53 :: u54 :: u55 :: u56 :: u57 :: u58 :: u59 :: u60 :: u61 :: u62 :: u63 :: u64 :: u65 :: u66 :: u67 :: u68 :: u69 :: u70 :: u71 :: u72 :: u73 :: u74 :: u75 :: u76 :: u77 :: u78 :: u79 :: u80 :: u81 :: u82 :: u83 :: u84 :: u85 :: u86 :: u87 :: u88 :: u89 :: u90 :: u91 :: u92 :: u93 :: u94 :: u95 :: u96 :: u97 :: u98 :: u99 :: u100 :: u101 :: u102 :: u103 :: u104 :: u105 :: u106 :: u107 :: u108 :: u109 :: u110 :: u111 :: u112 :: u113 :: u114 :: u115 :: u116 :: u117 :: u118 :: u119 :: u120 :: u121 :: u122 :: u123 :: u124 :: u125 :: u126 :: u127 :: u128 :: u129 :: u130 :: u131 :: u132 :: []).toArray,[]⟩ wq:=by
 conv=>arg 2;whnf
 have e9:(0:Int)<=(j:Int):=by omega
 have f0:(j:Int)<(lL:Int):=by omega
 refine zab (S:=(fun W=>za wq W)) zG ((za.refl wq).drew) fun zH=>?_;have a4:za wq wq.drew:=(za.refl wq).drew;generalize wq.drew=wd at zH a4⊢;refine zi 0 zH ?_ (hQ:=fun _ _ _ h=>D _ _ _ _ (by rfl) h);simp only [zc,Fv];refine zi 1 zH ?_ (hQ:=fun _ _ _ h=>D _ _ _ _ (by rfl) h);simp only [zc,Fv];refine zi 2 zH ?_ (hQ:=fun _ _ _ h=>D _ _ _ _ (by rfl) h);simp only [zc,Fv];refine zi 3 zH ?_ (hQ:=fun _ _ _ h=>D _ _ _ _ (by rfl) h);simp only [zc,Fv];refine zi 4 zH ?_ (hQ:=fun _ _ _ h=>D _ _ _ _ (by rfl) h);simp only [zc,Fv];refine zi 5 zH ?_ (hQ:=fun _ _ _ h=>D _ _ _ _ (by rfl) h);simp only [zc,Fv];refine zi 7 zH ?_ (hQ:=fun _ _ _ h=>D _ _ _ _ (by rfl) h);simp only [zc,Fv];refine rdA [6,13] ?_;refine zal rfl (fun K o=>?_) ?_
 ·go_simp;go_at_call 123
  with_reducible refine (d6.out wd (a4)).mono ?_
  rintro e w1 ⟨v1,rfl,b7⟩;have c9:=zh b7.ints;have U:Hid (za wq w1):=za.trans (a4) b7.ext;clear b7;refine zaJ o (U.out) fun zH=>?_;clear o K;try simp only [zc,Fv]
  refine rdA [8,13] ?_;refine zal rfl (fun K o=>?_) ?_
  ·go_simp;go_at_call 61
   with_reducible refine (b4.out w1 _ _ (U.out) c9.out).mono ?_
   rintro e w2 ⟨v2,rfl,e0,b8⟩;obtain ⟨As2,cs2,Ak2,ck2,rfl,-⟩:=b8.form;have b2:Hid (za wq w2):=za.trans (U.out) e0;have e1:wq.heap.size<=w1.heap.size:=Below.size (U.out);have e6:Hid (Ce w2 (fun b=>wq.heap.size<=b) _ r.2.1):=b8.wk fun b I _=>by omega
   clear e0 b8 e1;refine zaJ o (b2.out) fun zH=>?_;clear o K;try simp only [zc,Fv]
   refine zi 9 zH ?_ (hQ:=fun _ _ _ h=>D _ _ _ _ (by rfl) h);simp only [zc,Fv];refine zi 10 zH ?_ (hQ:=fun _ _ _ h=>D _ _ _ _ (by rfl) h);simp only [zc,Fv];refine zi 11 zH ?_ (hQ:=fun _ _ _ h=>D _ _ _ _ (by rfl) h);simp only [zc,Fv];refine zi 12 zH ?_ (hQ:=fun _ _ _ h=>D _ _ _ _ (by rfl) h);simp only [zc,Fv];refine BO 13 fun K o=>?_;go_simp;have d7:=ze.new w2 #[.int .i64 0,.slice none 0 0,.slice none 0 0] 41 (g:=w2.heap.size) rfl;have hA3:za w2 (w2.alloc (.cells #[.int .i64 0,.slice none 0 0,.slice none 0 0] 41)):=(za.refl w2).alloc _;have J:Hid (wq.heap.size<=w2.heap.size):=Below.size (b2.out);have e8:Hid (Ce (w2.alloc (.cells #[.int .i64 0,.slice none 0 0,.slice none 0 0] 41)) (fun b=>wq.heap.size<=b/\b≠w2.heap.size) _ r.2.1):=(e6.out.wk (ok':=fun b=>wq.heap.size<=b/\b≠w2.heap.size) fun b I f1=>⟨I,by omega⟩).ext hA3;generalize (w2.alloc (.cells #[.int .i64 0,.slice none 0 0,.slice none 0 0] 41))=w3 at*;generalize w2.heap.size=g3 at*;have V:=zh d7;have c7:Hid (za wq w3):=za.trans (b2.out) hA3;clear d7 hA3;refine zaJ o (c7.out) fun zH=>?_;clear o K;try simp only [zc,Fv]
   refine BO 14 fun K o=>?_;have y0:=V.out.cell (k:=0) rfl;have y1:=V.out.cell (k:=1) rfl;have y2:=V.out.cell (k:=2) rfl;have yf:∀j,w3.frozen? ⟨g3,j,none⟩=false:=fun j=>V.out.frozen j
   go_simp;clear y0 y1 y2 yf;have G:za wq (((w3.setCell ⟨g3,0,none⟩ (.int .i64 r.2.1.task)).setCell ⟨g3,1,none⟩ (.slice As2 r.2.1.side.length cs2)).setCell ⟨g3,2,none⟩ (.slice Ak2 r.2.1.kids.length ck2)):=((Below.setCell (c7.out) (p:=⟨g3,0,none⟩) J.out _).setCell (p:=⟨g3,1,none⟩) J.out _).setCell (p:=⟨g3,2,none⟩) J.out _;refine zaJ o (G) fun zH=>?_;clear o K;try simp only [zc,Fv]
   refine zi 15 zH ?_ (hQ:=fun _ _ _ h=>D _ _ _ _ (by rfl) h);simp only [zc,Fv];refine zi 16 zH ?_ (hQ:=fun _ _ _ h=>D _ _ _ _ (by rfl) h);simp only [zc,Fv];refine zao (by kernel_rfl) ?_ _;have a2:ze (((w3.setCell ⟨g3,0,none⟩ (.int .i64 r.2.1.task)).setCell ⟨g3,1,none⟩ (.slice As2 r.2.1.side.length cs2)).setCell ⟨g3,2,none⟩ (.slice Ak2 r.2.1.kids.length ck2)) g3 41 #[.int .i64 r.2.1.task,.slice As2 r.2.1.side.length cs2,.slice Ak2 r.2.1.kids.length ck2]:=((V.out.set (k:=0) _).set (k:=1) _).set (k:=2) _;have a6:Ce (((w3.setCell ⟨g3,0,none⟩ (.int .i64 r.2.1.task)).setCell ⟨g3,1,none⟩ (.slice As2 r.2.1.side.length cs2)).setCell ⟨g3,2,none⟩ (.slice Ak2 r.2.1.kids.length ck2)) (fun b=>wq.heap.size<=b/\b≠g3) (.agg #[.int .i64 r.2.1.task,.slice As2 r.2.1.side.length cs2,.slice Ak2 r.2.1.kids.length ck2]) r.2.1:=e8.out.keepW (fun b I _=>((hset b I.2).trans (hset b I.2)).trans (hset b I.2)) fun _ h=>h
   exact hQ _ g3 _ _ _ _ G J a2 a6 _ _ _ _ _ _ _ _ _ _ _ _ _
  refine zal rfl (fun K o=>?_) .nil;go_simp;have d8:=ze.new w1 #[.int .i64 0,.slice none 0 0,.slice none 0 0] 41 (g:=w1.heap.size) rfl;have hA5:za w1 (w1.alloc (.cells #[.int .i64 0,.slice none 0 0,.slice none 0 0] 41)):=(za.refl w1).alloc _;have M:Hid (wq.heap.size<=w1.heap.size):=Below.size (U.out);generalize (w1.alloc (.cells #[.int .i64 0,.slice none 0 0,.slice none 0 0] 41))=w5 at*;generalize w1.heap.size=g5 at*;have c0:=zh d8;have a7:Hid (za wq w5):=za.trans (U.out) hA5;have e4:=zh (c9.out.below hA5);clear d8 hA5;refine zaJ o (a7.out) fun zH=>?_;clear o K;try simp only [zc,Fv]
  refine BO 8 fun K o=>?_;go_simp;go_at_call 61
  with_reducible refine (b4.out w5 _ _ (a7.out) e4.out).mono ?_
  rintro e w6 ⟨v6,rfl,b5,b9⟩;obtain ⟨As6,cs6,Ak6,ck6,rfl,-⟩:=b9.form;have c8:Hid (za wq w6):=za.trans (a7.out) b5;have e2:wq.heap.size<=w5.heap.size:=Below.size (a7.out);have b1:=c0.out.ext b5;have e7:Hid (Ce w6 (fun b=>wq.heap.size<=b/\b≠g5) _ r.2.1):=b9.wk fun b I _=>by have:=zd c0.out;omega
  have a0:=zh b1;clear b1;clear b5 b9 e2;refine zaJ o (c8.out) fun zH=>?_;clear o K;try simp only [zc,Fv]
  refine zi 9 zH ?_ (hQ:=fun _ _ _ h=>D _ _ _ _ (by rfl) h);simp only [zc,Fv];refine zi 10 zH ?_ (hQ:=fun _ _ _ h=>D _ _ _ _ (by rfl) h);simp only [zc,Fv];refine zi 11 zH ?_ (hQ:=fun _ _ _ h=>D _ _ _ _ (by rfl) h);simp only [zc,Fv];refine zi 12 zH ?_ (hQ:=fun _ _ _ h=>D _ _ _ _ (by rfl) h);simp only [zc,Fv];refine BO 14 fun K o=>?_;have y0:=a0.out.cell (k:=0) rfl;have y1:=a0.out.cell (k:=1) rfl;have y2:=a0.out.cell (k:=2) rfl;have yf:∀j,w6.frozen? ⟨g5,j,none⟩=false:=fun j=>a0.out.frozen j
  go_simp;clear y0 y1 y2 yf;have G:za wq (((w6.setCell ⟨g5,0,none⟩ (.int .i64 r.2.1.task)).setCell ⟨g5,1,none⟩ (.slice As6 r.2.1.side.length cs6)).setCell ⟨g5,2,none⟩ (.slice Ak6 r.2.1.kids.length ck6)):=((Below.setCell (c8.out) (p:=⟨g5,0,none⟩) M.out _).setCell (p:=⟨g5,1,none⟩) M.out _).setCell (p:=⟨g5,2,none⟩) M.out _;refine zaJ o (G) fun zH=>?_;clear o K;try simp only [zc,Fv]
  refine zi 15 zH ?_ (hQ:=fun _ _ _ h=>D _ _ _ _ (by rfl) h);simp only [zc,Fv];refine zi 16 zH ?_ (hQ:=fun _ _ _ h=>D _ _ _ _ (by rfl) h);simp only [zc,Fv];refine zao (by kernel_rfl) ?_ _;have a2:ze (((w6.setCell ⟨g5,0,none⟩ (.int .i64 r.2.1.task)).setCell ⟨g5,1,none⟩ (.slice As6 r.2.1.side.length cs6)).setCell ⟨g5,2,none⟩ (.slice Ak6 r.2.1.kids.length ck6)) g5 41 #[.int .i64 r.2.1.task,.slice As6 r.2.1.side.length cs6,.slice Ak6 r.2.1.kids.length ck6]:=((a0.out.set (k:=0) _).set (k:=1) _).set (k:=2) _;have a6:Ce (((w6.setCell ⟨g5,0,none⟩ (.int .i64 r.2.1.task)).setCell ⟨g5,1,none⟩ (.slice As6 r.2.1.side.length cs6)).setCell ⟨g5,2,none⟩ (.slice Ak6 r.2.1.kids.length ck6)) (fun b=>wq.heap.size<=b/\b≠g5) (.agg #[.int .i64 r.2.1.task,.slice As6 r.2.1.side.length cs6,.slice Ak6 r.2.1.kids.length ck6]) r.2.1:=e7.out.keepW (fun b I _=>((hset b I.2).trans (hset b I.2)).trans (hset b I.2)) fun _ h=>h
  exact hQ _ g5 _ _ _ _ G M a2 a6 _ _ _ _ _ _ _ _ _ _ _ _ _
 refine zal rfl (fun K o=>?_) .nil;go_simp;have d9:=ze.new wd #[.int .i64 0,.slice none 0 0,.slice none 0 0] 41 (g:=wd.heap.size) rfl;have hA8:za wd (wd.alloc (.cells #[.int .i64 0,.slice none 0 0,.slice none 0 0] 41)):=(za.refl wd).alloc _;have O:Hid (wq.heap.size<=wd.heap.size):=Below.size (a4);generalize (wd.alloc (.cells #[.int .i64 0,.slice none 0 0,.slice none 0 0] 41))=w8 at*;generalize wd.heap.size=g8 at*;have e3:=zh d9;have b3:Hid (za wq w8):=za.trans (a4) hA8;clear d9 hA8;refine zaJ o (b3.out) fun zH=>?_;clear o K;try simp only [zc,Fv]
 refine BO 6 fun K o=>?_;go_simp;go_at_call 123
 with_reducible refine (d6.out w8 (b3.out)).mono ?_
 rintro e w9 ⟨v9,rfl,a9⟩;have e5:=zh a9.ints;have a8:Hid (za wq w9):=za.trans (b3.out) a9.ext;have c6:=zh (e3.out.ext a9.ext);clear a9;refine zaJ o (a8.out) fun zH=>?_;clear o K;try simp only [zc,Fv]
 refine BO 8 fun K o=>?_;go_simp;go_at_call 61
 with_reducible refine (b4.out w9 _ _ (a8.out) e5.out).mono ?_
 rintro e w10 ⟨v10,rfl,a3,a5⟩;obtain ⟨As10,cs10,Ak10,ck10,rfl,-⟩:=a5.form;have b0:Hid (za wq w10):=za.trans (a8.out) a3;have b6:wq.heap.size<=w9.heap.size:=Below.size (a8.out);have a1:=c6.out.ext a3;have d5:Hid (Ce w10 (fun b=>wq.heap.size<=b/\b≠g8) _ r.2.1):=a5.wk fun b I _=>by have:=zd c6.out;omega
 have E:=zh a1;clear a1;clear a3 a5 b6;refine zaJ o (b0.out) fun zH=>?_;clear o K;try simp only [zc,Fv]
 refine zi 9 zH ?_ (hQ:=fun _ _ _ h=>D _ _ _ _ (by rfl) h);simp only [zc,Fv];refine zi 10 zH ?_ (hQ:=fun _ _ _ h=>D _ _ _ _ (by rfl) h);simp only [zc,Fv];refine zi 11 zH ?_ (hQ:=fun _ _ _ h=>D _ _ _ _ (by rfl) h);simp only [zc,Fv];refine zi 12 zH ?_ (hQ:=fun _ _ _ h=>D _ _ _ _ (by rfl) h);simp only [zc,Fv];refine BO 14 fun K o=>?_;have y0:=E.out.cell (k:=0) rfl;have y1:=E.out.cell (k:=1) rfl;have y2:=E.out.cell (k:=2) rfl;have yf:∀j,w10.frozen? ⟨g8,j,none⟩=false:=fun j=>E.out.frozen j
 go_simp;clear y0 y1 y2 yf;have G:za wq (((w10.setCell ⟨g8,0,none⟩ (.int .i64 r.2.1.task)).setCell ⟨g8,1,none⟩ (.slice As10 r.2.1.side.length cs10)).setCell ⟨g8,2,none⟩ (.slice Ak10 r.2.1.kids.length ck10)):=((Below.setCell (b0.out) (p:=⟨g8,0,none⟩) O.out _).setCell (p:=⟨g8,1,none⟩) O.out _).setCell (p:=⟨g8,2,none⟩) O.out _;refine zaJ o (G) fun zH=>?_;clear o K;try simp only [zc,Fv]
 refine zi 15 zH ?_ (hQ:=fun _ _ _ h=>D _ _ _ _ (by rfl) h);simp only [zc,Fv];refine zi 16 zH ?_ (hQ:=fun _ _ _ h=>D _ _ _ _ (by rfl) h);simp only [zc,Fv];refine zao (by kernel_rfl) ?_ _;have a2:ze (((w10.setCell ⟨g8,0,none⟩ (.int .i64 r.2.1.task)).setCell ⟨g8,1,none⟩ (.slice As10 r.2.1.side.length cs10)).setCell ⟨g8,2,none⟩ (.slice Ak10 r.2.1.kids.length ck10)) g8 41 #[.int .i64 r.2.1.task,.slice As10 r.2.1.side.length cs10,.slice Ak10 r.2.1.kids.length ck10]:=((E.out.set (k:=0) _).set (k:=1) _).set (k:=2) _;have a6:Ce (((w10.setCell ⟨g8,0,none⟩ (.int .i64 r.2.1.task)).setCell ⟨g8,1,none⟩ (.slice As10 r.2.1.side.length cs10)).setCell ⟨g8,2,none⟩ (.slice Ak10 r.2.1.kids.length ck10)) (fun b=>wq.heap.size<=b/\b≠g8) (.agg #[.int .i64 r.2.1.task,.slice As10 r.2.1.side.length cs10,.slice Ak10 r.2.1.kids.length ck10]) r.2.1:=d5.out.keepW (fun b I _=>((hset b I.2).trans (hset b I.2)).trans (hset b I.2)) fun _ h=>h
 exact hQ _ g8 _ _ _ _ G O a2 a6 _ _ _ _ _ _ _ _ _ _ _ _ _
end
section
open Go.RowKit
attribute [local go_sem ↓] Go.wp_at_zero Go.wp_at_succ
def blkOf (n:Nat):Code->Option Code
 | .block id c=>if id=n then some (.block id c) else blkOf n c
 | .seq a b=>match blkOf n a with
  | some c=>some c
  | none=>blkOf n b
 | .cond _ a b=>match blkOf n a with
  | some c=>some c
  | none=>blkOf n b
 | .loop c=>blkOf n c
 | _=>none
end
section
open Go.RowKit
attribute [local go_sem ↓] Go.wp_at_zero Go.wp_at_succ
attribute [local go_sem] Oper.semAt_some
theorem any_take {p:Int->Bool} {S:List Int} (o:j<S.length):(S.take (j+1)).any p=((S.take j).any p || p S[j]):=by
 rw [FF o,List.any_append];simp
theorem chg_ext2 {wr:World} (h:za w2 w9) (o:zu (fun b=>b=gp) w9 wr) (E:w2.heap.size<=gp):za w2 wr:=
 ⟨o.os.trans h.os,o.tape.trans h.tape,o.output.trans h.output,FA h.size o.size,fun b D=>(o.block b (zam D h.size) (by omega)).trans (h.block b D)⟩
theorem mk1_fin {p:PT} {k:Int} (O:Below gz wq WZ) (hw:za w wq) (V:w.heap.size<=gz) (hk:∀k,k<wq.heap.size->k≠gz->WZ.heap[k]?=wq.heap[k]?) (o:ze WZ gz 41 #[x,y,z]) (hp:Ce wq (fun b=>w.heap.size<=b/\b≠gz) (.agg #[x,y,z]) p)
  (hr:r.2.1=p/\(r.2.2:Int)=k/\r.1=n) (J:a.tmps[6]?=some (.pointer (some ⟨gz,0,none⟩))) (M:a.tmps[8]?=some (.int .i64 n)) (D:a.tmps[7]?=some (.int .i64 k)) (U:a.defers=[]):
  bodyPost Tryz.prog Tryz.f61 (Mk1 w r) Exit.ret a WZ:=by
 have c0:=o.cell (k:=0) rfl;have c1:=o.cell (k:=1) rfl;have c2:=o.cell (k:=2) rfl;have e:a.tmps.getD 6 undef=.pointer (some ⟨gz,0,none⟩):=by rw [Array.getD_eq_getD_getElem?,J];rfl
 have e7:a.tmps.getD 7 undef=.int .i64 k:=by rw [Array.getD_eq_getD_getElem?,D];rfl
 have e8:a.tmps.getD 8 undef=.int .i64 n:=by rw [Array.getD_eq_getD_getElem?,M];rfl
 obtain ⟨rfl,E,I⟩:=hr;refine za5 (v:=.tuple #[.agg #[x,y,z],.int .i64 k,.int .i64 n]) (by simp [results,Tryz.results61,go_sem,J,D,M,e,e7,e8,c0,c1,c2]) U ⟨_,by rw [E,I],?_,?_⟩
 ·exact below_le hw O V
 ·exact hp.keepW (fun b o G=>hk b G o.2) (fun b o=>o.1)
noncomputable def mkB4:Code:=(Tryz.f61.body.bind (blkOf 4)).getD .skip
theorem meas1 {n:Nat} (h:k<n):n - (intOf (.int .i64 ((k:Int)+1))).toNat<n - (intOf (.int .i64 (k:Int))).toNat:=by simp [intOf];omega
theorem mkB4_wp (hl:Lens m) (hc:AV m=0) {fl c:Nat} {okc:Nat->Prop} {w8:World} {L:List Int} {F:Int->Nat->Int×PT×Nat} {R:Int×List PT×Nat} {AL:Option Addr}
  (hm:zL w ok (.agg #[.int .i64 m.w,.int .i64 m.h,.int .i64 m.l,.slice Af m.free.length cf,.slice Au m.up.length cu,.slice At m.tasks.length ct]) m) (c8:zg w okc (.slice Ac ch.length cc) ch) (hi:zw m ch) (hf:m.n.toNat+2<=fl+1+ch.length) (d9:(zq m ch).length<=m.tasks.length/\m.tasks.length<=6/\ch.length<=300/\∀x∈zq m ch,x≠[]/\x.length<=1000)
  (IH:Hid (∀(ch:List Int) (k:Nat) (ok okc:Nat->Prop) (v vc:Value) (w:World),zL w ok v m->zg w okc vc ch->zw m ch->m.n.toNat+2<=fl+ch.length->k<=3000->Calls Tryz.prog 61 #[v,vc,.int .i64 k] w (Mk1 w (zk m fl ch k))))
  (j1:Hid (c=Bd m ch)) (f3:Hid (w.heap.size<=gz)) (HZ:Hid (ze w2 gz 41 #[.int .i64 0,.slice none 0 0,.slice none 0 0])) (a9:Hid (za w w2))
  (r0:∀W,za w2 W->W.cell? ⟨gm,0,none⟩=some (.int .i64 m.w)) (r1:∀W,za w2 W->W.cell? ⟨gm,1,none⟩=some (.int .i64 m.h)) (r2:∀W,za w2 W->W.cell? ⟨gm,2,none⟩=some (.int .i64 m.l))
  (r3:∀W,za w2 W->W.cell? ⟨gm,3,none⟩=some (.slice Af m.free.length cf)) (r4:∀W,za w2 W->W.cell? ⟨gm,4,none⟩=some (.slice Au m.up.length cu)) (r5:∀W,za w2 W->W.cell? ⟨gm,5,none⟩=some (.slice At m.tasks.length ct))
  (j3:Hid (gz<gp)) (b6:Hid (w2.heap.size<=gp)) (j8:L.length<=400000000000) (f8:Hid (∀n∈L,zw m (ch++[n]))) (f4:Hid (zg w9 (fun b=>w8.heap.size<=b) (.slice AL L.length cL) L)) (g8:Hid (za w2 w9)) (g0:Hid (ze w9 gp 41 #[.int .i64 c,.slice none 0 0,.slice none 0 0])) (f2:Hid (gp<w8.heap.size)) (a6:Hid (gp<w9.heap.size)) (f5:Hid (k+1<=3000))
  (f1:Hid (F=fun n k=>zk m fl (ch++[n]) k)) (g5:Hid (R=Az F L (k+1) [])) (g1:Hid (zk m (fl+1) ch k=if R.1=0 then (0,.node c [] R.2.1,R.2.2) else (R.1,.zero,R.2.2))) (f7:Hid (Ci w9 w9.heap.size (.slice none 0 0) [] []))
  (hN:∀(wq:World) (kk:Nat) (acc:List PT) (vk:Value) (cs:List Value),Hid (R=(0,acc,kk))->Hid (zu (fun b=>b=gp) w9 wq)->Hid (ze wq gp 41 #[.int .i64 c,.slice none 0 0,vk])->Hid (Ci wq w9.heap.size vk acc cs)->∀(x7 x8 x18 x19 x20 x21 x100 x101 x102 x103 x104 x105 x106 x107 x108 x109 x110 x111 x112 x113 x114 x115 x116 x117 x118 x119 x120 x121 x122 x123 x124 x125 x126 x127 x128 x129 x130:Value),Q .normal ⟨(u0 :: Value.slice Ac ch.length cc :: Value.int .i64 (kk:Nat) :: Value.pointer (some ⟨gm,0,none⟩) :: u4 :: u5 :: Value.pointer (some ⟨gz,0,none⟩) :: x7 :: x8 :: u9 :: u10 :: u11 :: u12 :: u13 :: u14 :: u15 :: Value.pointer (some ⟨gp,0,none⟩) :: Value.slice AL L.length cL :: x18 :: x19 :: x20 :: x21 :: u22 :: u23 :: u24 :: u25 :: u26 :: u27 :: u28 :: u29 :: u30 :: u31 :: u32 :: u33 :: u34 :: u35 :: u36 :: u37 :: u38 :: u39 :: u40 :: u41 :: u42 :: u43 :: u44 :: u45 :: u46 :: u47 :: u48 :: u49 :: u50 :: u51 :: u52 :: u53 :: u54 :: u55 :: u56 :: u57 :: u58 :: u59 :: u60 :: u61 :: u62 :: u63 :: u64 :: u65 :: u66 :: u67 :: u68 :: u69 :: u70 :: u71 :: u72 :: u73 :: u74 :: u75 :: u76 :: u77 :: u78 :: u79 :: u80 :: u81 :: u82 :: u83 :: u84 :: u85 :: u86 :: u87 :: u88 :: u89 :: u90 :: u91 :: u92 :: u93 :: u94 :: u95 :: u96 :: u97 :: u98 :: u99 :: x100 :: x101 :: x102 :: x103 :: x104 :: x105 :: x106 :: x107 :: x108 :: x109 :: x110 :: x111 :: x112 :: x113 :: x114 :: x115 :: x116 :: x117 :: x118 :: x119 :: x120 :: x121 :: x122 :: x123 :: x124 :: x125 :: x126 :: x127 :: x128 :: x129 :: x130 :: u131 :: u132 :: []).toArray,[]⟩ wq)
  (hP:∀c (a a':Act) w,a.defers=a'.defers->Q (.panic c) a w->Q (.panic c) a' w) (i1:∀a W,bodyPost Tryz.prog Tryz.f61 (Mk1 w (zk m (fl+1) ch k)) Exit.ret a W->Q .ret a W):
  mkB4.wp Tryz.prog Q ⟨(u0 :: Value.slice Ac ch.length cc :: Value.int .i64 ((k+1:Nat):Int) :: Value.pointer (some ⟨gm,0,none⟩) :: u4 :: u5 :: Value.pointer (some ⟨gz,0,none⟩) :: u7 :: u8 :: u9 :: u10 :: u11 :: u12 :: u13 :: u14 :: u15 :: Value.pointer (some ⟨gp,0,none⟩) :: Value.slice AL L.length cL :: Value.int .i64 0 :: u19 :: u20 :: u21 :: u22 :: u23 :: u24 :: u25 :: u26 :: u27 :: u28 :: u29 :: u30 :: u31 :: u32 :: u33 :: u34 :: u35 :: u36 :: u37 :: u38 :: u39 :: u40 :: u41 :: u42 :: u43 :: u44 :: u45 :: u46 :: u47 :: u48 :: u49 :: u50 :: u51 :: u52 :: u53 :: u54 :: u55 :: u56 :: u57 :: u58 :: u59 :: u60 :: u61 :: u62 :: u63 :: u64 :: u65 :: u66 :: u67 :: u68 :: u69 :: u70 :: u71 :: u72 :: u73 :: u74 :: u75 :: u76 :: u77 :: u78 :: u79 :: u80 :: u81 :: u82 :: u83 :: u84 :: u85 :: u86 :: u87 :: u88 :: u89 :: u90 :: u91 :: u92 :: u93 :: u94 :: u95 :: u96 :: u97 :: u98 :: u99 :: u100 :: u101 :: u102 :: u103 :: u104 :: u105 :: u106 :: u107 :: u108 :: u109 :: u110 :: u111 :: u112 :: u113 :: u114 :: u115 :: u116 :: u117 :: u118 :: u119 :: u120 :: u121 :: u122 :: u123 :: u124 :: u125 :: u126 :: u127 :: u128 :: u129 :: u130 :: u131 :: u132 :: []).toArray,[]⟩ w9:=by
 conv=>arg 2;whnf
 have HM:=zh hm;have HL:=zh hl;have HC:=zh hc;have HI:=zh hi;have HF:=zh hf;have e9:=zh c8;have g3:=zh d9;clear hm hl hc hi hf c8 d9;obtain ⟨_,_,e,-,e4⟩:=f4.out;injection e with e1 e2 e3;subst e1 e3;have g4:=zh e4;have f9:=zh hN;clear e4 e2 hN
 go_wp2_with fail
 go_loopw [18,2] (fun v n wr=>∃(j kk:Nat) (acc:List PT) (vk:Value) (cs:List Value),v=.int .i64 j/\n=.int .i64 kk/\j<=L.length/\Hid (acc.length=j)/\kk<=3000/\Hid (R=Az F (L.drop j) kk acc)/\Hid (zu (fun b=>b=gp) w9 wr)/\Hid (ze wr gp 41 #[.int .i64 c,.slice none 0 0,vk])/\Hid (Ci wr w9.heap.size vk acc cs)) (fun v _ _=>L.length - (intOf v).toNat)
 case atStart=>exact ⟨0,k+1,[],.slice none 0 0,[],rfl,rfl,FN _,rfl,f5.out,g5.out,zu.refl _ _,g0.out,f7.out⟩
 case round=>
  obtain ⟨j,kk,acc,vk,cs,rfl,rfl,hj,V,d7,b4,I,b2,U⟩:=hrel;obtain ⟨wq,rfl⟩:∃wq:World,wq=wr:=⟨_,rfl⟩;have D:Hid (za w2 wq):=chg_ext2 g8.out I.out b6.out;by_cases o:j<L.length
  ·have k6:(0:Int)<=(j:Int):=by omega
   have h6:(j:Int)<(L.length:Int):=by omega
   obtain ⟨bl,offl,rfl,c7,a3⟩:=Ai g4.out o o;have c9:wq.cell? ⟨bl,offl+j,none⟩=some (.int .i64 L[j]):=I.out.cellk a3 (by have h1:w8.heap.size<=bl:=c7;have:=f2.out;show ¬ (bl=gp);omega);have qn:=za.rule c9;have a7:Hid (zw m (ch++[L[j]])):=f8.out _ (Fz o);have a4:Hid (L.drop j=L[j] :: L.drop (j+1)):=List.drop_eq_getElem_cons o;obtain ⟨n,hn⟩:=zaI (L[j]);rw [<-hn] at qn a7 a4;have s0:∀W,za wq W->W.cell? ⟨gm,0,none⟩=some (.int .i64 m.w):=fun W h=>r0 W (D.out.trans h)
   have s1:∀W,za wq W->W.cell? ⟨gm,1,none⟩=some (.int .i64 m.h):=fun W h=>r1 W (D.out.trans h)
   have s2:∀W,za wq W->W.cell? ⟨gm,2,none⟩=some (.int .i64 m.l):=fun W h=>r2 W (D.out.trans h)
   have s3:∀W,za wq W->W.cell? ⟨gm,3,none⟩=some (.slice Af m.free.length cf):=fun W h=>r3 W (D.out.trans h)
   have s4:∀W,za wq W->W.cell? ⟨gm,4,none⟩=some (.slice Au m.up.length cu):=fun W h=>r4 W (D.out.trans h)
   have s5:∀W,za wq W->W.cell? ⟨gm,5,none⟩=some (.slice At m.tasks.length ct):=fun W h=>r5 W (D.out.trans h)
   clear hn c9 a3 c7;go_upto_region 24 with fail;go_cut [19,20,21] from 106 to 118 (fun v19 v20 v21 wx=>∃(g:Nat) (r:Int×PT×Nat) (As2 Ak2:Option Addr) (cs2 ck2:Nat),v19=.pointer (some ⟨g,0,none⟩)/\v20=.int .i64 (r.2.2:Int)/\v21=.int .i64 r.1/\Hid (r=zk m fl (ch++[n]) kk)/\Hid (F n kk=r)/\Hid (za wq wx)/\Hid (wq.heap.size<=g)/\Hid (ze wx g 41 #[.int .i64 r.2.1.task,.slice As2 r.2.1.side.length cs2,.slice Ak2 r.2.1.kids.length ck2])/\Hid (Ce wx (fun b=>wq.heap.size<=b/\b≠g) (.agg #[.int .i64 r.2.1.task,.slice As2 r.2.1.side.length cs2,.slice Ak2 r.2.1.kids.length ck2]) r.2.1))
   case first=>
    refine wp_cast (c':=mk24) (by kernel_rfl) ?_;refine u24_wp (r:=zk m fl (ch++[n]) kk) (ch:=ch) s0 s1 s2 s3 s4 s5 qn o (zh fun W h=>with_calls29 n W (e9.out.below (a9.out.trans (D.out.trans h))) (by have:=g3.out;omega)) (zh fun W ok v h hv=>IH.out (ch++[n]) kk _ _ _ _ W (HM.out.below (a9.out.trans (D.out.trans h))) hv a7.out (by have:=HF.out;rw [FG,zak];omega) d7) (fun c a a' w hd h=>hP c a a' w hd h) fun wz g As2 Ak2 cs2 ck2 c6 h7 b0 b1 _ _ _ _ _ _ _ _ _ _ _ _ _=>?_;obtain ⟨r,hr⟩:=zaI (zk m fl (ch++[n]) kk);rw [<-hr] at b0 b1⊢;have J:Hid (F n kk=r):=by (show _=_);rw [f1.out];exact hr.symm
    have a0:=zh hr;have O:=zh b0;have a8:=zh b1;have E:=zh c6;clear hr b0 b1 c6 qn s0 s1 s2 s3 s4 s5
    go_wp2_with fail
    go_meet;exact ⟨g,r,As2,Ak2,cs2,ck2,rfl,rfl,rfl,a0,J,E,h7,O,a8⟩
   case rest=>
    obtain ⟨g,r,As2,Ak2,cs2,ck2,rfl,rfl,rfl,a0,J,E,j4,O,a8⟩:=hcut;obtain ⟨wz,rfl⟩:∃W:World,W=wc:=⟨_,rfl⟩;clear qn s0 s1 s2 s3 s4 s5;have a2:za w2 wz:=D.out.trans E.out;by_cases G:r.1=0
    ·have h9:(r.1 != 0)=false:=by simp [G]
     have f0:Hid ((F n kk).1=0):=by (show _=_);rw [J.out];exact G
     have b9:Hid (R=Az F (L.drop (j+1)) r.2.2 (acc++[r.2.1])):=by (show _=_);rw [b4.out,a4.out,kidsR_more f0.out,J.out]
     have b8:Hid (r.2.2<=3000):=by
      (show _<=_)
      have h:=(proveP_ok HC.out fl (ch++[n]) kk a7.out d7 (by rw [<-a0.out];exact G)).2.2;rw [<-a0.out] at h;exact h
     have b7:Hid (Ci (wz.alloc (.cells #[.int .i64 r.2.1.task,.slice As2 r.2.1.side.length cs2,.slice Ak2 r.2.1.kids.length ck2] 41)) w9.heap.size vk acc cs):=U.out.chg (X:=fun _=>False) (zu.of_ext (E.out.trans ((za.refl _).alloc _))) (fun _ _ h=>h);have cp2:wz.cell? ⟨gp,2,none⟩=some vk:=(b2.out.ext E.out).cell (k:=2) rfl;have y0:=O.out.cell (k:=0) rfl;have y1:=O.out.cell (k:=1) rfl;have y2:=O.out.cell (k:=2) rfl;clear G
     go_wp2_with (at_builtin;refine AE (ok:=fun _=>True) rfl _ _ _ eProof rfl w9.heap.size acc.length 1 cs [.int .i64 r.2.1.task,.slice As2 r.2.1.side.length cs2,.slice Ak2 r.2.1.kids.length ck2] vk _ rfl rfl b7.out.own (prv_row1 (ze.new _ _ _ rfl)) (fun u hu=>by simp at hu;rcases hu with rfl | rfl | rfl <;> rfl) (by have h1:=I.out.size;have h2:=E.out.size;simp;omega) (by have:=V.out;unfold maxLen;omega) (by have:=V.out;omega) ?_)
     intro vn wn ho hg hv;have e0:Ce (wz.alloc (.cells #[.int .i64 r.2.1.task,.slice As2 r.2.1.side.length cs2,.slice Ak2 r.2.1.kids.length ck2] 41)) (fun b=>wq.heap.size<=b) (.agg #[.int .i64 r.2.1.task,.slice As2 r.2.1.side.length cs2,.slice Ak2 r.2.1.kids.length ck2]) r.2.1:=(a8.out.wk fun b hb _=>hb.1).ext ((za.refl _).alloc _);have d8:=b7.out.app e0 (fun k hk=>(U.out.lt hk).2) I.out.size ho hg (hv.imp id fun e=>e.trans (by simp));have a1:ze wn gp 41 #[.int .i64 c,.slice none 0 0,vk]:=(hg.block gp (by have h1:=a6.out;have h2:=I.out.size;have h3:=E.out.size;simp;omega) (fun e=>by have h1:=U.out.lt e.symm;have h2:=a6.out;omega)).trans (b2.out.ext (E.out.trans ((za.refl _).alloc _)));have d5:zu (fun b=>b=gp) w9 wn:=zu.grown (zu.trans I.out (zu.of_ext (X:=fun b=>b=gp) (E.out.trans ((za.refl _).alloc _))) (fun _ _ h=>h)) hg (fun k hk k8=>by have h1:=U.out.lt hk;omega);obtain ⟨An,cn,evn,-,-⟩:=AS.of_own ho;subst evn;have g6:Hid (zu (fun b=>b=gp) w9 (wn.setCell ⟨gp,2,none⟩ (.slice An (acc.length+1) cn))):=d5.set gp 2 _ rfl;have c0:Hid (ze (wn.setCell ⟨gp,2,none⟩ (.slice An (acc.length+1) cn)) gp 41 #[.int .i64 c,.slice none 0 0,.slice An (acc.length+1) cn]):=a1.set (k:=2) _;have f6:=zh (d8.chg (zu.set (X:=fun b=>b=gp) (zu.refl _ wn) gp 2 (.slice An (acc.length+1) cn) rfl) (fun b hb e=>by have:=a6.out;omega));have cg:=a1.cell (k:=2) rfl;have fg:=a1.frozen 2;have b5:Hid ((acc++[r.2.1]).length=j+1):=by (show _=_);rw [FG,V.out];rfl
     clear ho hg hv e0 d8 a1 d5 y0 y1 y2 cp2 a2
     go_wp2_with fail
     go_roundw
     case rel=>exact ⟨j+1,r.2.2,acc++[r.2.1],_,_,by go_num,rfl,by omega,b5,b8.out,b9,g6,c0,f6⟩
     case measure=>exact meas1 o
    ·have h9:(r.1 != 0)=true:=by simp [G]
     have HR:Hid ((zk m (fl+1) ch k).2.1=PT.zero/\(((zk m (fl+1) ch k).2.2:Nat):Int)=(r.2.2:Int)/\(zk m (fl+1) ch k).1=r.1):=by
      have h1:R=(r.1,[],r.2.2):=by
       rw [b4.out,a4.out,kidsR_stop (by rw [J.out];exact G),J.out]
      rw [g1.out,h1,if_neg G];exact ⟨rfl,rfl,rfl⟩
     have M:ze wz gz 41 #[.int .i64 0,.slice none 0 0,.slice none 0 0]:=HZ.out.ext a2;have z0:=M.cell (k:=0) rfl;have z1:=M.cell (k:=1) rfl;have z2:=M.cell (k:=2) rfl;have zf:∀j,wz.frozen? ⟨gz,j,none⟩=false:=fun j=>M.frozen j
     have e8:=zh M;have g7:=zh a2;clear M G a2
     go_wp2_with fail
     refine BI (P:=fun W=>bodyPost Tryz.prog Tryz.f61 _ Exit.ret _ W) (g2:=gz) ?_ e8.out;intro WZ h5 g9 hk;exact mk1_fin g9 (a9.out.trans g7.out) f3.out hk h5 (Ce.zero _ _) HR.out rfl rfl rfl rfl
  ·have b3:j=L.length:=by omega
   have h6:¬ ((j:Int)<(L.length:Int)):=by omega
   have a5:Hid (R=(0,acc,kk)):=by
    (show _=_)
    rw [b4.out,b3,List.drop_length];rfl
   have k7:=b3;clear b3
   go_wp2_with fail
   exact f9.out _ _ _ _ _ a5 I b2 U _ _ _ _ _ _ _ _ _ _ _ _ _ _ _ _ _ _ _ _ _ _ _ _ _ _ _ _ _ _ _ _ _ _ _ _ _
theorem make1_calls {m:MZ} (hl:Lens m) (hc:AV m=0):∀(fl:Nat) (ch:List Int) (k:Nat) (ok okc:Nat->Prop) (v vc:Value) (w:World),zL w ok v m->zg w okc vc ch->zw m ch->m.n.toNat+2<=fl+ch.length->k<=3000->
  Calls Tryz.prog 61 #[v,vc,.int .i64 k] w (Mk1 w (zk m fl ch k))
 | 0,ch,k,ok,okc,v,vc,w,hm,g1,hi,hf,hk=>by
  have:=hi.len (zZ.of hc);omega
 | fl+1,ch,k,ok,okc,v,vc,w,hm,g1,hi,hf,hk=>by
  have HM:=zh hm;have HL:=zh hl;have HC:=zh hc;have HI:=zh hi;have HF:=zh hf;have HK:=zh hk;have a6:=zh g1;have a8:=zh (Cp hc hi);have p5:=zh (curT_le hc hi);have IH:=zh (make1_calls hl hc fl);obtain ⟨Af,cf,Au,cu,At,ct,rfl,-,-,l8⟩:=hm.parts;have n8:=zh l8;obtain ⟨Ac,cc,rfl,-,-⟩:=g1;have q9:=hl.ts;clear hm hl hc hi hf hk l8;obtain ⟨c,k6⟩:=zaI (Bd m ch);have G:=zh k6;clear k6
  go_enter Tryz.func61,Tryz.ntmps61
  go_upto_region 1 with fail;obtain ⟨g0,r0,r1,r2,r3,r4,r5⟩:=box6 w (.int .i64 m.w) (.int .i64 m.h) (.int .i64 m.l) (.slice Af m.free.length cf) (.slice Au m.up.length cu) (.slice At m.tasks.length ct);have b7:(w.alloc (.cells #[.int .i64 m.w,.int .i64 m.h,.int .i64 m.l,.slice Af m.free.length cf,.slice Au m.up.length cu,.slice At m.tasks.length ct] 32)).heap.size=w.heap.size+1:=by simp
  generalize w.alloc _=w1 at g0 r0 r1 r2 r3 r4 r5 b7⊢;have o:=ze.new w1 #[.int .i64 0,.slice none 0 0,.slice none 0 0] 41 (g:=w1.heap.size) rfl;have d7:za w1 (w1.alloc (.cells #[.int .i64 0,.slice none 0 0,.slice none 0 0] 41)):=(za.refl w1).alloc _;generalize w1.alloc _=w2 at o d7⊢;rw [b7] at o;obtain ⟨gz,k8⟩:∃g,g=w.heap.size+1:=⟨_,rfl⟩;obtain ⟨gm,g3⟩:∃g,g=w.heap.size:=⟨_,rfl⟩;rw [<-g3] at r0 r1 r2 r3 r4 r5;rw [<-k8] at o⊢;rw [<-g3];have U:Hid (w.heap.size<=gz):=by show _<=_;omega
  have HZ:=zh o;have a5:=zh d7;have D:=zh (g0.trans d7);have r0:=fun W h=>r0 W (a5.out.trans h)
  have r1:=fun W h=>r1 W (a5.out.trans h)
  have r2:=fun W h=>r2 W (a5.out.trans h)
  have r3:=fun W h=>r3 W (a5.out.trans h)
  have r4:=fun W h=>r4 W (a5.out.trans h)
  have r5:=fun W h=>r5 W (a5.out.trans h)
  clear k8 g3 g0 d7 b7 o;have E:za w2 w2:=za.refl w2;have f1:=zh (vComplete_calls w2 (HM.out.below D.out) HL.out HC.out (a6.out.below D.out) HI.out);rw [<-G.out] at f1
  go_wp2_with fail
  refine f1.out.mono ?_;rintro e w3 ⟨rfl,j3⟩;have M:za w2 w3:=E.trans j3;clear j3 E f1;by_cases J:m.tasks.length<=c
  ·have hd:decide (m.tasks.length<=c)=true:=FB J;rw [hd];clear hd
   have HR:Hid ((zk m (fl+1) ch k).2.1=PT.zero/\(((zk m (fl+1) ch k).2.2:Nat):Int)=(k:Int)/\(zk m (fl+1) ch k).1=51):=by
    have hp:zk m (fl+1) ch k=(51,.zero,k):=proveP_end (by rw [<-G.out];exact J);rw [hp];exact ⟨rfl,rfl,rfl⟩
   have o:ze w3 gz 41 #[.int .i64 0,.slice none 0 0,.slice none 0 0]:=HZ.out.ext M;have z0:=o.cell (k:=0) rfl;have z1:=o.cell (k:=1) rfl;have z2:=o.cell (k:=2) rfl;have zf:∀j,w3.frozen? ⟨gz,j,none⟩=false:=fun j=>o.frozen j
   have O:=zh o;have f7:=zh M;clear o
   go_wp2_with fail
   refine BI (P:=fun W=>bodyPost Tryz.prog Tryz.f61 _ Exit.ret _ W) (g2:=gz) ?_ O.out;intro WZ a2 a1 hk;exact mk1_fin a1 (D.out.trans f7.out) U.out hk a2 (Ce.zero _ _) HR.out rfl rfl rfl rfl
  ·have hd:decide (m.tasks.length<=c)=false:=FC J;rw [hd];have b1:Hid (¬ m.tasks.length<=Bd m ch):=by show ¬ _;rw [<-G.out];exact J
   have o6:IntKind.i64.wrap ((k:Int)+1)=(k:Int)+1:=by rw [zag];have:=HK.out;omega
   clear hd;by_cases a3:3000<k+1
   ·have l2:(3000:Int)<(k:Int)+1:=by omega
    have HR:Hid ((zk m (fl+1) ch k).2.1=PT.zero/\(((zk m (fl+1) ch k).2.2:Nat):Int)=(k:Int)+1/\(zk m (fl+1) ch k).1=53):=by
     rw [Ff b1.out a3];exact ⟨rfl,by simp,rfl⟩
    have o:ze w3 gz 41 #[.int .i64 0,.slice none 0 0,.slice none 0 0]:=HZ.out.ext M;have z0:=o.cell (k:=0) rfl;have z1:=o.cell (k:=1) rfl;have z2:=o.cell (k:=2) rfl;have zf:∀j,w3.frozen? ⟨gz,j,none⟩=false:=fun j=>o.frozen j
    have O:=zh o;have f7:=zh M;clear o
    go_wp2_with fail
    refine BI (P:=fun W=>bodyPost Tryz.prog Tryz.f61 _ Exit.ret _ W) (g2:=gz) ?_ O.out;intro WZ a2 a1 hk;exact mk1_fin a1 (D.out.trans f7.out) U.out hk a2 (Ce.zero _ _) HR.out rfl rfl rfl rfl
   ·have l2:¬ ((3000:Int)<(k:Int)+1):=by omega
    go_wp2_with fail
    refine (EJ w3 (HM.out.below (D.out.trans M)) HL.out (a6.out.below (D.out.trans M)) (by have:=a8.out;omega)).mono ?_;rintro e w4 ⟨vpp,rfl,j4,e9⟩;have f5:=zh e9;have g5:za w2 w4:=M.trans j4;obtain ⟨_,⟨App,cpp,rfl,-,-⟩,-⟩:=e9
    have HV:Hid (Calls Tryz.prog 119 #[.agg #[.int .i64 m.w,.int .i64 m.h,.int .i64 m.l,.slice Af m.free.length cf,.slice Au m.up.length cu,.slice At m.tasks.length ct],.slice App (zq m ch).length cpp] w4 fun e w'=>e=.returned (.int .i64 c)/\za w4 w'):=by
     rw [G.out];exact Fl w4 (HM.out.below (D.out.trans g5)) HL.out f5.out a8.out.1 (fun x E=>by have:=(a8.out.2.2.2 x E).2;omega)
    obtain ⟨PL,e6⟩:=zaI ((zq m ch).length);rw [<-e6] at HV f5⊢;clear e6 j4 l2 o6 M;have V:=zh a3;have m4:Hid (c<m.tasks.length):=by show _<_;omega
    clear J a3
    go_wp2_with fail
    refine HV.out.mono ?_;rintro e w5 ⟨rfl,a0⟩;have h5:=zh a0;have l9:za w2 w5:=g5.trans a0;have i7:=zh l9;clear HV a0 g5
    go_wp2_with fail
    clear l9;go_loopw [12] (fun v wr=>∃tn:Nat,v=.int .i64 tn/\c<=tn/\tn<=m.tasks.length/\Hid (∀j,c<=j->j<tn->offB m ch j=false)/\Hid (za w5 wr)) (fun v _=>m.tasks.length - (intOf v).toNat)
    case atStart=>exact ⟨c,rfl,Fy _,by have:=m4.out;omega,fun j h1 h2=>(by omega),za.refl _⟩
    case round=>
     obtain ⟨tn,rfl,l6,o8,a4,hE⟩:=hrel;obtain ⟨wk,rfl⟩:∃wk:World,wk=wr:=⟨_,rfl⟩;have E:za w2 wk:=i7.out.trans hE.out;by_cases b6:tn<m.tasks.length
     ·have e8:(tn:Int)<(m.tasks.length:Int):=by omega
      have i5:Hid (zU wk _ (.slice App PL cpp) (zq m ch)):=(f5.out.below h5.out).below hE.out;have I:=zh b6;have i0:Hid ((Cx m ch tn).length<=20000000000000):=headP_len HL.out b6;have i6:=zh (sideP_len m ch tn);clear b6;go_upto_region 11 with fail;refine wp_cast (c':=mk11) (by kernel_rfl) ?_;refine u11_wp (tn:=tn) (HP:=fun W v=>∃ok,zg W ok v (Cx m ch tn)) (RP:=fun W w' v'=>Mk W w' v' (Dd m ch tn)) (fun W h=>r0 W (E.trans h)) (fun W h=>r1 W (E.trans h)) (fun W h=>r2 W (E.trans h)) (fun W h=>r3 W (E.trans h)) (fun W h=>r4 W (E.trans h)) (fun W h=>r5 W (E.trans h)) (zh fun W h=>(vhead_calls tn W (HM.out.below (D.out.trans (E.trans h))) HL.out HC.out (a6.out.below (D.out.trans (E.trans h))) HI.out (i5.out.below h) I.out).mono (by rintro e w6 ⟨v6,rfl,b0,o3⟩;exact ⟨v6,rfl,b0,_,o3⟩)) (zh fun W v h hp=>(qReach_calls tn W (HM.out.below (D.out.trans (E.trans h))) HL.out hp.choose_spec i0.out (a6.out.below (D.out.trans (E.trans h))) (by have:=a8.out;omega)).mono (by rintro e w7 ⟨v7,rfl,b2⟩;exact ⟨v7,rfl,b2.ext,b2⟩)) (fun c a a' w hd h=>by obtain ⟨t,d⟩:=a;obtain ⟨t',d'⟩:=a';cases hd;exact h) fun w6 w7 v6 v7 b0 j9 j5 b2 _ _ _ _ _ _ _ _ _=>?_;have n2:=zh j9;have b9:Hid (zg w7 (fun b=>w6.heap.size<=b) v7 (Dd m ch tn)):=b2.ints;have m5:Hid (za wk w6):=b0;have h6:Hid (za wk w7):=b0.trans j5;have o0:Hid (wk.heap.size<=w6.heap.size):=b0.size;obtain ⟨A7,c7,rfl,-,-⟩:=b9.out;clear E b0 j9 j5 b2;obtain ⟨S,hS⟩:=zaI (Dd m ch tn);rw [<-hS] at b9 i6⊢;have n7:=zh hS;have a9:Hid (za w2 wk):=i7.out.trans hE.out;have c6:Hid (za w2 w7):=a9.out.trans h6.out;obtain ⟨bt,offt,sn,u1,u2,rfl,-,-,-,k5,-,g4⟩:=Bz n8.out I.out;have hg:(m.tasks.getD tn ([],[])).2=(m.tasks[tn]'I.out).2:=by rw [zgd I.out]
      obtain ⟨To,d6⟩:=zaI ((m.tasks.getD tn ([],[])).2);rw [<-hg,<-d6] at g4;have o9:To.length<=20000000000000:=by rw [d6,hg];have:=(HL.out.tl _ (Fz I.out)).2;omega
      have n1:=zh g4;obtain ⟨A2,c2,rfl,-,-⟩:=g4;have q2:=za.rule (c6.out.cell (D.out.cell k5));have q5:∀W,za w7 W->W.cell? ⟨gm,5,none⟩=some (.slice (some ⟨bt,offt,none⟩) m.tasks.length ct):=fun W h=>r5 W (c6.out.trans h)
      have e4:Hid (∀n W,za w7 W->Calls Tryz.prog 73 #[.slice A2 To.length c2,.int .i64 n] W fun e w'=>e=.returned (.bool (decide (n∈To)))/\W=w'):=fun n W h=>AO n W (n1.out.below (D.out.trans (c6.out.trans h))) o9
      have c0:Hid (offB m ch tn=(!(S.any fun n=>decide (n∈To)) && (decide (S≠[]) || decide (c<tn)))):=by
       show _=_;unfold offB;rw [d6,hS,G.out]
      have q8:=i6.out;have q7:(0:Int)<=(tn:Int):=by omega
      clear hS hg d6 k5 m5 n2 i0 i5
      go_wp2_with fail
      go_loopw [14,15] (fun b i wr=>∃j:Nat,j<=S.length/\i=.int .i64 j/\b=.bool ((S.take j).any fun n=>decide (n∈To))/\Hid (za w7 wr)) (fun _ i _=>S.length - (intOf i).toNat)
      case atStart=>exact ⟨0,FN _,rfl,rfl,za.refl _⟩
      case round=>
       obtain ⟨j,hj,rfl,rfl,c9⟩:=hrel;obtain ⟨wj,rfl⟩:∃wj:World,wj=wr:=⟨_,rfl⟩;have E:za w7 wj:=c9.out;by_cases b4:j<S.length
       ·have k9:(j:Int)<(S.length:Int):=by omega
        have q6:(0:Int)<=(j:Int):=by omega
        have f0:Hid (((S.take (j+1)).any fun n=>decide (n∈To))=(((S.take j).any fun n=>decide (n∈To)) || decide (S[j]∈To))):=any_take b4;obtain ⟨_,_,e,-,l5⟩:=b9.out;injection e with e1 e2 e3;subst e1 e3;obtain ⟨bs,offs,rfl,-,k7⟩:=Ai l5 b4 b4;have qs:=za.rule k7;obtain ⟨n,hn⟩:=zaI (S[j]);rw [<-hn] at f0 qs;obtain ⟨b,hb⟩:=zaI ((S.take j).any fun n=>decide (n∈To))
        rw [<-hb] at f0⊢;clear hn hb l5 e2 k7;go_upto_region 16 with fail;refine wp_cast (c':=mk16) (by kernel_rfl) ?_;refine u16_wp (n:=n) (d:=decide (n∈To)) (fun W h=>q5 W (E.trans h)) (fun W h=>q2 W (E.trans h)) (fun W h=>qs W (E.trans h)) I.out b4 (zh fun W h=>e4.out n W (E.trans h)) (fun c a a' w hd h=>by obtain ⟨t,d⟩:=a;obtain ⟨t',d'⟩:=a';cases hd;exact h) fun wd j6 _ _ _ _ _ _ _ _ _ _ _ _ _ _=>?_;have m6:Hid (za w7 wd):=E.trans j6;clear j6 E;go_wp2;go_roundw
        case rel=>exact ⟨j+1,by omega,by go_num,by rw [f0.out],m6⟩
        case measure=>exact meas1 b4
       ·have l0:j=S.length:=by omega
        have k9:¬ ((j:Int)<(S.length:Int)):=by omega
        have hA:((S.take j).any fun n=>decide (n∈To))=S.any fun n=>decide (n∈To):=by rw [l0,FJ]
        rw [hA];obtain ⟨mt,l3⟩:=zaI (S.any fun n=>decide (n∈To))
        rw [<-l3] at c0⊢;have j1:Hid (za w2 wj):=c6.out.trans c9.out;have n3:Hid (zg wj (fun b=>w6.heap.size<=b) (.slice A7 S.length c7) S):=b9.out.below c9.out;have e5:Hid (0<S.length↔S≠[]):=List.length_pos_iff;clear hA l3 l0 k9 hj c9 e4 q2 q5;go_upto_region 17 with fail;go_cut [90] (fun v wx=>v=.bool (offB m ch tn)/\wj=wx)
        case first=>
         cases mt with
         | true=>
          have HO:Hid (offB m ch tn=false):=by (show _=_);rw [c0.out];rfl
          go_wp2_with fail
          go_meet;exact ⟨by rw [HO.out],rfl⟩
         | false=>
          by_cases hs:0<S.length
          ·have b7:decide ((0:Int)<(S.length:Int))=true:=FB (by omega);have o7:decide (0<S.length)=true:=FB hs;have HO:Hid (offB m ch tn=true):=by (show _=_);rw [c0.out,FB (e5.out.1 hs)];rfl
           clear hs
           go_wp2_with fail
           go_meet;exact ⟨by rw [HO.out],rfl⟩
          ·have b7:decide ((0:Int)<(S.length:Int))=false:=FC (by omega);have o7:decide (0<S.length)=false:=FC hs
           have HO:Hid (offB m ch tn=decide ((c:Int)<(tn:Int))):=by
            (show _=_)
            rw [c0.out,FC (fun h=>hs (e5.out.2 h))];simp
           clear hs
           go_wp2_with fail
           go_meet;exact ⟨by rw [HO.out];simp,rfl⟩
        case rest=>
         obtain ⟨rfl,rfl⟩:=hcut
         cases d9:offB m ch tn with
         | true=>
          have HR:Hid ((zk m (fl+1) ch k).2.1=PT.node tn S []/\(((zk m (fl+1) ch k).2.2:Nat):Int)=(k:Int)+1/\(zk m (fl+1) ch k).1=0):=by
           rw [EI b1.out V.out (cutT_at (by rw [<-G.out];exact l6) I.out d9 (fun j h1 h2=>a4.out j (by rw [G.out];exact h1) h2)),<-n7.out];exact ⟨rfl,by simp,rfl⟩
          have o:ze wj gz 41 #[.int .i64 0,.slice none 0 0,.slice none 0 0]:=HZ.out.ext j1.out;have z0:=o.cell (k:=0) rfl;have z1:=o.cell (k:=1) rfl;have z2:=o.cell (k:=2) rfl;have zf:∀j,wj.frozen? ⟨gz,j,none⟩=false:=fun j=>o.frozen j
          have O:=zh o;have m9:Hid (gz<w6.heap.size):=by (show _<_);have h1:=zd HZ.out;have h2:=a9.out.size;have h3:=o0.out;omega
          clear o d9
          go_wp2_with fail
          refine BI (P:=fun W=>bodyPost Tryz.prog Tryz.f61 _ Exit.ret _ W) (g2:=gz) ?_ O.out;intro WZ a2 a1 hk;exact mk1_fin a1 (D.out.trans j1.out) U.out hk a2 (.mk (cs:=[]) (n3.out.weaken fun b hb=>by have h1:=m9.out;have h2:=U.out;omega) ⟨none,0,rfl,Fy _,Ba.nil _ _ _ _⟩ (fun i hi=>absurd hi (by simp))) HR.out rfl rfl rfl rfl
         | false=>
          have HN:Hid (∀j,c<=j->j<tn+1->offB m ch j=false):=fun j h1 h2=>by
           rcases zah j tn with h | h
           ·exact a4.out j h1 h
           ·obtain rfl:j=tn:=by omega
            exact d9
          have m7:Hid (za w5 wj):=(hE.out.trans h6.out).trans E;have b6:=I.out;clear d9 E
          go_wp2_with fail
          go_roundw
          case rel=>exact ⟨tn+1,by go_num,by omega,by omega,HN,m7⟩
          case measure=>exact meas1 b6
     ·have l7:tn=m.tasks.length:=by omega
      have e8:¬ ((tn:Int)<(m.tasks.length:Int)):=by omega
      have g9:Hid (cutT m ch=none):=cutT_no (fun j h1 h2=>a4.out j (by rw [G.out];exact h1) (by omega));have a9:=zh E;clear a4 l6 o8 l7 hE;go_upto_region 20 with fail;have c8:=ze.new wk #[.int .i64 c,.slice none 0 0,.slice none 0 0] 41 (g:=wk.heap.size) rfl;have a0:za wk (wk.alloc (.cells #[.int .i64 c,.slice none 0 0,.slice none 0 0] 41)):=(za.refl wk).alloc _;generalize wk.alloc _=w8 at c8 a0⊢;obtain ⟨gp,d8⟩:=zaI wk.heap.size;rw [<-d8] at c8⊢;have h9:Hid (gz<gp):=by (show _<_);rw [d8];exact zam (zd HZ.out) a9.out.size
      have e0:Hid (w2.heap.size<=gp):=by (show _<=_);rw [d8];exact a9.out.size
      have g8:=zh c8;have E:za w2 w8:=a9.out.trans a0;clear c8 d8 a0 e8
      go_wp2_with fail
      refine (qCandidates_calls w8 (HM.out.below (D.out.trans E)) HL.out (a6.out.below (D.out.trans E)) (by have:=a8.out;omega)).mono ?_;rintro e w9 ⟨v9,rfl,d5⟩;have j8:(AD m ch).length<=400000000000:=by unfold AD;split;exact Dv HL.out ch;simp
      have i2:Hid (∀n∈AD m ch,zw m (ch++[n])):=fun n hn=>by
       have:AD m ch=Bn m ch:=by unfold AD;rw [if_pos (okC_of HC.out HI.out)]
       rw [this] at hn;exact .snoc HI.out hn
      have f3:=zh d5.ints;have i9:Hid (za w2 w9):=E.trans d5.ext;have i4:Hid (ze w9 gp 41 #[.int .i64 c,.slice none 0 0,.slice none 0 0]):=g8.out.ext d5.ext;have a7:Hid (zk m (fl+1) ch k=if (Az (fun n k=>zk m fl (ch++[n]) k) (AD m ch) (k+1) []).1=0 then (0,.node (Bd m ch) [] (Az (fun n k=>zk m fl (ch++[n]) k) (AD m ch) (k+1) []).2.1,(Az (fun n k=>zk m fl (ch++[n]) k) (AD m ch) (k+1) []).2.2) else ((Az (fun n k=>zk m fl (ch++[n]) k) (AD m ch) (k+1) []).1,.zero,(Az (fun n k=>zk m fl (ch++[n]) k) (AD m ch) (k+1) []).2.2)):=Fe b1.out V.out g9.out;rw [<-G.out] at a7;obtain ⟨L,hL⟩:=zaI (AD m ch);rw [<-hL] at i2 f3 a7 j8;obtain ⟨F,hF⟩:∃F:Int->Nat->Int×PT×Nat,F=fun n k=>zk m fl (ch++[n]) k:=⟨_,rfl⟩
      rw [<-hF] at a7;have m8:=zh hF;obtain ⟨R,hR⟩:=zaI (Az F L (k+1) []);rw [<-hR] at a7;have n6:=zh hR;obtain ⟨AL,cL,rfl,-,-⟩:=f3.out;have n0:Hid (gp<w8.heap.size):=zd g8.out;have h8:Hid (gp<w9.heap.size):=zd i4.out;have n4:Hid (k+1<=3000):=by (show _<=_);have:=V.out;omega
      have n5:Hid (Ci w9 w9.heap.size (.slice none 0 0) [] []):=Ci.nil _ _;have l1:(k:Int)+1=((k+1:Nat):Int):=by omega
      rw [l1];clear d5 hL hF hR E l1
      go_upto_block 4 with fail
      refine wp_cast (c':=mkB4) (by kernel_rfl) ?_;refine mkB4_wp HL.out HC.out HM.out a6.out HI.out HF.out a8.out IH G U HZ D r0 r1 r2 r3 r4 r5 h9 e0 j8 i2 f3 i9 i4 n0 h8 n4 m8 n6 a7 n5 (fun wq kk acc vk cs f2 o1 f9 j7 _ _ _ _ _ _ _ _ _ _ _ _ _ _ _ _ _ _ _ _ _ _ _ _ _ _ _ _ _ _ _ _ _ _ _ _ _=>?_) (fun c a a' w hd h=>by obtain ⟨t,d⟩:=a;obtain ⟨t',d'⟩:=a';cases hd;exact h) (fun a W h=>h);have h7:Hid (za w2 wq):=chg_ext2 i9.out o1.out e0.out
      have HR:Hid ((zk m (fl+1) ch k).2.1=PT.node c [] acc/\(((zk m (fl+1) ch k).2.2:Nat):Int)=(kk:Int)/\(zk m (fl+1) ch k).1=0):=by
       rw [a7.out,f2.out,if_pos rfl];exact ⟨rfl,rfl,rfl⟩
      have o:ze wq gz 41 #[.int .i64 0,.slice none 0 0,.slice none 0 0]:=HZ.out.ext h7.out;have z0:=o.cell (k:=0) rfl;have z1:=o.cell (k:=1) rfl;have z2:=o.cell (k:=2) rfl;have zf:∀j,wq.frozen? ⟨gz,j,none⟩=false:=fun j=>o.frozen j
      have O:=zh o;obtain ⟨Ak,ck,evk,-,-⟩:=AS.of_own j7.out.own;subst evk;have p0:=f9.out.cell (k:=0) rfl;have p1:=f9.out.cell (k:=1) rfl;have p2:=f9.out.cell (k:=2) rfl;clear o
      go_wp2_with fail
      refine BI (P:=fun W=>bodyPost Tryz.prog Tryz.f61 _ Exit.ret _ W) (g2:=gz) ?_ O.out;intro WZ a2 a1 hk;exact mk1_fin a1 (D.out.trans h7.out) U.out hk a2 ((j7.out.kids c).wk fun b hb _=>by have h1:=h9.out;have h2:=h8.out;have h3:=U.out;omega) HR.out rfl rfl rfl rfl
theorem makeP_zero29 (h:(zA m).1≠0):(zA m).2=.zero:=by
 unfold zA at h⊢
 split
 ·rename_i o
  rw [if_pos o] at h;exact Fg _ _ _ h
 ·rfl
theorem vmk_fin {r:Int×PT} {p:PT} (I:Below gz wq WZ) (V:za w wq) (M:w.heap.size<=gz) (O:∀k,k<wq.heap.size->k≠gz->WZ.heap[k]?=wq.heap[k]?) (o:ze WZ gz 41 #[x,y,z]) (hp:Ce wq (fun b=>w.heap.size<=b/\b≠gz) (.agg #[x,y,z]) p)
  (U:r=(n,p)) (E:a.tmps[2]?=some (.pointer (some ⟨gz,0,none⟩))) (G:a.tmps[3]?=some (.int .i64 n)) (J:a.defers=[]):
  bodyPost Tryz.prog Tryz.f20 (fun e w'=>∃v',e=.returned (.tuple #[v',.int .i64 r.1])/\za w w'/\Ce w' (fun b=>w.heap.size<=b) v' r.2) Exit.ret a WZ:=by
 have c0:=o.cell (k:=0) rfl;have c1:=o.cell (k:=1) rfl;have c2:=o.cell (k:=2) rfl;have e:a.tmps.getD 2 undef=.pointer (some ⟨gz,0,none⟩):=by rw [Array.getD_eq_getD_getElem?,E];rfl
 have e3:a.tmps.getD 3 undef=.int .i64 n:=by rw [Array.getD_eq_getD_getElem?,G];rfl
 subst U;refine za5 (v:=.tuple #[.agg #[x,y,z],.int .i64 n]) (by simp [results,Tryz.results20,go_sem,E,G,e,e3,c0,c1,c2]) J ⟨_,rfl,?_,?_⟩
 ·exact below_le V I M
 ·exact hp.keepW (fun b o D=>O b D o.2) (fun b o=>o.1)
theorem vMake_calls {v:Value} (w:World) (hm:zL w ok v m) (hl:Lens m):Calls Tryz.prog 20 #[v] w fun e w'=>∃v',e=.returned (.tuple #[v',.int .i64 (zA m).1])/\za w w'/\Ce w' (fun b=>w.heap.size<=b) v' (zA m).2:=by
 have HM:=zh hm;have HL:=zh hl;obtain ⟨Af,cf,Au,cu,At,ct,rfl,-,-,-⟩:=hm.parts;obtain ⟨X,hX⟩:=zaI (zA m);rw [<-hX];have a3:=zh hX;clear hm hl hX
 go_enter Tryz.func20,Tryz.ntmps20
 go_upto_region 1 with fail;obtain ⟨b0,r0,r1,r2,r3,r4,r5⟩:=box6 w (.int .i64 m.w) (.int .i64 m.h) (.int .i64 m.l) (.slice Af m.free.length cf) (.slice Au m.up.length cu) (.slice At m.tasks.length ct);have b3:(w.alloc (.cells #[.int .i64 m.w,.int .i64 m.h,.int .i64 m.l,.slice Af m.free.length cf,.slice Au m.up.length cu,.slice At m.tasks.length ct] 32)).heap.size=w.heap.size+1:=by simp
 generalize w.alloc _=w1 at b0 r0 r1 r2 r3 r4 r5 b3⊢;have o:=ze.new w1 #[.int .i64 0,.slice none 0 0,.slice none 0 0] 41 (g:=w1.heap.size) rfl;have a4:za w1 (w1.alloc (.cells #[.int .i64 0,.slice none 0 0,.slice none 0 0] 41)):=(za.refl w1).alloc _;generalize w1.alloc _=w2 at o a4⊢;rw [b3] at o;obtain ⟨gz,b9⟩:∃g,g=w.heap.size+1:=⟨_,rfl⟩;obtain ⟨gm,b2⟩:∃g,g=w.heap.size:=⟨_,rfl⟩;rw [<-b2] at r0 r1 r2 r3 r4 r5;rw [<-b9] at o⊢;rw [<-b2];have a5:Hid (w.heap.size<=gz):=by show _<=_;omega
 have HZ:=zh o;have I:=zh a4;have J:=zh (b0.trans a4);have r0:=fun W h=>r0 W (I.out.trans h)
 have r1:=fun W h=>r1 W (I.out.trans h)
 have r2:=fun W h=>r2 W (I.out.trans h)
 have r3:=fun W h=>r3 W (I.out.trans h)
 have r4:=fun W h=>r4 W (I.out.trans h)
 have r5:=fun W h=>r5 W (I.out.trans h)
 clear b9 b2 b0 a4 b3 o;have hx:za w2 w2:=za.refl w2
 go_wp2_with fail
 refine (BX w2 (HM.out.below J.out) HL.out).mono ?_;rintro e w3 ⟨rfl,b8⟩;have G:za w2 w3:=b8;obtain ⟨ck,b1⟩:∃c,c=AV m:=⟨_,rfl⟩;rw [<-b1];have a2:=zh b1;clear b8 b1 hx;by_cases h0:ck=0
 ·have d5:(ck != 0)=false:=by simp [h0]
  have HC:Hid (AV m=0):=by (show _=_);rw [<-a2.out];exact h0
  have a6:=zh (make1_calls HL.out HC.out (m.n.toNat+2) [] 0 _ (fun _=>True) _ (.slice none 0 0) w3 (HM.out.below (J.out.trans G)) (zg.nil _ _) .nil (by simp) (by omega));obtain ⟨r,hr⟩:=zaI (zk m (m.n.toNat+2) [] 0);rw [<-hr] at a6;have M:Hid (X=(r.1,r.2.1)):=by (show _=_);rw [a3.out,hr];unfold zA;rw [if_pos HC.out]
  clear h0 hr a2
  go_wp2_with fail
  refine a6.out.mono ?_;rintro e w4 ⟨v4,rfl,a8,a9⟩;obtain ⟨As,cs,Ak,ck',rfl,-⟩:=a9.form;have b6:Hid (za w2 w4):=G.trans a8;have c6:Hid (gz<w3.heap.size/\gz<w4.heap.size):=⟨zd (HZ.out.ext G),zd (HZ.out.ext (G.trans a8))⟩;have b4:=zh a9;have c7:Hid (w.heap.size<=w3.heap.size):=(J.out.trans G).size;clear a8 a9 a6 G;by_cases O:r.1=0
  ·have d7:(r.1 != 0)=false:=by simp [O]
   have a7:Hid (X=(0,r.2.1)):=by (show _=_);rw [M.out,O]
   clear O;go_upto_region 5 with fail;have D:=ze.new w4 #[.int .i64 r.2.1.task,.slice As r.2.1.side.length cs,.slice Ak r.2.1.kids.length ck'] 41 (g:=w4.heap.size) rfl;have E:za w4 (w4.alloc (.cells #[.int .i64 r.2.1.task,.slice As r.2.1.side.length cs,.slice Ak r.2.1.kids.length ck'] 41)):=(za.refl w4).alloc _;generalize w4.alloc _=w5 at D E⊢;generalize w4.heap.size=g5 at D⊢;have y0:=D.cell (k:=0) rfl;have y1:=D.cell (k:=1) rfl;have y2:=D.cell (k:=2) rfl;have V:Hid (za w2 w5):=b6.out.trans E;have b5:=zh (b4.out.ext E);have o:ze w5 gz 41 #[.int .i64 0,.slice none 0 0,.slice none 0 0]:=HZ.out.ext V.out;have z0:=o.cell (k:=0) rfl;have z1:=o.cell (k:=1) rfl;have z2:=o.cell (k:=2) rfl;have zf:∀j,w5.frozen? ⟨gz,j,none⟩=false:=fun j=>o.frozen j
   have U:=zh o;clear o D E
   go_wp2_with fail
   refine BI (P:=fun W=>bodyPost Tryz.prog Tryz.f20 _ Exit.ret _ W) (g2:=gz) ?_ U.out;intro WZ a1 a0 hk;exact vmk_fin a0 (J.out.trans V.out) a5.out hk a1 (b5.out.wk fun b hb _=>by have:=c6.out;have:=c7.out;omega) a7.out rfl rfl rfl
  ·have d7:(r.1 != 0)=true:=by simp [O]
   have a7:Hid (X=(r.1,PT.zero)):=by
    (show _=_)
    have h:=makeP_zero29 (m:=m) (by rw [<-a3.out,M.out];exact O);rw [<-a3.out,M.out] at h;rw [M.out];exact congrArg (Prod.mk r.1) h
   clear O;go_upto_region 5 with fail;have D:=ze.new w4 #[.int .i64 r.2.1.task,.slice As r.2.1.side.length cs,.slice Ak r.2.1.kids.length ck'] 41 (g:=w4.heap.size) rfl;have E:za w4 (w4.alloc (.cells #[.int .i64 r.2.1.task,.slice As r.2.1.side.length cs,.slice Ak r.2.1.kids.length ck'] 41)):=(za.refl w4).alloc _;generalize w4.alloc _=w5 at D E⊢;generalize w4.heap.size=g5 at D⊢;have y0:=D.cell (k:=0) rfl;have y1:=D.cell (k:=1) rfl;have y2:=D.cell (k:=2) rfl;have V:Hid (za w2 w5):=b6.out.trans E;have b5:=zh (b4.out.ext E);have o:ze w5 gz 41 #[.int .i64 0,.slice none 0 0,.slice none 0 0]:=HZ.out.ext V.out;have z0:=o.cell (k:=0) rfl;have z1:=o.cell (k:=1) rfl;have z2:=o.cell (k:=2) rfl;have zf:∀j,w5.frozen? ⟨gz,j,none⟩=false:=fun j=>o.frozen j
   have U:=zh o;clear o D E
   go_wp2_with fail
   refine BI (P:=fun W=>bodyPost Tryz.prog Tryz.f20 _ Exit.ret _ W) (g2:=gz) ?_ U.out;intro WZ a1 a0 hk;exact vmk_fin a0 (J.out.trans V.out) a5.out hk a1 (Ce.zero _ _) a7.out rfl rfl rfl
 ·have d5:(ck != 0)=true:=by simp [h0]
  have M:Hid (X=(ck,PT.zero)):=by (show _=_);rw [a3.out,a2.out];unfold zA;rw [if_neg (by rw [<-a2.out];exact h0)]
  have o:ze w3 gz 41 #[.int .i64 0,.slice none 0 0,.slice none 0 0]:=HZ.out.ext G;have z0:=o.cell (k:=0) rfl;have z1:=o.cell (k:=1) rfl;have z2:=o.cell (k:=2) rfl;have zf:∀j,w3.frozen? ⟨gz,j,none⟩=false:=fun j=>o.frozen j
  have U:=zh o;have c8:=zh G;clear o h0
  go_wp2_with fail
  refine BI (P:=fun W=>bodyPost Tryz.prog Tryz.f20 _ Exit.ret _ W) (g2:=gz) ?_ U.out;intro WZ a1 a0 hk;exact vmk_fin a0 (J.out.trans c8.out) a5.out hk a1 (Ce.zero _ _) M.out rfl rfl rfl
end
section
open Go.ChangeShapes Go.WideShapes Go.ChangeAt Go.RowKit
section
variable {H:Type} {enc:TypeId×Value->H} {base:Nat} {v v0 v1 v2 v3 v4:Value} {d d0 d1 d2 d3 d4:DataW H} {p p0 p1 p2 p3 p4:List MemPlace} {W:World}
theorem strOpen {fuel:Nat} {o:Bool} {cs:List Value} {x:DataW H×List MemPlace} (h:DataW.trod enc Tryz.prog w base (fun _=>true) o fuel 9 cs=some x):∃S:List UInt8,cs=[.string ⟨S.toArray⟩]/\S.length<=9223372036854775807:=by
 obtain ⟨s,e1,_,D⟩:=DataW.trod_string Tryz.underlying9 h;refine ⟨s.data.toList,e1,?_⟩;have:s.size=s.data.toList.length:=by rw [Array.length_toList];rfl
 unfold maxLen at D;omega
theorem makeQA:MakeQA:=fun w ok v m hm D W o=>vMake_calls W (hm.below o) D
end
end
end Go.Proofs.YtjomnbdjajjgfaaGreatDoor
