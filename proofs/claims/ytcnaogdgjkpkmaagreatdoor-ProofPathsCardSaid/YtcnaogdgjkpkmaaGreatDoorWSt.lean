import Derived.Test.YtcnaogdgjkpkmaaGreatDoorWSs
set_option linter.unusedVariables false
set_option linter.unusedSimpArgs false
set_option maxRecDepth 100000
set_option maxHeartbeats 16000000
namespace Go.Proofs.YtcnaogdgjkpkmaaGreatDoor
variable {Q:Exit->Act->World->Prop} {t:Int} {s:List Int} {ks:List PT} {cs:List Value} {c g:Nat} {ok:Nat->Prop} {u0 u1 u10 u100 u101 u102 u103 u104 u105 u106 u107 u108 u109 u11 u110 u111 u112 u113 u114 u115 u116 u117 u118 u119 u12 u120 u121 u122 u123 u124 u125 u126 u127 u128 u129 u13 u130 u131 u132 u133 u134 u135 u136 u137 u138 u139 u14 u140 u141 u142 u143 u144 u145 u146 u147 u148 u149 u15 u150 u151 u152 u153 u154 u155 u156 u157 u158 u159 u16 u160 u161 u162 u163 u17 u18 u19 u2 u20 u21 u22 u23 u24 u25 u26 u27 u28 u29 u3 u30 u31 u32 u33 u34 u35 u36 u37 u38 u39 u4 u40 u41 u42 u43 u44 u45 u46 u47 u48 u49 u50 u51 u52 u53 u54 u55 u56 u57 u58 u59 u60 u61 u62 u63 u64 u65 u66 u67 u68 u69 u7 u70 u71 u72 u73 u74 u75 u76 u77 u78 u79 u8 u80 u81 u82 u83 u84 u85 u86 u87 u88 u89 u9 u90 u91 u92 u93 u94 u95 u96 u97 u98 u99:Value} {W w1:World}
section
open Go.RowKit
attribute [local go_sem ↓] Go.wp_at_zero Go.wp_at_succ
def regOf (n:Nat):Code->Option Code
 | .region id ops d=>if id=n then some (.region id ops d) else none
 | .seq a b=>match regOf n a with
  | some c=>some c
  | none=>regOf n b
 | .cond _ a b=>match regOf n a with
  | some c=>some c
  | none=>regOf n b
 | .block _ c=>regOf n c
 | .loop c=>regOf n c
 | _=>none
theorem wp_cast {P:Program} {c c':Code} {a:Act} {w:World} (h:c'=c) (d:c'.wp P Q a w):c.wp P Q a w:=h ▸ d
noncomputable def odd12:Code:=(Tryz.f10.body.bind (regOf 12)).getD .skip
noncomputable def odd25:Code:=(Tryz.f10.body.bind (regOf 25)).getD .skip
theorem r12_wp {gS cS i:Nat} {k:Int} {vK:Value}
  (E:OQ w1 W ok g t s ks cs (.slice (some ⟨gS,0,none⟩) s.length cS) vK) (hl:(PT.node t s ks).LenN c) (m1:W.cell? ⟨g,1,none⟩=some (.slice (some ⟨gS,0,none⟩) s.length cS)) (hz:0<s.length) (hi:i<s.length) (a9:k.tmod (s.length:Int)=(i:Int)) (b0:IntKind.i64.wrap (k.tmod (s.length:Int))=(i:Int)) (b6:s.length<=1000000000000)
  (B:∀c (a a':Act) w,a.defers=a'.defers->Q (.panic c) a w->Q (.panic c) a' w)
  (hQ:∀(W':World),OZ w1 W' ok g c (.node t s ks)->∀(x80 x81 x82 x83 x84 x85 x86 x87 x88 x89 x90 x91 x92 x93 x94 x95 x96 x97 x98:Value),Q .normal ⟨(u0 :: u1 :: u2 :: u3 :: u4 :: Value.pointer (some ⟨g,0,none⟩) :: Value.int .i64 k :: u7 :: u8 :: u9 :: u10 :: u11 :: u12 :: u13 :: u14 :: u15 :: u16 :: u17 :: u18 :: u19 :: u20 :: u21 :: u22 :: u23 :: u24 :: u25 :: u26 :: u27 :: u28 :: u29 :: u30 :: u31 :: u32 :: u33 :: u34 :: u35 :: u36 :: u37 :: u38 :: u39 :: u40 :: u41 :: u42 :: u43 :: u44 :: u45 :: u46 :: u47 :: u48 :: u49 :: u50 :: u51 :: u52 :: u53 :: u54 :: u55 :: u56 :: u57 :: u58 :: u59 :: u60 :: u61 :: u62 :: u63 :: u64 :: u65 :: u66 :: u67 :: u68 :: u69 :: u70 :: u71 :: u72 :: u73 :: u74 :: u75 :: u76 :: u77 :: u78 :: u79 :: x80 :: x81 :: x82 :: x83 :: x84 :: x85 :: x86 :: x87 :: x88 :: x89 :: x90 :: x91 :: x92 :: x93 :: x94 :: x95 :: x96 :: x97 :: x98 :: u99 :: u100 :: u101 :: u102 :: u103 :: u104 :: u105 :: u106 :: u107 :: u108 :: u109 :: u110 :: u111 :: u112 :: u113 :: u114 :: u115 :: u116 :: u117 :: u118 :: u119 :: u120 :: u121 :: u122 :: u123 :: u124 :: u125 :: u126 :: u127 :: u128 :: u129 :: u130 :: u131 :: u132 :: u133 :: u134 :: u135 :: u136 :: u137 :: u138 :: u139 :: u140 :: u141 :: u142 :: u143 :: u144 :: u145 :: u146 :: u147 :: u148 :: u149 :: u150 :: u151 :: u152 :: u153 :: u154 :: u155 :: u156 :: u157 :: u158 :: u159 :: u160 :: u161 :: u162 :: u163 :: []).toArray,[]⟩ W'):
  odd12.wp Tryz.prog Q ⟨(u0 :: u1 :: u2 :: u3 :: u4 :: Value.pointer (some ⟨g,0,none⟩) :: Value.int .i64 k :: u7 :: u8 :: u9 :: u10 :: u11 :: u12 :: u13 :: u14 :: u15 :: u16 :: u17 :: u18 :: u19 :: u20 :: u21 :: u22 :: u23 :: u24 :: u25 :: u26 :: u27 :: u28 :: u29 :: u30 :: u31 :: u32 :: u33 :: u34 :: u35 :: u36 :: u37 :: u38 :: u39 :: u40 :: u41 :: u42 :: u43 :: u44 :: u45 :: u46 :: u47 :: u48 :: u49 :: u50 :: u51 :: u52 :: u53 :: u54 :: u55 :: u56 :: u57 :: u58 :: u59 :: u60 :: u61 :: u62 :: u63 :: u64 :: u65 :: u66 :: u67 :: u68 :: u69 :: u70 :: u71 :: u72 :: u73 :: u74 :: u75 :: u76 :: u77 :: u78 :: u79 :: u80 :: u81 :: u82 :: u83 :: u84 :: u85 :: u86 :: u87 :: u88 :: u89 :: u90 :: u91 :: u92 :: u93 :: u94 :: u95 :: u96 :: u97 :: u98 :: u99 :: u100 :: u101 :: u102 :: u103 :: u104 :: u105 :: u106 :: u107 :: u108 :: u109 :: u110 :: u111 :: u112 :: u113 :: u114 :: u115 :: u116 :: u117 :: u118 :: u119 :: u120 :: u121 :: u122 :: u123 :: u124 :: u125 :: u126 :: u127 :: u128 :: u129 :: u130 :: u131 :: u132 :: u133 :: u134 :: u135 :: u136 :: u137 :: u138 :: u139 :: u140 :: u141 :: u142 :: u143 :: u144 :: u145 :: u146 :: u147 :: u148 :: u149 :: u150 :: u151 :: u152 :: u153 :: u154 :: u155 :: u156 :: u157 :: u158 :: u159 :: u160 :: u161 :: u162 :: u163 :: []).toArray,[]⟩ W:=by
 conv=>arg 2;whnf
 have hx:zc w1 W:=E.ext;have b7:s≠[]:=fun e=>by rw [e] at hz;simp at hz
 have a0:=AN E.side;have b9:IntKind.i64.wrap ((i:Int)+1)=((i+1:Nat):Int):=by rw [DY];omega
 have b2:((i+1:Nat):Int)<=(s.length:Int):=by omega
 have b1:(0:Int)<=((i+1:Nat):Int):=by omega
 have a3:(i:Int)+1<=(s.length:Int):=by omega
 have a2:(0:Int)<=(i:Int)+1:=by omega
 have b3:(i:Int)<=(cS:Int):=by omega
 have b4:(s.length:Int)<=(cS:Int):=by omega
 have a8:(0:Int)<=(i:Int):=by omega
 refine CB (S:=(fun W'=>zc w1 W'/\W'.cell? ⟨g,1,none⟩=some (.slice (some ⟨gS,0,none⟩) s.length cS))) zN (⟨hx.drew,m1⟩) fun zH=>?_;have D:zc W W.drew:=(zc.refl W).drew;generalize W.drew=wd at zH D⊢;refine zd (i:=0) (v:=?v1) rfl (by kernel_rfl) (by kernel_rfl) (by kernel_rfl) (by kernel_rfl) (fun _ _ _ h=>B _ _ _ _ (by rfl) h) (Or.inl ⟨?w1,?y1⟩) zH ?r1
 case w1=>rfl
 case y1=>(intro w d;obtain ⟨o,r⟩:=d;go_simp;try with_reducible rfl)
 simp only [za,Dz];refine zd (i:=1) (v:=?v2) rfl (by kernel_rfl) (by kernel_rfl) (by kernel_rfl) (by kernel_rfl) (fun _ _ _ h=>B _ _ _ _ (by rfl) h) (Or.inl ⟨?w2,?y2⟩) zH ?r2
 case w2=>rfl
 case y2=>(intro w d;obtain ⟨o,r⟩:=d;go_simp;try with_reducible rfl)
 simp only [za,Dz];refine zd (i:=2) (v:=?v3) rfl (by kernel_rfl) (by kernel_rfl) (by kernel_rfl) (by kernel_rfl) (fun _ _ _ h=>B _ _ _ _ (by rfl) h) (Or.inl ⟨?w3,?y3⟩) zH ?r3
 case w3=>rfl
 case y3=>(intro w d;obtain ⟨o,r⟩:=d;go_simp;try with_reducible rfl)
 simp only [za,Dz];refine zd (i:=3) (v:=?v4) rfl (by kernel_rfl) (by kernel_rfl) (by kernel_rfl) (by kernel_rfl) (fun _ _ _ h=>B _ _ _ _ (by rfl) h) (Or.inl ⟨?w4,?y4⟩) zH ?r4
 case w4=>rfl
 case y4=>(intro w d;obtain ⟨o,r⟩:=d;go_simp;try with_reducible rfl)
 simp only [za,Dz];refine zd (i:=4) (v:=?v5) rfl (by kernel_rfl) (by kernel_rfl) (by kernel_rfl) (by kernel_rfl) (fun _ _ _ h=>B _ _ _ _ (by rfl) h) (Or.inl ⟨?w5,?y5⟩) zH ?r5
 case w5=>rfl
 case y5=>(intro w d;obtain ⟨o,r⟩:=d;go_simp;try with_reducible rfl)
 simp only [za,Dz];refine zd (i:=5) (v:=?v6) rfl (by kernel_rfl) (by kernel_rfl) (by kernel_rfl) (by kernel_rfl) (fun _ _ _ h=>B _ _ _ _ (by rfl) h) (Or.inl ⟨?w6,?y6⟩) zH ?r6
 case w6=>rfl
 case y6=>(intro w d;obtain ⟨o,r⟩:=d;go_simp;try with_reducible rfl)
 simp only [za,Dz];refine zd (i:=6) (v:=?v7) rfl (by kernel_rfl) (by kernel_rfl) (by kernel_rfl) (by kernel_rfl) (fun _ _ _ h=>B _ _ _ _ (by rfl) h) (Or.inl ⟨?w7,?y7⟩) zH ?r7
 case w7=>rfl
 case y7=>(intro w d;obtain ⟨o,r⟩:=d;go_simp;try with_reducible rfl)
 simp only [za,Dz];refine zd (i:=7) (v:=?v8) rfl (by kernel_rfl) (by kernel_rfl) (by kernel_rfl) (by kernel_rfl) (fun _ _ _ h=>B _ _ _ _ (by rfl) h) (Or.inl ⟨?w8,?y8⟩) zH ?r8
 case w8=>rfl
 case y8=>(intro w d;obtain ⟨o,r⟩:=d;go_simp;try with_reducible rfl)
 simp only [za,Dz];refine zd (i:=8) (v:=?v9) rfl (by kernel_rfl) (by kernel_rfl) (by kernel_rfl) (by kernel_rfl) (fun _ _ _ h=>B _ _ _ _ (by rfl) h) (Or.inl ⟨?w9,?y9⟩) zH ?r9
 case w9=>rfl
 case y9=>(intro w d;obtain ⟨o,r⟩:=d;go_simp;try with_reducible rfl)
 simp only [za,Dz];refine zd (i:=9) (v:=?v10) rfl (by kernel_rfl) (by kernel_rfl) (by kernel_rfl) (by kernel_rfl) (fun _ _ _ h=>B _ _ _ _ (by rfl) h) (Or.inl ⟨?w10,?y10⟩) zH ?r10
 case w10=>rfl
 case y10=>(intro w d;obtain ⟨o,r⟩:=d;go_simp;try with_reducible rfl)
 simp only [za,Dz];refine zd (i:=10) (v:=?v11) rfl (by kernel_rfl) (by kernel_rfl) (by kernel_rfl) (by kernel_rfl) (fun _ _ _ h=>B _ _ _ _ (by rfl) h) (Or.inl ⟨?w11,?y11⟩) zH ?r11
 case w11=>rfl
 case y11=>(intro w d;obtain ⟨o,r⟩:=d;go_simp;try with_reducible rfl)
 simp only [za,Dz];refine zd (i:=11) (v:=?v12) rfl (by kernel_rfl) (by kernel_rfl) (by kernel_rfl) (by kernel_rfl) (fun _ _ _ h=>B _ _ _ _ (by rfl) h) (Or.inl ⟨?w12,?y12⟩) zH ?r12
 case w12=>rfl
 case y12=>(intro w d;obtain ⟨o,r⟩:=d;go_simp;try with_reducible rfl)
 simp only [za,Dz];refine zd (i:=12) (v:=?v13) rfl (by kernel_rfl) (by kernel_rfl) (by kernel_rfl) (by kernel_rfl) (fun _ _ _ h=>B _ _ _ _ (by rfl) h) (Or.inl ⟨?w13,?y13⟩) zH ?r13
 case w13=>rfl
 case y13=>(intro w d;obtain ⟨o,r⟩:=d;go_simp;try with_reducible rfl)
 simp only [za,Dz];refine zd (i:=13) (v:=?v14) rfl (by kernel_rfl) (by kernel_rfl) (by kernel_rfl) (by kernel_rfl) (fun _ _ _ h=>B _ _ _ _ (by rfl) h) (Or.inl ⟨?w14,?y14⟩) zH ?r14
 case w14=>rfl
 case y14=>(intro w d;obtain ⟨o,r⟩:=d;go_simp;try with_reducible rfl)
 simp only [za,Dz];refine zd (i:=14) (v:=?v15) rfl (by kernel_rfl) (by kernel_rfl) (by kernel_rfl) (by kernel_rfl) (fun _ _ _ h=>B _ _ _ _ (by rfl) h) (Or.inl ⟨?w15,?y15⟩) zH ?r15
 case w15=>rfl
 case y15=>(intro w d;obtain ⟨o,r⟩:=d;go_simp;try with_reducible rfl)
 simp only [za,Dz];refine zd (i:=15) (v:=?v16) rfl (by kernel_rfl) (by kernel_rfl) (by kernel_rfl) (by kernel_rfl) (fun _ _ _ h=>B _ _ _ _ (by rfl) h) (Or.inl ⟨?w16,?y16⟩) zH ?r16
 case w16=>rfl
 case y16=>(intro w d;obtain ⟨o,r⟩:=d;go_simp;try with_reducible rfl)
 simp only [za,Dz];refine zd (i:=16) (v:=?v17) rfl (by kernel_rfl) (by kernel_rfl) (by kernel_rfl) (by kernel_rfl) (fun _ _ _ h=>B _ _ _ _ (by rfl) h) (Or.inl ⟨?w17,?y17⟩) zH ?r17
 case w17=>rfl
 case y17=>(intro w d;obtain ⟨o,r⟩:=d;go_simp;try with_reducible rfl)
 simp only [za,Dz];have O:wd.ownsRow w1.heap.size 3 1 (.slice (some ⟨gS,0,none⟩) i cS) i ((s.map (Value.int .i64)).take (i*1)):=own_take (Ag E.side D) (by omega)
 have M:An wd (fun b=>w1.heap.size<=b) 1 (.slice (if cS=i+1 then some ⟨gS,0,none⟩ else some ⟨gS,i+1,none⟩) (s.length - (i+1)) (cS - (i+1))) (s.length - (i+1)) ((s.drop (i+1)).map (Value.int .i64)):=by
  have h:zn wd (fun b=>w1.heap.size<=b) (.slice (if cS=i+1 then some ⟨gS,0,none⟩ else some ⟨gS,i+1,none⟩) (s.length - (i+1)) (cS - (i+1))) (s.drop (i+1)):=ints_drop (Ag E.side D) rfl (by omega) rfl (by omega) (fun h=>if_neg (by omega));unfold zn at h;rw [EA] at h;exact h
 refine zY (rs:=[17]) (by kernel_rfl) (by simp) ?_;refine zv.cons rfl (fun K I=>?_) zv.nil;refine zZ (ok:=fun b=>w1.heap.size<=b) (by rfl) wd _ _ eInt (by rfl) w1.heap.size i (s.length - (i+1)) ((s.map (Value.int .i64)).take (i*1)) ((s.drop (i+1)).map (Value.int .i64)) (.slice (some ⟨gS,0,none⟩) i cS) _ (by rfl) (by rfl) O M intsOne29 (DE hx.size D.size) (by unfold maxLen;omega) (by omega) ?_;intro v9 w9 V hg b8;have L:=(E.ex D).grown hg (E.ex D).side_ne;have G:=L.2.1;have U:=L.1
 have hO:zF w9 w1.heap.size v9 (s.take i++s.drop (i+1)):=by
  unfold zF;rw [DK,Es,Et,EA,List.map_take,Nat.min_eq_left (by omega)];rw [Nat.mul_one] at V;exact V
 have J:=(E.ex D).finS hl (fun b hb=>hb) hg hO (by rw [DK,Et,EA];omega);obtain ⟨A9,c9,rfl,-⟩:=An.of_own V;have yf:∀j,w9.frozen? ⟨g,j,none⟩=false:=fun j=>G.frozen j
 have y1:=G.cell (k:=1) rfl;refine I.out _ _ ⟨U,y1⟩ fun zH=>?_;clear I K;try simp only [za,Dz]
 refine zd (i:=18) (v:=?v18) rfl (by kernel_rfl) (by kernel_rfl) (by kernel_rfl) (by kernel_rfl) (fun _ _ _ h=>B _ _ _ _ (by rfl) h) (Or.inl ⟨?w18,?y18⟩) zH ?r18
 case w18=>rfl
 case y18=>(intro w d;obtain ⟨o,r⟩:=d;go_simp;try with_reducible rfl)
 simp only [za,Dz];refine zY (rs:=[19]) (by kernel_rfl) (by simp) ?_;refine zv.last rfl (by kernel_rfl) fun K I=>?_;go_simp;refine I.out _ _ ?_;clear I K;refine CG (by kernel_rfl) ?_ _;exact hQ _ J _ _ _ _ _ _ _ _ _ _ _ _ _ _ _ _ _ _ _
theorem r25_wp {gK cK:Nat} {vS:Value} {u6:Value}
  (hq:OQ w1 W ok g t s ks cs vS (.slice (some ⟨gK,0,none⟩) ks.length cK)) (hl:(PT.node t s ks).LenN c) (m2:W.cell? ⟨g,2,none⟩=some (.slice (some ⟨gK,0,none⟩) ks.length cK)) (hz:1<ks.length)
  (G:∀c (a a':Act) w,a.defers=a'.defers->Q (.panic c) a w->Q (.panic c) a' w)
  (hQ:∀(W':World),OZ w1 W' ok g c (.node t s ks)->∀(x149 x150 x151 x152 x153 x154 x155 x156 x157 x158 x159 x160 x161 x162:Value),Q .normal ⟨(u0 :: u1 :: u2 :: u3 :: u4 :: Value.pointer (some ⟨g,0,none⟩) :: u6 :: u7 :: u8 :: u9 :: u10 :: u11 :: u12 :: u13 :: u14 :: u15 :: u16 :: u17 :: u18 :: u19 :: u20 :: u21 :: u22 :: u23 :: u24 :: u25 :: u26 :: u27 :: u28 :: u29 :: u30 :: u31 :: u32 :: u33 :: u34 :: u35 :: u36 :: u37 :: u38 :: u39 :: u40 :: u41 :: u42 :: u43 :: u44 :: u45 :: u46 :: u47 :: u48 :: u49 :: u50 :: u51 :: u52 :: u53 :: u54 :: u55 :: u56 :: u57 :: u58 :: u59 :: u60 :: u61 :: u62 :: u63 :: u64 :: u65 :: u66 :: u67 :: u68 :: u69 :: u70 :: u71 :: u72 :: u73 :: u74 :: u75 :: u76 :: u77 :: u78 :: u79 :: u80 :: u81 :: u82 :: u83 :: u84 :: u85 :: u86 :: u87 :: u88 :: u89 :: u90 :: u91 :: u92 :: u93 :: u94 :: u95 :: u96 :: u97 :: u98 :: u99 :: u100 :: u101 :: u102 :: u103 :: u104 :: u105 :: u106 :: u107 :: u108 :: u109 :: u110 :: u111 :: u112 :: u113 :: u114 :: u115 :: u116 :: u117 :: u118 :: u119 :: u120 :: u121 :: u122 :: u123 :: u124 :: u125 :: u126 :: u127 :: u128 :: u129 :: u130 :: u131 :: u132 :: u133 :: u134 :: u135 :: u136 :: u137 :: u138 :: u139 :: u140 :: u141 :: u142 :: u143 :: u144 :: u145 :: u146 :: u147 :: u148 :: x149 :: x150 :: x151 :: x152 :: x153 :: x154 :: x155 :: x156 :: x157 :: x158 :: x159 :: x160 :: x161 :: x162 :: u163 :: []).toArray,[]⟩ W'):
  odd25.wp Tryz.prog Q ⟨(u0 :: u1 :: u2 :: u3 :: u4 :: Value.pointer (some ⟨g,0,none⟩) :: u6 :: u7 :: u8 :: u9 :: u10 :: u11 :: u12 :: u13 :: u14 :: u15 :: u16 :: u17 :: u18 :: u19 :: u20 :: u21 :: u22 :: u23 :: u24 :: u25 :: u26 :: u27 :: u28 :: u29 :: u30 :: u31 :: u32 :: u33 :: u34 :: u35 :: u36 :: u37 :: u38 :: u39 :: u40 :: u41 :: u42 :: u43 :: u44 :: u45 :: u46 :: u47 :: u48 :: u49 :: u50 :: u51 :: u52 :: u53 :: u54 :: u55 :: u56 :: u57 :: u58 :: u59 :: u60 :: u61 :: u62 :: u63 :: u64 :: u65 :: u66 :: u67 :: u68 :: u69 :: u70 :: u71 :: u72 :: u73 :: u74 :: u75 :: u76 :: u77 :: u78 :: u79 :: u80 :: u81 :: u82 :: u83 :: u84 :: u85 :: u86 :: u87 :: u88 :: u89 :: u90 :: u91 :: u92 :: u93 :: u94 :: u95 :: u96 :: u97 :: u98 :: u99 :: u100 :: u101 :: u102 :: u103 :: u104 :: u105 :: u106 :: u107 :: u108 :: u109 :: u110 :: u111 :: u112 :: u113 :: u114 :: u115 :: u116 :: u117 :: u118 :: u119 :: u120 :: u121 :: u122 :: u123 :: u124 :: u125 :: u126 :: u127 :: u128 :: u129 :: u130 :: u131 :: u132 :: u133 :: u134 :: u135 :: u136 :: u137 :: u138 :: u139 :: u140 :: u141 :: u142 :: u143 :: u144 :: u145 :: u146 :: u147 :: u148 :: u149 :: u150 :: u151 :: u152 :: u153 :: u154 :: u155 :: u156 :: u157 :: u158 :: u159 :: u160 :: u161 :: u162 :: u163 :: []).toArray,[]⟩ W:=by
 conv=>arg 2;whnf
 have b4:cs.length=ks.length*3:=hq.own.1;have c8:=AN hq.own;have hx:zc w1 W:=hq.ext;have kc:∀j,j<ks.length*3->W.cell? ⟨gK,j,none⟩=some (cs.getD j undef):=fun j hj=>by rw [World.ownsRow.cellAt hq.own j hj,DB,DA (by omega)];rfl
 have O:=hq.kq rfl;have d7:(1:Int)<(ks.length:Int):=by omega
 have d6:(0:Int)<(ks.length:Int):=by omega
 have d4:0<ks.length:=by omega
 have d5:ks≠[]:=fun e=>by rw [e] at hz;simp at hz
 have I:Ay W (fun b=>(ok b\/w1.heap.size<=b)/\b≠gK) (.agg #[cs.getD 0 undef,cs.getD 1 undef,cs.getD 2 undef]) (ks[0]'(by omega)):=O.each 0 (by omega);have xa0:=zc.rule (kc (0) (by omega));have xa1:=zc.rule (kc (1) (by omega));have xa2:=zc.rule (kc (2) (by omega));obtain ⟨a0,a5⟩:∃a,a=cs.getD (0) undef:=⟨_,rfl⟩;rw [<-a5] at xa0 I;clear a5;obtain ⟨a1,a6⟩:∃a,a=cs.getD (1) undef:=⟨_,rfl⟩;rw [<-a6] at xa1 I;clear a6;obtain ⟨a2,a7⟩:∃a,a=cs.getD (2) undef:=⟨_,rfl⟩;rw [<-a7] at xa2 I;clear a7;obtain ⟨Aa,ca,Ka,da,e,-⟩:=I.form;injection e with e;have e0:=congrArg (fun a:Array Value=>a[0]?) e;have e1:=congrArg (fun a:Array Value=>a[1]?) e;have e2:=congrArg (fun a:Array Value=>a[2]?) e;simp at e0 e1 e2;obtain ⟨ta,c6⟩:∃t,a0=.int .i64 t:=⟨_,e0⟩;obtain ⟨na,b9⟩:∃n,a1=.slice Aa n ca:=⟨_,e1⟩;obtain ⟨ma,b7⟩:∃n,a2=.slice Ka n da:=⟨_,e2⟩;clear e e0 e1 e2;subst c6 b9 b7;have J:Ay W (fun b=>(ok b\/w1.heap.size<=b)/\b≠gK) (.agg #[cs.getD 3 undef,cs.getD 4 undef,cs.getD 5 undef]) (ks[1]'(by omega)):=O.each 1 (by omega);have xb0:=zc.rule (kc (3) (by omega));have xb1:=zc.rule (kc (4) (by omega));have xb2:=zc.rule (kc (5) (by omega));obtain ⟨b0,a8⟩:∃a,a=cs.getD (3) undef:=⟨_,rfl⟩;rw [<-a8] at xb0 J;clear a8;obtain ⟨b1,a9⟩:∃a,a=cs.getD (4) undef:=⟨_,rfl⟩;rw [<-a9] at xb1 J;clear a9;obtain ⟨b2,b3⟩:∃a,a=cs.getD (5) undef:=⟨_,rfl⟩;rw [<-b3] at xb2 J;clear b3;obtain ⟨Ab,cb,Kb,db,e,-⟩:=J.form;injection e with e;have e0:=congrArg (fun a:Array Value=>a[0]?) e;have e1:=congrArg (fun a:Array Value=>a[1]?) e;have e2:=congrArg (fun a:Array Value=>a[2]?) e;simp at e0 e1 e2;obtain ⟨tb,c7⟩:∃t,b0=.int .i64 t:=⟨_,e0⟩;obtain ⟨nb,c0⟩:∃n,b1=.slice Ab n cb:=⟨_,e1⟩;obtain ⟨mb,b8⟩:∃n,b2=.slice Kb n db:=⟨_,e2⟩;clear e e0 e1 e2;subst c7 c0 b8;refine CB (S:=(fun W'=>zc w1 W'/\W'.cell? ⟨g,2,none⟩=some (.slice (some ⟨gK,0,none⟩) ks.length cK))) zN (⟨hx.drew,m2⟩) fun zH=>?_;have r:zc W W.drew:=(zc.refl W).drew;generalize W.drew=wd at zH r⊢;refine zd (i:=0) (v:=?v19) rfl (by kernel_rfl) (by kernel_rfl) (by kernel_rfl) (by kernel_rfl) (fun _ _ _ h=>G _ _ _ _ (by rfl) h) (Or.inl ⟨?w19,?y19⟩) zH ?r19
 case w19=>rfl
 case y19=>(intro w d;obtain ⟨B,D⟩:=d;go_simp;try with_reducible rfl)
 simp only [za,Dz];refine zd (i:=1) (v:=?v20) rfl (by kernel_rfl) (by kernel_rfl) (by kernel_rfl) (by kernel_rfl) (fun _ _ _ h=>G _ _ _ _ (by rfl) h) (Or.inl ⟨?w20,?y20⟩) zH ?r20
 case w20=>rfl
 case y20=>(intro w d;obtain ⟨B,D⟩:=d;go_simp;try with_reducible rfl)
 simp only [za,Dz];refine zd (i:=2) (v:=?v21) rfl (by kernel_rfl) (by kernel_rfl) (by kernel_rfl) (by kernel_rfl) (fun _ _ _ h=>G _ _ _ _ (by rfl) h) (Or.inl ⟨?w21,?y21⟩) zH ?r21
 case w21=>rfl
 case y21=>(intro w d;obtain ⟨B,D⟩:=d;go_simp;try with_reducible rfl)
 simp only [za,Dz];refine zd (i:=3) (v:=?v22) rfl (by kernel_rfl) (by kernel_rfl) (by kernel_rfl) (by kernel_rfl) (fun _ _ _ h=>G _ _ _ _ (by rfl) h) (Or.inl ⟨?w22,?y22⟩) zH ?r22
 case w22=>rfl
 case y22=>(intro w d;obtain ⟨B,D⟩:=d;go_simp;try with_reducible rfl)
 simp only [za,Dz];refine zd (i:=4) (v:=?v23) rfl (by kernel_rfl) (by kernel_rfl) (by kernel_rfl) (by kernel_rfl) (fun _ _ _ h=>G _ _ _ _ (by rfl) h) (Or.inl ⟨?w23,?y23⟩) zH ?r23
 case w23=>rfl
 case y23=>(intro w d;obtain ⟨B,D⟩:=d;go_simp;try with_reducible rfl)
 simp only [za,Dz];refine zd (i:=5) (v:=?v24) rfl (by kernel_rfl) (by kernel_rfl) (by kernel_rfl) (by kernel_rfl) (fun _ _ _ h=>G _ _ _ _ (by rfl) h) (Or.inl ⟨?w24,?y24⟩) zH ?r24
 case w24=>rfl
 case y24=>(intro w d;obtain ⟨B,D⟩:=d;go_simp;try with_reducible rfl)
 simp only [za,Dz];refine zd (i:=6) (v:=?v25) rfl (by kernel_rfl) (by kernel_rfl) (by kernel_rfl) (by kernel_rfl) (fun _ _ _ h=>G _ _ _ _ (by rfl) h) (Or.inl ⟨?w25,?y25⟩) zH ?r25
 case w25=>rfl
 case y25=>(intro w d;obtain ⟨B,D⟩:=d;go_simp;try with_reducible rfl)
 simp only [za,Dz];refine zd (i:=8) (v:=?v26) rfl (by kernel_rfl) (by kernel_rfl) (by kernel_rfl) (by kernel_rfl) (fun _ _ _ h=>G _ _ _ _ (by rfl) h) (Or.inl ⟨?w26,?y26⟩) zH ?r26
 case w26=>rfl
 case y26=>(intro w d;obtain ⟨B,D⟩:=d;go_simp;try with_reducible rfl)
 simp only [za,Dz];refine zd (i:=9) (v:=?v27) rfl (by kernel_rfl) (by kernel_rfl) (by kernel_rfl) (by kernel_rfl) (fun _ _ _ h=>G _ _ _ _ (by rfl) h) (Or.inl ⟨?w27,?y27⟩) zH ?r27
 case w27=>rfl
 case y27=>(intro w d;obtain ⟨B,D⟩:=d;go_simp;try with_reducible rfl)
 simp only [za,Dz];refine zd (i:=10) (v:=?v28) rfl (by kernel_rfl) (by kernel_rfl) (by kernel_rfl) (by kernel_rfl) (fun _ _ _ h=>G _ _ _ _ (by rfl) h) (Or.inl ⟨?w28,?y28⟩) zH ?r28
 case w28=>rfl
 case y28=>(intro w d;obtain ⟨B,D⟩:=d;go_simp;try with_reducible rfl)
 simp only [za,Dz];refine zY (rs:=[7,11]) (by kernel_rfl) (by simp) ?_;refine zv.cons rfl (fun K E=>?_) ?_
 ·go_simp;refine EI E zH fun zH=>?_;clear E K;try simp only [za,Dz]
  refine zY (rs:=[11]) (by kernel_rfl) (by simp) ?_;refine zv.cons rfl (fun K E=>?_) zv.nil;go_simp;refine EI E zH fun zH=>?_;clear E K;try simp only [za,Dz]
  refine zd (i:=12) (v:=?v29) rfl (by kernel_rfl) (by kernel_rfl) (by kernel_rfl) (by kernel_rfl) (fun _ _ _ h=>G _ _ _ _ (by rfl) h) (Or.inl ⟨?w29,?y29⟩) zH ?r29
  case w29=>rfl
  case y29=>(intro w d;obtain ⟨B,D⟩:=d;go_simp;try with_reducible rfl)
  simp only [za,Dz];have kf:∀j,wd.frozen? ⟨gK,j,none⟩=false:=fun j=>World.ownsRow.frozenAt (Ag hq.own r) j
  have z0:=xa0 _ r;have z1:=xa1 _ r;have z2:=xa2 _ r;refine zY (rs:=[13]) (by kernel_rfl) (by simp) ?_;refine zv.cons rfl (fun K E=>?_) zv.nil;go_simp;have o:=(O.ex r).set (i:=0) (by omega) (J.ext r);have M:Ay (((wd.setCell ⟨gK,0,none⟩ (.int .i64 tb)).setCell ⟨gK,1,none⟩ (.slice Ab nb cb)).setCell ⟨gK,2,none⟩ (.slice Kb mb db)) (fun b=>(ok b\/w1.heap.size<=b)/\b≠gK) (.agg #[(.int .i64 ta),(.slice Aa na ca),(.slice Ka ma da)]) (ks[0]'(by omega)):=(I.ext r).keepW (fun k U _=>((AT k U.2).trans (AT k U.2)).trans (AT k U.2)) fun _ h=>h
  have o:KQ w1 (((wd.setCell ⟨gK,0,none⟩ (.int .i64 tb)).setCell ⟨gK,1,none⟩ (.slice Ab nb cb)).setCell ⟨gK,2,none⟩ (.slice Kb mb db)) ok g t s (ks.set 0 (ks[1]'(by omega))) (set3 cs 0 (.int .i64 tb) (.slice Ab nb cb) (.slice Kb mb db)) vS gK cK:=o;have L:zc w1 (((wd.setCell ⟨gK,0,none⟩ (.int .i64 tb)).setCell ⟨gK,1,none⟩ (.slice Ab nb cb)).setCell ⟨gK,2,none⟩ (.slice Kb mb db))/\(((wd.setCell ⟨gK,0,none⟩ (.int .i64 tb)).setCell ⟨gK,1,none⟩ (.slice Ab nb cb)).setCell ⟨gK,2,none⟩ (.slice Kb mb db)).cell? ⟨g,2,none⟩=some (.slice (some ⟨gK,0,none⟩) ks.length cK):=⟨o.ext,by have h:=o.box.cell (k:=2) rfl;rw [List.length_set] at h;exact h⟩;generalize (((wd.setCell ⟨gK,0,none⟩ (.int .i64 tb)).setCell ⟨gK,1,none⟩ (.slice Ab nb cb)).setCell ⟨gK,2,none⟩ (.slice Kb mb db))=we at o M L⊢;refine EI E L fun zH=>?_;clear E K;try simp only [za,Dz]
  have b5:(set3 cs 0 (.int .i64 tb) (.slice Ab nb cb) (.slice Kb mb db)).length=ks.length*3:=by unfold set3;simp only [List.length_set];exact b4
  have k2:∀j,j<ks.length*3->we.cell? ⟨gK,j,none⟩=some ((set3 cs 0 (.int .i64 tb) (.slice Ab nb cb) (.slice Kb mb db)).getD j undef):=fun j hj=>by rw [World.ownsRow.cellAt o.own j (by rw [List.length_set];exact hj),DB,DA (by omega)];rfl
  have z3:=k2 3 (by omega);have z4:=k2 4 (by omega);have z5:=k2 5 (by omega);have zf:∀j,we.frozen? ⟨gK,j,none⟩=false:=fun j=>World.ownsRow.frozenAt o.own j
  generalize (set3 cs 0 (.int .i64 tb) (.slice Ab nb cb) (.slice Kb mb db)).getD 3 undef=c3 at z3;generalize (set3 cs 0 (.int .i64 tb) (.slice Ab nb cb) (.slice Kb mb db)).getD 4 undef=c4 at z4;generalize (set3 cs 0 (.int .i64 tb) (.slice Ab nb cb) (.slice Kb mb db)).getD 5 undef=c5 at z5;have V:=o.set (i:=1) (by rw [List.length_set];exact hz) M;refine zd (i:=14) (v:=?v30) rfl (by kernel_rfl) (by kernel_rfl) (by kernel_rfl) (by kernel_rfl) (fun _ _ _ h=>G _ _ _ _ (by rfl) h) (Or.inl ⟨?w30,?y30⟩) zH ?r30
  case w30=>rfl
  case y30=>(intro w d;obtain ⟨B,D⟩:=d;go_simp;try with_reducible rfl)
  simp only [za,Dz];refine zY (rs:=[15]) (by kernel_rfl) (by simp) ?_;refine zv.last rfl (by kernel_rfl) fun K E=>?_;go_simp;refine E.out _ _ ?_;clear E K;refine CG (by kernel_rfl) ?_ _;exact hQ _ (V.fin (odd_swap hl hz)) _ _ _ _ _ _ _ _ _ _ _ _ _ _
 refine zv.cons rfl (fun K E=>?_) zv.nil
 ·go_simp;refine EI E zH fun zH=>?_;clear E K;try simp only [za,Dz]
  refine zY (rs:=[7]) (by kernel_rfl) (by simp) ?_;refine zv.cons rfl (fun K E=>?_) zv.nil;go_simp;refine EI E zH fun zH=>?_;clear E K;try simp only [za,Dz]
  refine zd (i:=12) (v:=?v31) rfl (by kernel_rfl) (by kernel_rfl) (by kernel_rfl) (by kernel_rfl) (fun _ _ _ h=>G _ _ _ _ (by rfl) h) (Or.inl ⟨?w31,?y31⟩) zH ?r31
  case w31=>rfl
  case y31=>(intro w d;obtain ⟨B,D⟩:=d;go_simp;try with_reducible rfl)
  simp only [za,Dz];have kf:∀j,wd.frozen? ⟨gK,j,none⟩=false:=fun j=>World.ownsRow.frozenAt (Ag hq.own r) j
  have z0:=xa0 _ r;have z1:=xa1 _ r;have z2:=xa2 _ r;refine zY (rs:=[13]) (by kernel_rfl) (by simp) ?_;refine zv.cons rfl (fun K E=>?_) zv.nil;go_simp;have o:=(O.ex r).set (i:=0) (by omega) (J.ext r);have M:Ay (((wd.setCell ⟨gK,0,none⟩ (.int .i64 tb)).setCell ⟨gK,1,none⟩ (.slice Ab nb cb)).setCell ⟨gK,2,none⟩ (.slice Kb mb db)) (fun b=>(ok b\/w1.heap.size<=b)/\b≠gK) (.agg #[(.int .i64 ta),(.slice Aa na ca),(.slice Ka ma da)]) (ks[0]'(by omega)):=(I.ext r).keepW (fun k U _=>((AT k U.2).trans (AT k U.2)).trans (AT k U.2)) fun _ h=>h
  have o:KQ w1 (((wd.setCell ⟨gK,0,none⟩ (.int .i64 tb)).setCell ⟨gK,1,none⟩ (.slice Ab nb cb)).setCell ⟨gK,2,none⟩ (.slice Kb mb db)) ok g t s (ks.set 0 (ks[1]'(by omega))) (set3 cs 0 (.int .i64 tb) (.slice Ab nb cb) (.slice Kb mb db)) vS gK cK:=o;have L:zc w1 (((wd.setCell ⟨gK,0,none⟩ (.int .i64 tb)).setCell ⟨gK,1,none⟩ (.slice Ab nb cb)).setCell ⟨gK,2,none⟩ (.slice Kb mb db))/\(((wd.setCell ⟨gK,0,none⟩ (.int .i64 tb)).setCell ⟨gK,1,none⟩ (.slice Ab nb cb)).setCell ⟨gK,2,none⟩ (.slice Kb mb db)).cell? ⟨g,2,none⟩=some (.slice (some ⟨gK,0,none⟩) ks.length cK):=⟨o.ext,by have h:=o.box.cell (k:=2) rfl;rw [List.length_set] at h;exact h⟩;generalize (((wd.setCell ⟨gK,0,none⟩ (.int .i64 tb)).setCell ⟨gK,1,none⟩ (.slice Ab nb cb)).setCell ⟨gK,2,none⟩ (.slice Kb mb db))=we at o M L⊢;refine EI E L fun zH=>?_;clear E K;try simp only [za,Dz]
  have b5:(set3 cs 0 (.int .i64 tb) (.slice Ab nb cb) (.slice Kb mb db)).length=ks.length*3:=by unfold set3;simp only [List.length_set];exact b4
  have k2:∀j,j<ks.length*3->we.cell? ⟨gK,j,none⟩=some ((set3 cs 0 (.int .i64 tb) (.slice Ab nb cb) (.slice Kb mb db)).getD j undef):=fun j hj=>by rw [World.ownsRow.cellAt o.own j (by rw [List.length_set];exact hj),DB,DA (by omega)];rfl
  have z3:=k2 3 (by omega);have z4:=k2 4 (by omega);have z5:=k2 5 (by omega);have zf:∀j,we.frozen? ⟨gK,j,none⟩=false:=fun j=>World.ownsRow.frozenAt o.own j
  generalize (set3 cs 0 (.int .i64 tb) (.slice Ab nb cb) (.slice Kb mb db)).getD 3 undef=c3 at z3;generalize (set3 cs 0 (.int .i64 tb) (.slice Ab nb cb) (.slice Kb mb db)).getD 4 undef=c4 at z4;generalize (set3 cs 0 (.int .i64 tb) (.slice Ab nb cb) (.slice Kb mb db)).getD 5 undef=c5 at z5;have V:=o.set (i:=1) (by rw [List.length_set];exact hz) M;refine zd (i:=14) (v:=?v32) rfl (by kernel_rfl) (by kernel_rfl) (by kernel_rfl) (by kernel_rfl) (fun _ _ _ h=>G _ _ _ _ (by rfl) h) (Or.inl ⟨?w32,?y32⟩) zH ?r32
  case w32=>rfl
  case y32=>(intro w d;obtain ⟨B,D⟩:=d;go_simp;try with_reducible rfl)
  simp only [za,Dz];refine zY (rs:=[15]) (by kernel_rfl) (by simp) ?_;refine zv.last rfl (by kernel_rfl) fun K E=>?_;go_simp;refine E.out _ _ ?_;clear E K;refine CG (by kernel_rfl) ?_ _;exact hQ _ (V.fin (odd_swap hl hz)) _ _ _ _ _ _ _ _ _ _ _ _ _ _
end
end Go.Proofs.YtcnaogdgjkpkmaaGreatDoor
