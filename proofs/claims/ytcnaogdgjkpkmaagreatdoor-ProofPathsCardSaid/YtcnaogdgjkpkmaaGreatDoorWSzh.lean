import Derived.Test.YtcnaogdgjkpkmaaGreatDoorWSzg
set_option linter.unusedVariables false
set_option linter.unusedSimpArgs false
set_option maxRecDepth 100000
set_option maxHeartbeats 16000000
namespace Go.Proofs.YtcnaogdgjkpkmaaGreatDoor
variable {ls ls2:List (List Int)} {m:MZ} {ok ok2:Nat->Prop} {p:PT} {v:Value} {W:World}
section
open Go.ChangeShapes Go.WideShapes Go.ChangeAt Go.RowKit
attribute [local go_sem ↓] Go.wp_at_zero Go.wp_at_succ
def OddC:Prop:=∀(w:World) (ok:Nat->Prop) (v:Value) (p:PT) (c:Nat) (q0 q1 q2:Int),Ay w ok v p->p.LenN c->c<=1000000000000->p.size<=100000->
 Calls Tryz.prog 10 #[v,.agg #[.int .i64 q0,.int .i64 q1,.int .i64 q2]] w fun e w'=>∃v' p',e=.returned v'/\zc w w'/\Ay w' (fun b=>ok b\/w.heap.size<=b) v' p'/\OddP c p p'
theorem Co {c:Nat} {p':PT} (h:OddP c p p') (d:c<=1000000000000):p'.Lens:=Cm (by omega) _ h.1
theorem check_none {c:List Int} (d:zw m c) (h:AR m c=true):Ar m p=false:=by
 cases hp:Ar m p with
 | false=>rfl
 | true=>rw [checkP_sound hp d] at h;cases h
theorem endR_isCh:zw m (endR m).ch:=run_isCh 20000 (s:=⟨[],AR m [],0⟩) .nil
theorem ypaths_calls (HO:OddC) {v2:Value} (o0 o1 o2:Int) (w:World) (hv:zJ w) (hm:Ai w ok v ls) (g1:ls.length<=9223372036854775807) (g3:∀x∈ls,x.length<=9223372036854775807) (g4:Ai w ok2 v2 ls2) (b0:ls2.length<=9223372036854775807) (b1:∀x∈ls2,x.length<=9223372036854775807):
  Calls Tryz.prog 6 #[v,v2,.agg #[.int .i64 o0,.int .i64 o1,.int .i64 o2]] w fun e w'=>e=.returned (.bool true)/\zc w w':=by
 have HV:=zh hv;have HM:=zh hm;have d9:=zh g3;have d8:=zh g1;have e0:=zh g4;have a9:=zh b1;have a8:=zh b0;have HO:=zh HO;clear hv hm g3 g1 g4 b1 b0
 go_enter Tryz.func6,Tryz.ntmps6
 go_upto_region 1 with fail;generalize c6:w.alloc (.cells #[.int .i64 o0,.int .i64 o1,.int .i64 o2] 23)=wa;have f2:zc w wa:=by rw [<-c6];exact (zc.refl _).alloc _
 have O:zj wa w.heap.size 23 #[.int .i64 o0,.int .i64 o1,.int .i64 o2]:=by rw [<-c6];exact zj.new _ _ _ rfl
 clear c6;obtain ⟨gi,f8⟩:∃g,g=w.heap.size:=⟨_,rfl⟩;rw [<-f8] at O⊢;have i0:∀W,zc wa W->W.cell? ⟨gi,0,none⟩=some (.int .i64 o0):=zc.rule (O.cell (k:=0) rfl);have i1:∀W,zc wa W->W.cell? ⟨gi,1,none⟩=some (.int .i64 o1):=zc.rule (O.cell (k:=1) rfl);have i2:∀W,zc wa W->W.cell? ⟨gi,2,none⟩=some (.int .i64 o2):=zc.rule (O.cell (k:=2) rfl);have G:=zh f2;clear O f8 f2
 go_wp2_with fail
 refine (ysanity_calls wa (HV.out.ext G.out)).mono ?_;rintro e w1 ⟨rfl,Q⟩;have b2:=zh Q;clear Q
 go_wp2_with fail
 refine (CH w1 (HM.out.below (G.out.trans b2.out)) d8.out d9.out).mono ?_;rintro e w2 ⟨v',z,rfl,U,hz,b7⟩;obtain ⟨Af,cf,Au,cu,At,ct,rfl,-,-,-⟩:=hz.parts;have c9:Hid (zc wa w2):=b2.out.trans U;have HZ:=zh hz;have M:=zh b7;have HC:Hid (Br z=0):=good_chk b7.good;clear U hz b7 b2 HM d9 d8 HV;go_upto_region 3 with fail;obtain ⟨hb,q0,q1,q2,q3,q4,q5⟩:=box6 w2 (.int .i64 z.w) (.int .i64 z.h) (.int .i64 z.l) (.slice Af z.free.length cf) (.slice Au z.up.length cu) (.slice At z.tasks.length ct);generalize w2.alloc _=w3 at hb q0 q1 q2 q3 q4 q5⊢;obtain ⟨gm,f9⟩:∃g,g=w2.heap.size:=⟨_,rfl⟩;rw [<-f9] at q0 q1 q2 q3 q4 q5⊢;have d4:Hid (zc wa w3):=c9.out.trans hb;have b4:=zh (HZ.out.below hb);clear hb f9 c9 HZ;have h6:zc w3 w3:=zc.refl w3
 go_wp2_with fail
 refine (new1 w3 w3 (zc.refl w3) b4.out M.out.lens HC.out).mono ?_;rintro e w4 ⟨g,rfl,a3,f4⟩
 have e5:Hid (Calls Tryz.prog 22 #[.pointer (some ⟨g,0,none⟩),.int .i64 (20000:Nat)] w4 fun e w'=>e=.returned (.bool (endR z).done)/\OneR w3 w' g z (endR z)):=by
  (show Calls _ _ _ _ _)
  have h:=f4.step 20000 (by omega) (by unfold loadS;simp);have he:RS.run z 20000 (loadS z [] 0)=endR z:=by rw [loadS_nil];rfl
  rw [he] at h;exact h
 clear h6 a3 f4
 go_wp2_with fail
 refine e5.out.mono ?_;rintro e w5 ⟨rfl,b6⟩;have V:=b6.found;have d5:=zh b6.ext;clear e5 b6;unfold BP at V;have c8:Hid (∀b,b=AR z (endR z).ch->b=true->∀p,Ar z p=false):=fun b hb h p=>check_none endR_isCh (by rw [<-hb];exact h)
 have a2:=zh (found_len M.out.good M.out.lens (endR_isCh (m:=z)));generalize f6:AR z (endR z).ch=bo at V;have c7:=zh f6;clear f6;generalize foundL z (endR z).ch=fl at V a2
 go_wp2_with fail
 refine V.mono ?_;rintro e w6 ⟨vf,rfl,e9,f7⟩;have d7:=zh f7;obtain ⟨_,⟨Ap,cp,rfl,-,-⟩,-⟩:=f7;have r:Hid (zc w3 w6):=d5.out.trans e9;have b3:Hid (zc wa w6):=d4.out.trans r.out;have b5:=zh (b4.out.below r.out);have q0:=fun W h=>q0 W (r.out.trans h)
 have q1:=fun W h=>q1 W (r.out.trans h)
 have q2:=fun W h=>q2 W (r.out.trans h)
 have q3:=fun W h=>q3 W (r.out.trans h)
 have q4:=fun W h=>q4 W (r.out.trans h)
 have q5:=fun W h=>q5 W (r.out.trans h)
 clear V e9 d5 d4 b4;have h7:zc w6 w6:=zc.refl w6
 cases bo with
 | false=>
  go_wp2_with fail
  go_ret;exact ⟨rfl,G.out.trans b3.out⟩
 | true=>
  have g7:Hid (∀p,Ar z p=false):=c8.out true c7.out.symm rfl;have c0:=right_calls w6 b5.out M.out.lens d7.out (by have:=a2.out.1;omega) (fun x hx=>by have:=a2.out.2 x hx;omega);generalize AJ z fl=rb at c0;clear c8 c7
  go_wp2_with fail
  refine c0.mono ?_;rintro e w7 ⟨rfl,B⟩;have o:Hid (zc wa w7):=b3.out.trans B;have e6:=zh (b5.out.below B);have q0:=fun W h=>q0 W (B.trans h)
  have q1:=fun W h=>q1 W (B.trans h)
  have q2:=fun W h=>q2 W (B.trans h)
  have q3:=fun W h=>q3 W (B.trans h)
  have q4:=fun W h=>q4 W (B.trans h)
  have q5:=fun W h=>q5 W (B.trans h)
  clear c0 B b3 b5 d7 a2 r h7
  cases rb with
  | false=>
   go_wp2_with fail
   go_ret;exact ⟨rfl,G.out.trans o.out⟩
  | true=>
   go_wp2_with fail
   refine (CH w7 (e0.out.below (G.out.trans o.out)) a8.out a9.out).mono ?_;rintro e w8 ⟨v8,y,rfl,f0,hy,b8⟩;have a5:=By w8 hy b8.lens;have L:=zh (makeP_lenN b8.lens);have J:=zh (makeP_size (m:=y));generalize Bf y=mp at a5 L J;obtain ⟨er,p⟩:=mp;dsimp only at a5;have e1:=zh a5;have L:Hid (p.LenN 400000000000):=L.out;have J:Hid (p.size<=3000):=J.out;have a6:=zh f0;clear f0 hy b8 a5 e0 a8 a9
   go_wp2_with fail
   refine e1.out.mono ?_;rintro e w9 ⟨v9,rfl,f1,b9⟩;obtain ⟨As,cs,Ak,ck,rfl,-⟩:=b9.form;have e2:=zh b9;have a7:Hid (zc w7 w9):=a6.out.trans f1;clear f1 b9 e1 a6;go_upto_region 11 with fail;obtain ⟨hb,p0,p1,p2⟩:=box3 w9 (.int .i64 p.task) (.slice As p.side.length cs) (.slice Ak p.kids.length ck);generalize w9.alloc _=wb at hb p0 p1 p2⊢;obtain ⟨gp,g0⟩:∃g,g=w9.heap.size:=⟨_,rfl⟩;rw [<-g0] at p0 p1 p2⊢;have E:Hid (zc w7 wb):=a7.out.trans hb;have e3:=zh (e2.out.ext hb);have i0:=fun W h=>i0 W ((o.out.trans E.out).trans h)
   have i1:=fun W h=>i1 W ((o.out.trans E.out).trans h)
   have i2:=fun W h=>i2 W ((o.out.trans E.out).trans h)
   clear hb g0 a7 e2;have h8:zc wb wb:=zc.refl wb
   go_wp2_with fail
   refine (CP o0 16 wb (by omega) (by omega)).mono ?_;rintro e wc ⟨rfl,rfl⟩;obtain ⟨n,hn⟩:∃n:Nat,o0 % 16=(n:Int):=⟨(o0 % 16).toNat,by omega⟩;rw [hn];have g5:n<16:=by omega
   clear hn;go_upto_region 13 with fail;refine fin_wp wb [_,_] fun wd D hB=>?_
   have f5:zj wd wb.heap.size 3 #[.int .i64 n]:=hB 0 _ rfl;have a4:zj wd (wb.heap.size+1) 27 #[.int .i64 ((n:Int) % 3),.slice (some ⟨wb.heap.size,0,none⟩) 1 1,.slice none 0 0]:=hB 1 _ rfl
   have g9:Hid (Ay wd (fun _=>True) (.agg #[.int .i64 ((n:Int) % 3),.slice (some ⟨wb.heap.size,0,none⟩) 1 1,.slice none 0 0]) (.node ((n:Int) % 3) [(n:Int)] [])):=
    .mk (cs:=[]) ⟨_,_,rfl,DC _,AG.block (cs:=#[.int .i64 n]) f5 trivial rfl⟩ ⟨none,0,rfl,DC _,AG.nil _ _ _ _⟩ (fun i hi=>absurd hi (by simp))
   have w0:=zc.rule (a4.cell (k:=0) rfl);have w1:=zc.rule (a4.cell (k:=1) rfl);have w2:=zc.rule (a4.cell (k:=2) rfl);have d:Hid (zc w7 wd):=E.out.trans D;have e4:=zh (e3.out.ext D);have h3:=zh (e6.out.below d.out);have i0:=fun W h=>i0 W (D.trans h)
   have i1:=fun W h=>i1 W (D.trans h)
   have i2:=fun W h=>i2 W (D.trans h)
   have p0:=fun W h=>p0 W (D.trans h)
   have p1:=fun W h=>p1 W (D.trans h)
   have p2:=fun W h=>p2 W (D.trans h)
   have q0:=fun W h=>q0 W (d.out.trans h)
   have q1:=fun W h=>q1 W (d.out.trans h)
   have q2:=fun W h=>q2 W (d.out.trans h)
   have q3:=fun W h=>q3 W (d.out.trans h)
   have q4:=fun W h=>q4 W (d.out.trans h)
   have q5:=fun W h=>q5 W (d.out.trans h)
   have a1:=zh (show ∀W (ok:Nat->Prop) vp pp,zc wd W->Ay W ok vp pp->pp.Lens->pp.size<=4000000000000000000->Calls Tryz.prog 12 #[.agg #[.int .i64 z.w,.int .i64 z.h,.int .i64 z.l,.slice Af z.free.length cf,.slice Au z.up.length cu,.slice At z.tasks.length ct],vp] W fun e w'=>e=.returned (.bool false)/\zc W w' from fun W ok vp pp hW hp hl hs=>by
    have h:=Bl W (h3.out.below hW) M.out.lens hp hl hs;rw [g7.out] at h;exact h)
   have d6:Hid (zc w wd):=(G.out.trans o.out).trans d.out;clear f5 a4 hB D E e3 h8 e6 d o G g5;have h9:zc wd wd:=zc.refl wd;refine DT (S:=(fun W=>zc wd W)) zN (h9.drew) fun zH=>?_;have f3:zc wd wd.drew:=zH;generalize wd.drew=wdd at zH f3⊢;refine ze 0 zH ?_;refine ze 1 zH ?_;simp only [za,Dz];refine ze 2 zH ?_;refine ze 3 zH ?_;simp only [za,Dz];refine zC 4 fun K I=>?_;go_simp;go_at_call 12;refine (a1.out _ _ _ _ zH (e4.out.ext zH) (Cm (by omega) _ L.out) (by have:=J.out;omega)).mono ?_;rintro e we1 ⟨rfl,Q⟩;go_simp;refine EI I (zH.trans Q) fun zH=>?_;clear I K;try simp only [za,Dz]
   refine ze 5 zH ?_;refine ze 6 zH ?_;simp only [za,Dz];refine ze 7 zH ?_;refine ze 8 zH ?_;simp only [za,Dz];refine ze 9 zH ?_;refine ze 10 zH ?_;simp only [za,Dz];refine zC 11 fun K I=>?_;go_simp;go_at_call 10;refine (HO.out _ _ _ p 400000000000 o0 o1 o2 (e4.out.ext zH) L.out (by omega) (by have:=J.out;omega)).mono ?_;rintro e we2 ⟨vo,po,rfl,U,h5,g6⟩;go_simp;refine EI I (zH.trans U) fun zH=>?_;clear I K;try simp only [za,Dz]
   refine zC 12 fun K I=>?_;go_simp;go_at_call 12;refine (a1.out _ _ _ _ zH h5 (Co g6 (by omega)) (by have:=g6.2;have:=J.out;omega)).mono ?_;rintro e we3 ⟨rfl,e7⟩;go_simp;refine EI I (zH.trans e7) fun zH=>?_;clear I K;try simp only [za,Dz]
   refine ze 13 zH ?_;refine ze 14 zH ?_;simp only [za,Dz];refine ze 15 zH ?_;refine ze 16 zH ?_;simp only [za,Dz];refine ze 17 zH ?_;simp only [za,Dz];refine zC 18 fun K I=>?_;go_simp;go_at_call 12;refine (a1.out _ _ _ _ zH (g9.out.ext zH) (by simp [PT.Lens,PT.LensL]) (by simp [PT.size,PT.sizeL])).mono ?_;rintro e we4 ⟨rfl,a3⟩;go_simp;refine EI I (zH.trans a3) fun zH=>?_;clear I K;try simp only [za,Dz]
   refine ze 19 zH ?_;refine ze 20 zH ?_;simp only [za,Dz];refine ze 21 zH ?_;refine ze 22 zH ?_;simp only [za,Dz];refine ze 23 zH ?_;refine ze 24 zH ?_;simp only [za,Dz];refine ze 25 zH ?_;simp only [za,Dz];refine zC 26 fun K I=>?_;go_simp;go_at_call 12;refine (a1.out _ _ _ _ zH (Ay.leaf _ (fun _=>True) _) (by simp [PT.Lens,PT.LensL]) (by simp [PT.size,PT.sizeL])).mono ?_;rintro e we5 ⟨rfl,e8⟩;go_simp;refine EI I (zH.trans e8) fun zH=>?_;clear I K;try simp only [za,Dz]
   refine ze 27 zH ?_;refine ze 28 zH ?_;simp only [za,Dz];refine ze 29 zH ?_;simp only [za,Dz];refine Eg (by kernel_rfl) ?_ _;go_wp2;go_ret;exact ⟨rfl,d6.out.trans ((((((f3.trans Q).trans U).trans e7).trans a3).trans e8))⟩
structure AllP (w8 W:World) (g:Nat):Prop where
 ext:zc w8 W
 lo:w8.heap.size<=g
 at_:∃a0 a1 a2 b0 b1 b2 c0 c1 c2 pa pb pc,zj W g 42 #[a0,a1,a2,b0,b1,b2,c0,c1,c2]/\Ay W (fun b=>b≠g) (.agg #[a0,a1,a2]) pa/\Ay W (fun b=>b≠g) (.agg #[b0,b1,b2]) pb/\Ay W (fun b=>b≠g) (.agg #[c0,c1,c2]) pc/\
  (pa.Lens/\pa.size<=4000)/\(pb.Lens/\pb.size<=4000)/\(pc.Lens/\pc.size<=4000)
theorem allP_fin {w8 WZ:World} {g:Nat} {a0 a1 a2 b0 b1 b2 c0 c1 c2:Value} {pa pb pc:PT} (h:zc w8 W) (E:Below g W WZ) (D:w8.heap.size<=g) (B:∀k,k<W.heap.size->k≠g->WZ.heap[k]?=W.heap[k]?) (o:zj WZ g 42 #[a0,a1,a2,b0,b1,b2,c0,c1,c2])
  (G:Ay W (fun b=>b≠g) (.agg #[a0,a1,a2]) pa) (r:Ay W (fun b=>b≠g) (.agg #[b0,b1,b2]) pb) (I:Ay W (fun b=>b≠g) (.agg #[c0,c1,c2]) pc) (la:pa.Lens/\pa.size<=4000) (lb:pb.Lens/\pb.size<=4000) (lc:pc.Lens/\pc.size<=4000):AllP w8 WZ g:=
 ⟨below_le h E D,D,_,_,_,_,_,_,_,_,_,pa,pb,pc,o,G.keepW (fun b o d=>B b d o) (fun _ h=>h),r.keepW (fun b o d=>B b d o) (fun _ h=>h),I.keepW (fun b o d=>B b d o) (fun _ h=>h),la,lb,lc⟩
theorem ysound_calls (HO:OddC) {v2:Value} (o0 o1 o2:Int) (w:World) (hv:zJ w) (hm:Ai w ok v ls) (j7:ls.length<=9223372036854775807) (j9:∀x∈ls,x.length<=9223372036854775807) (k3:Ai w ok2 v2 ls2) (f0:ls2.length<=9223372036854775807) (f1:∀x∈ls2,x.length<=9223372036854775807):
  Calls Tryz.prog 5 #[v,v2,.agg #[.int .i64 o0,.int .i64 o1,.int .i64 o2]] w fun e w'=>e=.returned (.bool true)/\zc w w':=by
 have HV:=zh hv;have HM:=zh hm;have g8:=zh j9;have g7:=zh j7;have g9:=zh k3;have e7:=zh f1;have e6:=zh f0;have HO:=zh HO;clear hv hm j9 j7 k3 f1 f0
 go_enter Tryz.func5,Tryz.ntmps5
 go_upto_region 1 with fail;generalize g3:w.alloc (.cells #[.int .i64 o0,.int .i64 o1,.int .i64 o2] 23)=wa;have i8:zc w wa:=by rw [<-g3];exact (zc.refl _).alloc _
 have d6:zj wa w.heap.size 23 #[.int .i64 o0,.int .i64 o1,.int .i64 o2]:=by rw [<-g3];exact zj.new _ _ _ rfl
 clear g3;obtain ⟨gi,j0⟩:∃g,g=w.heap.size:=⟨_,rfl⟩;rw [<-j0] at d6⊢;have i0:∀W,zc wa W->W.cell? ⟨gi,0,none⟩=some (.int .i64 o0):=zc.rule (d6.cell (k:=0) rfl);have i1:∀W,zc wa W->W.cell? ⟨gi,1,none⟩=some (.int .i64 o1):=zc.rule (d6.cell (k:=1) rfl);have i2:∀W,zc wa W->W.cell? ⟨gi,2,none⟩=some (.int .i64 o2):=zc.rule (d6.cell (k:=2) rfl);have d9:=zh i8;clear d6 j0 i8
 go_wp2_with fail
 refine (ysanity_calls wa (HV.out.ext d9.out)).mono ?_;rintro e w1 ⟨rfl,i3⟩;have f3:=zh i3;clear i3
 go_wp2_with fail
 refine (CH w1 (HM.out.below (d9.out.trans f3.out)) g7.out g8.out).mono ?_;rintro e w2 ⟨v',z,rfl,i4,hz,f7⟩;obtain ⟨Af,cf,Au,cu,At,ct,rfl,-,-,-⟩:=hz.parts;have g4:Hid (zc wa w2):=f3.out.trans i4;have HZ:=zh hz;have e0:=zh f7;have HC:Hid (Br z=0):=good_chk f7.good;clear i4 hz f7 f3 HM g8 g7 HV;go_upto_region 3 with fail;obtain ⟨J,q0,q1,q2,q3,q4,q5⟩:=box6 w2 (.int .i64 z.w) (.int .i64 z.h) (.int .i64 z.l) (.slice Af z.free.length cf) (.slice Au z.up.length cu) (.slice At z.tasks.length ct);generalize w2.alloc _=w3 at J q0 q1 q2 q3 q4 q5⊢;obtain ⟨gm,j1⟩:∃g,g=w2.heap.size:=⟨_,rfl⟩;rw [<-j1] at q0 q1 q2 q3 q4 q5⊢;have c9:Hid (zc wa w3):=g4.out.trans J;have h7:=zh (HZ.out.below J);clear J j1 g4 HZ;have d4:Hid (zc w w3):=d9.out.trans c9.out
 go_wp2_with fail
 refine (CH w3 (g9.out.below d4.out) e6.out e7.out).mono ?_;rintro e w4 ⟨v4,y,rfl,i5,hy,f8⟩;have a4:=By w4 hy f8.lens;have V:=zh (makeP_lenN f8.lens);have Q:=zh (makeP_size (m:=y));generalize Bf y=mp at a4 V Q;obtain ⟨er,p⟩:=mp;dsimp only at a4;have h3:=zh a4;have V:Hid (p.LenN 400000000000):=V.out;have Q:Hid (p.size<=3000):=Q.out;have e2:=zh i5;clear i5 hy f8 a4 g9 e6 e7
 go_wp2_with fail
 refine h3.out.mono ?_;rintro e w5 ⟨v5,rfl,i6,g1⟩;obtain ⟨As,cs,Ak,ck,rfl,-⟩:=g1.form;have h5:=zh g1;have e3:Hid (zc w3 w5):=e2.out.trans i6;clear i6 g1 h3 e2;go_upto_region 4 with fail;obtain ⟨J,p0,p1,p2⟩:=box3 w5 (.int .i64 p.task) (.slice As p.side.length cs) (.slice Ak p.kids.length ck);generalize w5.alloc _=w6 at J p0 p1 p2⊢;obtain ⟨gp,j3⟩:∃g,g=w5.heap.size:=⟨_,rfl⟩;rw [<-j3] at p0 p1 p2⊢;have D:Hid (zc w3 w6):=e3.out.trans J;have h6:=zh (h5.out.ext J);have f6:=zh (h7.out.below D.out);have q0:=fun W h=>q0 W (D.out.trans h)
 have q1:=fun W h=>q1 W (D.out.trans h)
 have q2:=fun W h=>q2 W (D.out.trans h)
 have q3:=fun W h=>q3 W (D.out.trans h)
 have q4:=fun W h=>q4 W (D.out.trans h)
 have q5:=fun W h=>q5 W (D.out.trans h)
 have i0:=fun W h=>i0 W ((c9.out.trans D.out).trans h)
 have i1:=fun W h=>i1 W ((c9.out.trans D.out).trans h)
 have i2:=fun W h=>i2 W ((c9.out.trans D.out).trans h)
 have e4:Hid (zc w w6):=d4.out.trans D.out;clear J j3 e3 h5 h7 c9 d9 d4 D;have a4:=By w6 f6.out e0.out.lens;have b7:=zh (makeP_lenN e0.out.lens);have U:=zh (makeP_size (m:=z));generalize Bf z=mp at a4 b7 U;obtain ⟨ero,o⟩:=mp;dsimp only at a4;have b7:Hid (o.LenN 400000000000):=b7.out;have U:Hid (o.size<=3000):=U.out;have l9:zc w6 w6:=zc.refl w6
 go_wp2_with fail
 refine a4.mono ?_;rintro e w7 ⟨v7,rfl,i7,g0⟩;obtain ⟨Bs,ds,Bk,dk,rfl,-⟩:=g0.form;have h4:=zh g0;have g5:=zh i7;clear i7 g0 a4 l9;go_upto_region 5 with fail;obtain ⟨J,r0,r1,r2⟩:=box3 w7 (.int .i64 o.task) (.slice Bs o.side.length ds) (.slice Bk o.kids.length dk);generalize w7.alloc _=w8 at J r0 r1 r2⊢;obtain ⟨go,j2⟩:∃g,g=w7.heap.size:=⟨_,rfl⟩;rw [<-j2] at r0 r1 r2⊢;have G:zc w6 w8:=g5.out.trans J;have c7:=zh (h4.out.ext J);have a7:=zh (h6.out.ext G);have h8:=zh (f6.out.below G);have q0:=fun W h=>q0 W (G.trans h)
 have q1:=fun W h=>q1 W (G.trans h)
 have q2:=fun W h=>q2 W (G.trans h)
 have q3:=fun W h=>q3 W (G.trans h)
 have q4:=fun W h=>q4 W (G.trans h)
 have q5:=fun W h=>q5 W (G.trans h)
 have i0:=fun W h=>i0 W (G.trans h)
 have i1:=fun W h=>i1 W (G.trans h)
 have i2:=fun W h=>i2 W (G.trans h)
 have p0:=fun W h=>p0 W (G.trans h)
 have p1:=fun W h=>p1 W (G.trans h)
 have p2:=fun W h=>p2 W (G.trans h)
 have e5:Hid (zc w w8):=e4.out.trans G;clear J j2 G h4 h6 f6 e4 g5;have a7:Hid (Ay w8 (fun b=>b<w8.heap.size) (.agg #[.int .i64 p.task,.slice As p.side.length cs,.slice Ak p.kids.length ck]) p):=a7.out.wk fun b _ h=>h
 have c7:Hid (Ay w8 (fun b=>b<w8.heap.size) (.agg #[.int .i64 o.task,.slice Bs o.side.length ds,.slice Bk o.kids.length dk]) o):=c7.out.wk fun b _ h=>h
 have k8:zc w8 w8:=zc.refl w8;go_cut [13] (fun v wx=>∃g,v=.pointer (some ⟨g,0,none⟩)/\Hid (AllP w8 wx g))
 case first=>
  refine DT (S:=(fun W=>zc w8 W)) zN (k8.drew) fun zH=>?_;have B:zc w8 w8.drew:=zH;generalize w8.drew=wd at zH B⊢;refine ze 0 zH ?_;refine ze 1 zH ?_;simp only [za,Dz];refine ze 2 zH ?_;refine ze 4 zH ?_;simp only [za,Dz];refine ze 5 zH ?_;simp only [za,Dz];refine rdA [3,8] ?_;refine Ed rfl (fun K r=>?_) ?_
  ·go_simp;go_at_call 10;refine (HO.out _ _ _ p 400000000000 o0 o1 o2 (a7.out.ext zH) V.out (by omega) (by have:=Q.out;omega)).mono ?_;rintro e wa ⟨vwa,pwa,rfl,b3,I,b5⟩;obtain ⟨Awa,awa,Bwa,bwa,rfl,-⟩:=I.form;have b9:Hid (pwa.Lens/\pwa.size<=4000):=⟨Co b5 (by omega),by have:=b5.2;have:=Q.out;omega⟩;refine EI r (zH.trans b3) fun zH=>?_;clear r K;try simp only [za,Dz]
   refine rdA [6,8] ?_;refine Ed rfl (fun K r=>?_) ?_
   ·go_simp;go_at_call 10;refine (HO.out _ _ _ o 400000000000 o0 o1 o2 (c7.out.ext zH) b7.out (by omega) (by have:=U.out;omega)).mono ?_;rintro e wb ⟨vwb,pwb,rfl,E,O,M⟩;obtain ⟨Awb,awb,Bwb,bwb,rfl,-⟩:=O.form;have a6:Hid (pwb.Lens/\pwb.size<=4000):=⟨Co M (by omega),by have:=M.2;have:=U.out;omega⟩;refine EI r (zH.trans E) fun zH=>?_;clear r K;try simp only [za,Dz]
    refine ze 7 zH ?_;simp only [za,Dz];refine zC 8 fun K r=>?_;go_simp;have I:=I.wk (ok':=fun b=>b<wa.heap.size) fun b _ h=>h
    have I:=I.ext E;have k7:=E.size;have d:=zj.new wb #[.int .i64 0,.slice none 0 0,.slice none 0 0,.int .i64 0,.slice none 0 0,.slice none 0 0,.int .i64 0,.slice none 0 0,.slice none 0 0] 42 (g:=wb.heap.size) rfl;have d7:zc w8 (wb.alloc (.cells #[.int .i64 0,.slice none 0 0,.slice none 0 0,.int .i64 0,.slice none 0 0,.slice none 0 0,.int .i64 0,.slice none 0 0,.slice none 0 0] 42)):=zc.alloc zH _;have L:Hid (w8.heap.size<=wb.heap.size):=Below.size zH;have d5:Hid ((wb.alloc (.cells #[.int .i64 0,.slice none 0 0,.slice none 0 0,.int .i64 0,.slice none 0 0,.slice none 0 0,.int .i64 0,.slice none 0 0,.slice none 0 0] 42)).heap.size=wb.heap.size+1):=by (show _=_);simp
    have b8:=zh ((I.wk (ok':=fun b=>b≠wb.heap.size) fun b _ h=>by have:=E.size;omega).ext ((zc.refl _).alloc (.cells #[.int .i64 0,.slice none 0 0,.slice none 0 0,.int .i64 0,.slice none 0 0,.slice none 0 0,.int .i64 0,.slice none 0 0,.slice none 0 0] 42)));have f4:=zh ((O.wk (ok':=fun b=>b≠wb.heap.size) fun b _ h=>by omega).ext ((zc.refl _).alloc (.cells #[.int .i64 0,.slice none 0 0,.slice none 0 0,.int .i64 0,.slice none 0 0,.slice none 0 0,.int .i64 0,.slice none 0 0,.slice none 0 0] 42)));generalize wb.alloc _=wx at*;generalize wb.heap.size=g at*;refine EI r (d7) fun zH=>?_;clear r K;try simp only [za,Dz]
    refine zC 9 fun K r=>?_;have fz:∀j,wx.frozen? ⟨g,j,none⟩=false:=fun j=>d.frozen j
    have z0:=d.cell (k:=0) rfl;have z1:=d.cell (k:=1) rfl;have z2:=d.cell (k:=2) rfl;have z3:=d.cell (k:=3) rfl;have z4:=d.cell (k:=4) rfl;have z5:=d.cell (k:=5) rfl;have z6:=d.cell (k:=6) rfl;have z7:=d.cell (k:=7) rfl;have z8:=d.cell (k:=8) rfl;go_simp;refine BR (P:=fun W=>K _ W) (g2:=g) ?_ d;intro WZ d8 a8 hk;refine r.out _ _ (below_le zH a8 L.out) fun zH'=>?_;clear r K;refine Eg (by kernel_rfl) ?_ _;go_wp2;go_meet;exact ⟨g,rfl,allP_fin zH a8 L.out hk d8 ((a7.out.ext zH).wk (fun b J _=>by have:=L.out;omega)) b8.out f4.out ⟨Cm (by omega) _ V.out,by have:=Q.out;omega⟩ b9.out a6.out⟩
   refine Ed rfl (fun K r=>?_) .nil;go_simp;have d:=zj.new wa #[.int .i64 0,.slice none 0 0,.slice none 0 0,.int .i64 0,.slice none 0 0,.slice none 0 0,.int .i64 0,.slice none 0 0,.slice none 0 0] 42 (g:=wa.heap.size) rfl;have d7:zc w8 (wa.alloc (.cells #[.int .i64 0,.slice none 0 0,.slice none 0 0,.int .i64 0,.slice none 0 0,.slice none 0 0,.int .i64 0,.slice none 0 0,.slice none 0 0] 42)):=zc.alloc zH _;have L:Hid (w8.heap.size<=wa.heap.size):=Below.size zH;have d5:Hid ((wa.alloc (.cells #[.int .i64 0,.slice none 0 0,.slice none 0 0,.int .i64 0,.slice none 0 0,.slice none 0 0,.int .i64 0,.slice none 0 0,.slice none 0 0] 42)).heap.size=wa.heap.size+1):=by (show _=_);simp
   have b8:=zh ((I.wk (ok':=fun b=>b≠wa.heap.size) fun b _ h=>by omega).ext ((zc.refl _).alloc (.cells #[.int .i64 0,.slice none 0 0,.slice none 0 0,.int .i64 0,.slice none 0 0,.slice none 0 0,.int .i64 0,.slice none 0 0,.slice none 0 0] 42)));generalize wa.alloc _=wx at*;generalize wa.heap.size=g at*;refine EI r (d7) fun zH=>?_;clear r K;try simp only [za,Dz]
   refine zC 6 fun K r=>?_;go_simp;go_at_call 10;refine (HO.out _ _ _ o 400000000000 o0 o1 o2 (c7.out.ext zH) b7.out (by omega) (by have:=U.out;omega)).mono ?_;rintro e wb ⟨vwb,pwb,rfl,E,O,M⟩;obtain ⟨Awb,awb,Bwb,bwb,rfl,-⟩:=O.form;have a6:Hid (pwb.Lens/\pwb.size<=4000):=⟨Co M (by omega),by have:=M.2;have:=U.out;omega⟩;refine EI r (zH.trans E) fun zH=>?_;clear r K;try simp only [za,Dz]
   have d:=d.ext E;refine ze 7 zH ?_;simp only [za,Dz];refine zC 9 fun K r=>?_;have fz:∀j,wb.frozen? ⟨g,j,none⟩=false:=fun j=>d.frozen j
   have z0:=d.cell (k:=0) rfl;have z1:=d.cell (k:=1) rfl;have z2:=d.cell (k:=2) rfl;have z3:=d.cell (k:=3) rfl;have z4:=d.cell (k:=4) rfl;have z5:=d.cell (k:=5) rfl;have z6:=d.cell (k:=6) rfl;have z7:=d.cell (k:=7) rfl;have z8:=d.cell (k:=8) rfl;go_simp;refine BR (P:=fun W=>K _ W) (g2:=g) ?_ d;intro WZ d8 a8 hk;refine r.out _ _ (below_le zH a8 L.out) fun zH'=>?_;clear r K;refine Eg (by kernel_rfl) ?_ _;go_wp2;go_meet;exact ⟨g,rfl,allP_fin zH a8 L.out hk d8 ((a7.out.ext zH).wk (fun b J _=>by have:=L.out;omega)) (b8.out.ext E) ((O).wk (fun b J _=>by have:=L.out;have:=d5.out;omega)) ⟨Cm (by omega) _ V.out,by have:=Q.out;omega⟩ b9.out a6.out⟩
  refine Ed rfl (fun K r=>?_) .nil;go_simp;have d:=zj.new wd #[.int .i64 0,.slice none 0 0,.slice none 0 0,.int .i64 0,.slice none 0 0,.slice none 0 0,.int .i64 0,.slice none 0 0,.slice none 0 0] 42 (g:=wd.heap.size) rfl;have d7:zc w8 (wd.alloc (.cells #[.int .i64 0,.slice none 0 0,.slice none 0 0,.int .i64 0,.slice none 0 0,.slice none 0 0,.int .i64 0,.slice none 0 0,.slice none 0 0] 42)):=zc.alloc zH _;have L:Hid (w8.heap.size<=wd.heap.size):=Below.size zH;have d5:Hid ((wd.alloc (.cells #[.int .i64 0,.slice none 0 0,.slice none 0 0,.int .i64 0,.slice none 0 0,.slice none 0 0,.int .i64 0,.slice none 0 0,.slice none 0 0] 42)).heap.size=wd.heap.size+1):=by (show _=_);simp
  generalize wd.alloc _=wx at*;generalize wd.heap.size=g at*;refine EI r (d7) fun zH=>?_;clear r K;try simp only [za,Dz]
  refine zC 3 fun K r=>?_;go_simp;go_at_call 10;refine (HO.out _ _ _ p 400000000000 o0 o1 o2 (a7.out.ext zH) V.out (by omega) (by have:=Q.out;omega)).mono ?_;rintro e wa ⟨vwa,pwa,rfl,b3,I,b5⟩;obtain ⟨Awa,awa,Bwa,bwa,rfl,-⟩:=I.form;have b9:Hid (pwa.Lens/\pwa.size<=4000):=⟨Co b5 (by omega),by have:=b5.2;have:=Q.out;omega⟩;refine EI r (zH.trans b3) fun zH=>?_;clear r K;try simp only [za,Dz]
  have d:=d.ext b3;refine zC 6 fun K r=>?_;go_simp;go_at_call 10;refine (HO.out _ _ _ o 400000000000 o0 o1 o2 (c7.out.ext zH) b7.out (by omega) (by have:=U.out;omega)).mono ?_;rintro e wb ⟨vwb,pwb,rfl,E,O,M⟩;obtain ⟨Awb,awb,Bwb,bwb,rfl,-⟩:=O.form;have a6:Hid (pwb.Lens/\pwb.size<=4000):=⟨Co M (by omega),by have:=M.2;have:=U.out;omega⟩;refine EI r (zH.trans E) fun zH=>?_;clear r K;try simp only [za,Dz]
  have d:=d.ext E;have k7:=b3.size;refine ze 7 zH ?_;simp only [za,Dz];refine zC 9 fun K r=>?_;have fz:∀j,wb.frozen? ⟨g,j,none⟩=false:=fun j=>d.frozen j
  have z0:=d.cell (k:=0) rfl;have z1:=d.cell (k:=1) rfl;have z2:=d.cell (k:=2) rfl;have z3:=d.cell (k:=3) rfl;have z4:=d.cell (k:=4) rfl;have z5:=d.cell (k:=5) rfl;have z6:=d.cell (k:=6) rfl;have z7:=d.cell (k:=7) rfl;have z8:=d.cell (k:=8) rfl;go_simp;refine BR (P:=fun W=>K _ W) (g2:=g) ?_ d;intro WZ d8 a8 hk;refine r.out _ _ (below_le zH a8 L.out) fun zH'=>?_;clear r K;refine Eg (by kernel_rfl) ?_ _;go_wp2;go_meet;exact ⟨g,rfl,allP_fin zH a8 L.out hk d8 ((a7.out.ext zH).wk (fun b J _=>by have:=L.out;omega)) ((I.ext E).wk (fun b J _=>by have:=L.out;have:=d5.out;omega)) ((O).wk (fun b J _=>by have:=L.out;have:=d5.out;omega)) ⟨Cm (by omega) _ V.out,by have:=Q.out;omega⟩ b9.out a6.out⟩
 case rest=>
  obtain ⟨g,rfl,c8⟩:=hcut;obtain ⟨wx,rfl⟩:∃wx:World,wx=wc:=⟨_,rfl⟩;have a3:zc w8 wx:=c8.out.ext;obtain ⟨a0,a1,a2,b0,b1,b2,c0,c1,c2,pa,pb,pc,J,k4,k5,k6,j4,j5,j6⟩:=c8.out.at_;have z0:=zc.rule (J.cell (k:=0) rfl);have z1:=zc.rule (J.cell (k:=1) rfl);have z2:=zc.rule (J.cell (k:=2) rfl);have z3:=zc.rule (J.cell (k:=3) rfl);have z4:=zc.rule (J.cell (k:=4) rfl);have z5:=zc.rule (J.cell (k:=5) rfl);have z6:=zc.rule (J.cell (k:=6) rfl);have z7:=zc.rule (J.cell (k:=7) rfl);have z8:=zc.rule (J.cell (k:=8) rfl);have q0:=fun W h=>q0 W (a3.trans h)
  have q1:=fun W h=>q1 W (a3.trans h)
  have q2:=fun W h=>q2 W (a3.trans h)
  have q3:=fun W h=>q3 W (a3.trans h)
  have q4:=fun W h=>q4 W (a3.trans h)
  have q5:=fun W h=>q5 W (a3.trans h)
  have l4:=zh k4;have l5:=zh k5;have l6:=zh k6;have l0:=zh j4;have l1:=zh j5;have l2:=zh j6;have h9:=zh (h8.out.below a3);have g6:Hid (zc w wx):=e5.out.trans a3;have f2:=zh (show ∀W (ok:Nat->Prop) vp pp,zc wx W->Ay W ok vp pp->(pp.Lens/\pp.size<=4000)->Calls Tryz.prog 12 #[.agg #[.int .i64 z.w,.int .i64 z.h,.int .i64 z.l,.slice Af z.free.length cf,.slice Au z.up.length cu,.slice At z.tasks.length ct],vp] W fun e w'=>e=.returned (.bool (Ar z pp))/\zc W w' from fun W ok vp pp hW hp hl=>Bl W (h9.out.below hW) e0.out.lens hp hl.1 (by have:=hl.2;omega));clear J k4 k5 k6 j4 j5 j6 c8 k8 a3 h8 e5 a7 c7 HO V Q b7 U i0 i1 i2 p0 p1 p2 r0 r1 r2
  go_wp2_with fail
  go_loopw [14,15] (fun a i wr=>∃(k:Nat) (b:Bool),a=.bool b/\i=.int .i64 k/\k<=3/\Hid (zc wx wr/\(b=true->∃pp,Ar z pp=true))) (fun a i _=>3 - (intOf i).toNat)
  case atStart=>exact ⟨0,false,rfl,rfl,by omega,⟨zc.refl _,fun h=>by cases h⟩⟩
  case round=>
  obtain ⟨k,b,rfl,rfl,hk,HR⟩:=hrel;obtain ⟨wk,rfl⟩:∃wk:World,wk=wr:=⟨_,rfl⟩;have b6:zc wx wk:=HR.out.1;have c6:=zh HR.out.2;by_cases j8:k<3
  ·have hk3:k=0\/k=1\/k=2:=by omega
   clear j8 hk HR;rcases hk3 with rfl | hk3
   ·cases b with
    | true=>
     go_wp2_with fail
     refine DT (S:=(fun W=>zc wx W)) zN (b6.drew) fun zH=>?_;have B:zc wx wk.drew:=zH;generalize wk.drew=wd at zH B⊢;refine ze 0 zH ?_;refine ze 1 zH ?_;simp only [za,Dz];refine zI 2 zH ?_;refine zI 3 zH ?_;simp only [za,Dz];refine zI 4 zH ?_;refine zI 5 zH ?_;simp only [za,Dz];refine zI 6 zH ?_;refine ze 7 zH ?_;simp only [za,Dz];refine ze 8 zH ?_;simp only [za,Dz];refine Eg (by kernel_rfl) ?_ _;go_wp2;go_roundw
     case rel=>exact ⟨1,true,rfl,by go_num,by omega,⟨B,fun _=>c6.out (by trivial)⟩⟩
     case measure=>simp [intOf]
    | false=>
     obtain ⟨cb,b4⟩:=EH (Ar z pa);have a5:=zh b4;clear b4
     go_wp2_with fail
     refine DT (S:=(fun W=>zc wx W)) zN (b6.drew) fun zH=>?_;have B:zc wx wk.drew:=zH;generalize wk.drew=wd at zH B⊢;refine ze 0 zH ?_;refine ze 1 zH ?_;simp only [za,Dz];refine ze 2 zH ?_;refine ze 3 zH ?_;simp only [za,Dz];refine ze 4 zH ?_;refine ze 5 zH ?_;simp only [za,Dz];refine zC 6 fun K r=>?_;go_simp;go_at_call 12;refine (f2.out _ _ _ _ zH (l4.out.ext zH) l0.out).mono ?_;rintro e wo ⟨rfl,a9⟩;rw [<-a5.out];go_simp;refine EI r (zH.trans a9) fun zH=>?_;clear r K;try simp only [za,Dz]
     refine ze 7 zH ?_;refine ze 8 zH ?_;simp only [za,Dz];refine Eg (by kernel_rfl) ?_ _;go_wp2;go_roundw
     case rel=>exact ⟨1,cb,rfl,by go_num,by omega,⟨B.trans a9,fun h=>⟨pa,by rw [<-a5.out];exact h⟩⟩⟩
     case measure=>simp [intOf]
   rcases hk3 with rfl | hk3
   ·cases b with
    | true=>
     go_wp2_with fail
     refine DT (S:=(fun W=>zc wx W)) zN (b6.drew) fun zH=>?_;have B:zc wx wk.drew:=zH;generalize wk.drew=wd at zH B⊢;refine ze 0 zH ?_;refine ze 1 zH ?_;simp only [za,Dz];refine zI 2 zH ?_;refine zI 3 zH ?_;simp only [za,Dz];refine zI 4 zH ?_;refine zI 5 zH ?_;simp only [za,Dz];refine zI 6 zH ?_;refine ze 7 zH ?_;simp only [za,Dz];refine ze 8 zH ?_;simp only [za,Dz];refine Eg (by kernel_rfl) ?_ _;go_wp2;go_roundw
     case rel=>exact ⟨2,true,rfl,by go_num,by omega,⟨B,fun _=>c6.out (by trivial)⟩⟩
     case measure=>simp [intOf]
    | false=>
     obtain ⟨cb,b4⟩:=EH (Ar z pb);have a5:=zh b4;clear b4
     go_wp2_with fail
     refine DT (S:=(fun W=>zc wx W)) zN (b6.drew) fun zH=>?_;have B:zc wx wk.drew:=zH;generalize wk.drew=wd at zH B⊢;refine ze 0 zH ?_;refine ze 1 zH ?_;simp only [za,Dz];refine ze 2 zH ?_;refine ze 3 zH ?_;simp only [za,Dz];refine ze 4 zH ?_;refine ze 5 zH ?_;simp only [za,Dz];refine zC 6 fun K r=>?_;go_simp;go_at_call 12;refine (f2.out _ _ _ _ zH (l5.out.ext zH) l1.out).mono ?_;rintro e wo ⟨rfl,a9⟩;rw [<-a5.out];go_simp;refine EI r (zH.trans a9) fun zH=>?_;clear r K;try simp only [za,Dz]
     refine ze 7 zH ?_;refine ze 8 zH ?_;simp only [za,Dz];refine Eg (by kernel_rfl) ?_ _;go_wp2;go_roundw
     case rel=>exact ⟨2,cb,rfl,by go_num,by omega,⟨B.trans a9,fun h=>⟨pb,by rw [<-a5.out];exact h⟩⟩⟩
     case measure=>simp [intOf]
   subst hk3
   cases b with
   | true=>
     go_wp2_with fail
     refine DT (S:=(fun W=>zc wx W)) zN (b6.drew) fun zH=>?_;have B:zc wx wk.drew:=zH;generalize wk.drew=wd at zH B⊢;refine ze 0 zH ?_;refine ze 1 zH ?_;simp only [za,Dz];refine zI 2 zH ?_;refine zI 3 zH ?_;simp only [za,Dz];refine zI 4 zH ?_;refine zI 5 zH ?_;simp only [za,Dz];refine zI 6 zH ?_;refine ze 7 zH ?_;simp only [za,Dz];refine ze 8 zH ?_;simp only [za,Dz];refine Eg (by kernel_rfl) ?_ _;go_wp2;go_roundw
     case rel=>exact ⟨3,true,rfl,by go_num,by omega,⟨B,fun _=>c6.out (by trivial)⟩⟩
     case measure=>simp [intOf]
   | false=>
     obtain ⟨cb,b4⟩:=EH (Ar z pc);have a5:=zh b4;clear b4
     go_wp2_with fail
     refine DT (S:=(fun W=>zc wx W)) zN (b6.drew) fun zH=>?_;have B:zc wx wk.drew:=zH;generalize wk.drew=wd at zH B⊢;refine ze 0 zH ?_;refine ze 1 zH ?_;simp only [za,Dz];refine ze 2 zH ?_;refine ze 3 zH ?_;simp only [za,Dz];refine ze 4 zH ?_;refine ze 5 zH ?_;simp only [za,Dz];refine zC 6 fun K r=>?_;go_simp;go_at_call 12;refine (f2.out _ _ _ _ zH (l6.out.ext zH) l2.out).mono ?_;rintro e wo ⟨rfl,a9⟩;rw [<-a5.out];go_simp;refine EI r (zH.trans a9) fun zH=>?_;clear r K;try simp only [za,Dz]
     refine ze 7 zH ?_;refine ze 8 zH ?_;simp only [za,Dz];refine Eg (by kernel_rfl) ?_ _;go_wp2;go_roundw
     case rel=>exact ⟨3,cb,rfl,by go_num,by omega,⟨B.trans a9,fun h=>⟨pc,by rw [<-a5.out];exact h⟩⟩⟩
     case measure=>simp [intOf]
  ·obtain rfl:k=3:=by omega
   have e1:=yfound_calls wk (h9.out.below b6) e0.out.lens HC.out
   have f9:b=true->AR z (endR z).ch=false:=fun h=>by
    obtain ⟨pp,l8⟩:=c6.out h;exact checkP_sound l8 endR_isCh
   generalize AR z (endR z).ch=bo at e1 f9;generalize (endR z).done=bd at e1;have l3:=zh f9;have l7:=zh (g6.out.trans b6);clear f9 j8 hk HR
   go_wp2_with fail
   refine e1.mono ?_;rintro e wl ⟨rfl,i9⟩;have f5:Hid (zc w wl):=l7.out.trans i9;clear e1 i9
   cases b with
   | false=>
    go_wp2_with fail
    go_ret;exact ⟨rfl,f5.out⟩
   | true=>
    obtain rfl:bo=false:=l3.out rfl
    cases bd with
    | false=>
     go_wp2_with fail
     go_ret;exact ⟨rfl,f5.out⟩
    | true=>
     go_wp2_with fail
     go_ret;exact ⟨rfl,f5.out⟩
end
section
open Go.ChangeShapes Go.WideShapes Go.ChangeAt Go.RowKit
theorem ints3Arg {H:Type} {enc:TypeId×Value->H} {base:Nat} {d:DataW H} {p:List MemPlace} (E:Value.okWide Tryz.prog W .any base 23 v) (h:DataW.Trod enc Tryz.prog W 0 (fun _=>true) true 23 v d p):∃o0 o1 o2,v=.agg #[.int .i64 o0,.int .i64 o1,.int .i64 o2]:=by
 have r:∃cs,v=.agg cs:=by
  unfold Value.okWide at E;rw [Tryz.underlying23] at E;obtain ⟨cs,h,_⟩:=E;exact ⟨cs,h⟩
 obtain ⟨fuel,h⟩:=h;obtain ⟨xs,m,_,_,B,J,o⟩:=DataW.trod_array Tryz.underlying23 h;have D:v.cells.toList.length=3:=by rw [B];kernel_rfl
 obtain ⟨c1,c2,c3,I⟩:∃a b c,v.cells.toList=[a,b,c]:=by
  match v.cells.toList,D with
  | [a,b,c],_=>exact ⟨a,b,c,rfl⟩
 have G:=agg_of I r;rw [I,cellsT3] at o;have a0:=o 0 (by omega);have a1:=o 1 (by omega);have a2:=o 2 (by omega);rw [DA (by omega)] at a0 a1 a2;have a0:DataW.trod enc Tryz.prog W 0 (fun _=>true) true m 3 [c1]=_:=a0;have a1:DataW.trod enc Tryz.prog W 0 (fun _=>true) true m 3 [c2]=_:=a1;have a2:DataW.trod enc Tryz.prog W 0 (fun _=>true) true m 3 [c3]=_:=a2;obtain ⟨o0,e0,b0⟩:=intOpen a0;obtain ⟨o1,e1,b1⟩:=intOpen a1;obtain ⟨o2,e2,b2⟩:=intOpen a2;injection e0 with e0;injection e1 with e1;injection e2 with e2;subst e0 e1 e2;exact ⟨o0,o1,o2,G⟩
theorem oddC:OddC:=fun w ok v p c q0 q1 q2 h o d r=>odd29_calls 100000 w ok v p c q0 q1 q2 h o d r
section
variable {H:Type} {enc:TypeId×Value->H} {base:Nat} {v0 v1 v2:Value} {d0 d1 d2:DataW H} {p0 p1 p2:List MemPlace}
theorem proofSound_walk (W:World) (B:zJ W) (d:Value.okWide Tryz.prog W .any base 22 v0) (h0:DataW.Trod enc Tryz.prog W 0 (fun _=>true) true 22 v0 d0 p0) (o:Value.okWide Tryz.prog W .any base 22 v1) (h1:DataW.Trod enc Tryz.prog W 0 (fun _=>true) true 22 v1 d1 p1) (r:Value.okWide Tryz.prog W .any base 23 v2) (h2:DataW.Trod enc Tryz.prog W 0 (fun _=>true) true 23 v2 d2 p2):
  Calls Tryz.prog 5 #[v0,v1,v2] W fun e w'=>e=.returned (.bool true)/\Below W.heap.size W w':=by
 obtain ⟨ls,i0,i1,i2⟩:=intssArg d h0;obtain ⟨ls2,j0,j1,j2⟩:=intssArg o h1;obtain ⟨o0,o1,o2,rfl⟩:=ints3Arg r h2;exact ysound_calls oddC o0 o1 o2 W B i0 i1 i2 j0 j1 j2
theorem proofPaths_walk (W:World) (B:zJ W) (d:Value.okWide Tryz.prog W .any base 22 v0) (h0:DataW.Trod enc Tryz.prog W 0 (fun _=>true) true 22 v0 d0 p0) (o:Value.okWide Tryz.prog W .any base 22 v1) (h1:DataW.Trod enc Tryz.prog W 0 (fun _=>true) true 22 v1 d1 p1) (r:Value.okWide Tryz.prog W .any base 23 v2) (h2:DataW.Trod enc Tryz.prog W 0 (fun _=>true) true 23 v2 d2 p2):
  Calls Tryz.prog 6 #[v0,v1,v2] W fun e w'=>e=.returned (.bool true)/\Below W.heap.size W w':=by
 obtain ⟨ls,i0,i1,i2⟩:=intssArg d h0;obtain ⟨ls2,j0,j1,j2⟩:=intssArg o h1;obtain ⟨o0,o1,o2,rfl⟩:=ints3Arg r h2;exact ypaths_calls oddC o0 o1 o2 W B i0 i1 i2 j0 j1 j2
end
end
end Go.Proofs.YtcnaogdgjkpkmaaGreatDoor
