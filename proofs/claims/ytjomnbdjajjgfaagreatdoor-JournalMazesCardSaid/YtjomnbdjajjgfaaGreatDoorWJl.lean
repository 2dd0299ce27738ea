import Derived.Test.YtjomnbdjajjgfaaGreatDoorWJk
import Derived.WalkLawsBesides
set_option linter.unusedVariables false
set_option linter.unusedSimpArgs false
set_option maxRecDepth 100000
set_option maxHeartbeats 16000000
namespace Go.Proofs.YtjomnbdjajjgfaaGreatDoor
variable {ch l:List Int} {m:MZ} {f g gp gs gx i k n t:Nat} {ok okc:Nat->Prop} {s:Rd} {vc vp:Value} {WZ w w' w6 wr:World}
section
open Go.RowKit
attribute [local go_sem ↓] Go.wp_at_zero Go.wp_at_succ
theorem vhead_calls {okp:Nat->Prop} {v:Value} (tk:Nat) (w:World) (hm:zL w ok v m) (hl:Lens m) (hc:AV m=0) (b9:zg w okc vc ch) (hi:zw m ch) (hp:zU w okp vp (zq m ch)) (a1:tk<m.tasks.length):
  Calls Tryz.prog 121 #[v,vc,vp,.int .i64 tk] w fun e w'=>∃v',e=.returned v'/\za w w'/\zg w' (fun b=>w.heap.size<=b) v' (Cx m ch tk):=by
 have a8:=Cp hc hi;have G:=zh (zZ.of hc);have HL:=zh hl;have f4:=zh G.out.fl;have f1:=zh b9;obtain ⟨Af,cf,Au,cu,At,ct,rfl,hf,-,e4⟩:=hm.parts;have HF:=zh hf;obtain ⟨Ac,cc,rfl,-,-⟩:=b9;obtain ⟨vps,⟨Ap,cp,rfl,U,d9⟩,c6⟩:=hp;have f9:=zh e4;have b4:=zh d9;have f3:=zh c6;obtain ⟨PL,hP⟩:=zaI ((zq m ch).length);rw [<-hP] at b4⊢;clear hf e4 d9 c6 hl hc hm U;by_cases h6:tk<PL
 ·obtain ⟨j2,i2,-,d7⟩:=a8;have a0:tk<(zq m ch).length:=by omega
  obtain ⟨bp,offp,up,rfl,-,U,e5⟩:=AW b4.out f3.out h6 a0;obtain ⟨a3,a5⟩:=d7 _ (Fz a0)
  have I:Hid (Cx m ch tk=((zq m ch)[tk]).getLast?.toList):=by
   show _=_;unfold Cx;rw [if_pos a0,Fx,Fw a0];rfl
  obtain ⟨P,b7⟩:=zaI ((zq m ch)[tk]);rw [<-b7] at e5 a3 a5 I;clear b7 d7 hi;obtain ⟨q,x,rfl⟩:∃q x,P=q++[x]:=⟨P.dropLast,P.getLast a3,(List.dropLast_concat_getLast a3).symm⟩;obtain ⟨Aq,cq,rfl,c0,e0⟩:=e5;obtain ⟨bq,offq,e,-,V⟩:=Ai e0 (k:=q.length) (by simp) (by simp);have V:w.cell? ⟨bq,offq+q.length,none⟩=some (.int .i64 x):=by rw [V];simp
  subst e;obtain ⟨N,hN⟩:=zaI ((q++[x]).length);obtain ⟨n,hn⟩:=zaI q.length;have g4:N=n+1:=by rw [hN,hn];simp
  rw [<-hN] at U a5 c0;rw [<-hn] at V
  have f5:Hid (Cx m ch tk=[x]):=by
   show _=_;rw [I.out,List.getLast?_append];rfl
  clear e0 hN hn I a3 hP;have k0:(0:Int)<=(tk:Int):=by omega
  have k1:(tk:Int)<(PL:Int):=by omega
  have j6:IntKind.i64.wrap ((N:Int) - 1)=(n:Int):=by rw [zag];omega
  have j3:(0:Int)<=(n:Int):=by omega
  have j4:(n:Int)<(N:Int):=by omega
  have j5:(0:Int)<(N:Int):=by omega
  go_enter Tryz.func121,Tryz.ntmps121
  go_upto_region 1 with fail;obtain ⟨D,r0,r1,r2,r3,r4,r5⟩:=box6 w (.int .i64 m.w) (.int .i64 m.h) (.int .i64 m.l) (.slice Af m.free.length cf) (.slice Au m.up.length cu) (.slice At m.tasks.length ct);generalize w.alloc _=w1 at D r0 r1 r2 r3 r4 r5⊢;obtain ⟨gm,M⟩:=zaI w.heap.size;rw [<-M] at r0 r1 r2 r3 r4 r5⊢;have i4:Hid (gm=w.heap.size):=M;clear M;have hx:za w1 w1:=za.refl w1;have o:=zh D;clear D;have qp:=za.rule (o.out.cell U);have qx:=za.rule (o.out.cell V);clear U g4 c0 a0 V
  go_wp2_with fail
  refine zab (S:=(fun W=>za w1 W)) zG (hx.drew) fun zH=>?_;have a7:za w1 w1.drew:=zH;generalize w1.drew=wd at zH a7⊢;refine zi 0 zH ?_;refine zi 1 zH ?_;simp only [zc,Fv];refine zi 2 zH ?_;refine zi 3 zH ?_;simp only [zc,Fv];refine zi 4 zH ?_;refine zi 5 zH ?_;simp only [zc,Fv];refine zi 6 zH ?_;refine zi 7 zH ?_;simp only [zc,Fv];refine zi 8 zH ?_;refine zi 9 zH ?_;simp only [zc,Fv];refine zi 10 zH ?_;refine zi 11 zH ?_;simp only [zc,Fv];refine BO 12 fun K hK=>?_;go_simp;have hA:za w1 (wd.alloc (.cells #[.int .i64 x] 3)):=a7.alloc _;have hB:ze (wd.alloc (.cells #[.int .i64 x] 3)) wd.heap.size 3 #[.int .i64 x]:=ze.new _ _ _ rfl;generalize wd.alloc _=wb at hA hB⊢;refine zaJ hK (hA) fun zH=>?_;clear hK K;try simp only [zc,Fv]
  refine BO 13 fun K hK=>?_;go_simp;refine zaJ hK (hA) fun zH=>?_;clear hK K;try simp only [zc,Fv]
  refine zao (by kernel_rfl) ?_ _;go_wp2;go_ret;refine ⟨_,rfl,o.out.trans hA,?_⟩;rw [f5.out];refine ⟨_,_,rfl,Fy _,rfl,fun _=>⟨wd.heap.size,0,rfl,FA o.out.size a7.size,fun j u hu=>?_⟩⟩
  match j,hu with
  | 0,hu=>
   have:u=.int .i64 x:=by simpa using hu.symm
   rw [this];exact hB.cell (k:=0) rfl
 ·obtain ⟨bt,offt,sn,u1,u2,rfl,-,-,Q,-,a9,-⟩:=Bz f9.out a1;have b1:=fun x hx=>G.out.tn _ (Fz a1) x (.inl hx)
  have c7:=(HL.out.tl _ (Fz a1)).1
  have I:Hid (Cx m ch tk=((m.tasks[tk]).1).filter fun n=>zj m tk n && !decide (n∈ch)):=by
   show _=_;unfold Cx;rw [if_neg (by omega),Fx,Fw a1];rfl
  obtain ⟨L,hL⟩:=zaI ((m.tasks[tk]).1);rw [<-hL] at a9 b1 c7 I;clear hL;have f8:=zh b1;have f2:Hid (ch.length<=300):=a8.2.2.1;have b5:Hid (tk<m.free.length):=by show _<_;rw [f4.out];exact a1
  have k0:(0:Int)<=(tk:Int):=by omega
  have k1:(tk:Int)<(m.tasks.length:Int):=by omega
  have k2:¬ ((tk:Int)<(PL:Int)):=by omega
  clear b1 a8 hi hP;obtain ⟨p,b0⟩:∃p:Int->Bool,p=fun n=>zj m tk n && !decide (n∈ch):=⟨_,rfl⟩
  rw [<-b0] at I;have f7:=zh b0;clear b0
  go_enter Tryz.func121,Tryz.ntmps121
  go_upto_region 1 with fail;obtain ⟨D,r0,r1,r2,r3,r4,r5⟩:=box6 w (.int .i64 m.w) (.int .i64 m.h) (.int .i64 m.l) (.slice Af m.free.length cf) (.slice Au m.up.length cu) (.slice (some ⟨bt,offt,none⟩) m.tasks.length ct);generalize w.alloc _=w1 at D r0 r1 r2 r3 r4 r5⊢;obtain ⟨gm,M⟩:=zaI w.heap.size;rw [<-M] at r0 r1 r2 r3 r4 r5⊢;clear M;have hx:za w1 w1:=za.refl w1;have o:=zh D;clear D;have qt:=za.rule (o.out.cell Q);have f6:=zh (a9.below o.out);obtain ⟨Al,cl,rfl,i7,-⟩:=a9;clear Q
  go_wp2_with fail
  have b3:=zh (Mk.nil w1);go_loopw [9,11] (fun v i wr=>∃k:Nat,k<=L.length/\i=.int .i64 (k:Nat)/\Hid (Mk w1 wr v ((L.take k).filter p))) (fun _ i _=>L.length - (intOf i).toNat)
  case atStart=>exact ⟨0,FN _,rfl,b3⟩
  clear b3
  case round=>
   obtain ⟨k,hk,rfl,hM⟩:=hrel;have hx:za w1 wr:=hM.out.ext;obtain ⟨wk,rfl⟩:∃wk:World,wk=wr:=⟨_,rfl⟩;by_cases J:k<L.length
   ·obtain ⟨A',c',e,-,d8⟩:=f6.out;injection e with e1 e2 e3;subst e1 e3;obtain ⟨bl,offl,rfl,-,E⟩:=Ai d8 J J;clear d8;obtain ⟨e6,e7⟩:=f8.out _ (Fz J);have a2:=FF J;obtain ⟨x,e9⟩:=zaI (L[k]);rw [<-e9] at E e6 e7 a2;clear e9;have HT:=zh a2;have rx:=za.rule E;clear a2 E;obtain ⟨bf,off,b',off',l,c',rfl,Q,hl,j1,i9,b8⟩:=freeCells HF.out G.out.fn b5.out e6 e7;have q1:=za.rule (o.out.cell Q);have q2:=za.rule (o.out.cell b8);have kk0:(0:Int)<=(k:Int):=by omega
    have kk1:(k:Int)<(L.length:Int):=by omega
    have kf1:(tk:Int)<(m.free.length:Int):=by have:=b5.out;omega
    have hp:Hid (p x=(zj m tk x && !decide (x∈ch))):=by (show _=_);rw [f7.out]
    obtain ⟨fv,c8⟩:=zaI (zj m tk x);rw [<-c8] at q2 hp;clear c8 Q b8;have h5:((L.take k).filter p).length<=L.length:=FA (zan _ _) (by simp;omega);go_upto_region 8 with fail;go_cut [68] (fun v wx=>v=.bool (p x)/\za wk wx)
    case first=>
     cases fv with
     | false=>
      have a4:za wk wk:=za.refl wk;go_quiet (fail)
      go_wp2_with fail
      go_meet
      first | exact ⟨by rw [hp.out,Bool.false_and],a4.drew⟩ | exact ⟨by rw [hp.out,Bool.false_and],a4.drewN _⟩
     | true=>
      have a4:za wk wk:=za.refl wk
      go_region_held3 (fun w'=>za w1 w'/\za wk w') (first | (exact ⟨hx.drew,a4.drew⟩) | assumption) ((go_at_call 73;refine (AO x _ (f1.out.below (o.out.trans hx.drew)) (by have:=f2.out;omega)).mono ?_;rintro e w9 ⟨rfl,rfl⟩))
      rename_i hS
      go_wp2_with fail
      go_meet;exact ⟨by rw [hp.out,Bool.true_and],hS.2⟩
    case rest=>
     obtain ⟨rfl,h9⟩:=hcut;have O:=zh (hM.out.more h9);have e8:=O.out.ext
     cases hb:p x with
     | true=>
      have HS:Hid ((L.take (k+1)).filter p=(L.take k).filter p++[x]):=by show _=_;rw [HT.out,zay,za4 hb];rfl
      clear hb;obtain ⟨l,d5⟩:=zaI ((L.take k).filter p);rw [<-d5] at O h5 HS;clear d5
      go_wp2_with (at_builtin;refine AZ rfl _ _ rfl _ l x w1.heap.size wc.heap.size 1 _ rfl rfl (O.out.own.alloc _) ?d1 ?d2 ?d3 ?_)
      (try case d1=>exact zy _ _ _ (by simp))
      case d2=>(first | (simp;done) | (have:=e8.size;simp;omega) | (have:=e8.size;omega))
      case d3=>omega
      intro v' wb d6 c9 g6;have g1:=zh ((O.out.alloc _).app d6 c9);clear d6 c9 g6;go_wp2;go_roundw
      case rel=>exact ⟨k+1,by omega,by go_num,by rw [HS.out];exact g1⟩
      case measure=>simp [intOf];omega
     | false=>
      have HS:Hid ((L.take (k+1)).filter p=(L.take k).filter p):=by show _=_;rw [HT.out,zay,zas (by rw [hb];simp),List.filter_nil,List.append_nil]
      clear hb;go_wp2;go_roundw
      case rel=>exact ⟨k+1,by omega,by go_num,by rw [HS.out];exact O⟩
      case measure=>simp [intOf];omega
   ·obtain rfl:k=L.length:=by omega
    go_wp2;go_ret;refine ⟨_,rfl,o.out.trans hx,?_⟩;rw [I.out];have h:=hM.out.ints;rw [FJ] at h;exact h.weaken (fun b hb=>FA o.out.size hb)
end
section
open Go.RowKit
attribute [local go_sem ↓] Go.wp_at_zero Go.wp_at_succ
attribute [local go_sem] Oper.semAt_some
theorem PSt.weaken {w:World} {ok ok':Nat->Prop} {m:MZ} {f u ts vc vp:Value} {ch:List Int} (h:PSt w ok m f u ts vc vp ch) (o:∀b,ok b->ok' b):PSt w ok' m f u ts vc vp ch:=⟨h.maze.weaken o,h.chs.weaken o,h.ps.weaken o⟩
theorem PSt.keep {w w':World} {ok:Nat->Prop} {m:MZ} {f u ts vc vp:Value} {ch:List Int} (h:PSt w ok m f u ts vc vp ch) (o:Ao ok w w'):PSt w' ok m f u ts vc vp ch:=⟨h.maze.keep o,h.chs.keep o,h.ps.keep o⟩
theorem pnext_calls {f u ts:Value} (t n:Int) (w:World) (h:PSt w ok m f u ts vc vp ch) (hl:Lens m) (hc:AV m=0) (hi:zw m (ch++[n])) (f9:ch.length<=300):
  Calls Tryz.prog 134 #[stv m f u ts vc vp t,.int .i64 n] w fun e w'=>∃vc' vp',e=.returned (stv m f u ts vc' vp' (Bd m (ch++[n])))/\za w w'/\PSt w' (fun b=>ok b\/w.heap.size<=b) m f u ts vc' vp' (ch++[n]):=by
 have H:=zh h;have HL:=zh hl;have HC:=zh hc;have HI:=zh hi;obtain ⟨Af,cf,Au,cu,At,ct,Ac,cc,Ap,cp,rfl,rfl,rfl,rfl,rfl,-,-⟩:=h.parts;obtain ⟨PL,hP⟩:=zaI ((zq m ch).length);rw [<-hP] at H⊢;clear h hl hc hi hP;unfold stv
 go_enter Tryz.func134,Tryz.ntmps134
 go_upto_region 1 with fail;have a0:=ze.new w #[.int .i64 m.w,.int .i64 m.h,.int .i64 m.l,.slice Af m.free.length cf,.slice Au m.up.length cu,.slice At m.tasks.length ct,.slice Ac ch.length cc,.slice Ap PL cp,.int .i64 t] 107 (g:=w.heap.size) rfl;have b4:za w (w.alloc (.cells #[.int .i64 m.w,.int .i64 m.h,.int .i64 m.l,.slice Af m.free.length cf,.slice Au m.up.length cu,.slice At m.tasks.length ct,.slice Ac ch.length cc,.slice Ap PL cp,.int .i64 t] 107)):=(za.refl w).alloc _;have c0:(w.alloc (.cells #[.int .i64 m.w,.int .i64 m.h,.int .i64 m.l,.slice Af m.free.length cf,.slice Au m.up.length cu,.slice At m.tasks.length ct,.slice Ac ch.length cc,.slice Ap PL cp,.int .i64 t] 107)).heap.size=w.heap.size+1:=by simp
 generalize w.alloc _=w1 at a0 b4 c0⊢;have o:=ze.new w1 #[.int .i64 0,.int .i64 0,.int .i64 0,.slice none 0 0,.slice none 0 0,.slice none 0 0,.slice none 0 0,.slice none 0 0,.int .i64 0] 107 (g:=w1.heap.size) rfl;have a6:za w1 (w1.alloc (.cells #[.int .i64 0,.int .i64 0,.int .i64 0,.slice none 0 0,.slice none 0 0,.slice none 0 0,.slice none 0 0,.slice none 0 0,.int .i64 0] 107)):=(za.refl w1).alloc _;generalize w1.alloc _=w2 at o a6⊢;rw [c0] at o;obtain ⟨gm,b5⟩:=zaI w.heap.size;rw [<-b5] at a0 o⊢;have V:Hid (gm=w.heap.size):=b5;have HZ:=zh o;have M:ze w2 gm 107 _:=a0.ext a6;have rul:∀{j:Nat} {v:Value},w2.cell? ⟨gm,j,none⟩=some v->∀W,Below (gm+1) w2 W->W.cell? ⟨gm,j,none⟩=some v:=fun h W hW=>(hW.cell (p:=⟨gm,_,none⟩) (Nat.lt_succ_self gm)).trans h
 have r0:=rul (M.cell (k:=0) rfl);have r1:=rul (M.cell (k:=1) rfl);have r2:=rul (M.cell (k:=2) rfl);have r3:=rul (M.cell (k:=3) rfl);have r4:=rul (M.cell (k:=4) rfl);have r5:=rul (M.cell (k:=5) rfl);have r6:=rul (M.cell (k:=6) rfl);have e5:=zh (b4.trans a6);have e4:Hid (gm+1<w2.heap.size):=zd o;clear a0 b4 c0 o a6 M rul b5;refine zab (S:=(fun W=>Below (gm+1) w2 W)) zG ((Below.refl (gm+1) w2).drew) fun zH=>?_;have I:Below (gm+1) w2 w2.drew:=(Below.refl (gm+1) w2).drew;have HD:Hid (za w2 w2.drew):=(za.refl w2).drew;generalize w2.drew=wd at zH I HD⊢;have J:Hid (za w wd):=e5.out.trans HD.out;have G:Hid (gm+1<wd.heap.size):=zam e4.out HD.out.size;refine zi 0 zH ?_;refine zi 1 zH ?_;simp only [zc,Fv];refine zi 2 zH ?_;refine zi 3 zH ?_;simp only [zc,Fv];refine zi 5 zH ?_;simp only [zc,Fv];refine rdA [4,6] ?_;refine zal rfl (fun K E=>?_) ?_
 ·go_simp;go_at_call 92;refine (Ct wd ((H.out.chs.below J.out).below (za.refl wd)) (by omega)).mono ?_;rintro e w1 ⟨v1,rfl,b3⟩;have b1:za wd w1:=b3.ext;have c8:Hid (zQ w1 wd.heap.size v1 ch):=b3.own.mono ((za.refl wd)).size;obtain ⟨A1,n1,c1,rfl⟩:=AI c8.out;clear b3;refine E.out _ _ (Below.trans I (Below.mono b1 (by have:=G.out;omega))) fun zH=>?_;clear E K;try simp only [zc,Fv]
  refine BO 6 fun K E=>?_;go_simp;have hA2:za w1 (w1.alloc (.cells #[.int .i64 n] 3)):=(za.refl w1).alloc _;have a8:Hid ((w1.alloc (.cells #[.int .i64 n] 3)).cell? ⟨w1.heap.size,0,none⟩=some (.int .i64 n)):=zy _ _ _ rfl;generalize w1.heap.size=g2 at a8⊢;generalize w1.alloc _=w2 at hA2 a8⊢;have c9:=zh (c8.out.ext hA2);have a1:za wd w2:=Below.trans b1 (hA2.mono (b1).size);refine E.out _ _ (Below.trans I (Below.mono a1 (by have:=G.out;omega))) fun zH=>?_;clear E K;try simp only [zc,Fv]
  refine BO 7 fun K E=>?_;refine zE (ok:=fun _=>True) (by rfl) _ _ _ (by rfl) wd.heap.size ch [n] _ _ (by rfl) (by rfl) c9.out (CB a8.out) (a1).size (by simp;omega) ?_;intro v3 w3 b8 d9 d7;have O:za wd w3:=zK a1 d9 (a1).size (fun k hk=>Ad c9.out hk);have e2:=zh b8;obtain ⟨A3,n3,cc3,rfl⟩:=AI b8;clear b8 d9 d7;refine E.out _ _ (Below.trans I (Below.mono O (by have:=G.out;omega))) fun zH=>?_;clear E K;try simp only [zc,Fv]
  refine BO 8 fun K E=>?_;go_simp;go_at_call 63;refine (of_calls (ok:=fun b=>(ok b/\b<w.heap.size)\/wd.heap.size<=b) w3 (((H.out.maze.bound.below J.out).below O).weaken (fun b hb=>.inl hb)) HL.out HC.out ((Mk.ints ⟨e2.out,O⟩).weaken (fun b hb=>.inr hb)) HI.out).mono ?_;rintro e w4 ⟨vp4,rfl,e6,e8⟩;have a4:za wd w4:=Below.trans O (e6.mono (O).size);have d5:Hid (PSt w4 (fun b=>(ok b\/w.heap.size<=b)/\b≠gm+1) m (.slice Af m.free.length cf) (.slice Au m.up.length cu) (.slice At m.tasks.length ct) (.slice A3 n3 cc3) vp4 (ch++[n])):=e8.weaken (fun b hb=>by have h1:=G.out;have h2:=V.out;have h3:=J.out.size;have h4:=(O).size;rcases hb with (hb | hb) | hb;exact ⟨.inl hb.1,by omega⟩;exact ⟨.inr (by omega),by omega⟩;exact ⟨.inr (by omega),by omega⟩);obtain ⟨_,_,_,_,_,_,_,_,Ap4,cp4,-,-,-,-,rfl,-,-⟩:=d5.out.parts;unfold stv;refine E.out _ _ (Below.trans I (Below.mono a4 (by have:=G.out;omega))) fun zH=>?_;clear E K;try simp only [zc,Fv]
  refine BO 9 fun K E=>?_;have o:ze w4 (gm+1) 107 _:=(HZ.out.ext HD.out).ext a4;have z0:=o.cell (k:=0) rfl;have z1:=o.cell (k:=1) rfl;have z2:=o.cell (k:=2) rfl;have z3:=o.cell (k:=3) rfl;have z4:=o.cell (k:=4) rfl;have z5:=o.cell (k:=5) rfl;have z6:=o.cell (k:=6) rfl;have z7:=o.cell (k:=7) rfl;have z8:=o.cell (k:=8) rfl;have hfz:∀j,w4.frozen? ⟨gm+1,j,none⟩=false:=fun j=>o.frozen j
  have a7:=zh o;clear o;go_simp;refine E.out _ _ (Below.trans (Below.trans I (Below.mono a4 (by have:=G.out;omega))) (Ea (gm+1) [.int .i64 m.w,.int .i64 m.h,.int .i64 m.l,.slice Af m.free.length cf,.slice Au m.up.length cu,.slice At m.tasks.length ct,.slice A3 n3 cc3,.slice Ap4 (zq m (ch++[n])).length cp4,.int .i64 (Bd m (ch++[n]))] 0 w4)) fun zH=>?_;clear E K;try simp only [zc,Fv]
  refine zao (by kernel_rfl) ?_ _;go_wp2;refine case_fin9 (P:=fun W=>bodyPost Tryz.prog Tryz.f134 _ Exit.ret _ W) (g2:=gm+1) ?_ a7.out;intro WZ D b2 b6;have y0:=D.cell (k:=0) rfl;have y1:=D.cell (k:=1) rfl;have y2:=D.cell (k:=2) rfl;have y3:=D.cell (k:=3) rfl;have y4:=D.cell (k:=4) rfl;have y5:=D.cell (k:=5) rfl;have y6:=D.cell (k:=6) rfl;have y7:=D.cell (k:=7) rfl;have y8:=D.cell (k:=8) rfl;refine za5 (v:=stv m (.slice Af m.free.length cf) (.slice Au m.up.length cu) (.slice At m.tasks.length ct) (.slice A3 n3 cc3) (.slice Ap4 (zq m (ch++[n])).length cp4) (Bd m (ch++[n]))) (by simp [results,Tryz.results134,go_sem,y0,y1,y2,y3,y4,y5,y6,y7,y8,stv]) rfl ⟨_,_,rfl,?_,?_⟩
  ·exact Below.trans (J.out.trans (Below.mono a4 (Fy _))) (b2.mono (by have:=V.out;omega))
  ·exact (d5.out.keep (fun b hb b7=>b6 b b7 hb.2)).weaken (fun b hb=>hb.1)
 refine zal rfl (fun K E=>?_) .nil;go_simp;have hA6:za wd (wd.alloc (.cells #[.int .i64 n] 3)):=(za.refl wd).alloc _;have a9:Hid ((wd.alloc (.cells #[.int .i64 n] 3)).cell? ⟨wd.heap.size,0,none⟩=some (.int .i64 n)):=zy _ _ _ rfl;generalize wd.heap.size=g6 at a9⊢;generalize wd.alloc _=w6 at hA6 a9⊢;have U:za wd w6:=Below.trans (za.refl wd) (hA6.mono ((za.refl wd)).size);refine E.out _ _ (Below.trans I (Below.mono U (by have:=G.out;omega))) fun zH=>?_;clear E K;try simp only [zc,Fv]
 refine BO 4 fun K E=>?_;go_simp;go_at_call 92;refine (Ct w6 ((H.out.chs.below J.out).below U) (by omega)).mono ?_;rintro e w7 ⟨v7,rfl,a3⟩;have a2:za wd w7:=Below.trans U (a3.ext.mono (U).size);have b0:Hid (zQ w7 wd.heap.size v7 ch):=a3.own.mono (U).size;have e1:Hid (w7.cell? ⟨g6,0,none⟩=some (.int .i64 n)):=za.cell a9.out a3.ext;obtain ⟨A7,n7,c7,rfl⟩:=AI b0.out;clear a3;refine E.out _ _ (Below.trans I (Below.mono a2 (by have:=G.out;omega))) fun zH=>?_;clear E K;try simp only [zc,Fv]
 refine BO 7 fun K E=>?_;refine zE (ok:=fun _=>True) (by rfl) _ _ _ (by rfl) wd.heap.size ch [n] _ _ (by rfl) (by rfl) b0.out (CB e1.out) (a2).size (by simp;omega) ?_;intro v8 w8 b9 e0 d8;have Q:za wd w8:=zK a2 e0 (a2).size (fun k hk=>Ad b0.out hk);have e3:=zh b9;obtain ⟨A8,n8,cc8,rfl⟩:=AI b9;clear b9 e0 d8;refine E.out _ _ (Below.trans I (Below.mono Q (by have:=G.out;omega))) fun zH=>?_;clear E K;try simp only [zc,Fv]
 refine BO 8 fun K E=>?_;go_simp;go_at_call 63;refine (of_calls (ok:=fun b=>(ok b/\b<w.heap.size)\/wd.heap.size<=b) w8 (((H.out.maze.bound.below J.out).below Q).weaken (fun b hb=>.inl hb)) HL.out HC.out ((Mk.ints ⟨e3.out,Q⟩).weaken (fun b hb=>.inr hb)) HI.out).mono ?_;rintro e w9 ⟨vp9,rfl,e7,e9⟩;have a5:za wd w9:=Below.trans Q (e7.mono (Q).size);have d6:Hid (PSt w9 (fun b=>(ok b\/w.heap.size<=b)/\b≠gm+1) m (.slice Af m.free.length cf) (.slice Au m.up.length cu) (.slice At m.tasks.length ct) (.slice A8 n8 cc8) vp9 (ch++[n])):=e9.weaken (fun b hb=>by have h1:=G.out;have h2:=V.out;have h3:=J.out.size;have h4:=(Q).size;rcases hb with (hb | hb) | hb;exact ⟨.inl hb.1,by omega⟩;exact ⟨.inr (by omega),by omega⟩;exact ⟨.inr (by omega),by omega⟩);obtain ⟨_,_,_,_,_,_,_,_,Ap9,cp9,-,-,-,-,rfl,-,-⟩:=d6.out.parts;unfold stv;refine E.out _ _ (Below.trans I (Below.mono a5 (by have:=G.out;omega))) fun zH=>?_;clear E K;try simp only [zc,Fv]
 refine BO 9 fun K E=>?_;have o:ze w9 (gm+1) 107 _:=(HZ.out.ext HD.out).ext a5;have z0:=o.cell (k:=0) rfl;have z1:=o.cell (k:=1) rfl;have z2:=o.cell (k:=2) rfl;have z3:=o.cell (k:=3) rfl;have z4:=o.cell (k:=4) rfl;have z5:=o.cell (k:=5) rfl;have z6:=o.cell (k:=6) rfl;have z7:=o.cell (k:=7) rfl;have z8:=o.cell (k:=8) rfl;have hfz:∀j,w9.frozen? ⟨gm+1,j,none⟩=false:=fun j=>o.frozen j
 have a7:=zh o;clear o;go_simp;refine E.out _ _ (Below.trans (Below.trans I (Below.mono a5 (by have:=G.out;omega))) (Ea (gm+1) [.int .i64 m.w,.int .i64 m.h,.int .i64 m.l,.slice Af m.free.length cf,.slice Au m.up.length cu,.slice At m.tasks.length ct,.slice A8 n8 cc8,.slice Ap9 (zq m (ch++[n])).length cp9,.int .i64 (Bd m (ch++[n]))] 0 w9)) fun zH=>?_;clear E K;try simp only [zc,Fv]
 refine zao (by kernel_rfl) ?_ _;go_wp2;refine case_fin9 (P:=fun W=>bodyPost Tryz.prog Tryz.f134 _ Exit.ret _ W) (g2:=gm+1) ?_ a7.out;intro WZ D b2 b6;have y0:=D.cell (k:=0) rfl;have y1:=D.cell (k:=1) rfl;have y2:=D.cell (k:=2) rfl;have y3:=D.cell (k:=3) rfl;have y4:=D.cell (k:=4) rfl;have y5:=D.cell (k:=5) rfl;have y6:=D.cell (k:=6) rfl;have y7:=D.cell (k:=7) rfl;have y8:=D.cell (k:=8) rfl;refine za5 (v:=stv m (.slice Af m.free.length cf) (.slice Au m.up.length cu) (.slice At m.tasks.length ct) (.slice A8 n8 cc8) (.slice Ap9 (zq m (ch++[n])).length cp9) (Bd m (ch++[n]))) (by simp [results,Tryz.results134,go_sem,y0,y1,y2,y3,y4,y5,y6,y7,y8,stv]) rfl ⟨_,_,rfl,?_,?_⟩
 ·exact Below.trans (J.out.trans (Below.mono a5 (Fy _))) (b2.mono (by have:=V.out;omega))
 ·exact (d6.out.keep (fun b hb b7=>b6 b b7 hb.2)).weaken (fun b hb=>hb.1)
end
section
open Go.RowKit
attribute [local go_sem ↓] Go.wp_at_zero Go.wp_at_succ
theorem Tryz.infoProof:(Tryz.prog.info? 41).map (fun i=>(i.zero,i.size,i.bytes))=some (some (.agg #[.int .i64 0,.slice none 0 0,.slice none 0 0]),3,56):=by kernel_rfl
theorem eProof:ElemI 39 41 (.agg #[.int .i64 0,.slice none 0 0,.slice none 0 0]) 3 56:=⟨Tryz.underlying39,Tryz.infoProof,rfl,by decide⟩
inductive Ce (w:World) (ok:Nat->Prop):Value->PT->Prop
 | mk {t:Int} {side:List Int} {kids:List PT} {vs vk:Value} {cs:List Value} (hs:zg w ok vs side) (hk:AS w ok 3 vk kids.length cs)
  (he:∀(i:Nat) (hi:i<kids.length),Ce w ok (.agg #[cs.getD (i*3) undef,cs.getD (i*3+1) undef,cs.getD (i*3+2) undef]) kids[i]):Ce w ok (.agg #[.int .i64 t,vs,vk]) (.node t side kids)
theorem Ce.keepW {ok':Nat->Prop} {v:Value} {p:PT} (h:Ce w ok v p) (o:Ao ok w w') (D:∀b,ok b->ok' b):Ce w' ok' v p:=by
 induction h with
 | mk h1 h2 _ ih=>exact .mk ((h1.keep o).weaken D) ((h2.keep o).weaken D) ih
theorem Ce.ext {v:Value} {p:PT} (h:Ce w ok v p) (o:za w w'):Ce w' ok v p:=h.keepW (Ao.of_below o) (fun _ h=>h)
theorem Ce.zero (w:World) (ok:Nat->Prop):Ce w ok (.agg #[.int .i64 0,.slice none 0 0,.slice none 0 0]) PT.zero:=
 .mk (cs:=[]) (zg.nil _ _) ⟨none,0,rfl,Fy _,Ba.nil _ _ _ _⟩ (fun i o=>absurd o (by simp))
theorem Ce.form {v:Value} {p:PT} (h:Ce w ok v p):∃As cs Ak ck,v=.agg #[.int .i64 p.task,.slice As p.side.length cs,.slice Ak p.kids.length ck]/\zg w ok (.slice As p.side.length cs) p.side:=by
 cases h with
 | mk h1 h2 _=>
  have o:=h1;obtain ⟨As,cs,rfl,-,-⟩:=h1;obtain ⟨Ak,ck,rfl,-,-⟩:=h2;exact ⟨As,cs,Ak,ck,rfl,o⟩
theorem prove1_calls {gt:Nat} {At:Option Addr} {ct tk:Nat} (x:Int) (w:World) (Q:w.cell? ⟨gs,5,none⟩=some (.slice At m.tasks.length ct)) (ht:w.cell? ⟨gt,0,none⟩=some (.int .i64 tk)) (E:Cv w ok (.slice At m.tasks.length ct) m.tasks) (I:Lens m) (o:tk<m.tasks.length):
  Calls Tryz.prog 172 #[.int .i64 x,.pointer (some ⟨gs,0,none⟩),.pointer (some ⟨gt,0,none⟩)] w fun e w'=>e=.returned (.bool (decide (x∈(m.tasks.getD tk ([],[])).2)))/\w=w':=by
 obtain ⟨bt,offt,sn,u1,u2,rfl,-,-,-,M,-,D⟩:=Bz E o;have O:=(I.tl _ (Fz o)).2;have G:(m.tasks.getD tk ([],[])).2=(m.tasks[tk]).2:=by rw [zgd o]
 rw [G];have J:=zh D;obtain ⟨Au,cu,rfl,-,-⟩:=D;have k0:(0:Int)<=(tk:Int):=by omega
 have k1:(tk:Int)<(m.tasks.length:Int):=by omega
 clear I E G
 go_enter Tryz.func172,Tryz.ntmps172
 go_wp2_with fail
 refine (Bo x w J.out (by omega)).mono ?_;rintro e w9 ⟨rfl,rfl⟩
 go_wp2_with fail
 go_ret;exact ⟨rfl,rfl⟩
theorem box3 (w:World) (a0 a1 a2:Value):za w (w.alloc (.cells #[a0,a1,a2] 41))/\
  (∀W,za (w.alloc (.cells #[a0,a1,a2] 41)) W->W.cell? ⟨w.heap.size,0,none⟩=some a0)/\(∀W,za (w.alloc (.cells #[a0,a1,a2] 41)) W->W.cell? ⟨w.heap.size,1,none⟩=some a1)/\(∀W,za (w.alloc (.cells #[a0,a1,a2] 41)) W->W.cell? ⟨w.heap.size,2,none⟩=some a2):=by
 have o:=ze.new w #[a0,a1,a2] 41 rfl;exact ⟨(za.refl w).alloc _,za.rule (o.cell (k:=0) rfl),za.rule (o.cell (k:=1) rfl),za.rule (o.cell (k:=2) rfl)⟩
theorem curT_le (o:AV m=0) (D:zw m ch):Bd m ch<=m.tasks.length:=by
 rcases cur_of o D with ⟨-,h⟩ | ⟨-,qs,a,h⟩
 ·omega
 ·have:=h.lt;have:=h.cur;omega
end
section
open Go.RowKit
attribute [local go_sem ↓] Go.wp_at_zero Go.wp_at_succ
attribute [local go_sem] Oper.semAt_some
mutual
def PT.Lens:PT->Prop
 | .node _ s ks=>s.length<=20000000000000/\ks.length<=20000000000000/\PT.LensL ks
def PT.LensL:List PT->Prop
 | []=>True
 | k :: ks=>k.Lens/\PT.LensL ks
end
theorem lensL_mem:∀{ks:List PT},PT.LensL ks->∀k∈ks,k.Lens
 | [],_,k,hk=>by cases hk
 | a :: ks,h,k,hk=>by
  unfold PT.LensL at h;rcases zaz.1 hk with rfl | hk
  ·exact h.1
  ·exact lensL_mem h.2 k hk
theorem size_mem:∀{ks:List PT},∀k∈ks,k.size<=PT.sizeL ks
 | [],k,hk=>by cases hk
 | a :: ks,k,hk=>by
  unfold PT.sizeL;rcases zaz.1 hk with rfl | hk
  ·omega
  ·have:=size_mem k hk;omega
theorem with_calls29 (n:Int) (w:World) (M:zg w okc vc ch) (hl:ch.length<=1000000000):
  Calls Tryz.prog 123 #[vc,.int .i64 n] w fun e w'=>∃v',e=.returned v'/\Mk w w' v' (ch++[n]):=by
 have V:=zh M;obtain ⟨A,c,rfl,hc,-⟩:=M
 go_enter Tryz.func123,Tryz.ntmps123
 go_upto_region 1 with fail
 go_wp2_with (at_builtin;refine Cb (ok:=okc) rfl _ _ _ rfl w.heap.size [] ch _ _ rfl rfl (Bw w w.heap.size (Fy _)) (V.out.below ((za.refl w).alloc _)) (by simp) (by simp;omega) ?_)
 intro v1 w1 D O I;have o:za w w1:=zK ((za.refl w).alloc _) O (by simp) (fun k hk=>Ad (Bw w w.heap.size (Fy _)) hk);have E:=zh D;obtain ⟨A1,n1,c1,rfl⟩:=AI D;have a0:=zh o;have G:Hid (w.heap.size<=w1.heap.size):=o.size;clear D O I o
 go_wp2_with (at_builtin;refine Cb (ok:=fun _=>True) rfl _ _ _ rfl w.heap.size ch [n] _ _ rfl rfl (E.out.ext ((za.refl w1).alloc (.cells #[.int .i64 n] 3))) (CB (zy w1 (.int .i64 n) 3 rfl)) (by have:=G.out;simp;omega) (by simp;omega) ?_)
 intro v2 w2 U Q J;have HM:Hid (Mk w w2 v2 (ch++[n])):=⟨U,zK (a0.out.alloc _) Q (by have:=G.out;simp;omega) (fun k hk=>Ad E.out hk)⟩;clear U Q J
 go_wp2_with fail
 go_ret;exact ⟨_,rfl,HM.out⟩
theorem kidsAt {A:Option Addr} {cs:List Value} (h:Ba w ok 3 A n cs) (G:k<n):∃b off,A=some ⟨b,off,none⟩/\w.cell? ⟨b,off+k*3,none⟩=some (cs.getD (k*3) undef)/\w.cell? ⟨b,off+k*3+1,none⟩=some (cs.getD (k*3+1) undef)/\w.cell? ⟨b,off+k*3+2,none⟩=some (cs.getD (k*3+2) undef):=by
 obtain ⟨I,o⟩:=h;obtain ⟨b,off,rfl,-,o⟩:=o (by omega);have D:∀j,j<cs.length->cs[j]?=some (cs.getD j undef):=fun j E=>by rw [Fw E,Fx,Fw E];rfl
 exact ⟨b,off,rfl,o _ _ (D _ (by omega)),by rw [Nat.add_assoc];exact o _ _ (D _ (by omega)),by rw [Nat.add_assoc];exact o _ _ (D _ (by omega))⟩
end
section
open Go.RowKit
theorem find_at {p:Nat->Bool} {c:Nat} (G:i<n) (hp:p (c+i)=true) (D:∀j,j<i->p (c+j)=false):((List.range n).map (c+·)).find? p=some (c+i):=by
 have h:List.range n=List.range i++([i]++(List.range (n - i - 1)).map (i+1+·)):=by
  have h1:n=(i+1)+(n - i - 1):=by omega
  conv=>lhs;rw [h1,List.range_add,List.range_succ,List.append_assoc]
 rw [h,za2,List.find?_append]
 have h0:((List.range i).map (c+·)).find? p=none:=by
  rw [List.find?_eq_none];intro x E;obtain ⟨j,o,rfl⟩:=zaA.1 E;rw [D j (zaB.1 o)];simp
 rw [h0];simp [hp]
theorem find_no {p:Nat->Bool} {c:Nat} (D:∀j,j<n->p (c+j)=false):((List.range n).map (c+·)).find? p=none:=by
 rw [List.find?_eq_none];intro x E;obtain ⟨j,o,rfl⟩:=zaA.1 E;rw [D j (zaB.1 o)];simp
theorem cutT_at (h0:Bd m ch<=t) (h1:t<m.tasks.length) (hp:offB m ch t=true) (o:∀j,Bd m ch<=j->j<t->offB m ch j=false):cutT m ch=some t:=by
 unfold cutT;have:=find_at (p:=offB m ch) (c:=Bd m ch) (n:=m.tasks.length - Bd m ch) (i:=t - Bd m ch) (by omega) (by rw [show Bd m ch+(t - Bd m ch)=t from by omega];exact hp) (fun j D=>o _ (by omega) (by omega));rw [this,show Bd m ch+(t - Bd m ch)=t from by omega]
theorem cutT_no (o:∀j,Bd m ch<=j->j<m.tasks.length->offB m ch j=false):cutT m ch=none:=by
 unfold cutT;exact find_no fun j D=>o _ (by omega) (by omega)
theorem proveP_end (h:m.tasks.length<=Bd m ch):zk m (f+1) ch k=(51,.zero,k):=by
 conv=>lhs;unfold zk
 rw [if_pos h]
theorem Ff (h:¬ m.tasks.length<=Bd m ch) (o:3000<k+1):zk m (f+1) ch k=(53,.zero,k+1):=by
 conv=>lhs;unfold zk
 rw [if_neg h,if_pos o]
theorem EI (h:¬ m.tasks.length<=Bd m ch) (D:¬ 3000<k+1) (o:cutT m ch=some t):zk m (f+1) ch k=(0,.node t (Dd m ch t) [],k+1):=by
 conv=>lhs;unfold zk
 rw [if_neg h,if_neg D,o]
theorem Fe (h:¬ m.tasks.length<=Bd m ch) (D:¬ 3000<k+1) (o:cutT m ch=none):zk m (f+1) ch k=if (Az (fun n k=>zk m f (ch++[n]) k) (AD m ch) (k+1) []).1=0 then (0,.node (Bd m ch) [] (Az (fun n k=>zk m f (ch++[n]) k) (AD m ch) (k+1) []).2.1,(Az (fun n k=>zk m f (ch++[n]) k) (AD m ch) (k+1) []).2.2) else ((Az (fun n k=>zk m f (ch++[n]) k) (AD m ch) (k+1) []).1,.zero,(Az (fun n k=>zk m f (ch++[n]) k) (AD m ch) (k+1) []).2.2):=by
 conv=>lhs;unfold zk
 rw [if_neg h,if_neg D,o]
theorem kidsR_more {f:Int->Nat->Int×PT×Nat} {n:Int} {acc:List PT} (h:(f n k).1=0):Az f (n :: l) k acc=Az f l (f n k).2.2 (acc++[(f n k).2.1]):=by
 conv=>lhs;unfold Az
 rw [if_pos h]
theorem kidsR_stop {f:Int->Nat->Int×PT×Nat} {n:Int} {acc:List PT} (h:(f n k).1≠0):Az f (n :: l) k acc=((f n k).1,[],(f n k).2.2):=by
 conv=>lhs;unfold Az
 rw [if_neg h]
theorem Ce.bound {w:World} {ok:Nat->Prop} {v:Value} {p:PT} (h:Ce w ok v p):Ce w (fun b=>ok b/\b<w.heap.size) v p:=by
 induction h with
 | mk h1 h2 _ ih=>exact .mk h1.bound (h2.bound (by decide)) ih
theorem own_chg {W W':World} {X:Nat->Prop} {B sz:Nat} {e:TypeId} {v:Value} {xs:List Value} (h:W.ownsRow B e sz v n xs) (o:zu X W W') (D:∀b,B<=b->¬ X b):W'.ownsRow B e sz v n xs:=by
 refine ⟨h.1,?_⟩;rcases h.2 with h | ⟨g,cap,cur,h1,h2,h3,h4⟩
 ·exact .inl h
 ·exact .inr ⟨g,cap,cur,h1,h2,(o.block g (zd h3) (D g h2)).trans h3,h4⟩
structure Ci (W:World) (B:Nat) (v:Value) (acc:List PT) (cs:List Value):Prop where
 own:W.ownsRow B 41 3 v acc.length cs
 each:∀(i:Nat) (hi:i<acc.length),Ce W (fun b=>B<=b/\v.ownBlock≠some b) (.agg #[cs.getD (i*3) undef,cs.getD (i*3+1) undef,cs.getD (i*3+2) undef]) acc[i]
section
variable {W W':World} {B lo:Nat} {v v':Value} {acc:List PT} {cs:List Value} {p:PT} {a b c:Value} {X:Nat->Prop}
theorem Ci.nil (W:World) (B:Nat):Ci W B (.slice none 0 0) [] []:=⟨World.ownsRow_nil _ _ _ _,fun i o=>absurd o (by simp)⟩
theorem Ci.chg (h:Ci W B v acc cs) (D:zu X W W') (E:∀b,B<=b->¬ X b):Ci W' B v acc cs:=
 ⟨own_chg h.own D E,fun i I=>(h.each i I).keepW (fun b G o=>D.block b o (E b G.1)) (fun _ h=>h)⟩
theorem Ci.lt (h:Ci W B v acc cs) (o:v.ownBlock=some k):B<=k/\k<W.heap.size:=by
 rcases h.own.2 with ⟨rfl,-⟩ | ⟨g,cap,cur,rfl,h1,h2,-⟩
 ·cases o
 ·have:g=k:=by simpa [Value.ownBlock] using o
  subst this;exact ⟨h1,zd h2⟩
theorem getD_left {l l2:List Value} (h:i<l.length):(l++l2).getD i undef=l.getD i undef:=by
 rw [Fx,Fx,FD h]
theorem Ci.app (h:Ci W B v acc cs) (hp:Ce W (fun b=>lo<=b) (.agg #[a,b,c]) p) (G:∀k,v.ownBlock=some k->k<lo) (hB:B<=lo) (U:W'.ownsRow B 41 3 v' (acc.length+1) (cs++[a,b,c])) (M:W.grownBy W' v.ownBlock)
  (V:v'.ownBlock=v.ownBlock\/v'.ownBlock=some W.heap.size):Ci W' B v' (acc++[p]) (cs++[a,b,c]):=by
 have D:cs.length=acc.length*3:=h.own.1
 have I:∀k,k<W.heap.size->v.ownBlock≠some k->v'.ownBlock≠some k:=fun k o h1=>by
  rcases V with h2 | h2
  ·rw [h2];exact h1
  ·rw [h2];intro e;injection e with e;omega
 refine ⟨by rw [FG];exact U,fun i O=>?_⟩;by_cases Q:i<acc.length
 ·rw [getD_left (by omega),getD_left (by omega),getD_left (by omega),List.getElem_append_left Q];exact (h.each i Q).bound.keepW (fun k o E=>M.block k E (fun e=>o.1.2 e.symm)) (fun k o=>⟨o.1.1,I k o.2 o.1.2⟩)
 ·have J:i=acc.length:=by rw [FG,zak] at O;omega
  subst J;have e0:(cs++[a,b,c]).getD (acc.length*3) undef=a:=by rw [Fx,FE (by omega),D,Nat.sub_self];rfl
  have e1:(cs++[a,b,c]).getD (acc.length*3+1) undef=b:=by rw [Fx,FE (by omega),D,Nat.add_sub_cancel_left];rfl
  have e2:(cs++[a,b,c]).getD (acc.length*3+2) undef=c:=by rw [Fx,FE (by omega),D,Nat.add_sub_cancel_left];rfl
  rw [e0,e1,e2];have:(acc++[p])[acc.length]'O=p:=by simp
  rw [this];exact hp.bound.keepW (fun k o E=>M.block k E (fun e=>by have:=G k e.symm;omega)) (fun k o=>⟨by omega,I k o.2 (fun e=>by have:=G k e;omega)⟩)
theorem Ci.kids (h:Ci W B v acc cs) (t:Int):Ce W (fun b=>B<=b) (.agg #[.int .i64 t,.slice none 0 0,v]) (.node t [] acc):=
 .mk (cs:=cs) (zg.nil _ _) (AS.of_own h.own) (fun i o=>(h.each i o).keepW (fun _ _ _=>rfl) (fun _ h=>h.1))
end
theorem zu.wide {X X':Nat->Prop} {a b:World} (h:zu X a b) (o:∀k,X k->X' k):zu X' a b:=⟨h.os,h.tape,h.output,h.size,fun b D E=>h.block b D fun e=>E (o b e)⟩
theorem zu.set {X:Nat->Prop} {a b:World} (h:zu X a b) (g k:Nat) (v:Value) (D:X g):zu X a (b.setCell ⟨g,k,none⟩ v):=
 ⟨h.os,h.tape,h.output,by simpa using h.size,fun i E o=>(FH b ⟨g,k,none⟩ v i (fun e=>o (by rw [e];exact D))).trans (h.block i E o)⟩
theorem zu.grown {X:Nat->Prop} {a b c:World} {r:Option Nat} (h:zu X a b) (o:b.grownBy c r) (G:∀k,r=some k->k<a.heap.size->X k):zu X a c:=
 ⟨o.os.trans h.os,o.tape.trans h.tape,o.output.trans h.output,FA h.size o.size,fun i D E=>(o.block i (zam D h.size) (fun e=>E (G i e.symm D))).trans (h.block i D E)⟩
theorem zu.blk {X:Nat->Prop} {a b:World} {t:TypeId} {cs:Array Value} (h:zu X a b) (o:ze a g t cs) (D:¬ X g):ze b g t cs:=(h.block g (zd o) D).trans o
theorem zu.cellk {X:Nat->Prop} {a b:World} {p:Addr} {v:Value} (h:zu X a b) (o:a.cell? p=some v) (D:¬ X p.block):b.cell? p=some v:=(En (h.block _ (zo o) D)).trans o
theorem za.cellB {W:World} {t:TypeId} {cs:Array Value} (o:za w W) (h:ze w g t cs):ze W g t cs:=h.ext o
theorem prove_err {F:Int->Nat->Int×PT×Nat} {n:Int} {L:List Int} {k0:Nat} {acc:List PT} (h:(F n k).1≠0) (o:Az F L k0 []=Az F (n :: l) k acc) {a:Int×PT×Nat} {b:PT×Nat}:(if (Az F L k0 []).1=0 then a else ((Az F L k0 []).1,b)).1=(F n k).1:=by
 rw [o,kidsR_stop h,if_neg h]
theorem prv_row1 {W:World} {a b c:Value} (o:ze W g 41 #[a,b,c]):AS W (fun _=>True) 3 (.slice (some ⟨g,0,none⟩) 1 1) 1 [a,b,c]:=
 ⟨_,1,rfl,Fy _,by simp,fun _=>⟨g,0,rfl,trivial,fun j u D=>by rw [Nat.zero_add];exact o.cell (by simpa using D)⟩⟩
end
section
open Go.RowKit Go.Shelf
attribute [local go_sem ↓] Go.wp_at_zero Go.wp_at_succ
theorem elsF_len:∀(f:Nat) (s:Rd) (l:List Int),(Bk f s l).2.1.length<=s.1.length
 | 0,s,l=>Fy _
 | f+1,s,l=>by
  unfold Bk
  split
  ·exact Fy _
  ·exact FA (elsF_len f _ _) (intF_len s).1
theorem intsF_len (s:Rd):(AJ s).2.1.length<=s.1.length:=by
 unfold AJ
 split
 ·simp
 ·have h:=elsF_len s.1.tail.length (s.1.tail,false) [];unfold intsE
  split
  ·simp
  ·simp only [List.length_tail] at h⊢;omega
def lv (s:Rd):Nat:=if s.2=true then 0 else s.1.length+1
theorem lv_ok (h:s.2=false):lv s=s.1.length+1:=by unfold lv;rw [h];rfl
theorem lv_dec {t:Rd} (h:t.2=false->t.1.length<s.1.length) (D:s.2=false):lv t<lv s:=by
 rw [lv_ok D];unfold lv
 split
 ·omega
 ·rename_i o
  have:=h (by simpa using o);omega
theorem var_new (h:zv w) {b:Nat} (o:w.heap.size<=b):¬ isVar b:=by
 rintro ⟨n,E,D⟩
 have f:∀cs,w.var? Tryz.prog n=some cs->False:=fun cs h=>by
  unfold World.var? at h;rw [D,Option.bind_some,Array.getElem?_eq_none o] at h;cases h
 rcases E with rfl | rfl | rfl
 ·exact f _ h.tab
 ·obtain ⟨tp,p,h⟩:=h.syn;exact f _ h
 ·obtain ⟨tp,p,h⟩:=h.rng;exact f _ h
mutual
def PT.wt:PT->Nat
 | .node _ s ks=>1+s.length+PT.wtL ks
def PT.wtL:List PT->Nat
 | []=>0
 | k :: ks=>k.wt+PT.wtL ks
end
theorem intF_lv (s:Rd):lv (Br s).2<=lv s - 1:=by
 cases o:s.2 with
 | true=>rw [intF_bad o];simp [lv]
 | false=>have:=lv_dec (intF_len s).2 o;omega
theorem elsF_lv:∀(f:Nat) (s:Rd) (l:List Int),(Bk f s l).1.length+lv (Bk f s l).2<=l.length+lv s/\((∀x∈l,Cz x)->∀x∈(Bk f s l).1,Cz x)
 | 0,s,l=>⟨Fy _,fun h=>h⟩
 | f+1,s,l=>by
  unfold Bk
  split
  ·exact ⟨Fy _,fun h=>h⟩
  ·rename_i o
   have D:s.2=false:=by
    cases h:s.2 with
    | false=>rfl
    | true=>exact absurd (.inl (by unfold AH;rw [h];rfl)) o
   obtain ⟨h1,h2⟩:=elsF_lv f (Br s).2 (l++[(Br s).1]);have h3:=intF_lv s;have h4:=lv_ok D;refine ⟨by rw [FG,zak] at h1;omega,fun h=>h2 fun x hx=>?_⟩;rcases za0.1 hx with hx | hx
   ·exact h x hx
   ·rw [zar.1 hx];exact Do s
theorem intsF_lv (s:Rd):(AJ s).1.length+lv (AJ s).2<=lv s/\∀x∈(AJ s).1,Cz x:=by
 unfold AJ
 split
 ·exact ⟨by simp [lv],fun x o=>by cases o⟩
 ·rename_i G
  have I:s.2=false:=by
   cases h:s.2 with
   | false=>rfl
   | true=>exact absurd (.inl (by unfold AH;rw [h];rfl)) G
  obtain ⟨h1,h2⟩:=elsF_lv s.1.tail.length (s.1.tail,false) [];have h0:lv (s.1.tail,false)<=lv s:=by rw [lv_ok I];simp [lv]
  unfold intsE
  split
  ·exact ⟨by simp [lv],fun x o=>by cases o⟩
  ·rename_i E
   have D:(Bk s.1.tail.length (s.1.tail,false) []).2.2=false:=by
    cases h:(Bk s.1.tail.length (s.1.tail,false) []).2.2 with
    | false=>rfl
    | true=>exact absurd (by unfold AH;rw [h];rfl) E
   have J:lv ((Bk s.1.tail.length (s.1.tail,false) []).2.1.tail,false)<=lv (Bk s.1.tail.length (s.1.tail,false) []).2:=by rw [lv_ok D];simp [lv]
   refine ⟨?_,h2 fun x o=>by cases o⟩;simp only [zaH,Nat.zero_add] at h1;show (Bk s.1.tail.length (s.1.tail,false) []).1.length+lv ((Bk s.1.tail.length (s.1.tail,false) []).2.1.tail,false)<=_;omega
end
section
open Go.RowKit
attribute [local go_sem ↓] Go.wp_at_zero Go.wp_at_succ
attribute [local go_sem] Oper.semAt_some
def Em (w:World) (gx:Nat) (r:Int×PT×Nat) (e:Ending) (w':World):Prop:=
 zu (fun b=>b=gx) w w'/\((r.1=0/\∃v,e=.returned v/\Ce w' (fun b=>w.heap.size<=b) v r.2.1/\ze w' gx 169 #[.int .i64 r.2.2])\/(r.1≠0/\e=.panicked [{ v:=.iface 42 (.int .i64 r.1),recovered:=false }]))
theorem BI {P:World->Prop} {W:World} {g2:Nat} {t:TypeId} {a0 a1 a2 z0 z1 z2:Value} (h:∀WZ,ze WZ g2 t #[a0,a1,a2]->Below g2 W WZ->(∀k,k<W.heap.size->k≠g2->WZ.heap[k]?=W.heap[k]?)->P WZ) (D:ze W g2 t #[z0,z1,z2]):
  P (((W.setCell ⟨g2,0,none⟩ a0).setCell ⟨g2,1,none⟩ a1).setCell ⟨g2,2,none⟩ a2):=
 h (setL g2 0 [a0,a1,a2] W) (setL_blk [a0,a1,a2] [z0,z1,z2] [] W rfl D) (Ea g2 _ 0 W) (fun k _ o=>Eb g2 k o _ 0 W)
theorem prove_fin {w4 w7 wk w5:World} {S:List Int} {tn c6:Nat} {A6:Option Addr} {zs:Array Value} (U:gs=w.heap.size) (V:gx<gs) (J:zu (fun b=>b=gx) w w4) (E:za w4 w7) (Q:ze w4 (gs+1) 41 zs) (M:ze w4 gx 169 #[.int .i64 ((k:Int)+1)])
  (o:Below (gs+1) w7 WZ) (D:∀k,k<w7.heap.size->k≠gs+1->WZ.heap[k]?=w7.heap[k]?) (hs:wk.heap.size<=w5.heap.size) (hk:w4.heap.size<=wk.heap.size) (hI:zg w7 (fun b=>w5.heap.size<=b) (.slice A6 S.length c6) S) (O:S=Dd m ch tn):
  Em w gx (0,.node tn (Dd m ch tn) [],k+1) (.returned (.agg #[.int .i64 tn,.slice A6 S.length c6,.slice none 0 0])) WZ:=by
 have hz:=zd Q;have hx:=zd M;have h4:=E.size;refine ⟨zu.trans J (zu.trans (zu.of_ext (X:=fun b=>b=gs+1) E) ⟨o.os,o.tape,o.output,o.size,fun b G hn=>D b G hn⟩ (fun _ _ h=>h)) (fun k h1 h2=>by omega),.inl ⟨rfl,_,rfl,?_,?_⟩⟩
 ·rw [<-O];exact .mk (cs:=[]) ((hI.keep (fun b G I=>D b I (by omega))).weaken (fun b G=>by have:=J.size;omega)) ⟨none,0,rfl,Fy _,Ba.nil _ _ _ _⟩ (fun i hi=>absurd hi (by simp))
 ·have h1:=M.ext E;have h2:ze WZ gx 169 #[.int .i64 ((k:Int)+1)]:=(D gx (zd h1) (by omega)).trans h1
  rwa [show ((k:Int)+1)=((k+1:Nat):Int) from by omega] at h2
theorem prove_fin2 {c kk:Nat} {vk:Value} {acc:List PT} {cs:List Value} (I:zu (fun b=>b=gx) w w6) (O:zu (fun b=>b=gx\/b=gp) w6 wr) (V:gp<w6.heap.size/\gx<gs/\gs+1<gp) (Q:gs=w.heap.size)
  (J:ze wr gx 169 #[.int .i64 kk]) (M:Ci wr w6.heap.size vk acc cs) (o:Below (gs+1) wr WZ) (D:∀k,k<wr.heap.size->k≠gs+1->WZ.heap[k]?=wr.heap[k]?):
  Em w gx (0,.node c [] acc,kk) (.returned (.agg #[.int .i64 c,.slice none 0 0,vk])) WZ:=by
 refine ⟨zu.trans (X':=fun b=>b=gx\/b=gp\/b=gs+1) I (zu.trans (O.wide (fun k h=>by omega)) (⟨o.os,o.tape,o.output,o.size,fun b E U=>D b E U⟩:zu (fun b=>b=gs+1) wr WZ) (fun k _ h=>.inr (.inr h))) (fun k h1 h2=>by omega),.inl ⟨rfl,_,rfl,?_,?_⟩⟩
 ·refine (M.kids c).keepW (fun b E G=>D b G (by omega)) fun b E=>?_;have:=I.size;omega
 ·exact (D gx (zd J) (by omega)).trans J
theorem prove_fin3 {w8:World} {r x:Int×PT×Nat} (E:zu (fun b=>b=gx) w w6) (G:zu (fun b=>b=gx\/b=gp) w6 wr) (J:gp<w6.heap.size/\gx<gs/\gs+1<gp) (I:gs=w.heap.size) (D:zu (fun b=>b=gx) wr w8) (o:x.1=r.1) (h:r.1≠0):
  Em w gx x (.panicked [{ v:=.iface 42 (.int .i64 r.1),recovered:=false }]) w8:=
 ⟨zu.trans E (zu.trans G (D.wide (X':=fun b=>b=gx\/b=gp) (fun k h=>.inl h)) (fun _ _ h=>h)) (fun k h1 h2=>by omega),.inr ⟨by rw [o];exact h,by rw [o]⟩⟩
theorem headP_len (o:Lens m) (ht:t<m.tasks.length):(Cx m ch t).length<=20000000000000:=by
 unfold Cx
 split
 ·cases ((zq m ch).getD t []).getLast? <;> simp
 ·refine FA (zan _ _) ?_;rw [Fx,Fw ht];have:=(o.tl _ (Fz ht)).1;show (m.tasks[t]).1.length<=_;omega
theorem prove_calls {m:MZ} {f u ts:Value} (hl:Lens m) (hc:AV m=0):
  ∀(fl:Nat) (ch:List Int) (k gx:Nat) (ok:Nat->Prop) (vc vp:Value) (w:World),PSt w ok m f u ts vc vp ch->zw m ch->m.n.toNat+2<=fl+ch.length->k<=3000->ze w gx 169 #[.int .i64 k]->(∀b,ok b->b≠gx)->
   Calls Tryz.prog 111 #[.pointer (some ⟨gx,0,none⟩),stv m f u ts vc vp (Bd m ch)] w (Em w gx (zk m fl ch k))
 | 0,ch,k,gx,ok,vc,vp,w,_,hi,hf,_,_,_=>by
  have:=hi.len (zZ.of hc);omega
 | fl+1,ch,k,gx,ok,vc,vp,w,h,hi,hf,hk,hx,p7=>by
  have H:=zh h;have HL:=zh hl;have HC:=zh hc;have HI:=zh hi;have HF:=zh hf;have HK:=zh hk;have HX:=zh hx;have i7:=zh p7;have IH:=zh (prove_calls (f:=f) (u:=u) (ts:=ts) hl hc fl);obtain ⟨Af,cf,Au,cu,At,ct,Ac,cc,Ap,cp,rfl,rfl,rfl,rfl,rfl,-,-⟩:=h.parts;obtain ⟨PL,hP⟩:=zaI ((zq m ch).length);rw [<-hP] at H⊢;clear h hl hc hi hP hf hk p7;obtain ⟨c,k7⟩:=zaI (Bd m ch);rw [<-k7];have a0:=zh k7;clear k7 hx;unfold stv
  go_enter Tryz.func111,Tryz.ntmps111
  go_upto_region 1 with fail;have g1:=ze.new w #[.int .i64 m.w,.int .i64 m.h,.int .i64 m.l,.slice Af m.free.length cf,.slice Au m.up.length cu,.slice At m.tasks.length ct,.slice Ac ch.length cc,.slice Ap PL cp,.int .i64 c] 107 (g:=w.heap.size) rfl;have g8:za w (w.alloc (.cells #[.int .i64 m.w,.int .i64 m.h,.int .i64 m.l,.slice Af m.free.length cf,.slice Au m.up.length cu,.slice At m.tasks.length ct,.slice Ac ch.length cc,.slice Ap PL cp,.int .i64 c] 107)):=(za.refl w).alloc _;have f2:(w.alloc (.cells #[.int .i64 m.w,.int .i64 m.h,.int .i64 m.l,.slice Af m.free.length cf,.slice Au m.up.length cu,.slice At m.tasks.length ct,.slice Ac ch.length cc,.slice Ap PL cp,.int .i64 c] 107)).heap.size=w.heap.size+1:=by simp
  generalize w.alloc _=w1 at g1 g8 f2⊢;have o:=ze.new w1 #[.int .i64 0,.slice none 0 0,.slice none 0 0] 41 (g:=w1.heap.size) rfl;have e9:za w1 (w1.alloc (.cells #[.int .i64 0,.slice none 0 0,.slice none 0 0] 41)):=(za.refl w1).alloc _;generalize w1.alloc _=w2 at o e9⊢;rw [f2] at o;obtain ⟨gs,g9⟩:=zaI w.heap.size;rw [<-g9] at g1 o⊢;have d9:Hid (gs=w.heap.size):=g9;have e0:Hid (gx<gs):=by show _<_;rw [g9];exact zd HX.out
  have HZ:=zh o;have U:=zh (g1.ext e9);have t3:=zh ((HX.out.ext g8).ext e9);have f8:=zh (g8.trans e9);clear g1 g8 f2 o e9 g9;have c0:=U.out.cell (k:=0) rfl;have c1:=U.out.cell (k:=1) rfl;have c2:=U.out.cell (k:=2) rfl;have c3:=U.out.cell (k:=3) rfl;have c4:=U.out.cell (k:=4) rfl;have c5:=U.out.cell (k:=5) rfl;have c6:=U.out.cell (k:=6) rfl;have c7:=U.out.cell (k:=7) rfl;have c8:=U.out.cell (k:=8) rfl;have m0:Hid (Calls Tryz.prog 131 #[.agg #[.int .i64 m.w,.int .i64 m.h,.int .i64 m.l,.slice Af m.free.length cf,.slice Au m.up.length cu,.slice At m.tasks.length ct,.slice Ac ch.length cc,.slice Ap PL cp,.int .i64 c]] w2 fun e w'=>e=.returned (.bool (decide ((m.tasks.length:Int)<=(c:Int))))/\za w2 w'):=pcomplete_calls c w2 (H.out.more f8.out)
  go_wp2_with fail
  refine m0.out.mono ?_;rintro e w3 ⟨rfl,n5⟩;have d5:=zh n5;clear n5 c0 c1 c2 c3 c4 c5 c6 c7 c8 m0;by_cases i0:m.tasks.length<=c
  ·have hd:decide ((m.tasks.length:Int)<=(c:Int))=true:=FB (by omega);rw [hd]
   go_wp2_with fail
   refine ⟨rfl,?_⟩;have hp:zk m (fl+1) ch k=(51,.zero,k):=proveP_end (by rw [<-a0.out];exact i0);rw [hp];exact ⟨zu.of_ext (f8.out.trans d5.out),.inr ⟨by simp,rfl⟩⟩
  ·have hd:decide ((m.tasks.length:Int)<=(c:Int))=false:=FC (by omega);rw [hd];have a6:Hid (¬ m.tasks.length<=Bd m ch):=by show ¬ _;rw [<-a0.out];exact i0
   have e6:=zh (t3.out.ext d5.out);have x0:w3.cell? ⟨gx,0,none⟩=some (.int .i64 k):=e6.out.cell (k:=0) rfl;have t9:=e6.out.frozen 0;have v8:IntKind.i64.wrap ((k:Int)+1)=(k:Int)+1:=by rw [zag];have:=HK.out;omega
   clear hd;go_upto_region 4 with fail;have j9:=e6.out.set (k:=0) (.int .i64 ((k:Int)+1));have a7:=(U.out.ext d5.out).setOther (a:=⟨gx,0,none⟩) (by have:=e0.out;show gs≠gx;omega) (.int .i64 ((k:Int)+1));have k6:=(HZ.out.ext d5.out).setOther (a:=⟨gx,0,none⟩) (by have:=e0.out;show gs+1≠gx;omega) (.int .i64 ((k:Int)+1));have g7:Ao (fun b=>b≠gx) w3 (w3.setCell ⟨gx,0,none⟩ (.int .i64 ((k:Int)+1))):=fun b hb _=>FH w3 ⟨gx,0,none⟩ _ b hb
   have j5:zu (fun b=>b=gx) w (w3.setCell ⟨gx,0,none⟩ (.int .i64 ((k:Int)+1))):=zu.trans (zu.of_ext (X:=fun b=>b=gx) (f8.out.trans d5.out)) ⟨rfl,rfl,rfl,by simp,fun b _ hb=>FH w3 ⟨gx,0,none⟩ _ b hb⟩ (fun _ _ h=>h);generalize w3.setCell ⟨gx,0,none⟩ (.int .i64 ((k:Int)+1))=w4 at j9 a7 k6 g7 j5⊢;have b1:Hid (ze w4 gx 169 #[.int .i64 ((k:Int)+1)]):=j9;have f3:=zh a7;have d6:=zh k6;have y3:=zh g7;have J:=zh j5;have i9:Hid (PSt w4 ok m (.slice Af m.free.length cf) (.slice Au m.up.length cu) (.slice At m.tasks.length ct) (.slice Ac ch.length cc) (.slice Ap PL cp) ch):=((H.out.more f8.out).more d5.out).keep (fun b hb I=>g7 b (i7.out b hb) I);have y0:w4.cell? ⟨gx,0,none⟩=some (.int .i64 ((k:Int)+1)):=b1.out.cell (k:=0) rfl;clear j9 a7 k6 g7 j5 x0 t9;by_cases a5:3000<k+1
   ·have p5:(3000:Int)<(k:Int)+1:=by omega
    go_wp2_with fail
    refine ⟨rfl,?_⟩;rw [Ff a6.out a5];exact ⟨J.out,.inr ⟨by simp,rfl⟩⟩
   ·have p5:¬ ((3000:Int)<(k:Int)+1):=by omega
    have c8:=f3.out.cell (k:=8) rfl;go_upto_region 7 with fail;have j3:Hid (ze (w4.alloc (.cells #[.int .i64 c] 3)) w4.heap.size 3 #[.int .i64 c]):=ze.new _ _ _ rfl;have D:Hid (za w4 (w4.alloc (.cells #[.int .i64 c] 3))):=(za.refl w4).alloc _;generalize w4.alloc _=w5 at j3 D⊢;have q9:Hid (c<=m.tasks.length):=by show _<=_;have:=a6.out;have:=a0.out;omega
    have e4:Hid (m.tasks.length<=6/\ch.length<=300):=⟨(Cp HC.out HI.out).2.1,(Cp HC.out HI.out).2.2.1⟩;clear y0 c8 v8 p5;go_loopw [5] (fun v wr=>∃tn g5:Nat,v=.pointer (some ⟨g5,0,none⟩)/\c<=tn/\tn<=m.tasks.length/\Hid (∀j,c<=j->j<tn->offB m ch j=false)/\Hid (w4.heap.size<=g5)/\Hid (ze wr g5 3 #[.int .i64 tn])/\Hid (za w4 wr)) (fun v wr=>match v with | .pointer (some a)=>(match wr.cell? a with | some (.int _ i)=>m.tasks.length - i.toNat | _=>0) | _=>0)
    case atStart=>exact ⟨c,w4.heap.size,rfl,Fy _,q9.out,fun j h1 h2=>(by omega),Fy _,j3.out,D.out⟩
    clear j3 D
    case round=>
     obtain ⟨tn,g5,rfl,l6,w0,a3,b5,o4,hE⟩:=hrel;obtain ⟨wk,rfl⟩:∃wk:World,wk=wr:=⟨_,rfl⟩;have V:=zh (f3.out.ext hE.out);have b0:=zh (i9.out.more hE.out);have ct0:wk.cell? ⟨g5,0,none⟩=some (.int .i64 tn):=o4.out.cell (k:=0) rfl;have r0:=za.rule (V.out.cell (k:=0) rfl);have r1:=za.rule (V.out.cell (k:=1) rfl);have r2:=za.rule (V.out.cell (k:=2) rfl);have r3:=za.rule (V.out.cell (k:=3) rfl);have r4:=za.rule (V.out.cell (k:=4) rfl);have r5:=za.rule (V.out.cell (k:=5) rfl);have r6:=za.rule (V.out.cell (k:=6) rfl);have r7:=za.rule (V.out.cell (k:=7) rfl);have r8:=za.rule (V.out.cell (k:=8) rfl);have rt:=za.rule ct0;have y9:za wk wk:=za.refl wk;by_cases I:tn<m.tasks.length
     ·have i1:(tn:Int)<(m.tasks.length:Int):=by omega
      go_upto_region 9 with fail;refine zab (S:=(fun W=>za wk W)) zG ((za.refl wk).drew) fun zH=>?_;have j7:za wk wk.drew:=zH;have s2:Hid ((Cx m ch tn).length<=20000000000000):=headP_len HL.out I;generalize wk.drew=wd at zH j7⊢;refine zi 0 zH ?_;refine zi 1 zH ?_;simp only [zc,Fv];refine zi 2 zH ?_;refine zi 3 zH ?_;simp only [zc,Fv];refine zi 4 zH ?_;refine zi 6 zH ?_;simp only [zc,Fv];refine zi 7 zH ?_;simp only [zc,Fv];refine BO 5 fun K O=>?_;go_simp;go_at_call 171;refine (phead_calls c tn wd (b0.out.more j7) HL.out HC.out HI.out I).mono ?_;rintro e w5 ⟨v5,rfl,b2,n6⟩;have D:Hid (za wk w5):=j7.trans b2;have s3:=zh n6;obtain ⟨A5,c5,rfl,-,-⟩:=n6;clear b2;refine zaJ O (D.out) fun zH=>?_;clear O K;try simp only [zc,Fv]
      refine BO 8 fun K O=>?_;go_simp;go_at_call 170;refine (rReach_calls tn w5 (b0.out.more D.out).maze HL.out s3.out s2.out (b0.out.more D.out).chs (by have:=e4.out;omega)).mono ?_;rintro e w6 ⟨v6,rfl,b4⟩;have M:Hid (za wk w6):=D.out.trans b4.ext;have a9:Hid (zg w6 (fun b=>w5.heap.size<=b) v6 (Dd m ch tn)):=b4.ints;obtain ⟨A6,c6,rfl,-,-⟩:=a9.out;clear b4;refine zaJ O (M.out) fun zH=>?_;clear O K;try simp only [zc,Fv]
      refine BO 9 fun K O=>?_;go_simp;refine zaJ O (M.out) fun zH=>?_;clear O K;try simp only [zc,Fv]
      refine zao (by kernel_rfl) ?_ _;have h5:=M.out;have y7:∀(fn:Fn) (first cap:Array Value) (w:World),(Instr.makeFunc fn first cap).run Tryz.prog w=.ok (.func fn first cap) w:=fun _ _ _ _=>rfl
      have n0:Hid ((Dd m ch tn).length<=20000000000000):=by show _<=_;rw [sideP_eq HC.out I];exact reachL_le _ _ _ _ (zZ.of HC.out)
      obtain ⟨S,hS⟩:=zaI (Dd m ch tn);rw [<-hS] at a9 n0⊢;have j2:=zh hS;clear hS
      have t2:Hid (∀x W,za w6 W->Calls Tryz.prog 172 #[.int .i64 x,.pointer (some ⟨gs,0,none⟩),.pointer (some ⟨g5,0,none⟩)] W fun e w'=>e=.returned (.bool (decide (x∈(m.tasks.getD tn ([],[])).2)))/\W=w'):=fun x W hW=>by
       obtain ⟨_,_,_,_,_,_,_,_,_,_,_,_,e,_,_,_,w8⟩:=(b0.out.more (h5.trans hW)).parts;injection e with e1 e2 e3;subst e1 e3;exact prove1_calls x W (r5 W (h5.trans hW)) (rt W (h5.trans hW)) w8 HL.out I
      have x9:Hid (∀W,za wk W->W.cell? ⟨g5,0,none⟩=some (.int .i64 tn)):=rt;have x8:Hid (∀W,za wk W->W.cell? ⟨gs,8,none⟩=some (.int .i64 c)):=r8
      go_wp2_with fail
      refine (BC 172 #[.pointer (some ⟨gs,0,none⟩),.pointer (some ⟨g5,0,none⟩)] (fun x=>decide (x∈(m.tasks.getD tn ([],[])).2)) w6 a9.out n0.out (BT (P:=Tryz.prog) Tryz.func172 (by kernel_rfl) (by kernel_rfl)) (fun x _ W hW=>(t2.out x W hW.ext).mono (fun e w' ⟨h1,h2⟩=>⟨h1,by rw [h2];exact zT.refl _⟩))).mono ?_;rintro e w7 ⟨rfl,k9⟩;have r9:Hid (za wk w7):=M.out.trans k9.ext;have a2:=r9.out;have m3:=zh (a9.out.below k9.ext);obtain ⟨b,hb⟩:=zaI (S.any fun x=>decide (x∈(m.tasks.getD tn ([],[])).2))
      rw [<-hb]
      have f6:Hid (offB m ch tn=(!b && (decide (S≠[]) || decide (c<tn)))):=by
       show _=_;unfold offB;rw [hb,j2.out,a0.out]
      clear hb k9 h5;have ct8:=rt w7 a2;have z8:=a2
      cases b with
      | true=>
       have a4:Hid (offB m ch tn=false):=by show _=_;rw [f6.out];rfl
       have HN:Hid (∀j,c<=j->j<tn+1->offB m ch j=false):=fun j h1 h2=>by
        rcases zah j tn with h | h
        ·exact a3.out j h1 h
        ·obtain rfl:j=tn:=by omega
         exact a4.out
       have w9:IntKind.i64.wrap ((tn:Int)+1)=(tn:Int)+1:=by rw [zag];have:=e4.out;omega
       clear a4
       go_wp2_with fail
       have f0:ze (w7.alloc (.cells #[.int .i64 ((tn:Int)+1)] 3)) w7.heap.size 3 #[.int .i64 ((tn+1:Nat):Int)]:=by have h:=ze.new w7 #[.int .i64 ((tn:Int)+1)] 3 (g:=w7.heap.size) rfl;rwa [show ((tn:Int)+1)=((tn+1:Nat):Int) from by omega] at h⊢
       have i2:=zh f0;have j6:=zh ((hE.out.trans a2).alloc (.cells #[.int .i64 ((tn:Int)+1)] 3));have l4:Hid (w4.heap.size<=w7.heap.size):=(hE.out.trans a2).size;have k8:Hid ((w7.alloc (.cells #[.int .i64 ((tn:Int)+1)] 3)).cell? ⟨w7.heap.size,0,none⟩=some (.int .i64 ((tn:Int)+1))):=zy _ _ _ rfl;have f1:Hid (wk.cell? ⟨g5,0,none⟩=some (.int .i64 tn)):=ct0;clear f0;go_roundw
       case rel=>exact ⟨tn+1,w7.heap.size,rfl,by omega,by omega,HN,l4,i2,j6⟩
       case measure=>
        simp only [k8.out,f1.out];omega
      | false=>
       by_cases hs:0<S.length
       ·have f2:(0:Int)<(S.length:Int):=by omega
        have a4:Hid (offB m ch tn=true):=by
         show _=_;rw [f6.out,FB (by rintro rfl;simp at hs:S≠[])];rfl
        have ct7:=ct8;have o:ze w7 (gs+1) 41 #[.int .i64 0,.slice none 0 0,.slice none 0 0]:=(d6.out.ext hE.out).ext a2;have z0:=o.cell (k:=0) rfl;have z1:=o.cell (k:=1) rfl;have z2:=o.cell (k:=2) rfl;have hfz:∀j,w7.frozen? ⟨gs+1,j,none⟩=false:=fun j=>o.frozen j
        have d8:=zh o;clear o
        go_wp2_with fail
        refine BI (P:=fun W=>bodyPost Tryz.prog Tryz.f111 _ Exit.ret _ W) (g2:=gs+1) ?_ d8.out;intro WZ Q e7 d7;have y0:=Q.cell (k:=0) rfl;have y1:=Q.cell (k:=1) rfl;have y2:=Q.cell (k:=2) rfl;refine za5 (v:=.agg #[.int .i64 tn,.slice A6 S.length c6,.slice none 0 0]) (by simp [results,Tryz.results111,go_sem,y0,y1,y2]) rfl ?_;rw [EI a6.out a5 (cutT_at (by rw [<-a0.out];exact l6) I a4.out (fun j h1 h2=>a3.out j (by rw [a0.out];exact h1) h2))];exact prove_fin d9.out e0.out J.out (hE.out.trans a2) d6.out b1.out e7 d7 D.out.size hE.out.size m3.out j2.out
       ·have f2:¬ ((0:Int)<(S.length:Int)):=by omega
        have l5:S=[]:=zac (by omega);by_cases o6:c<tn
        ·have o7:(c:Int)<(tn:Int):=by omega
         have a4:Hid (offB m ch tn=true):=by
          show _=_;rw [f6.out,FB o6,Bool.or_true];rfl
         clear l5;have ct7:=ct8;have o:ze w7 (gs+1) 41 #[.int .i64 0,.slice none 0 0,.slice none 0 0]:=(d6.out.ext hE.out).ext a2;have z0:=o.cell (k:=0) rfl;have z1:=o.cell (k:=1) rfl;have z2:=o.cell (k:=2) rfl;have hfz:∀j,w7.frozen? ⟨gs+1,j,none⟩=false:=fun j=>o.frozen j
         have d8:=zh o;clear o
         go_wp2_with fail
         refine BI (P:=fun W=>bodyPost Tryz.prog Tryz.f111 _ Exit.ret _ W) (g2:=gs+1) ?_ d8.out;intro WZ Q e7 d7;have y0:=Q.cell (k:=0) rfl;have y1:=Q.cell (k:=1) rfl;have y2:=Q.cell (k:=2) rfl;refine za5 (v:=.agg #[.int .i64 tn,.slice A6 S.length c6,.slice none 0 0]) (by simp [results,Tryz.results111,go_sem,y0,y1,y2]) rfl ?_;rw [EI a6.out a5 (cutT_at (by rw [<-a0.out];exact l6) I a4.out (fun j h1 h2=>a3.out j (by rw [a0.out];exact h1) h2))];exact prove_fin d9.out e0.out J.out (hE.out.trans a2) d6.out b1.out e7 d7 D.out.size hE.out.size m3.out j2.out
        ·have o7:¬ ((c:Int)<(tn:Int)):=by omega
         have a4:Hid (offB m ch tn=false):=by
          show _=_;rw [f6.out,FC (by simp [l5]),FC o6];rfl
         clear l5
         have HN:Hid (∀j,c<=j->j<tn+1->offB m ch j=false):=fun j h1 h2=>by
          rcases zah j tn with h | h
          ·exact a3.out j h1 h
          ·obtain rfl:j=tn:=by omega
           exact a4.out
         have w9:IntKind.i64.wrap ((tn:Int)+1)=(tn:Int)+1:=by rw [zag];have:=e4.out;omega
         clear a4
         go_wp2_with fail
         have f0:ze (w7.alloc (.cells #[.int .i64 ((tn:Int)+1)] 3)) w7.heap.size 3 #[.int .i64 ((tn+1:Nat):Int)]:=by have h:=ze.new w7 #[.int .i64 ((tn:Int)+1)] 3 (g:=w7.heap.size) rfl;rwa [show ((tn:Int)+1)=((tn+1:Nat):Int) from by omega] at h⊢
         have i2:=zh f0;have j6:=zh ((hE.out.trans a2).alloc (.cells #[.int .i64 ((tn:Int)+1)] 3));have l4:Hid (w4.heap.size<=w7.heap.size):=(hE.out.trans a2).size;have k8:Hid ((w7.alloc (.cells #[.int .i64 ((tn:Int)+1)] 3)).cell? ⟨w7.heap.size,0,none⟩=some (.int .i64 ((tn:Int)+1))):=zy _ _ _ rfl;have f1:Hid (wk.cell? ⟨g5,0,none⟩=some (.int .i64 tn)):=ct0;clear f0;go_roundw
         case rel=>exact ⟨tn+1,w7.heap.size,rfl,by omega,by omega,HN,l4,i2,j6⟩
         case measure=>
          simp only [k8.out,f1.out];omega
     ·have i1:¬ ((tn:Int)<(m.tasks.length:Int)):=by omega
      have m1:Hid (cutT m ch=none):=cutT_no (fun j h1 h2=>a3.out j (by rw [a0.out];exact h1) (by omega));have f4:=zh hE.out;clear a3 b5 o4 l6 w0 I hE;go_upto_region 15 with fail;have g3:=ze.new wk #[.int .i64 c,.slice none 0 0,.slice none 0 0] 41 (g:=wk.heap.size) rfl;have b2:za wk (wk.alloc (.cells #[.int .i64 c,.slice none 0 0,.slice none 0 0] 41)):=(za.refl wk).alloc _;generalize wk.alloc _=w5 at g3 b2⊢;obtain ⟨gp,l0⟩:=zaI wk.heap.size;rw [<-l0] at g3⊢;have t7:Hid (gs+1<gp):=by show _<_;rw [l0];exact zam (zd d6.out) f4.out.size
      have l8:=zh g3;have D:=zh b2;have x1:=b2;clear g3 l0 b2
      go_wp2_with fail
      refine (rCandidates_calls w5 (b0.out.more D.out).maze HL.out (b0.out.more D.out).chs (by have:=e4.out;omega)).mono ?_;rintro e w6 ⟨v6,rfl,b4⟩;have n7:(AD m ch).length<=400000000000:=by unfold AD;split;exact Dv HL.out ch;simp
      have m8:Hid (∀n∈AD m ch,zw m (ch++[n])):=fun n hn=>by
       have:AD m ch=Bn m ch:=by unfold AD;rw [if_pos (okC_of HC.out HI.out)]
       rw [this] at hn;exact .snoc HI.out hn
      have a9:=zh b4.ints;have M:=zh b4.ext;have f7:Hid (zk m (fl+1) ch k=if (Az (fun n k=>zk m fl (ch++[n]) k) (AD m ch) (k+1) []).1=0 then (0,.node (Bd m ch) [] (Az (fun n k=>zk m fl (ch++[n]) k) (AD m ch) (k+1) []).2.1,(Az (fun n k=>zk m fl (ch++[n]) k) (AD m ch) (k+1) []).2.2) else ((Az (fun n k=>zk m fl (ch++[n]) k) (AD m ch) (k+1) []).1,.zero,(Az (fun n k=>zk m fl (ch++[n]) k) (AD m ch) (k+1) []).2.2)):=Fe a6.out a5 m1.out;obtain ⟨L,hL⟩:=zaI (AD m ch);rw [<-hL] at m8 a9 f7 n7;clear b4 hL;obtain ⟨F,hF⟩:∃F:Int->Nat->Int×PT×Nat,F=fun n k=>zk m fl (ch++[n]) k:=⟨_,rfl⟩
      rw [<-hF] at f7;have s0:=zh hF;clear hF x1 ct0 rt r0 r1 r2 r3 r4 r5 r6 r7 r8 i1;obtain ⟨AL,cL,rfl,-,p8⟩:=a9.out;have t1:=zh p8;clear p8
      have t5:Hid (ze w6 gx 169 #[.int .i64 ((k+1:Nat):Int)]):=by
       have h:=((b1.out.ext f4.out).ext D.out).ext M.out
       rwa [show ((k:Int)+1)=((k+1:Nat):Int) from by omega] at h
      have q8:=zh ((V.out.ext D.out).ext M.out);have m9:=zh (l8.out.ext M.out);have t6:=zh (((d6.out.ext f4.out).ext D.out).ext M.out);have y4:=zh ((b0.out.more D.out).more M.out);have f9:Hid (zu (fun b=>b=gx) w w6):=J.out.trans (zu.of_ext (X:=fun b=>b=gx) ((f4.out.trans D.out).trans M.out)) (fun _ _ h=>h);have E:Hid (gp<w6.heap.size/\gx<gs/\gs+1<gp):=⟨zd m9.out,e0.out,t7.out⟩
      go_wp2_with fail
      have n8:=n7;have s4:Hid (k+1<=3000):=by show _<=_;omega
      have s5:Hid (Ci w6 w6.heap.size (.slice none 0 0) [] []):=Ci.nil _ _;clear n8;go_loopw [73] (fun v wr=>∃(j kk:Nat) (acc:List PT) (vk:Value) (cs:List Value),v=.int .i64 j/\j<=L.length/\Hid (acc.length=j)/\Hid (kk<=3000)/\Hid (Az F L (k+1) []=Az F (L.drop j) kk acc)/\Hid (zu (fun b=>b=gx\/b=gp) w6 wr)/\Hid (ze wr gx 169 #[.int .i64 kk])/\Hid (ze wr gp 41 #[.int .i64 c,.slice none 0 0,vk])/\Hid (Ci wr w6.heap.size vk acc cs)) (fun v _=>L.length - (intOf v).toNat)
      case atStart=>exact ⟨0,k+1,[],.slice none 0 0,[],rfl,FN _,rfl,s4.out,rfl,zu.refl _ _,t5.out,m9.out,s5.out⟩
      case round=>
       obtain ⟨j,kk,acc,vk,cs,rfl,hj,e8,d7,l1,G,k5,a8,b3⟩:=hrel;obtain ⟨wk',rfl⟩:∃wk':World,wk'=wr:=⟨_,rfl⟩;by_cases b9:j<L.length
       ·have y6:(0:Int)<=(j:Int):=by omega
        have v7:(j:Int)<(L.length:Int):=by omega
        obtain ⟨bl,offl,rfl,o3,h9⟩:=Ai t1.out b9 b9;have x5:Hid (w5.heap.size<=bl):=o3;have s1:Hid (gp<w5.heap.size):=zd l8.out;have o5:wk'.cell? ⟨bl,offl+j,none⟩=some (.int .i64 L[j]):=G.out.cellk h9 (by have:=E.out;have:=s1.out;show ¬ (bl=gx\/bl=gp);omega);have f5:Hid (zw m (ch++[L[j]])):=m8.out _ (Fz b9);have i4:Hid (L.drop j=L[j] :: L.drop (j+1)):=List.drop_eq_getElem_cons b9;obtain ⟨n,hn⟩:=zaI (L[j]);rw [<-hn] at o5 f5 i4;have a1:=q8.out
        have t0:Hid (PSt wk' ok m (.slice Af m.free.length cf) (.slice Au m.up.length cu) (.slice At m.tasks.length ct) (.slice Ac ch.length cc) (.slice Ap PL cp) ch):=H.out.keep (fun b hb I=>by
         have h1:=i7.out b hb;have h2:=E.out;have h3:=d9.out;exact (G.out.block b (zam I f9.out.size) (by omega)).trans (f9.out.block b I h1))
        have rul:∀{i:Nat} {v:Value},w6.cell? ⟨gs,i,none⟩=some v->∀W,zu (fun b=>b=gx\/b=gp) w6 W->W.cell? ⟨gs,i,none⟩=some v:=fun h W hW=>hW.cellk h (by have:=E.out;show ¬ (gs=gx\/gs=gp);omega)
        have r0:=rul (a1.cell (k:=0) rfl);have r1:=rul (a1.cell (k:=1) rfl);have r2:=rul (a1.cell (k:=2) rfl);have r3:=rul (a1.cell (k:=3) rfl);have r4:=rul (a1.cell (k:=4) rfl);have r5:=rul (a1.cell (k:=5) rfl);have r6:=rul (a1.cell (k:=6) rfl);have r7:=rul (a1.cell (k:=7) rfl);have r8:=rul (a1.cell (k:=8) rfl);obtain ⟨wq,rfl⟩:∃wq:World,wq=wk':=⟨_,rfl⟩;clear rul a1 h9 o3 hn;go_upto_region 18 with fail;clear o5;refine Cj fun Q' hP o0=>?_;refine zB (S:=(fun W=>zu (fun b=>b=gx\/b=gp) w6 W/\W.cell? ⟨gp,2,none⟩=some vk)) zG (⟨zu.trans G.out (zu.of_ext (X:=fun b=>b=gx\/b=gp) (za.refl wq).drew) (fun _ _ h=>h),zu.cellk (zu.of_ext (X:=fun b=>b=gx) (za.refl wq).drew) (a8.out.cell (k:=2) rfl) (by have:=E.out;show ¬ (gp=gx);omega)⟩) fun zH=>?_;have g0:Hid (za wq wq.drew):=(za.refl wq).drew;generalize wq.drew=wd at zH g0⊢;refine AQ 0 hP zH ?_;simp only [zc,Fv];refine AQ 1 hP zH ?_;simp only [zc,Fv];refine AQ 2 hP zH ?_;simp only [zc,Fv];refine AQ 3 hP zH ?_;simp only [zc,Fv];refine AQ 4 hP zH ?_;simp only [zc,Fv];refine EM 5 fun K O=>?_;go_simp;go_at_call 134;refine (pnext_calls c n wd (t0.out.more g0.out) HL.out HC.out f5.out e4.out.2).mono ?_;rintro e w2 ⟨vc2,vp2,rfl,n4,n9⟩;have c9:Hid (za wq w2):=g0.out.trans n4;have s8:=zh n9;clear n4 n9;go_simp;refine O.out _ _ (⟨zu.trans G.out (zu.wide (zu.of_ext (X:=fun b=>b=gx) c9.out) (X':=fun b=>b=gx\/b=gp) (fun k h=>.inl h)) (fun _ _ h=>h),zu.cellk (zu.of_ext (X:=fun b=>b=gx) c9.out) (a8.out.cell (k:=2) rfl) (by have:=E.out;show ¬ (gp=gx);omega)⟩) fun zH=>?_;clear O K;try simp only [zc,Fv]
        refine EM 6 fun K O=>?_;go_simp;go_at_call 111;refine (IH.out (ch++[n]) kk gx _ vc2 vp2 w2 s8.out f5.out (by have:=HF.out;rw [FG,zak];omega) d7.out (c9.out.cellB k5.out) (fun b hb=>by have h1:=i7.out;have h2:=g0.out.size;have h3:=zd k5.out;rcases hb with hb | hb;exact h1 b hb;omega)).mono ?_;obtain ⟨r3,l3⟩:∃r:Int×PT×Nat,r=zk m fl (ch++[n]) kk:=⟨_,rfl⟩;rw [<-l3];have j1:=zh l3;have b6:Hid (F n kk=r3):=by (show _=_);rw [s0.out];exact j1.out.symm
        clear l3;rintro e w3 ⟨j4,(⟨h0,v3,rfl,j8,o1⟩ | ⟨h0,rfl⟩)⟩
        rotate_left
        ·subst o0;go_wp2;refine ⟨rfl,?_⟩;exact prove_fin3 (x:=zk m (fl+1) ch k) f9.out G.out E.out d9.out (zu.trans (zu.of_ext (X:=fun b=>b=gx) c9.out) j4 (fun _ _ h=>h)) (by rw [f7.out];exact (prove_err (F:=F) (n:=n) (l:=L.drop (j+1)) (k:=kk) (acc:=acc) (by rw [b6.out];exact h0) (l1.out.trans (by rw [i4.out]))).trans (by rw [b6.out])) h0
        have i3:Hid (zu (fun b=>b=gx) wq w3):=zu.trans (zu.of_ext (X:=fun b=>b=gx) c9.out) j4 (fun _ _ h=>h);obtain ⟨As3,cs3,Ak3,ck3,rfl,-⟩:=j8.form;have s9:=zh j8;have e6:=zh o1;have n3:=zh h0;have h7:Hid (wq.heap.size<=w2.heap.size):=c9.out.size;clear j4 j8 o1 h0;go_simp;refine O.out _ _ (⟨zu.trans G.out (zu.wide (i3.out) (X':=fun b=>b=gx\/b=gp) (fun k h=>.inl h)) (fun _ _ h=>h),zu.cellk (i3.out) (a8.out.cell (k:=2) rfl) (by have:=E.out;show ¬ (gp=gx);omega)⟩) fun zH=>?_;clear O K;try simp only [zc,Fv]
        refine EM 7 fun K O=>?_;go_simp;have a7:=ze.new w3 #[.int .i64 r3.2.1.task,.slice As3 r3.2.1.side.length cs3,.slice Ak3 r3.2.1.kids.length ck3] 41 (g:=w3.heap.size) rfl;have hA4:za w3 (w3.alloc (.cells #[.int .i64 r3.2.1.task,.slice As3 r3.2.1.side.length cs3,.slice Ak3 r3.2.1.kids.length ck3] 41)):=(za.refl w3).alloc _;generalize w3.alloc _=w4 at a7 hA4⊢;generalize w3.heap.size=g4 at a7⊢;have f3:=zh a7;have J:Hid (zu (fun b=>b=gx) wq w4):=zu.trans (i3.out) (zu.of_ext (X:=fun b=>b=gx) hA4) (fun _ _ h=>h);have i9:=zh (s9.out.ext hA4);have b1:=zh (e6.out.ext hA4);clear a7 hA4;go_simp;refine O.out _ _ (⟨zu.trans G.out (zu.wide (J.out) (X':=fun b=>b=gx\/b=gp) (fun k h=>.inl h)) (fun _ _ h=>h),zu.cellk (J.out) (a8.out.cell (k:=2) rfl) (by have:=E.out;show ¬ (gp=gx);omega)⟩) fun zH=>?_;clear O K;try simp only [zc,Fv]
        refine EM 8 fun K O=>?_;have m5:Hid (Ci w4 w6.heap.size vk acc cs):=b3.out.chg (J.out) (fun b hb e=>by have:=E.out;omega);refine DC (ok:=fun _=>True) (by rfl) w4 _ _ eProof (by rfl) w6.heap.size acc.length 1 cs _ vk _ (by rfl) (by rfl) m5.out.own (prv_row1 f3.out) (fun u hu=>by simp at hu;rcases hu with rfl | rfl | rfl <;> rfl) (by have h1:=G.out.size;have h2:=zu.size (J.out);omega) (by have:=e8.out;unfold maxLen;omega) (by have:=e8.out;omega) ?_;intro v5 w5 l2 b5 p9;have s7:=zh (show Ci w5 w6.heap.size _ (acc++[r3.2.1]) (cs++[.int .i64 r3.2.1.task,.slice As3 r3.2.1.side.length cs3,.slice Ak3 r3.2.1.kids.length ck3]) from m5.out.app (lo:=w2.heap.size) i9.out (fun k hk=>by have h1:=b3.out.lt hk;have h2:=h7.out;omega) (by have h1:=G.out.size;have h2:=h7.out;omega) l2 b5 p9);have l9:Hid (zu (fun b=>b=gx\/b=gp) w6 w5):=zu.grown (zu.trans G.out (zu.wide (J.out) (X':=fun b=>b=gx\/b=gp) (fun k h=>.inl h)) (fun _ _ h=>h)) b5 (fun k hk I=>by have h1:=b3.out.lt hk;omega);obtain ⟨A5,c5,e5,-,-⟩:=AS.of_own l2;subst e5;have b7:Hid (ze w5 gp 41 #[.int .i64 c,.slice none 0 0,vk]):=(b5.block gp (by have h1:=E.out.1;have h2:=G.out.size;have h3:=zu.size (J.out);omega) (fun e=>by have h1:=b3.out.lt e.symm;have h2:=E.out;omega)).trans (zu.blk (J.out) a8.out (by have:=E.out;omega));have t4:Hid (ze w5 gx 169 #[.int .i64 r3.2.2]):=(b5.block gx (zd b1.out) (fun e=>by have h1:=b3.out.lt e.symm;have h2:=E.out;omega)).trans b1.out;clear l2 b5 p9;refine zaJ O (⟨l9.out,b7.out.cell (k:=2) rfl⟩) fun zH=>?_;clear O K;try simp only [zc,Fv]
        refine AQ 9 hP zH ?_;simp only [zc,Fv];refine rlZ 10 fun K O=>?_;go_simp;have cg:=b7.out.cell (k:=2) rfl;have fg:=b7.out.frozen 2;go_simp;clear cg fg;refine O.out _ _ ?_;clear O K;refine zP (by kernel_rfl) ?_ _;subst o0;have n1:Hid (zu (fun b=>b=gx\/b=gp) w6 (w5.setCell ⟨gp,2,none⟩ (.slice A5 (acc.length+1) c5))):=zu.set (l9.out) gp 2 (.slice A5 (acc.length+1) c5) (.inr rfl);have h8:Hid (ze (w5.setCell ⟨gp,2,none⟩ (.slice A5 (acc.length+1) c5)) gp 41 #[.int .i64 c,.slice none 0 0,(.slice A5 (acc.length+1) c5)]):=b7.out.set (k:=2) (.slice A5 (acc.length+1) c5);have n2:Hid (ze (w5.setCell ⟨gp,2,none⟩ (.slice A5 (acc.length+1) c5)) gx 169 #[.int .i64 r3.2.2]):=t4.out.setOther (a:=⟨gp,2,none⟩) (by have:=E.out;show gx≠gp;omega) (.slice A5 (acc.length+1) c5);have m7:=zh (s7.out.chg (zu.set (X:=fun b=>b=gp) (zu.refl _ w5) gp 2 (.slice A5 (acc.length+1) c5) rfl) (fun b hb e=>by have:=E.out;omega));generalize w5.setCell ⟨gp,2,none⟩ (.slice A5 (acc.length+1) c5)=wz at n1 h8 n2 m7⊢;have hF1:(F n kk).1=0:=by rw [b6.out];exact n3.out
        have m6:Hid (Az F L (k+1) []=Az F (L.drop (j+1)) r3.2.2 (acc++[r3.2.1])):=by (show _=_);rw [l1.out,i4.out,kidsR_more hF1,b6.out]
        have m4:Hid (r3.2.2<=3000):=by (show _<=_);have h:=(proveP_ok HC.out fl (ch++[n]) kk f5.out d7.out (by rw [<-j1.out];exact n3.out)).2.2;rw [<-j1.out] at h;exact h
        clear hF1;go_wp2;go_roundw
        case rel=>exact ⟨j+1,_,_,_,_,by go_num,by omega,by (show _=_);rw [FG,e8.out];rfl,m4.out,m6.out,n1.out,n2.out,h8.out,m7.out⟩
        case measure=>simp [intOf];omega
       ·have o8:j=L.length:=by omega
        have v7:¬ ((j:Int)<(L.length:Int)):=by omega
        have i5:Hid (Az F L (k+1) []=(0,acc,kk)):=by
         show _=_;rw [l1.out,o8,List.drop_length];rfl
        have o:ze wk' (gs+1) 41 #[.int .i64 0,.slice none 0 0,.slice none 0 0]:=G.out.blk t6.out (by have:=E.out;omega);have z0:=o.cell (k:=0) rfl;have z1:=o.cell (k:=1) rfl;have z2:=o.cell (k:=2) rfl;have hfz:∀j,wk'.frozen? ⟨gs+1,j,none⟩=false:=fun j=>o.frozen j
        have d8:=zh o;obtain ⟨Ak,ck,evk,-,-⟩:=AS.of_own b3.out.own;subst evk;have p0:=a8.out.cell (k:=0) rfl;have p1:=a8.out.cell (k:=1) rfl;have p2:=a8.out.cell (k:=2) rfl;clear o o8
        go_wp2_with fail
        refine BI (P:=fun W=>bodyPost Tryz.prog Tryz.f111 _ Exit.ret _ W) (g2:=gs+1) ?_ d8.out;intro WZ Q e7 o9;have y0:=Q.cell (k:=0) rfl;have y1:=Q.cell (k:=1) rfl;have y2:=Q.cell (k:=2) rfl;refine za5 (v:=.agg #[.int .i64 c,.slice none 0 0,.slice Ak acc.length ck]) (by simp [results,Tryz.results111,go_sem,y0,y1,y2]) rfl ?_;rw [f7.out,i5.out,if_pos rfl,<-a0.out];exact prove_fin2 f9.out G.out E.out d9.out k5.out b3.out e7 o9
end
end Go.Proofs.YtjomnbdjajjgfaaGreatDoor
