import Derived.Test.YtfjjdmpndmbfoaaGreatDoorWJr
import Derived.Stop.LaidErr
import Derived.Lib.LaidTab
set_option linter.unusedVariables false
set_option linter.unusedSimpArgs false
set_option maxRecDepth 100000
set_option maxHeartbeats 16000000
namespace Go.Proofs.YtfjjdmpndmbfoaaGreatDoor
variable {p0:List MemPlace} {base:Nat} {v0:Value} {W:World}
section
open Go.RowKit Go.Shelf
attribute [local go_sem ↓] Go.wp_at_zero Go.wp_at_succ
attribute [local go_sem] Oper.semAt_some
theorem of_r (a:List UInt8) (w:World) (d:a.length<=1000000000):Calls Tryz.prog 21 #[.string ⟨a.toArray⟩] w fun e w'=>e=.returned (.string ⟨(Cy a).toArray⟩)/\zc w w':=
 rOf_calls ⟨a.toArray⟩ w (by have:(ByteArray.mk a.toArray).size=a.length:=(by simp [ByteArray.size]);omega)
theorem chain_r (a b:List UInt8) (w:World) (d:a.length<=1000000000) (o:b.length<=1000000000):Calls Tryz.prog 22 #[.string ⟨a.toArray⟩,.string ⟨b.toArray⟩] w fun e w'=>e=.returned (.string ⟨(Br a b).toArray⟩)/\zc w w':=
 rChain_calls ⟨a.toArray⟩ ⟨b.toArray⟩ w (by simpa [ByteArray.size] using d) (by simpa [ByteArray.size] using o)
theorem zsanity_calls (w:World) (hv:zn w):Calls Tryz.prog 6 #[] w fun e w'=>e=.returned (.bool true)/\zc w w':=by
 obtain ⟨M,ns,I,H,C1,C2,S1,S2,T1,T0,U,hz⟩:=z_pack;have B:=zh hz;have HV:=zh hv;clear hz hv
 go_enter Tryz.func6,Tryz.ntmps6
 go_wp2_with fail
 refine (CM w).mono ?_;rintro e w1 ⟨v1,rfl,f1,d5⟩;rw [B.out.m.1,B.out.m.2] at d5;have e6:=zh d5;obtain ⟨f,u,t,rfl,⟨_,⟨Af,cf,rfl,-,-⟩,-⟩,⟨Au,cu,rfl,-,-⟩,⟨-,_,⟨At,ct,rfl,-,-⟩,-⟩⟩:=d5;go_upto_region 2 with fail;obtain ⟨a3,r0,r1,r2,r3,r4,r5⟩:=mz_box w1 M Af cf Au cu At ct;simp only [mzc] at a3 r0 r1 r2 r3 r4 r5;generalize w1.alloc _=w2 at a3 r0 r1 r2 r3 r4 r5⊢;generalize w1.heap.size=gm at r0 r1 r2 r3 r4 r5⊢;have c9:=zh (e6.out.below a3);have e9:Hid (zc w w2):=f1.trans a3;have b4:Hid (zn w2):=HV.out.ext e9.out;clear f1 a3 e6
 have e7:Hid (Calls Tryz.prog 21 #[.string ⟨#[51,59,49,59,49,59,49,59,49,58,97,91,48,59,93,91,50,59,93,49,59,51,58,49,49,49,51,58,48,48,48]⟩] w2 fun e w'=>e=.returned (.string ⟨I.toArray⟩)/\zc w2 w'):=by
  have h:=of_r zD w2 (by decide);rw [B.out.id.2.2.1] at h;exact h
 have e4:Hid (∀W,zc w2 W->Calls Tryz.prog 8 #[.agg #[.int .i64 M.w,.int .i64 M.h,.int .i64 M.l,.slice Af M.free.length cf,.slice Au M.up.length cu,.slice At M.tasks.length ct]] W fun e w'=>e=.returned (.tuple #[.string ⟨H.toArray⟩,.int .i64 0])/\zc W w'):=fun W h=>by
  have h1:=jBegin_calls W (b4.out.ext h) (c9.out.below h) B.out.ok.2.2 B.out.ok.2.1 B.out.ok.1;rw [B.out.id.1,B.out.id.2.1] at h1;exact h1
 have b6:Hid (∀W,Calls Tryz.prog 22 #[.string ⟨I.toArray⟩,.string ⟨#[91,48,59,49,59,93,50,59]⟩] W fun e w'=>e=.returned (.string ⟨C1.toArray⟩)/\zc W w'):=fun W=>by
  rw [B.out.c1];exact chain_r I [91,48,59,49,59,93,50,59] W (by have:=B.out.il;omega) (by decide)
 have b7:Hid (∀W,Calls Tryz.prog 22 #[.string ⟨I.toArray⟩,.string ⟨#[91,48,59,49,59,50,59,93,51,59]⟩] W fun e w'=>e=.returned (.string ⟨C2.toArray⟩)/\zc W w'):=fun W=>by
  rw [B.out.c2];exact chain_r I [91,48,59,49,59,50,59,93,51,59] W (by have:=B.out.il;omega) (by decide)
 have e8:Hid (∀S x,S=H\/S=T0\/S=U\/S=[]->zE M H I S=some x->x.steps<=20000):=fun S x hS D=>by
  rcases hS with rfl | rfl | rfl | rfl
  ·rw [B.out.oH] at D;injection D with D;rw [<-D];exact (show (0:Int)<=20000 by decide)
  ·rw [B.out.o0] at D;injection D with D;rw [<-D];exact (show (0:Int)<=20000 by decide)
  ·obtain ⟨y,h1,-,h2⟩:=B.out.oB;rw [h1] at D;injection D with D;rw [<-D,h2];decide
  ·rw [B.out.oN] at D;cases D
 have G:Hid (∀(S T:List UInt8) (n:Int) (d:Bool) (e0:Int),(S=H\/S=T0\/S=U\/S=[])->S.length<=20000->-1000<=n/\n<=1000->runF M H I S n=(T,d,e0)->∀W,zc w2 W->Calls Tryz.prog 9 #[.agg #[.int .i64 M.w,.int .i64 M.h,.int .i64 M.l,.slice Af M.free.length cf,.slice Au M.up.length cu,.slice At M.tasks.length ct],.string ⟨S.toArray⟩,.int .i64 n] W fun e w'=>e=.returned (.tuple #[.string ⟨T.toArray⟩,.bool d,.int .i64 e0])/\zc W w'):=fun S T n d e0 hS f9 hn hr W h=>by
  have h1:=jRun_calls (s:=S) n W (b4.out.ext h) (c9.out.below h) B.out.ok.2.2 B.out.ok.2.1 B.out.ok.1 (by omega) hn (by rw [B.out.id.1,B.out.id.2.1];exact fun x D=>e8.out S x hS D);unfold JRunPost at h1;rw [B.out.id.1,B.out.id.2.1,hr] at h1;exact h1
 have V:Hid (∀(S:List UInt8),(S=H\/S=U\/S=[])->S.length<=20000->∀W,zc w2 W->Calls Tryz.prog 10 #[.agg #[.int .i64 M.w,.int .i64 M.h,.int .i64 M.l,.slice Af M.free.length cf,.slice Au M.up.length cu,.slice At M.tasks.length ct],.string ⟨S.toArray⟩] W (ResPost W M I S)):=fun S hS f9 W h=>by
  have h1:=jResult_calls (s:=S) W (b4.out.ext h) (c9.out.below h) B.out.ok.2.2 B.out.ok.2.1 B.out.ok.1 (by omega) (by rw [B.out.id.1,B.out.id.2.1];exact fun x D=>e8.out S x (hS.elim .inl fun h=>h.elim (fun h=>.inr (.inr (.inl h))) fun h=>.inr (.inr (.inr h))) D) (by
   rw [B.out.id.1,B.out.id.2.1];intro x D g4 g5
   exfalso
   rcases hS with rfl | rfl | rfl
   ·rw [B.out.oH] at D;injection D with D;rw [<-D] at g5;exact absurd (show (loadS M [] 0).done=true from g5) (by rw [B.out.dH];simp)
   ·obtain ⟨y,h1,h2,-⟩:=B.out.oB;rw [h1] at D;injection D with D;rw [<-D,h2,B.out.cB] at g4;cases g4
   ·rw [B.out.oN] at D;cases D)
  rw [B.out.id.1] at h1;exact h1
 have b9:Hid (∀(S:List UInt8) (ok:Nat->Prop) (vl:Value) (l:List Int) (st en:Int),S.length<=20000->l.length<=1000->(∃x,zE M H I S=some x/\x.steps=st/\(x.fin:Int)=en/\x.ch=l)->∀W,zc w2 W->zk W ok vl l->Calls Tryz.prog 23 #[.string ⟨S.toArray⟩,.int .i64 st,.int .i64 en,vl] W fun e w'=>e=.returned (.bool true)/\zc W w'):=fun S ok vl l st en f9 h7 D W h i0=>by
  refine zreads_calls W (b4.out.ext h) i0 h7 (by omega) ?_;rw [B.out.m.1,B.out.id.2.2.2.1,B.out.id.2.2.2.2];exact D
 have j4:∀w,(Op.stringOp .add ⟨#[53,58,114,111,117,116,101,56,58]⟩ ⟨I.toArray⟩).run Tryz.prog w=.ok (.string ⟨H.toArray⟩) w:=fun w=>by rw [B.out.h];exact AL (x:=[53,58,114,111,117,116,101,56,58]) (by have:=B.out.il;simp;omega)
 have j5:∀w,(Op.stringOp .add ⟨H.toArray⟩ ⟨#[56,58,91,48,59,49,59,93,50,59,56,58]⟩).run Tryz.prog w=.ok (.string ⟨S1.toArray⟩) w:=fun w=>by rw [B.out.s1.1];exact AL (y:=[56,58,91,48,59,49,59,93,50,59,56,58]) (by have:=B.out.hl;simp;omega)
 have h8:S1.length<=20000:=by rw [B.out.s1.1];have:=B.out.hl;simp;omega
 have h9:S2.length<=20000:=by rw [B.out.s2.1];have:=B.out.hl;simp;omega
 have g1:C1.length=8:=by rw [B.out.c1];rfl
 have g3:C2.length=8:=by rw [B.out.c2];rfl
 have j6:∀w,(Op.stringOp .add ⟨S1.toArray⟩ ⟨C1.toArray⟩).run Tryz.prog w=.ok (.string ⟨T1.toArray⟩) w:=fun w=>by rw [B.out.s1.2];exact AL (by omega)
 have j7:∀w,(Op.stringOp .add ⟨H.toArray⟩ ⟨#[49,48,58,91,48,59,49,59,50,59,93,51,59,56,58]⟩).run Tryz.prog w=.ok (.string ⟨S2.toArray⟩) w:=fun w=>by rw [B.out.s2.1];exact AL (y:=[49,48,58,91,48,59,49,59,50,59,93,51,59,56,58]) (by have:=B.out.hl;simp;omega)
 have j8:∀w,(Op.stringOp .add ⟨S2.toArray⟩ ⟨C2.toArray⟩).run Tryz.prog w=.ok (.string ⟨U.toArray⟩) w:=fun w=>by rw [B.out.s2.2];exact AL (by omega)
 have E:Hid (H.length<=10000/\T1.length<=10000/\U.length<=10000/\0<T1.length):=B.out.hl;clear h8 h9 g1 g3;have D:zc w2 w2:=zc.refl w2
 go_wp2_with fail
 refine e7.out.mono ?_;rintro e w3 ⟨rfl,f3⟩;have d6:zc w2 w3:=D.trans f3;clear D f3 e7
 go_wp2_with fail
 refine (e4.out _ d6).mono ?_;rintro e w4 ⟨rfl,f4⟩;have g6:zc w2 w4:=d6.trans f4;clear d6 f4 e4
 go_wp2_with fail
 refine (b6.out _).mono ?_;rintro e w5 ⟨rfl,f5⟩;have g7:zc w2 w5:=g6.trans f5;clear g6 f5 b6
 go_wp2_with fail
 refine (b7.out _).mono ?_;rintro e w6 ⟨rfl,f6⟩;have d7:zc w2 w6:=g7.trans f6;clear g7 f6 b7
 go_wp2_with fail
 refine (G.out H T1 2 false 0 (.inl rfl) (by have:=E.out;omega) (by decide) B.out.rA _ d7).mono ?_;rintro e w7 ⟨rfl,f7⟩;have d8:zc w2 w7:=d7.trans f7;clear d7 f7;have d4:zc w7 (w7.alloc (.cells #[.int .i64 0,.int .i64 1] 3)):=(zc.refl w7).alloc _;have b8:Hid (zk (w7.alloc (.cells #[.int .i64 0,.int .i64 1] 3)) (fun _=>True) (.slice (some ⟨w7.heap.size,0,none⟩) 2 2) [0,1]):=⟨_,_,rfl,CS _,Ag.block (cs:=#[.int .i64 0,.int .i64 1]) (zj.new w7 _ _ rfl) trivial rfl⟩
 go_wp2_with fail
 refine (b9.out T1 _ _ [0,1] 2 T1.length (by have:=E.out;omega) (by decide) (by obtain ⟨x,h1,h2,h3,h4⟩:=B.out.oA;exact ⟨x,h1,h4,by rw [h2],h3⟩) _ (d8.trans d4) b8.out).mono ?_;rintro e w8 ⟨rfl,a4⟩;have d9:zc w2 w8:=(d8.trans d4).trans a4;have k4:0<T1.length:=E.out.2.2.2;have k5:T1.length<=10000:=E.out.2.1;obtain ⟨k1,h6⟩:∃k,T1.length=k+1:=⟨T1.length - 1,by omega⟩;have hw:IntKind.i64.wrap ((T1.length:Int) - 1)=(k1:Int):=by rw [Dn];omega
 have j9:k1<=T1.length:=by omega
 have e1:ByteArray.extract ⟨T1.toArray⟩ 0 k1=⟨T0.toArray⟩:=by rw [B.out.t0,show T1.length - 1=k1 by omega];exact ext_take T1 k1
 clear d8 d4 a4 b8 h6
 go_wp2_with fail
 refine (b9.out T0 (fun _=>True) (.slice none 0 0) [] 0 H.length (by have h1:=E.out;rw [B.out.t0,DH];omega) (by decide) ⟨_,B.out.o0,rfl,by rw [<-B.out.id.2.1];rfl,rfl⟩ _ d9 (zk.nil _ _)).mono ?_;rintro e w9 ⟨rfl,a4⟩;have g8:zc w2 w9:=d9.trans a4;clear d9 a4;go_upto_region 11 with fail;refine Di (S:=(fun W=>zc w2 W)) AG (g8.drew) fun zH=>?_;generalize w9.drew=wd at zH⊢;refine zF 0 zH ?_;refine zF 1 zH ?_;simp only [zd,CP];refine zF 2 zH ?_;refine zF 3 zH ?_;simp only [zd,CP];refine zF 4 zH ?_;refine zF 5 zH ?_;simp only [zd,CP];refine AC 6 fun K hK=>?_;go_simp;go_at_call 9;refine (G.out T0 U 9 true 0 (.inr (.inl rfl)) (by have h1:=E.out;rw [B.out.t0,DH];omega) (by decide) B.out.rB _ zH).mono ?_;rintro e w10 ⟨rfl,f2⟩;go_simp;refine DU hK (zH.trans f2) fun zH=>?_;clear hK K;try simp only [zd,CP]
 refine zF 7 zH ?_;refine zF 8 zH ?_;simp only [zd,CP];refine zF 9 zH ?_;refine zF 10 zH ?_;simp only [zd,CP];refine zF 11 zH ?_;refine zF 12 zH ?_;simp only [zd,CP];refine zF 13 zH ?_;simp only [zd,CP];refine Dv (by kernel_rfl) ?_ _;have a9:=zH;clear zH g8
 go_wp2_with fail
 refine (V.out U (.inr (.inl rfl)) (by have:=E.out;omega) _ (a9)).mono ?_;rintro e w11 ⟨vp11,vr11,rfl,c0,J,a5⟩;rw [B.out.id.2.1,B.out.qB] at J a5⊢;obtain ⟨A11,c11,B11,d11,rfl,-⟩:=a5.form;obtain ⟨_,⟨Ap11,cp11,rfl,-,-⟩,-⟩:=_root_.id J;have e5:=zh J;have b0:zc w2 w11:=(a9).trans c0;have i1:∀o,zc w2 (w11.alloc o):=fun o=>b0.alloc o
 clear c0 a5 J;clear a9
 go_wp2_with fail
 refine (V.out H (.inl rfl) (by have:=E.out;omega) _ (b0.alloc _)).mono ?_;rintro e w12 ⟨vp12,vr12,rfl,a0,O,a6⟩;have g0:=a0;rw [B.out.id.2.1,B.out.qH] at O a6⊢;obtain ⟨A12,c12,B12,d12,rfl,-⟩:=a6.form;obtain ⟨_,⟨Ap12,cp12,rfl,-,-⟩,-⟩:=_root_.id O;have i4:=zh O;have b1:zc w2 w12:=(b0.alloc _).trans a0;have i2:∀o,zc w2 (w12.alloc o):=fun o=>b1.alloc o
 clear a0 a6 O
 go_wp2_with fail
 refine (V.out [] (.inr (.inr rfl)) (by have:=E.out;simp) _ (b1.alloc _)).mono ?_;rintro e w13 ⟨vp13,vr13,rfl,a1,Q,a7⟩;have a8:=a1;rw [B.out.id.2.1,B.out.qN] at Q a7⊢;obtain ⟨A13,c13,B13,d13,rfl,-⟩:=a7.form;obtain ⟨_,⟨Ap13,cp13,rfl,-,-⟩,-⟩:=_root_.id Q;have i5:=zh Q;have c7:zc w2 w13:=(b1.alloc _).trans a1;have i3:∀o,zc w2 (w13.alloc o):=fun o=>c7.alloc o
 clear a1 a7 Q;have a8:zc w11 w13:=(((zc.refl w11).alloc _).trans g0).trans (((zc.refl w12).alloc _).trans a8);have b2:zc w2 (w13.alloc (.cells #[.int .i64 PT.zero.task,.slice A13 PT.zero.side.length c13,.slice B13 PT.zero.kids.length d13] 42)):=c7.alloc _
 go_wp2_with fail
 refine (G.out H [] (-1) false 1 (.inl rfl) (by have:=E.out;omega) (by decide) B.out.rC _ b2).mono ?_;rintro e w15 ⟨rfl,c6⟩;have b3:zc w2 w15:=b2.trans c6
 go_wp2_with fail
 refine (G.out H H 0 false 0 (.inl rfl) (by have:=E.out;omega) (by decide) B.out.rD _ b3).mono ?_;rintro e w16 ⟨rfl,a2⟩;have c8:zc w2 w16:=b3.trans a2;have b5:Hid (zc w11 w16):=(((a8.alloc _).trans c6).trans a2);have e2:zc w16 ((w16.alloc (.cells #[.int .i64 0,.int .i64 1,.int .i64 2] 3)).alloc (.cells #[.slice (some ⟨w16.heap.size,0,none⟩) 3 3] 39)):=((zc.refl w16).alloc _).alloc _
 have f8:zP ((w16.alloc (.cells #[.int .i64 0,.int .i64 1,.int .i64 2] 3)).alloc (.cells #[.slice (some ⟨w16.heap.size,0,none⟩) 3 3] 39)) (fun _=>True) (.slice (some ⟨w16.heap.size+1,0,none⟩) 1 1) [[0,1,2]]:=
  ⟨[.slice (some ⟨w16.heap.size,0,none⟩) 3 3],⟨_,_,rfl,CS _,Ag.block (cs:=#[.slice (some ⟨w16.heap.size,0,none⟩) 3 3]) (zj.new (w16.alloc (.cells #[.int .i64 0,.int .i64 1,.int .i64 2] 3)) _ _ (by simp)) trivial rfl⟩,fun i x D=>by
   match i,D with
   | 0,D=>
    have:[0,1,2]=x:=by simpa using D
    subst this;exact ⟨_,rfl,⟨_,_,rfl,CS _,Ag.block (cs:=#[.int .i64 0,.int .i64 1,.int .i64 2]) ((zj.new w16 #[.int .i64 0,.int .i64 1,.int .i64 2] 3 rfl).alloc _) trivial rfl⟩⟩⟩
 have g9:=zh (samePaths_t _ rfl (e5.out.below (b5.out.trans e2)) f8 (by simp) (fun x D=>by simp at D;rw [D];simp));have h5:Hid (zc w2 ((w16.alloc (.cells #[.int .i64 0,.int .i64 1,.int .i64 2] 3)).alloc (.cells #[.slice (some ⟨w16.heap.size,0,none⟩) 3 3] 39))):=c8.trans e2;clear b2 b3 c8 a2 f8 e2
 go_wp2_with fail
 refine g9.out.mono ?_;rintro e w17 ⟨rfl,hD⟩
 go_wp2_with fail
 go_ret;exact ⟨rfl,(e9.out.trans h5.out).trans (hD.below _)⟩
theorem runJ_len {m:MZ} (g:Al m) {b lim:Int} (I:b+lim<=20000):∀(f:Nat) (r:RS) (sg:List UInt8),RInv m r->sg.length<=1000->r.steps<=20000->(runJ m b lim f r sg).1.length<=7000*f
 | 0,r,sg,_,_,_=>by simp [runJ]
 | f+1,r,sg,M,O,ht=>by
  by_cases h:r.done=true\/lim<=r.steps - b
  ·rw [runJ_stop h];simp
  ·obtain ⟨r',d⟩:∃r',RS.run m (min (16 - r.steps % 16) (lim - (r.steps - b))).toNat r=r':=⟨_,rfl⟩;rw [runJ_go h d]
   have J:r.steps - b<lim:=by
    rcases Int.lt_or_le (r.steps - b) lim with q | q
    ·exact q
    ·exact absurd (.inr q) h
   have B:=(Bt m (min (16 - r.steps % 16) (lim - (r.steps - b))).toNat r).2.1;rw [d] at B;have o:RInv m r':=by rw [<-d];exact M.run _
   have K:=Int.emod_lt_of_pos r.steps (show (0:Int)<16 by decide)
   have E:r'.steps<=20000:=by
    generalize r.steps % 16=q at B K;obtain ⟨kN,D⟩:∃k:Nat,k=(min (16 - q) (lim - (r.steps - b))).toNat:=⟨_,rfl⟩;rw [<-D] at B;have h1:(kN:Int)<=lim - (r.steps - b):=by omega
    omega
   have G:=o.st;obtain ⟨i1,i2⟩:=run_i64 g o;have h1:=recB_le (sg:=sg) (ch:=r'.ch) (st:=r'.steps) O i1 ⟨by omega,by omega⟩ i2;have Q:=runJ_len g I f r' (zB sg r'.ch r'.steps) o (by rw [AJ];omega) E;show (zL sg r'.ch r'.steps++_).length<=_;rw [Da];omega
theorem runF_len {m:MZ} (g:Al m) {id s:List UInt8} {n:Nat} (hid:id.length=8) (E:∀x,zE m (zv id) id s=some x->x.steps<=20000):(runF m (zv id) id s n).1.length<=s.length+7000*n:=by
 unfold runF
 cases d:zE m (zv id) id s with
 | none=>simp
 | some x=>
  simp only;rw [if_neg (by omega)];obtain ⟨h1,o,G⟩:=open_b (good_chk g) hid d;have B:=E x d;have I:=runJ_len g (b:=x.steps) (lim:=min (20000 - x.steps) (n:Int)) (by omega) (min (20000 - x.steps) (n:Int)).toNat (loadS m x.ch x.steps) x.sg (BK o).2 (by rw [h1.sg];omega) B;show (s.take x.fin++_).length<=_;rw [Da,DH];have D:(min (20000 - x.steps) (n:Int)).toNat<=n:=by omega
  have J:=Nat.mul_le_mul_left 7000 D;omega
theorem b40 {k:Nat} (h:k<=8):1000+420000*(k+1)<=40000000:=by omega
theorem jsteps_calls {ok okp:Nat->Prop} {v vp:Value} {ls:List (List Int)} {bs:List Int} (w:World) (hv:zn w) (hl:zP w ok v ls) (m1:ls.length<=9223372036854775807) (f2:∀x∈ls,x.length<=9223372036854775807) (hb:U8s w okp vp bs) (l2:bs.length<=9223372036854775807):
  Calls Tryz.prog 5 #[v,vp] w fun e w'=>e=.returned (.bool true)/\zc w w':=by
 have h6:=zh hl;have h7:=zh f2;have g7:=zh hb;have HV:=zh hv;obtain ⟨_,⟨A,c,rfl,l3,-⟩,-⟩:=_root_.id hl;obtain ⟨⟨Ap,cp,rfl,l4,-⟩,-⟩:=hb;obtain ⟨N,hN⟩:=DT (min ls.length 4);have HN:=zh hN;have e7:N<=ls.length:=by omega
 have i3:N<=4:=by omega
 have f3:min (ls.length:Int) 4=(N:Int):=by omega
 clear hN f2 hv hl
 go_enter Tryz.func5,Tryz.ntmps5
 go_wp2_with fail
 refine (zsanity_calls w HV.out).mono ?_;rintro e w1 ⟨rfl,e0⟩;have b7:=zh e0;clear e0
 go_wp2_with fail
 refine (madeN_calls w1 (pref_intss (h6.out.below b7.out) e7) (by rw [DH];omega) (fun x B=>h7.out x (List.mem_of_mem_take B))).mono ?_;rintro e w2 ⟨v2,m,ns,rfl,e2,hm,b0,f6⟩;have HM:=zh hm;have c7:=zh b0;have f5:ns.length=m.tasks.length:=by obtain ⟨_,_,_,-,-,-,h,-⟩:=hm;exact h
 have a5:Hid (Small m ns):=b0.small f5 f6;obtain ⟨f,u,t,rfl,⟨_,⟨Af,cf,rfl,-,-⟩,-⟩,⟨Au,cu,rfl,-,-⟩,⟨-,_,⟨At,ct,rfl,-,-⟩,-⟩⟩:=hm;have g8:Hid (zc w w2):=b7.out.trans e2;clear e2 b0 f6 f5 f3 e7 i3;go_upto_region 3 with fail;obtain ⟨E,r0,r1,r2,r3,r4,r5⟩:=mz_box w2 m Af cf Au cu At ct;simp only [mzc] at E r0 r1 r2 r3 r4 r5;generalize w2.alloc _=w3 at E r0 r1 r2 r3 r4 r5⊢;generalize w2.heap.size=gm at r0 r1 r2 r3 r4 r5⊢;have M:=zh (HM.out.below E);have a7:Hid (zc w w3):=g8.out.trans E;have a6:Hid (zn w3):=HV.out.ext a7.out;have g6:=zh (g7.out.below a7.out);have HG:Hid (Al m):=c7.out.good;have G:Hid (Cw m=0):=good_chk HG.out;have J:Hid (Lens m):=c7.out.lens;obtain ⟨I,hI⟩:=DT (Cy (Ae m ns));have c0:Hid (I.length=8):=by (show _=_);rw [hI];exact AF _
 have b5:Hid (Calls Tryz.prog 8 #[.agg #[.int .i64 m.w,.int .i64 m.h,.int .i64 m.l,.slice Af m.free.length cf,.slice Au m.up.length cu,.slice At m.tasks.length ct]] w3 fun e w'=>e=.returned (.tuple #[.string ⟨(zv I).toArray⟩,.int .i64 0])/\zc w3 w'):=by rw [hI];exact jBegin_calls w3 a6.out M.out a5.out J.out G.out
 have d5:Hid (∀(S:List UInt8) (n:Nat),S.length<=40000000->n<=1000->(∀x,zE m (zv I) I S=some x->x.steps<=20000)->∀W,zc w3 W->Calls Tryz.prog 9 #[.agg #[.int .i64 m.w,.int .i64 m.h,.int .i64 m.l,.slice Af m.free.length cf,.slice Au m.up.length cu,.slice At m.tasks.length ct],.string ⟨S.toArray⟩,.int .i64 n] W (JRunPost W m I S n)):=fun S n hS hn B W h=>by
  rw [hI] at B⊢;exact jRun_calls n W (a6.out.ext h) (M.out.below h) a5.out J.out G.out hS (by omega) B
 have a2:Hid (∀(S:List UInt8),S.length<=40000000->∀W,zc w3 W->Calls Tryz.prog 13 #[.agg #[.int .i64 m.w,.int .i64 m.h,.int .i64 m.l,.slice Af m.free.length cf,.slice Au m.up.length cu,.slice At m.tasks.length ct],.string ⟨S.toArray⟩] W (ReadPost W m I S)):=fun S hS W h=>by
  rw [hI];exact jRead_calls W (a6.out.ext h) (M.out.below h) a5.out J.out G.out hS
 have g9:Hid ((zv I).length<=1000):=by
  have h0:=c0.out;have h1:=BC (s:=BX) (by decide);have h2:=BC (s:=I) (by omega);have h3:BX.length=5:=rfl;show (wT BX++wT I).length<=_;rw [Da];omega
 have j4:zc w3 w3:=zc.refl w3;clear E hI
 go_wp2_with fail
 refine b5.out.mono ?_;rintro e w4 ⟨rfl,e3⟩;have b2:zc w3 w4:=e3;clear e3 j4 b5
 go_wp2_with fail
 refine (new1 w3 w4 b2 M.out.maze J.out G.out).mono ?_;rintro e w5 ⟨g,rfl,e4,e8⟩;have d4:Hid (OneR w3 w5 g m (zC m 0)):=e8;have j5:zc w3 w5:=b2.trans e4;clear e4 e8 b2
 go_wp2_with fail
 clear j5;go_loopw [7,11] (fun v7 v11 wr=>∃(k K:Nat) (S:List UInt8),v7=.string ⟨S.toArray⟩/\v11=.int .i64 k/\k<=8/\K<=60*k/\Hid (S.length<=1000+420000*k)/\Hid (JAt m (zv I) I S K)/\Hid (OneR w3 wr g m (zC m K))) (fun _ v11 _=>8 - (intOf v11).toNat)
 case atStart=>exact ⟨0,0,zv I,rfl,rfl,by omega,by omega,g9.out,jat_begin _ _ _,d4.out⟩
 clear d4
 case round=>
  obtain ⟨k,K,S,rfl,rfl,i9,hK,d7,HJ,HR⟩:=hrel;obtain ⟨wk,rfl⟩:∃wk:World,wk=wr:=⟨_,rfl⟩;have B:zc w3 wk:=HR.out.ext;by_cases f0:k<bs.length/\k<8
  ·obtain ⟨f1,i8⟩:=f0;have l6:decide ((k:Int)<(bs.length:Int))=true:=CV (by omega);have l7:decide ((k:Int)<8)=true:=CV (by omega);have l8:decide (k<bs.length)=true:=CV f1;have l9:decide (k<8)=true:=CV i8;obtain ⟨bb,off,rfl,o,e9,i5⟩:=u8At g6.out f1;obtain ⟨y,hy⟩:=DT (bs[k]);rw [<-hy] at o e9 i5;have qy:=zc.rule o;obtain ⟨n,hn⟩:∃n:Nat,(n:Int)=y.tmod 60:=⟨(y.tmod 60).toNat,by have:=Int.tmod_nonneg 60 e9;omega⟩;have f4:n<60:=by have:=Int.tmod_lt_of_pos y (show (0:Int)<60 by omega);omega
   have m4:IntKind.i64.wrap y=y:=by rw [Dn];omega
   have k5:y.tmod 60=(n:Int):=hn.symm;have m2:IntKind.i64.wrap (n:Int)=(n:Int):=by rw [Dn];omega
   clear o hy hn;obtain ⟨T',V,Q⟩:=jat_run HG.out HJ.out (n:=n) (by omega)
   have b3:∀x,zE m (zv I) I S=some x->x.steps<=20000:=fun x B=>by
    obtain ⟨x',h1,-,-,h2⟩:=jat_read HG.out HJ.out;rw [h1] at B;injection B with B;rw [<-B,h2];have:=(Ch m K).2.1;omega
   have U:=runF_len HG.out c0.out (n:=n) b3;rw [V] at U;obtain ⟨T,hT⟩:=DT (S++T');rw [<-hT] at V Q U;have m0:S.length<=T.length:=by rw [hT,Da];omega
   have e1:ByteArray.extract ⟨T.toArray⟩ 0 S.length=⟨S.toArray⟩:=by rw [ext_take,hT,List.take_left]
   have a3:Hid (Calls Tryz.prog 9 #[.agg #[.int .i64 m.w,.int .i64 m.h,.int .i64 m.l,.slice Af m.free.length cf,.slice Au m.up.length cu,.slice At m.tasks.length ct],.string ⟨S.toArray⟩,.int .i64 n] wk fun e w'=>e=.returned (.tuple #[.string ⟨T.toArray⟩,.bool (zC m (K+n)).done,.int .i64 0])/\zc wk w'):=by
    have h:=d5.out S n (by have:=d7.out;omega) (by omega) b3 wk B;unfold JRunPost at h;rw [V] at h;exact h
   have d8:Hid (T.length<=1000+420000*(k+1)):=by
    have h1:=d7.out;have h2:T.length<=S.length+7000*n:=U;show _<=_;omega
   have i2:Hid (T.length<=40000000):=CU d8.out (b40 i9);have h5:=zh Q;have f7:=jat_read HG.out Q;have i1:=zh f7;have a1:RS.run m n (zC m K)=zC m (K+n):=(Bl m K n _).symm;have g5:=zh a1;have c6:Hid (K+n<=60*(k+1)/\(zC m K).steps<=20000):=⟨by omega,by have:=(Ch m K).2.1;omega⟩;obtain ⟨d,hd⟩:=DT ((zC m (K+n)).done);rw [<-hd] at a3;have l5:(d != d)=false:=by simp
   have HD:=zh hd;have c8:=zh f4;have l1:(S.toArray != S.toArray)=false:=by simp
   clear V Q b3 U hT f7 a1 hd
   go_wp2_with fail
   refine a3.out.mono ?_;rintro e w6 ⟨rfl,a9⟩;have h8:=zh (HR.out.more a9);have j6:zc w3 w6:=B.trans a9;clear a9 B a3 qy
   go_wp2_with fail
   refine (h8.out.step n (by have:=c8.out;omega) (by have:=c6.out.2;omega)).mono ?_;rintro e w7 ⟨rfl,O⟩;rw [g5.out] at O⊢;rw [<-HD.out];have h9:=zh O;have f8:zc w3 w7:=O.ext;clear O j6
   go_wp2_with fail
   refine (a2.out T i2.out w7 f8).mono ?_;rintro e w8 ⟨vc,x,er,rfl,e5,e6,-,h2⟩;obtain ⟨y',f9,g0,b4,g1⟩:=i1.out;obtain ⟨rfl,rfl⟩:=h2 y' f9;have D:=h9.out.more e5;have i0:=zh D;have j7:zc w3 w8:=D.ext;obtain ⟨st,b1⟩:∃s,s=(zC m (K+n)).steps:=⟨_,rfl⟩;have d6:Hid (Calls Tryz.prog 18 #[.pointer (some ⟨g,0,none⟩)] w8 fun e w'=>e=.returned (.int .i64 st)/\w8=w'):=by rw [b1];exact D.stepsC
   have b6:Hid (Calls Tryz.prog 19 #[.pointer (some ⟨g,0,none⟩)] w8 fun e w'=>∃v',e=.returned v'/\Mk w8 w' v' (zC m (K+n)).ch):=D.choices;have i6:(zC m (K+n)).ch.length<=300:=D.len
   have a4:Hid (∀W v',zc w8 W->zk W (fun _=>True) v' (zC m (K+n)).ch->Calls Tryz.prog 14 #[vc,v'] W fun e w'=>e=.returned (.bool true)/\zc W w'):=fun W v' h h'=>by
    have h1:=same_calls W (e6.below h) h' (by rw [b4];omega) (by omega);rw [CV b4] at h1;exact h1.mono fun e w' h=>⟨h.1,h.2.below _⟩
   obtain ⟨Ac,cc,rfl,-,-⟩:=e6;rw [g0,g1,<-b1];generalize x.ch.length=cl at a4⊢;have m3:(st != st)=false:=by simp
   clear e5 D f9 g0 b4 g1 h2 b1 f8 i6
   go_wp2_with fail
   refine d6.out.mono ?_;rintro e wb ⟨rfl,rfl⟩
   go_wp2_with fail
   refine b6.out.mono ?_;rintro e w9 ⟨vq,rfl,hM⟩;have h4:=zh (hM.ints.weaken (ok':=fun _=>True) fun _ _=>trivial);have d9:=zh hM.ext;obtain ⟨Aq,cq,rfl,-⟩:=hM.slice;clear hM d6 b6
   go_wp2_with fail
   refine (a4.out w9 _ d9.out h4.out).mono ?_;rintro e w10 ⟨rfl,a0⟩;have c9:=zh (i0.out.more (d9.out.trans a0));clear a0 a4 j7;go_wp2;go_roundw
   case rel=>exact ⟨k+1,K+n,T,rfl,by go_num,by omega,c6.out.1,d8.out,h5.out,c9.out⟩
   case measure=>simp [intOf];omega
  ·have j3:decide (k<bs.length)=false\/(decide (k<bs.length)=true/\decide ((k:Int)<8)=false):=by
    by_cases h1:k<bs.length
    ·exact .inr ⟨CV h1,CW (by omega)⟩
    ·exact .inl (CW h1)
   have b8:Hid (zc w wk):=a7.out.trans B;clear f0 B;rcases j3 with h1 | ⟨h1,h2⟩
   all_goals
    go_wp2_with fail
    go_ret;exact ⟨rfl,b8.out⟩
end
section
open Go.ChangeShapes Go.WideShapes Go.ChangeAt Go.RowKit
theorem vTab : Tryz.prog.globalNamed "internal/strconv.uint64pow10" = some 0 := by kernel_rfl
theorem vSyn : Tryz.prog.globalNamed "strconv.ErrSyntax" = some 2 := by kernel_rfl
theorem vRng : Tryz.prog.globalNamed "strconv.ErrRange" = some 3 := by kernel_rfl
theorem vtTab:(Tryz.prog.globals[0]?).map (·.type)=some 213:=by kernel_rfl
theorem vtSyn:(Tryz.prog.globals[2]?).map (·.type)=some 85:=by kernel_rfl
theorem vtRng:(Tryz.prog.globals[3]?).map (·.type)=some 85:=by kernel_rfl
theorem star4 : "*" ++ "errors.errorString" = "*errors.errorString" := by decide
theorem row314 (u : TypeId) (h : Tryz.prog.typeName? 3 u = some "*errors.errorString") : u = 243 :=
 typeName_ptr_named (nm := "errors.errorString") (by rw [star4]; kernel_rfl) (by kernel_rfl) (by decide) u (by rw [star4]; exact h)
theorem laid_tab:(Rows.laid_internal_strconv_uint64pow10:DataW Unit)=Lib.tabData .u64 Lib.pow10Tab:=by kernel_rfl
theorem varsOk_laid {a b: String × DataW Unit} (h : laidMet Tryz.prog [a, b, ("internal/strconv.uint64pow10", Rows.laid_internal_strconv_uint64pow10), ("strconv.ErrRange", Rows.laid_strconv_ErrRange), ("strconv.ErrSyntax", Rows.laid_strconv_ErrSyntax)] W) : zn W := by
 have h2:=h.tail.tail;obtain ⟨a0,s0,hv0,-,-,-⟩:=laid_sentinel h2.tail vRng vtRng Tryz.underlying85 row314 Tryz.underlying243 Tryz.underlying245 rfl rfl Tryz.underlying9 (by kernel_rfl) (by kernel_rfl);obtain ⟨a1,s1,hv1,-,-,-⟩:=laid_sentinel h2.tail.tail vSyn vtSyn Tryz.underlying85 row314 Tryz.underlying243 Tryz.underlying245 rfl rfl Tryz.underlying9 (by kernel_rfl) (by kernel_rfl);rw [laid_tab] at h2;exact ⟨Lib.tabIs_of_head vTab vtTab Tryz.underlying213 Tryz.underlying174 (by kernel_rfl) (by kernel_rfl) h2,⟨_,_,hv1⟩,⟨_,_,hv0⟩⟩
theorem intssArg {H:Type} {d0:DataW H} {enc:TypeId×Value->H} (d:Value.okWide Tryz.prog W .any base 22 v0) (h0:DataW.Trod enc Tryz.prog W 0 (fun _=>true) true 22 v0 d0 p0):∃l,zP W (fun _=>True) v0 l/\l.length<=9223372036854775807/\∀a∈l,a.length<=9223372036854775807:=by
 obtain ⟨A,n,c,rfl⟩:=okWide_slice Tryz.underlying22 d;obtain ⟨fuel,h0⟩:=h0;obtain ⟨v,l,e0,h⟩:=intssOpen h0;have e1:Value.slice A n c=v:=by injection e0
 subst e1;exact ⟨l,h⟩
theorem journalSteps_walk {H:Type} {d0:DataW H} {enc:TypeId×Value->H} {v1:Value} {d1:DataW H} {p1:List MemPlace} (W:World) (E:zn W) (d:Value.okWide Tryz.prog W .any base 22 v0) (h0:DataW.Trod enc Tryz.prog W 0 (fun _=>true) true 22 v0 d0 p0)
  (o:Value.okWide Tryz.prog W .any base 51 v1) (h1:DataW.Trod enc Tryz.prog W 0 (fun _=>true) true 51 v1 d1 p1):
  Calls Tryz.prog 5 #[v0,v1] W fun e w'=>e=.returned (.bool true)/\Below W.heap.size W w':=by
 obtain ⟨ls,i0,i1,i2⟩:=intssArg d h0;obtain ⟨bs,B,D⟩:=bytesOpen o h1;exact jsteps_calls W E i0 i1 i2 B D
end
end Go.Proofs.YtfjjdmpndmbfoaaGreatDoor
