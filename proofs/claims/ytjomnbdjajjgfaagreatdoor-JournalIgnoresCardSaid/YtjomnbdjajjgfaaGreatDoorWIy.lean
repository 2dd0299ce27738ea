import Derived.Test.YtjomnbdjajjgfaaGreatDoorWIx
import Derived.Stop.LaidErr
import Derived.Lib.LaidTab
set_option linter.unusedVariables false
set_option linter.unusedSimpArgs false
set_option maxRecDepth 100000
set_option maxHeartbeats 16000000
namespace Go.Proofs.YtjomnbdjajjgfaaGreatDoor
variable {held:Bool} {p p0:List MemPlace} {cs:List Value} {base fuel:Nat} {v v0:Value} {W w:World}
section
open Go.RowKit Go.Shelf
attribute [local go_sem ↓] Go.wp_at_zero Go.wp_at_succ
attribute [local go_sem] Oper.semAt_some
theorem byte_rem {y:Int} (h:0<=y/\y<256):∃n:Nat,n<60/\IntKind.i64.wrap y=y/\y.tmod 60=(n:Int)/\IntKind.i64.wrap (n:Int)=(n:Int):=by
 obtain ⟨n,o⟩:∃n:Nat,(n:Int)=y.tmod 60:=⟨(y.tmod 60).toNat,by have:=Int.tmod_nonneg 60 h.1;omega⟩;have d:n<60:=by have:=Int.tmod_lt_of_pos y (show (0:Int)<60 by omega);omega
 exact ⟨n,d,by rw [Eu];omega,o.symm,by rw [Eu];omega⟩
theorem jign_calls {ok:Nat->Prop} {ls:List (List Int)} {y0 y1 at':Int} (tb:UInt8) (w:World) (hv:zq w) (hl:Aa w ok v ls) (t8:ls.length<=9223372036854775807) (l6:∀x∈ls,x.length<=9223372036854775807) (m6:0<=y0/\y0<256) (Q:0<=y1/\y1<256) (ha:0<=at'/\at'<65536):
  Calls Tryz.prog 7 #[v,.agg #[.int .u8 y0,.int .u8 y1],.int .u16 at',.int .u8 tb.toNat] w fun e w'=>e=.returned (.bool true)/\za w w':=by
 have d8:=zh hl;have o0:=zh l6;have HV:=zh hv;obtain ⟨_,⟨A,c,rfl,t4,-⟩,-⟩:=_root_.id hl;obtain ⟨N,hN⟩:=Fd (min ls.length 4);have HN:=zh hN;have l0:N<=ls.length:=by omega
 have o9:N<=4:=by omega
 have l7:min (ls.length:Int) 4=(N:Int):=by omega
 clear hN l6 hv hl;obtain ⟨n0,l8,i0,t0,j0⟩:=byte_rem m6;obtain ⟨n1,l9,i1,t1,j1⟩:=byte_rem Q;have b3:=zh l8;have h6:=zh l9;have n6:=zh ha;clear m6 Q l8 l9 ha
 go_enter Tryz.func7,Tryz.ntmps7
 go_upto_region 1 with fail;have b7:=zl.new w #[.int .u8 y0,.int .u8 y1] 71 (g:=w.heap.size) rfl;have a0:za w (w.alloc (.cells #[.int .u8 y0,.int .u8 y1] 71)):=(za.refl w).alloc _;generalize w.alloc _=w0 at b7 a0⊢;generalize w.heap.size=gc at b7⊢;have n7:=zh b7;have g5:=zh a0;have d8:=zh (d8.out.below a0);have HV:=zh (HV.out.ext a0);clear b7 a0
 go_wp2_with fail
 refine (zsanity_calls w0 HV.out).mono ?_;rintro e w1 ⟨rfl,i6⟩;have g6:=zh i6;clear i6
 go_wp2_with fail
 refine (madeN_calls w1 (pref_intss (d8.out.below g6.out) l0) (by rw [EQ];omega) (fun x J=>o0.out x (List.mem_of_mem_take J))).mono ?_;rintro e w2 ⟨v2,m,ns,rfl,i7,hm,e9,m0⟩;have HM:=zh hm;have h5:=zh e9;have c6:ns.length=m.tasks.length:=by obtain ⟨_,_,_,-,-,-,h,-⟩:=hm;exact h
 have b4:Hid (CF m ns):=e9.small c6 m0;obtain ⟨f,u,t,rfl,⟨_,⟨Af,cf,rfl,-,-⟩,-⟩,⟨Au,cu,rfl,-,-⟩,⟨-,_,⟨At,ct,rfl,-,-⟩,-⟩⟩:=hm;have n8:Hid (za w0 w2):=g6.out.trans i7;clear i7 e9 m0 c6 l7 l0 o9;go_upto_region 3 with fail;obtain ⟨a3,r0,r1,r2,r3,r4,r5⟩:=mz_box w2 m Af cf Au cu At ct;simp only [mzc] at a3 r0 r1 r2 r3 r4 r5;generalize w2.alloc _=w3 at a3 r0 r1 r2 r3 r4 r5⊢;generalize w2.heap.size=gm at r0 r1 r2 r3 r4 r5⊢;have b2:=zh (HM.out.below a3);have b5:Hid (za w0 w3):=n8.out.trans a3;have e4:Hid (zq w3):=HV.out.ext b5.out;have HG:Hid (AG m):=h5.out.good;have a7:Hid (BM m=0):=good_chk HG.out;have b0:Hid (Lens m):=h5.out.lens;obtain ⟨I,hI⟩:=Fd (BT (zw m ns));have g9:Hid (I.length=8):=by (show _=_);rw [hI];exact AN _
 have d6:Hid (Calls Tryz.prog 28 #[.agg #[.int .i64 m.w,.int .i64 m.h,.int .i64 m.l,.slice Af m.free.length cf,.slice Au m.up.length cu,.slice At m.tasks.length ct]] w3 fun e w'=>e=.returned (.tuple #[.string ⟨(zr I).toArray⟩,.int .i64 0])/\za w3 w'):=by rw [hI];exact jBegin_calls w3 e4.out b2.out b4.out b0.out a7.out
 have c9:Hid (∀(S:List UInt8) (n:Nat),S.length<=40000000->n<=1000->(∀x,zG m (zr I) I S=some x->x.steps<=20000)->∀W,za w3 W->Calls Tryz.prog 32 #[.agg #[.int .i64 m.w,.int .i64 m.h,.int .i64 m.l,.slice Af m.free.length cf,.slice Au m.up.length cu,.slice At m.tasks.length ct],.string ⟨S.toArray⟩,.int .i64 n] W (JRunPost W m I S n)):=fun S n hS hn J W h=>by
  rw [hI] at J⊢;exact jRun_calls n W (e4.out.ext h) (b2.out.below h) b4.out b0.out a7.out hS (by omega) J
 have E:Hid (∀(S:List UInt8),S.length<=40000000->∀W,za w3 W->Calls Tryz.prog 33 #[.agg #[.int .i64 m.w,.int .i64 m.h,.int .i64 m.l,.slice Af m.free.length cf,.slice Au m.up.length cu,.slice At m.tasks.length ct],.string ⟨S.toArray⟩] W (ReadPost W m I S)):=fun S hS W h=>by
  rw [hI];exact jRead_calls W (e4.out.ext h) (b2.out.below h) b4.out b0.out a7.out hS
 have a8:Hid ((zr I).length<=1000):=by
  have h0:=g9.out;have h1:=Br (s:=BQ) (by decide);have h2:=Br (s:=I) (by omega);have h3:BQ.length=5:=rfl;show (wT BQ++wT I).length<=_;rw [Eg];omega
 have q7:za w3 w3:=za.refl w3;have g4:=zh (n7.out.ext b5.out);have q0:=za.rule (g4.out.cell (k:=0) rfl);have q1:=za.rule (g4.out.cell (k:=1) rfl);have h4:Hid (JAt m (zr I) I (zr I) 0):=jat_begin _ _ _
 have e6:Hid (∀K S,K<=1000->JAt m (zr I) I S K->∀x,zG m (zr I) I S=some x->x.steps<=20000):=fun K S hK hJ x J=>by
  obtain ⟨x',h1,-,-,h2⟩:=jat_read HG.out hJ;rw [h1] at J;injection J with J;rw [<-J,h2];have:=(atS_steps m K).2.1;omega
 have e3:Hid (∀(S:List UInt8) (K n:Nat),S.length<=1000000->n<=60->K<=100->JAt m (zr I) I S K->∃T':List UInt8,JAt m (zr I) I (S++T') (K+n)/\(S++T').length<=S.length+7000*n/\∀W,za w3 W->Calls Tryz.prog 32 #[.agg #[.int .i64 m.w,.int .i64 m.h,.int .i64 m.l,.slice Af m.free.length cf,.slice Au m.up.length cu,.slice At m.tasks.length ct],.string ⟨S.toArray⟩,.int .i64 n] W fun e w'=>e=.returned (.tuple #[.string ⟨(S++T').toArray⟩,.bool (zX m (K+n)).done,.int .i64 0])/\za W w'):=fun S K n hS hn hK hJ=>by
  obtain ⟨T',m4,p7⟩:=jat_run HG.out hJ (n:=n) (by omega);have l5:=runF_len HG.out g9.out (n:=n) (e6.out K S (by omega) hJ);rw [m4] at l5;refine ⟨T',p7,l5,fun W hW=>?_⟩;have h:=c9.out S n (by omega) (by omega) (e6.out K S (by omega) hJ) W hW;unfold JRunPost at h;rw [m4] at h;exact h
 obtain ⟨S1,b8,k8,f0⟩:=e3.out (zr I) 0 n0 (by have:=a8.out;omega) (by have:=b3.out;omega) (by omega) h4.out;obtain ⟨S,hS⟩:=Fd (zr I++S1);rw [<-hS,Nat.zero_add] at b8 f0;rw [<-hS] at k8;obtain ⟨T',j9,k9,f1⟩:=e3.out S n0 n1 (by have:=a8.out;have:=b3.out;omega) (by have:=h6.out;omega) (by have:=b3.out;omega) b8;obtain ⟨T,hT⟩:=Fd (S++T');rw [<-hT] at j9 f1 k9;have a9:=zh b8;have e0:=zh f0;have h8:=zh f1;have o5:=zh hT;have M:Hid (T.length<=1000000/\S.length<=T.length):=⟨by have:=a8.out;have:=b3.out;have:=h6.out;omega,by rw [hT,Eg];omega⟩;have g8:=zh hI;clear a3 hI b8 f0 j9 f1 k8 k9 hS hT;obtain ⟨t6,f4⟩:∃h,h=zr I:=⟨_,rfl⟩;rw [<-f4] at d6 e0 a9;have d7:=zh f4;clear f4 h4 a8 e3 e6 c9
 go_wp2_with fail
 refine d6.out.mono ?_;rintro e w4 ⟨rfl,i8⟩;have f5:za w3 w4:=i8;clear i8 q7 d6
 go_wp2_with fail
 refine (e0.out w4 f5).mono ?_;rintro e w5 ⟨rfl,i9⟩;have f6:za w3 w5:=f5.trans i9;clear i9 f5 e0
 go_wp2_with fail
 refine (h8.out w5 f6).mono ?_;rintro e w6 ⟨rfl,j2⟩;have f7:za w3 w6:=f6.trans j2;clear j2 f6 h8 q0 q1 i0 t0 j0 i1 t1 j1;have c6:¬ (T.length:Int)<(S.length:Int):=by have:=M.out;omega
 go_wp2_with fail
 refine (E.out S (by have:=M.out;omega) w6 f7).mono ?_;rintro e w7 ⟨vc,x,er,rfl,j3,e8,-,h2⟩;obtain ⟨y',Q,m7,g3,m8⟩:=jat_read HG.out a9.out;rw [d7.out] at Q;obtain ⟨rfl,rfl⟩:=h2 y' Q;have f8:za w3 w7:=f7.trans j3;obtain ⟨st,c7⟩:∃s,s=(zX m n0).steps:=⟨_,rfl⟩;rw [m7,m8,<-c7];have V:Hid (zk w7 (fun b=>w6.heap.size<=b) vc (zX m n0).ch):=by rw [<-g3];exact e8
 rw [g3] at e8;obtain ⟨Ac,cc,rfl,-,-⟩:=e8;obtain ⟨cl,c0⟩:∃n,n=(zX m n0).ch.length:=⟨_,rfl⟩;rw [<-c0] at V⊢;have q8:Hid (cl<=20000000000000):=by have:=(run_i64 HG.out (atS_inv m n0)).2;(show cl<=_);rw [c0];omega
 obtain ⟨U,hU⟩:=Fd (S++[tb])
 have f3:∀w:World,(convert 76 9 (.slice (some ⟨w.heap.size,0,none⟩) 1 1)).run Tryz.prog (w.alloc (.cells #[.int .u8 tb.toNat] 5))=.ok (.string ⟨#[tb]⟩) (w.alloc (.cells #[.int .u8 tb.toNat] 5)):=fun w=>by
  have h:=dconv1 w tb.toNat;rw [show strI [(tb.toNat:Int)]=⟨#[tb]⟩ from u8L_str [tb]] at h;exact h
 have p6:∀w,(Op.stringOp .add ⟨S.toArray⟩ ⟨#[tb]⟩).run Tryz.prog w=.ok (.string ⟨U.toArray⟩) w:=fun w=>by rw [hU];exact zx (x:=S) (y:=[tb]) (by have:=M.out;simp;omega)
 have HU:=zh hU
 have h9:Hid (∀W,za w3 W->Calls Tryz.prog 33 #[.agg #[.int .i64 m.w,.int .i64 m.h,.int .i64 m.l,.slice Af m.free.length cf,.slice Au m.up.length cu,.slice At m.tasks.length ct],.string ⟨U.toArray⟩] W fun e w'=>∃A c,e=.returned (.tuple #[.slice A cl c,.int .i64 st,.int .i64 S.length,.int .i64 0])/\za W w'/\zk w' (fun b=>W.heap.size<=b) (.slice A cl c) (zX m n0).ch):=fun W hW=>by
  refine (E.out U (by have:=M.out;rw [hU,Eg];simp;omega) W hW).mono ?_;rintro e w' ⟨vc,x,er,rfl,hE,hI,-,h2⟩;obtain ⟨y,k1,k2,k3,k4⟩:=jat_odd HG.out a9.out [tb];obtain ⟨k5,k6,k7⟩:=k4 (by simp);rw [d7.out,<-hU] at k1;obtain ⟨rfl,rfl⟩:=h2 y k1;rw [k6] at hI;obtain ⟨A,c,rfl,-,-⟩:=_root_.id hI;rw [<-c0] at hI⊢;exact ⟨A,c,by rw [k5,k7,c7],hE,hI⟩
 have o4:=zh c7;clear j3 h2 Q m7 g3 m8 hU f7 c0 c7 c6
 go_wp2_with fail
 refine (h9.out _ (f8.alloc _)).mono ?_;rintro e w8 ⟨Ad,cd,rfl,e7,j7⟩;have m5:za w3 w8:=(f8.alloc _).trans e7;have g7:=zh j7;have V:Hid (zk w8 (fun b=>w6.heap.size<=b) (.slice Ac cl cc) (zX m n0).ch):=V.out.below (((za.refl w7).alloc _).trans e7);have q6:(st != st)=false:=by simp
 have q5:((S.length:Int) != (S.length:Int))=false:=by simp
 have i2:Hid (Calls Tryz.prog 15 #[.slice Ad cl cd,.slice Ac cl cc] w8 fun e w'=>e=.returned (.bool true)/\za w8 w'):=by
  have h1:=same_calls w8 g7.out V.out (by have:=(run_i64 HG.out (atS_inv m n0)).2;omega) (by have:=(run_i64 HG.out (atS_inv m n0)).2;omega);rw [Eb rfl] at h1;exact h1.mono fun e w' h=>⟨h.1,h.2.below _⟩
 clear e7 j7 f8 f3 p6 h9 V g7
 go_wp2_with fail
 refine i2.out.mono ?_;rintro e w9 ⟨rfl,j4⟩;have f9:za w3 w9:=m5.trans j4;have o6:Hid (za w w9):=g5.out.trans (b5.out.trans f9);clear j4 m5 i2;by_cases f2:T.length=S.length
 ·have g1:((T.length:Int)==(S.length:Int))=true:=by rw [f2];exact beq_self_eq_true _
  clear f2
  go_wp2_with fail
  go_ret;exact ⟨rfl,o6.out⟩
 ·have g1:((T.length:Int)==(S.length:Int))=false:=by rw [El];omega
  obtain ⟨D,hD⟩:∃D:Nat,D=T.length - S.length:=⟨_,rfl⟩;have p9:=M.out;have l4:=n6.out;have t2:0<D:=by omega
  have o7:(D:Int)≠0:=by omega
  have s9:((D:Int)==0)=false:=by rw [El];exact o7
  obtain ⟨r,hr⟩:∃r:Nat,(r:Int)=at'.tmod D:=⟨(at'.tmod D).toNat,by have:=Int.tmod_nonneg (D:Int) l4.1;omega⟩;have q4:r<D:=by have:=Int.tmod_lt_of_pos at' (show (0:Int)<D by omega);omega
  obtain ⟨q,hq⟩:∃q:Nat,q=S.length+r:=⟨_,rfl⟩;have u1:IntKind.i64.wrap at'=at':=by rw [Eu];omega
  have u2:IntKind.i64.wrap ((T.length:Int) - (S.length:Int))=(D:Int):=by rw [Eu];omega
  have u3:at'.tmod (D:Int)=(r:Int):=hr.symm;have u4:IntKind.i64.wrap (r:Int)=(r:Int):=by rw [Eu];omega
  have u5:IntKind.i64.wrap ((S.length:Int)+(r:Int))=(q:Int):=by rw [Eu];omega
  have G:q<T.length:=by omega
  have l2:S.length<=q:=by omega
  have d9:Hid (q<T.length/\S.length<=q):=⟨G,l2⟩;clear hr q4 hD f2 p9 l4 G l2 hq;obtain ⟨A1,hA1⟩:∃A,A=T.take q:=⟨_,rfl⟩;obtain ⟨A2,hA2⟩:∃A,A=T.drop (q+1):=⟨_,rfl⟩;obtain ⟨q1,m2⟩:∃p,p=q+1:=⟨_,rfl⟩;obtain ⟨B1,b6⟩:∃B,B=A1++[tb]:=⟨_,rfl⟩;obtain ⟨O,hO⟩:=Fd (B1++A2);have p5:=M.out.1;have G:=d9.out.1;have m3:q1<=T.length:=by omega
  have s2:q<=T.length:=by omega
  have e1:ByteArray.extract ⟨T.toArray⟩ 0 q=⟨A1.toArray⟩:=by rw [Dt T 0 q (by omega),hA1];simp
  have e2:ByteArray.extract ⟨T.toArray⟩ q1 T.length=⟨A2.toArray⟩:=by rw [Dt T q1 T.length m3,hA2,m2,List.take_of_length_le (by simp)]
  have u6:IntKind.i64.wrap ((q:Int)+1)=(q1:Int):=by rw [Eu];omega
  have d4:A1.length=q:=by rw [hA1,EQ];omega
  have i4:A2.length<=T.length:=by rw [hA2,EX];omega
  have i5:B1.length=q+1:=by rw [b6,Eg,d4];rfl
  have l1:O.length<=3000000:=by rw [hO,Eg];omega
  have f3:∀w:World,(convert 76 9 (.slice (some ⟨w.heap.size,0,none⟩) 1 1)).run Tryz.prog (w.alloc (.cells #[.int .u8 tb.toNat] 5))=.ok (.string ⟨#[tb]⟩) (w.alloc (.cells #[.int .u8 tb.toNat] 5)):=fun w=>by
   have h:=dconv1 w tb.toNat;rw [show strI [(tb.toNat:Int)]=⟨#[tb]⟩ from u8L_str [tb]] at h;exact h
  have a1:∀w,(Op.stringOp .add ⟨A1.toArray⟩ ⟨#[tb]⟩).run Tryz.prog w=.ok (.string ⟨B1.toArray⟩) w:=fun w=>by rw [b6];exact zx (x:=A1) (y:=[tb]) (by simp;omega)
  have a2:∀w,(Op.stringOp .add ⟨B1.toArray⟩ ⟨A2.toArray⟩).run Tryz.prog w=.ok (.string ⟨O.toArray⟩) w:=fun w=>by rw [hO];exact zx (by omega)
  have h7:=zh l1
  have o1:Hid (∃u,O=S++u):=by
   refine ⟨T'.take (q - S.length)++(tb :: A2),?_⟩;have h1:A1=S++T'.take (q - S.length):=by rw [hA1,o5.out,List.take_append,List.take_of_length_le d9.out.2]
   rw [hO,b6,h1];simp [List.append_assoc]
  clear hA1 hA2 m2 b6 hO p5 G d4 i4 i5 l1;have J:za w9 w9:=za.refl w9;go_upto_region 15 with fail;refine Di (fun Q' hP p4=>?_) (fun c a a' w hd h=>by obtain ⟨t,d⟩:=a;obtain ⟨t',d'⟩:=a';cases hd;exact h);refine AA (S:=(fun W=>za w9 W)) AI (J.drew) fun zH=>?_;generalize w9.drew=wd at zH⊢;refine ze (i:=0) (v:=?v1) rfl (by kernel_rfl) (by kernel_rfl) (by kernel_rfl) (by kernel_rfl) (fun _ _ _ h=>hP _ _ _ _ (by rfl) h) (Or.inl ⟨?w1,?y1⟩) zH ?r1
  case w1=>rfl
  case y1=>(intro w o;go_simp;try with_reducible rfl)
  simp only [zd,DV];refine ze (i:=1) (v:=?v2) rfl (by kernel_rfl) (by kernel_rfl) (by kernel_rfl) (by kernel_rfl) (fun _ _ _ h=>hP _ _ _ _ (by rfl) h) (Or.inl ⟨?w2,?y2⟩) zH ?r2
  case w2=>rfl
  case y2=>(intro w o;go_simp;try with_reducible rfl)
  simp only [zd,DV];refine ze (i:=2) (v:=?v3) rfl (by kernel_rfl) (by kernel_rfl) (by kernel_rfl) (by kernel_rfl) (fun _ _ _ h=>hP _ _ _ _ (by rfl) h) (Or.inl ⟨?w3,?y3⟩) zH ?r3
  case w3=>rfl
  case y3=>(intro w o;go_simp;try with_reducible rfl)
  simp only [zd,DV];refine ze (i:=3) (v:=?v4) rfl (by kernel_rfl) (by kernel_rfl) (by kernel_rfl) (by kernel_rfl) (fun _ _ _ h=>hP _ _ _ _ (by rfl) h) (Or.inl ⟨?w4,?y4⟩) zH ?r4
  case w4=>rfl
  case y4=>(intro w o;go_simp;try with_reducible rfl)
  simp only [zd,DV];refine ze (i:=7) (v:=?v5) rfl (by kernel_rfl) (by kernel_rfl) (by kernel_rfl) (by kernel_rfl) (fun _ _ _ h=>hP _ _ _ _ (by rfl) h) (Or.inl ⟨?w5,?y5⟩) zH ?r5
  case w5=>rfl
  case y5=>(intro w o;go_simp;try with_reducible rfl)
  simp only [zd,DV];refine ze (i:=8) (v:=?v6) rfl (by kernel_rfl) (by kernel_rfl) (by kernel_rfl) (by kernel_rfl) (fun _ _ _ h=>hP _ _ _ _ (by rfl) h) (Or.inl ⟨?w6,?y6⟩) zH ?r6
  case w6=>rfl
  case y6=>(intro w o;go_simp;try with_reducible rfl)
  simp only [zd,DV];refine ze (i:=9) (v:=?v7) rfl (by kernel_rfl) (by kernel_rfl) (by kernel_rfl) (by kernel_rfl) (fun _ _ _ h=>hP _ _ _ _ (by rfl) h) (Or.inl ⟨?w7,?y7⟩) zH ?r7
  case w7=>rfl
  case y7=>(intro w o;go_simp;try with_reducible rfl)
  simp only [zd,DV];refine ze (i:=10) (v:=?v8) rfl (by kernel_rfl) (by kernel_rfl) (by kernel_rfl) (by kernel_rfl) (fun _ _ _ h=>hP _ _ _ _ (by rfl) h) (Or.inl ⟨?w8,?y8⟩) zH ?r8
  case w8=>rfl
  case y8=>(intro w o;go_simp;try with_reducible rfl)
  simp only [zd,DV];refine zp (rs:=[4]) (by kernel_rfl) (by simp) ?_;refine zg.cons rfl (fun K hK=>?_) zg.nil;go_simp;go_simp;refine Fe hK (zH.alloc _) fun zH=>?_;clear hK K;try simp only [zd,DV]
  refine zp (rs:=[5]) (by kernel_rfl) (by simp) ?_;refine zg.cons rfl (fun K hK=>?_) zg.nil;go_simp;go_simp;refine Fe hK (zH) fun zH=>?_;clear hK K;try simp only [zd,DV]
  refine ze (i:=6) (v:=?v9) rfl (by kernel_rfl) (by kernel_rfl) (by kernel_rfl) (by kernel_rfl) (fun _ _ _ h=>hP _ _ _ _ (by rfl) h) (Or.inl ⟨?w9,?y9⟩) zH ?r9
  case w9=>rfl
  case y9=>(intro w o;go_simp;try with_reducible rfl)
  simp only [zd,DV];refine ze (i:=11) (v:=?v10) rfl (by kernel_rfl) (by kernel_rfl) (by kernel_rfl) (by kernel_rfl) (fun _ _ _ h=>hP _ _ _ _ (by rfl) h) (Or.inl ⟨?w10,?y10⟩) zH ?r10
  case w10=>rfl
  case y10=>(intro w o;go_simp;try with_reducible rfl)
  simp only [zd,DV];refine zp (rs:=[12]) (by kernel_rfl) (by simp) ?_;refine zg.last rfl (by kernel_rfl) fun K hK=>?_;go_simp;have i3:Hid (za w9 _):=zH;go_simp;refine hK.out _ _ ?_;clear hK K;refine AV (by kernel_rfl) ?_ _;subst p4;have c8:za w3 _:=f9.trans i3.out;generalize wd.alloc _=wA at i3 c8⊢;obtain ⟨u,hu⟩:=o1.out;obtain ⟨y,k1,k2,k3,-⟩:=jat_odd HG.out a9.out u;rw [d7.out,<-hu] at k1
  obtain ⟨m1,m9⟩:zr I <+: O/\y=endJ m O ⟨[],0,(zr I).length,I⟩:=by
   unfold zG at k1
   split at k1
   ·rename_i h1
    injection k1 with k1;exact ⟨h1,k1.symm⟩
   ·cases k1
  obtain ⟨F,hF⟩:=Fd y.fin;obtain ⟨ST,b9⟩:∃s,s=y.steps:=⟨_,rfl⟩
  have o3:Hid (∀W,za w3 W->Calls Tryz.prog 33 #[.agg #[.int .i64 m.w,.int .i64 m.h,.int .i64 m.l,.slice Af m.free.length cf,.slice Au m.up.length cu,.slice At m.tasks.length ct],.string ⟨O.toArray⟩] W fun e w'=>∃A n c,e=.returned (.tuple #[.slice A n c,.int .i64 ST,.int .i64 F,.int .i64 0])/\za W w'):=fun W hW=>by
   refine (E.out O (by have:=h7.out;omega) W hW).mono ?_;rintro e w' ⟨vc,x,er,rfl,hE,hI,-,h2⟩;obtain ⟨rfl,rfl⟩:=h2 y k1;obtain ⟨A,c,rfl,-,-⟩:=hI;exact ⟨A,_,c,by rw [hF,b9],hE⟩
  have o2:Hid (∀W,za w3 W->Calls Tryz.prog 34 #[.agg #[.int .i64 m.w,.int .i64 m.h,.int .i64 m.l,.slice Af m.free.length cf,.slice Au m.up.length cu,.slice At m.tasks.length ct],.string ⟨O.toArray⟩] W fun e w'=>∃A n c,e=.returned (.tuple #[.slice A n c,.int .i64 ST,.int .i64 F,.int .i64 0])/\za W w'):=fun W hW=>by
   have h:=mRead_calls W (b2.out.below hW) b4.out b0.out a7.out (s:=O) (by have:=h7.out;omega) (by rw [<-g8.out];exact m1);rw [<-g8.out,<-m9,<-hF,<-b9] at h;exact h
  rw [<-hF] at k2;rw [<-b9,] at k3;have t7:(S.length:Int)<=(F:Int):=by omega
  have n9:=zh k3;clear hu k1 k2 k3 m1 m9 hF b9 J f3 a1 a2 e1 e2
  go_wp2_with fail
  refine (o3.out wA c8).mono ?_;rintro e wB ⟨Ae,ne,ce,rfl,j5⟩;have g0:za w3 wB:=c8.trans j5;clear j5 c8
  go_wp2_with fail
  refine (o2.out wB g0).mono ?_;rintro e wC ⟨Ag,ng,cg,rfl,j6⟩;have e5:Hid (za w wC):=g5.out.trans (b5.out.trans (g0.trans j6));clear j6 g0 r0 r1 r2 r3 r4 r5;have s4:st<=ST:=by rw [o4.out];exact n9.out
  have G:=d9.out.1;obtain ⟨x,J⟩:=Fd (T[q]'G);have hIx:∀h,(ByteArray.mk T.toArray)[q]'h=x:=fun h=>(get_at G h).trans J.symm
  have q0I:(0:Int)<=(q:Int):=by omega
  have qTI:(q:Int)<(T.length:Int):=by omega
  clear J q6 q5 g1 f9;by_cases hb:x=tb
  ·have b1:((x.toNat:Int)==(tb.toNat:Int))=true:=by rw [hb];exact beq_self_eq_true _
   clear hb
   go_wp2_with fail
   go_ret;exact ⟨rfl,e5.out⟩
  ·have b1:((x.toNat:Int)==(tb.toNat:Int))=false:=by
    rw [El];intro e;exact hb (UInt8.toNat_inj.1 (by omega))
   clear hb;by_cases t3:(q:Int)<(F:Int)
   ·go_wp2_with fail
    go_ret;exact ⟨rfl,e5.out⟩
   ·have q9:(F:Int)<=(q:Int):=by omega
    go_wp2_with fail
    go_ret;exact ⟨rfl,e5.out⟩
end
section
open Go.ChangeShapes Go.WideShapes Go.ChangeAt Go.RowKit
theorem vTab : Tryz.prog.globalNamed "internal/strconv.uint64pow10" = some 0 := by kernel_rfl
theorem vSyn : Tryz.prog.globalNamed "strconv.ErrSyntax" = some 4 := by kernel_rfl
theorem vRng : Tryz.prog.globalNamed "strconv.ErrRange" = some 5 := by kernel_rfl
theorem vtTab:(Tryz.prog.globals[0]?).map (·.type)=some 267:=by kernel_rfl
theorem vtSyn:(Tryz.prog.globals[4]?).map (·.type)=some 136:=by kernel_rfl
theorem vtRng:(Tryz.prog.globals[5]?).map (·.type)=some 136:=by kernel_rfl
theorem star4 : "*" ++ "errors.errorString" = "*errors.errorString" := by decide
theorem row314 (u : TypeId) (h : Tryz.prog.typeName? 3 u = some "*errors.errorString") : u = 306 :=
 typeName_ptr_named (nm := "errors.errorString") (by rw [star4]; kernel_rfl) (by kernel_rfl) (by decide) u (by rw [star4]; exact h)
theorem laid_tab:(Rows.laid_internal_strconv_uint64pow10:DataW Unit)=Lib.tabData .u64 Lib.pow10Tab:=by kernel_rfl
theorem varsOk_laid {a b: String × DataW Unit} (h : laidMet Tryz.prog [a, b, ("internal/strconv.uint64pow10", Rows.laid_internal_strconv_uint64pow10), ("strconv.ErrRange", Rows.laid_strconv_ErrRange), ("strconv.ErrSyntax", Rows.laid_strconv_ErrSyntax)] W) : zq W := by
 have h2:=h.tail.tail;obtain ⟨a0,s0,hv0,-,-,-⟩:=laid_sentinel h2.tail vRng vtRng Tryz.underlying136 row314 Tryz.underlying306 Tryz.underlying308 rfl rfl Tryz.underlying9 (by kernel_rfl) (by kernel_rfl);obtain ⟨a1,s1,hv1,-,-,-⟩:=laid_sentinel h2.tail.tail vSyn vtSyn Tryz.underlying136 row314 Tryz.underlying306 Tryz.underlying308 rfl rfl Tryz.underlying9 (by kernel_rfl) (by kernel_rfl);rw [laid_tab] at h2;exact ⟨Lib.tabIs_of_head vTab vtTab Tryz.underlying267 Tryz.underlying252 (by kernel_rfl) (by kernel_rfl) h2,⟨_,_,hv1⟩,⟨_,_,hv0⟩⟩
theorem intssArg {H:Type} {enc:TypeId×Value->H} {d0:DataW H} (d:Value.okWide Tryz.prog W .any base 22 v0) (h0:DataW.Trod enc Tryz.prog W 0 (fun _=>true) true 22 v0 d0 p0):∃l,Aa W (fun _=>True) v0 l/\l.length<=9223372036854775807/\∀a∈l,a.length<=9223372036854775807:=by
 obtain ⟨A,n,c,rfl⟩:=okWide_slice Tryz.underlying22 d;obtain ⟨fuel,h0⟩:=h0;obtain ⟨v,l,e0,h⟩:=intssOpen h0;have e1:Value.slice A n c=v:=by injection e0
 subst e1;exact ⟨l,h⟩
theorem cellsU8p:Tryz.prog.cellsOf 5=1:=by kernel_rfl
theorem cellsU8q:Tryz.prog.cellsOf 71=2:=by kernel_rfl
theorem u8Open {H:Type} {enc:TypeId×Value->H} {x:DataW H×List MemPlace} (h:DataW.trod enc Tryz.prog w base (fun _=>true) held fuel 5 cs=some x):∃n,cs=[.int .u8 n]/\0<=n/\n<256:=by
 obtain ⟨k,rfl,_,d⟩:=DataW.trod_int Tryz.underlying5 h;refine ⟨k,rfl,?_⟩;have this:=d;simp only [Lit.wf,IntKind.has,Ek,Ei] at this;have e1:IntKind.u8.min=0:=rfl;have e2:IntKind.u8.max=255:=rfl;omega
theorem u16Open {H:Type} {enc:TypeId×Value->H} {x:DataW H×List MemPlace} (h:DataW.trod enc Tryz.prog w base (fun _=>true) held fuel 60 cs=some x):∃n,cs=[.int .u16 n]/\0<=n/\n<65536:=by
 obtain ⟨k,rfl,_,d⟩:=DataW.trod_int Tryz.underlying60 h;refine ⟨k,rfl,?_⟩;have this:=d;simp only [Lit.wf,IntKind.has,Ek,Ei] at this;have e1:IntKind.u16.min=0:=rfl;have e2:IntKind.u16.max=65535:=rfl;omega
theorem u8Arg {H:Type} {enc:TypeId×Value->H} {d:DataW H} (o:Value.okWide Tryz.prog W .any base 5 v) (h:DataW.Trod enc Tryz.prog W 0 (fun _=>true) true 5 v d p):∃n,v=.int .u8 n/\0<=n/\n<256:=by
 obtain ⟨fuel,h⟩:=h;obtain ⟨n,e,h1⟩:=u8Open h
 have B:∀cs,v≠.agg cs:=by
  rintro cs rfl;unfold Value.okWide at o;rw [Tryz.underlying5] at o;simp [Cell.okWide,Cell.ok,Tryz.underlying5] at o
 have:v.cells=#[v]:=by
  cases v <;> first | rfl | exact absurd rfl (B _)
 rw [this] at e;injection e with e;exact ⟨n,e,h1⟩
theorem u16Arg {H:Type} {enc:TypeId×Value->H} {d:DataW H} (o:Value.okWide Tryz.prog W .any base 60 v) (h:DataW.Trod enc Tryz.prog W 0 (fun _=>true) true 60 v d p):∃n,v=.int .u16 n/\0<=n/\n<65536:=by
 obtain ⟨fuel,h⟩:=h;obtain ⟨n,e,h1⟩:=u16Open h
 have B:∀cs,v≠.agg cs:=by
  rintro cs rfl;unfold Value.okWide at o;rw [Tryz.underlying60] at o;simp [Cell.okWide,Cell.ok,Tryz.underlying60] at o
 have:v.cells=#[v]:=by
  cases v <;> first | rfl | exact absurd rfl (B _)
 rw [this] at e;injection e with e;exact ⟨n,e,h1⟩
theorem u8PairArg {H:Type} {enc:TypeId×Value->H} {d:DataW H} (E:Value.okWide Tryz.prog W .any base 71 v) (h:DataW.Trod enc Tryz.prog W 0 (fun _=>true) true 71 v d p):
  ∃a b,v=.agg #[.int .u8 a,.int .u8 b]/\(0<=a/\a<256)/\(0<=b/\b<256):=by
 have D:∃cs,v=.agg cs:=by
  unfold Value.okWide at E;rw [Tryz.underlying71] at E;obtain ⟨cs,h,_⟩:=E;exact ⟨cs,h⟩
 obtain ⟨fuel,h⟩:=h;obtain ⟨xs,m,_,_,o,J,B⟩:=DataW.trod_array Tryz.underlying71 h;rw [cellsU8p] at B;rw [cellsU8q] at o
 obtain ⟨c1,c2,I⟩:∃a b,v.cells.toList=[a,b]:=by
  match v.cells.toList,o with
  | [a,b],_=>exact ⟨a,b,rfl⟩
 have G:=agg_of I D;rw [I] at B;have a0:=B 0 (by omega);have a1:=B 1 (by omega);rw [DW (by omega)] at a0 a1;have a0:DataW.trod enc Tryz.prog W 0 (fun _=>true) true m 5 [c1]=_:=a0;have a1:DataW.trod enc Tryz.prog W 0 (fun _=>true) true m 5 [c2]=_:=a1;obtain ⟨o0,e0,b0⟩:=u8Open a0;obtain ⟨o1,e1,b1⟩:=u8Open a1;injection e0 with e0;injection e1 with e1;subst e0 e1;exact ⟨o0,o1,G,b0,b1⟩
theorem journalIgnores_walk {H:Type} {enc:TypeId×Value->H} {v1 v2 v3:Value} {d0 d1 d2 d3:DataW H} {p1 p2 p3:List MemPlace} (W:World) (E:zq W) (d:Value.okWide Tryz.prog W .any base 22 v0) (h0:DataW.Trod enc Tryz.prog W 0 (fun _=>true) true 22 v0 d0 p0)
  (o:Value.okWide Tryz.prog W .any base 71 v1) (h1:DataW.Trod enc Tryz.prog W 0 (fun _=>true) true 71 v1 d1 p1)
  (B:Value.okWide Tryz.prog W .any base 60 v2) (h2:DataW.Trod enc Tryz.prog W 0 (fun _=>true) true 60 v2 d2 p2)
  (D:Value.okWide Tryz.prog W .any base 5 v3) (h3:DataW.Trod enc Tryz.prog W 0 (fun _=>true) true 5 v3 d3 p3):
  Calls Tryz.prog 7 #[v0,v1,v2,v3] W fun e w'=>e=.returned (.bool true)/\Below W.heap.size W w':=by
 obtain ⟨ls,i0,i1,i2⟩:=intssArg d h0;obtain ⟨y0,y1,rfl,a0,a1⟩:=u8PairArg o h1;obtain ⟨at',rfl,a2⟩:=u16Arg B h2;obtain ⟨t,rfl,a3⟩:=u8Arg D h3
 have et:t=((UInt8.ofNat t.toNat).toNat:Int):=by
  rw [UInt8.toNat_ofNat'];omega
 rw [et];exact jign_calls _ W E i0 i1 i2 a0 a1 a2
end
end Go.Proofs.YtjomnbdjajjgfaaGreatDoor
