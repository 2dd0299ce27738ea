import Derived.Test.YtjomnbdjajjgfaaGreatDoorWIu
import Derived.Deep.CutBlock
set_option linter.unusedVariables false
set_option linter.unusedSimpArgs false
set_option maxRecDepth 100000
set_option maxHeartbeats 16000000
namespace Go.Proofs.YtjomnbdjajjgfaaGreatDoor
variable {n:Int} {a l:List UInt8} {k p q r:Nat} {ok:Nat->Prop} {s:Rd} {c:UInt8} {w w':World}
section
open Go.RowKit Go.Shelf
attribute [local go_sem ↓] Go.wp_at_zero Go.wp_at_succ
attribute [local go_sem] Oper.semAt_some
theorem zreads_calls {vl:Value} {s:List UInt8} {l:List Int} {st en:Int} (w:World) (hv:zq w) (J:zk w ok vl l) (I:l.length<=1000) (a0:s.length<=40000000) (K:∃x,zG zM zH zI s=some x/\x.steps=st/\(x.fin:Int)=en/\x.ch=l):
  Calls Tryz.prog 70 #[.string ⟨s.toArray⟩,.int .i64 st,.int .i64 en,vl] w fun e w'=>e=.returned (.bool true)/\za w w':=by
 have HV:=zh hv;have U:=zh J;have HX:=zh K;have o:=zh I;obtain ⟨A,c,rfl,-,-⟩:=J;clear hv K I
 go_enter Tryz.func70,Tryz.ntmps70
 go_wp2_with fail
 refine (DR w).mono ?_;rintro e w1 ⟨v1,rfl,d,G⟩
 have O:Hid (Calls Tryz.prog 33 #[v1,.string ⟨s.toArray⟩] w1 (ReadPost w1 zM zI s)):=by
  have h:=jRead_calls (s:=s) w1 (HV.out.ext d) G z_small z_lens z_chk a0;rw [z_desc] at h;exact h
 obtain ⟨f,u,t,rfl,⟨_,⟨Af,cf,rfl,-,-⟩,-⟩,⟨Au,cu,rfl,-,-⟩,⟨-,_,⟨At,ct,rfl,-,-⟩,-⟩⟩:=G;have M:=zh d;clear d
 go_wp2_with fail
 refine O.out.mono ?_;rintro e w2 ⟨vc,x,er,rfl,D,E,-,h2⟩;obtain ⟨y,hy,rfl,rfl,rfl⟩:=HX.out;obtain ⟨rfl,rfl⟩:=h2 y hy;have B:Hid (za w w2):=M.out.trans D
 have Q:Hid (∀W,za w2 W->Calls Tryz.prog 15 #[vc,.slice A x.ch.length c] W fun e w'=>e=.returned (.bool true)/\za W w'):=fun W h=>by
  have h1:=same_calls W (E.below h) (U.out.below (B.out.trans h)) (by have:=o.out;omega) (by have:=o.out;omega);rw [Eb rfl] at h1;exact h1.mono fun e w' h=>⟨h.1,h.2.below _⟩
 obtain ⟨Ac,cc,rfl,-,-⟩:=E;have K:za w2 w2:=za.refl w2;clear D h2 hy
 go_wp2_with fail
 refine (Q.out _ K).mono ?_;rintro e w3 ⟨rfl,V⟩
 go_wp2_with fail
 go_ret;exact ⟨rfl,B.out.trans V⟩
structure ZP (M:MZ) (ns:List ByteArray) (I H C1 C2 S1 S2 T1 T0 U:List UInt8):Prop where
 m:zM=M/\zN=ns
 id:BT (zw M ns)=I/\zr I=H/\BT zD=I/\zI=I/\zH=H
 ok:BM M=0/\Lens M/\CF M ns
 il:I.length=8
 hl:H.length<=10000/\T1.length<=10000/\U.length<=10000/\0<T1.length
 h:H=[53,58,114,111,117,116,101,56,58]++I
 c1:C1=Cm I [91,48,59,49,59,93,50,59]
 c2:C2=Cm I [91,48,59,49,59,50,59,93,51,59]
 s1:S1=H++[56,58,91,48,59,49,59,93,50,59,56,58]/\T1=S1++C1
 s2:S2=H++[49,48,58,91,48,59,49,59,50,59,93,51,59,56,58]/\U=S2++C2
 t0:T0=T1.take (T1.length - 1)
 rA:runF M H I H 2=(T1,false,0)
 rB:runF M H I T0 9=(U,true,0)
 rC:runF M H I H (-1)=([],false,1)
 rD:runF M H I H 0=(H,false,0)
 oA:∃x,zG M H I T1=some x/\x.fin=T1.length/\x.ch=[0,1]/\x.steps=2
 o0:zG M H I T0=some (j0 I)
 oH:zG M H I H=some (j0 I)
 oN:zG M H I []=none
 oB:∃x,zG M H I U=some x/\x.ch=[0,1,2]/\x.steps=3
 qB:resF M H I U=([[0,1,2]],.zero,0)
 qH:resF M H I H=([],.zero,53)
 qN:resF M H I []=([],.zero,4)
 cB:zV M [0,1,2]=true
 dH:(loadS M [] 0).done=false
theorem z1_eq:z1=[56,58,91,48,59,49,59,93,50,59,56,58]++Cm zI [91,48,59,49,59,93,50,59]:=by
 have o:Bf [0,1] 2=[91,48,59,49,59,93,50,59]:=by decide +kernel
 have D:(zJ zI [0,1] 2).length=8:=Bb _ _ _;have B:Lib.itoa ((8:Nat):Int)=[56]:=by decide +kernel
 have E:wT (zJ zI [0,1] 2)=[56,58]++zJ zI [0,1] 2:=by
  unfold wT;rw [D,B];rfl
 have d:wT (Bf [0,1] 2)=[56,58,91,48,59,49,59,93,50,59]:=by rw [o];decide +kernel
 show wT (Bf [0,1] 2)++wT (zJ zI [0,1] 2)=_;rw [d,E];unfold zJ;rw [o];rfl
theorem z2_eq:z2=[49,48,58,91,48,59,49,59,50,59,93,51,59,56,58]++Cm zI [91,48,59,49,59,50,59,93,51,59]:=by
 have o:Bf [0,1,2] 3=[91,48,59,49,59,50,59,93,51,59]:=by decide +kernel
 have D:(zJ zI [0,1,2] 3).length=8:=Bb _ _ _;have B:Lib.itoa ((8:Nat):Int)=[56]:=by decide +kernel
 have E:wT (zJ zI [0,1,2] 3)=[56,58]++zJ zI [0,1,2] 3:=by
  unfold wT;rw [D,B];rfl
 have d:wT (Bf [0,1,2] 3)=[49,48,58,91,48,59,49,59,50,59,93,51,59]:=by rw [o];decide +kernel
 show wT (Bf [0,1,2] 3)++wT (zJ zI [0,1,2] 3)=_;rw [d,E];unfold zJ;rw [o];rfl
theorem zH_eq:zH=[53,58,114,111,117,116,101,56,58]++zI:=by
 have d:Lib.itoa ((8:Nat):Int)=[56]:=by decide +kernel
 have o:wT BQ=[53,58,114,111,117,116,101]:=by decide +kernel
 have B:wT zI=[56,58]++zI:=by
  unfold wT;rw [zI_len,d];rfl
 show wT BQ++wT zI=_;rw [o,B];rfl
theorem chain_len (a b:List UInt8):(Cm a b).length=8:=rfl
theorem z_pack:∃M ns I H C1 C2 S1 S2 T1 T0 U,ZP M ns I H C1 C2 S1 S2 T1 T0 U:=by
 have d:zH.length=17:=by rw [zH_eq,Eg,zI_len];rfl
 have h1:z1.length=20:=by rw [z1_eq,Eg,chain_len];rfl
 have h2:z2.length=23:=by rw [z2_eq,Eg,chain_len];rfl
 have ht:zH++z1.take (z1.length - 1)=(zH++z1).take ((zH++z1).length - 1):=by
  rw [Eg,List.take_append,List.take_of_length_le (show zH.length<=zH.length+z1.length - 1 by omega),show zH.length+z1.length - 1 - zH.length=z1.length - 1 by omega]
 refine ⟨zM,zN,zI,zH,Cm zI [91,48,59,49,59,93,50,59],Cm zI [91,48,59,49,59,50,59,93,51,59],zH++[56,58,91,48,59,49,59,93,50,59,56,58],zH++[49,48,58,91,48,59,49,59,50,59,93,51,59,56,58],zH++z1,zH++z1.take (z1.length - 1),zH++z2,⟨rfl,rfl⟩,⟨by rw [z_desc];rfl,rfl,rfl,rfl,rfl⟩,⟨z_chk,z_lens,z_small⟩,zI_len,?_,zH_eq,rfl,rfl,⟨rfl,?_⟩,⟨rfl,?_⟩,ht,z_runA,z_runB,z_runC,z_runD,z_openA,z_open1,z_openH,z_open0,z_openB,z_resB,z_resH,z_res0,by decide +kernel,by rw [z_start]⟩
 ·simp only [Eg];omega
 ·rw [z1_eq,List.append_assoc]
 ·rw [z2_eq,List.append_assoc]
theorem of_r (a:List UInt8) (w:World) (d:a.length<=1000000000):Calls Tryz.prog 68 #[.string ⟨a.toArray⟩] w fun e w'=>e=.returned (.string ⟨(BT a).toArray⟩)/\za w w':=
 rOf_calls ⟨a.toArray⟩ w (by have:(ByteArray.mk a.toArray).size=a.length:=(by simp [ByteArray.size]);omega)
theorem chain_r (a b:List UInt8) (w:World) (d:a.length<=1000000000) (o:b.length<=1000000000):Calls Tryz.prog 69 #[.string ⟨a.toArray⟩,.string ⟨b.toArray⟩] w fun e w'=>e=.returned (.string ⟨(Cm a b).toArray⟩)/\za w w':=
 rChain_calls ⟨a.toArray⟩ ⟨b.toArray⟩ w (by simpa [ByteArray.size] using d) (by simpa [ByteArray.size] using o)
theorem zsanity_calls (w:World) (hv:zq w):Calls Tryz.prog 25 #[] w fun e w'=>e=.returned (.bool true)/\za w w':=by
 obtain ⟨M,ns,I,H,C1,C2,S1,S2,T1,T0,U,hz⟩:=z_pack;have B:=zh hz;have HV:=zh hv;clear hz hv
 go_enter Tryz.func25,Tryz.ntmps25
 go_wp2_with fail
 refine (DR w).mono ?_;rintro e w1 ⟨v1,rfl,f0,d5⟩;rw [B.out.m.1,B.out.m.2] at d5;have e6:=zh d5;obtain ⟨f,u,t,rfl,⟨_,⟨Af,cf,rfl,-,-⟩,-⟩,⟨Au,cu,rfl,-,-⟩,⟨-,_,⟨At,ct,rfl,-,-⟩,-⟩⟩:=d5;go_upto_region 2 with fail;obtain ⟨a3,r0,r1,r2,r3,r4,r5⟩:=mz_box w1 M Af cf Au cu At ct;simp only [mzc] at a3 r0 r1 r2 r3 r4 r5;generalize w1.alloc _=w2 at a3 r0 r1 r2 r3 r4 r5⊢;generalize w1.heap.size=gm at r0 r1 r2 r3 r4 r5⊢;have c9:=zh (e6.out.below a3);have e9:Hid (za w w2):=f0.trans a3;have b4:Hid (zq w2):=HV.out.ext e9.out;clear f0 a3 e6
 have e7:Hid (Calls Tryz.prog 68 #[.string ⟨#[51,59,49,59,49,59,49,59,49,58,97,91,48,59,93,91,50,59,93,49,59,51,58,49,49,49,51,58,48,48,48]⟩] w2 fun e w'=>e=.returned (.string ⟨I.toArray⟩)/\za w2 w'):=by
  have h:=of_r zD w2 (by decide);rw [B.out.id.2.2.1] at h;exact h
 have e4:Hid (∀W,za w2 W->Calls Tryz.prog 28 #[.agg #[.int .i64 M.w,.int .i64 M.h,.int .i64 M.l,.slice Af M.free.length cf,.slice Au M.up.length cu,.slice At M.tasks.length ct]] W fun e w'=>e=.returned (.tuple #[.string ⟨H.toArray⟩,.int .i64 0])/\za W w'):=fun W h=>by
  have h1:=jBegin_calls W (b4.out.ext h) (c9.out.below h) B.out.ok.2.2 B.out.ok.2.1 B.out.ok.1;rw [B.out.id.1,B.out.id.2.1] at h1;exact h1
 have b6:Hid (∀W,Calls Tryz.prog 69 #[.string ⟨I.toArray⟩,.string ⟨#[91,48,59,49,59,93,50,59]⟩] W fun e w'=>e=.returned (.string ⟨C1.toArray⟩)/\za W w'):=fun W=>by
  rw [B.out.c1];exact chain_r I [91,48,59,49,59,93,50,59] W (by have:=B.out.il;omega) (by decide)
 have b7:Hid (∀W,Calls Tryz.prog 69 #[.string ⟨I.toArray⟩,.string ⟨#[91,48,59,49,59,50,59,93,51,59]⟩] W fun e w'=>e=.returned (.string ⟨C2.toArray⟩)/\za W w'):=fun W=>by
  rw [B.out.c2];exact chain_r I [91,48,59,49,59,50,59,93,51,59] W (by have:=B.out.il;omega) (by decide)
 have e8:Hid (∀S x,S=H\/S=T0\/S=U\/S=[]->zG M H I S=some x->x.steps<=20000):=fun S x hS D=>by
  rcases hS with rfl | rfl | rfl | rfl
  ·rw [B.out.oH] at D;injection D with D;rw [<-D];exact (show (0:Int)<=20000 by decide)
  ·rw [B.out.o0] at D;injection D with D;rw [<-D];exact (show (0:Int)<=20000 by decide)
  ·obtain ⟨y,h1,-,h2⟩:=B.out.oB;rw [h1] at D;injection D with D;rw [<-D,h2];decide
  ·rw [B.out.oN] at D;cases D
 have G:Hid (∀(S T:List UInt8) (n:Int) (d:Bool) (e0:Int),(S=H\/S=T0\/S=U\/S=[])->S.length<=20000->-1000<=n/\n<=1000->runF M H I S n=(T,d,e0)->∀W,za w2 W->Calls Tryz.prog 32 #[.agg #[.int .i64 M.w,.int .i64 M.h,.int .i64 M.l,.slice Af M.free.length cf,.slice Au M.up.length cu,.slice At M.tasks.length ct],.string ⟨S.toArray⟩,.int .i64 n] W fun e w'=>e=.returned (.tuple #[.string ⟨T.toArray⟩,.bool d,.int .i64 e0])/\za W w'):=fun S T n d e0 hS f8 hn hr W h=>by
  have h1:=jRun_calls (s:=S) n W (b4.out.ext h) (c9.out.below h) B.out.ok.2.2 B.out.ok.2.1 B.out.ok.1 (by omega) hn (by rw [B.out.id.1,B.out.id.2.1];exact fun x D=>e8.out S x hS D);unfold JRunPost at h1;rw [B.out.id.1,B.out.id.2.1,hr] at h1;exact h1
 have V:Hid (∀(S:List UInt8),(S=H\/S=U\/S=[])->S.length<=20000->∀W,za w2 W->Calls Tryz.prog 71 #[.agg #[.int .i64 M.w,.int .i64 M.h,.int .i64 M.l,.slice Af M.free.length cf,.slice Au M.up.length cu,.slice At M.tasks.length ct],.string ⟨S.toArray⟩] W (ResPost W M I S)):=fun S hS f8 W h=>by
  have h1:=jResult_calls (s:=S) W (b4.out.ext h) (c9.out.below h) B.out.ok.2.2 B.out.ok.2.1 B.out.ok.1 (by omega) (by rw [B.out.id.1,B.out.id.2.1];exact fun x D=>e8.out S x (hS.elim .inl fun h=>h.elim (fun h=>.inr (.inr (.inl h))) fun h=>.inr (.inr (.inr h))) D) (by
   rw [B.out.id.1,B.out.id.2.1];intro x D g3 g4
   exfalso
   rcases hS with rfl | rfl | rfl
   ·rw [B.out.oH] at D;injection D with D;rw [<-D] at g4;exact absurd (show (loadS M [] 0).done=true from g4) (by rw [B.out.dH];simp)
   ·obtain ⟨y,h1,h2,-⟩:=B.out.oB;rw [h1] at D;injection D with D;rw [<-D,h2,B.out.cB] at g3;cases g3
   ·rw [B.out.oN] at D;cases D)
  rw [B.out.id.1] at h1;exact h1
 have b9:Hid (∀(S:List UInt8) (ok:Nat->Prop) (vl:Value) (l:List Int) (st en:Int),S.length<=20000->l.length<=1000->(∃x,zG M H I S=some x/\x.steps=st/\(x.fin:Int)=en/\x.ch=l)->∀W,za w2 W->zk W ok vl l->Calls Tryz.prog 70 #[.string ⟨S.toArray⟩,.int .i64 st,.int .i64 en,vl] W fun e w'=>e=.returned (.bool true)/\za W w'):=fun S ok vl l st en f8 h6 D W h h9=>by
  refine zreads_calls W (b4.out.ext h) h9 h6 (by omega) ?_;rw [B.out.m.1,B.out.id.2.2.2.1,B.out.id.2.2.2.2];exact D
 have j2:∀w,(Op.stringOp .add ⟨#[53,58,114,111,117,116,101,56,58]⟩ ⟨I.toArray⟩).run Tryz.prog w=.ok (.string ⟨H.toArray⟩) w:=fun w=>by rw [B.out.h];exact zx (x:=[53,58,114,111,117,116,101,56,58]) (by have:=B.out.il;simp;omega)
 have j3:∀w,(Op.stringOp .add ⟨H.toArray⟩ ⟨#[56,58,91,48,59,49,59,93,50,59,56,58]⟩).run Tryz.prog w=.ok (.string ⟨S1.toArray⟩) w:=fun w=>by rw [B.out.s1.1];exact zx (y:=[56,58,91,48,59,49,59,93,50,59,56,58]) (by have:=B.out.hl;simp;omega)
 have h7:S1.length<=20000:=by rw [B.out.s1.1];have:=B.out.hl;simp;omega
 have h8:S2.length<=20000:=by rw [B.out.s2.1];have:=B.out.hl;simp;omega
 have g0:C1.length=8:=by rw [B.out.c1];rfl
 have g1:C2.length=8:=by rw [B.out.c2];rfl
 have j4:∀w,(Op.stringOp .add ⟨S1.toArray⟩ ⟨C1.toArray⟩).run Tryz.prog w=.ok (.string ⟨T1.toArray⟩) w:=fun w=>by rw [B.out.s1.2];exact zx (by omega)
 have j5:∀w,(Op.stringOp .add ⟨H.toArray⟩ ⟨#[49,48,58,91,48,59,49,59,50,59,93,51,59,56,58]⟩).run Tryz.prog w=.ok (.string ⟨S2.toArray⟩) w:=fun w=>by rw [B.out.s2.1];exact zx (y:=[49,48,58,91,48,59,49,59,50,59,93,51,59,56,58]) (by have:=B.out.hl;simp;omega)
 have j6:∀w,(Op.stringOp .add ⟨S2.toArray⟩ ⟨C2.toArray⟩).run Tryz.prog w=.ok (.string ⟨U.toArray⟩) w:=fun w=>by rw [B.out.s2.2];exact zx (by omega)
 have E:Hid (H.length<=10000/\T1.length<=10000/\U.length<=10000/\0<T1.length):=B.out.hl;clear h7 h8 g0 g1;have D:za w2 w2:=za.refl w2
 go_wp2_with fail
 refine e7.out.mono ?_;rintro e w3 ⟨rfl,f2⟩;have d6:za w2 w3:=D.trans f2;clear D f2 e7
 go_wp2_with fail
 refine (e4.out _ d6).mono ?_;rintro e w4 ⟨rfl,f3⟩;have g5:za w2 w4:=d6.trans f3;clear d6 f3 e4
 go_wp2_with fail
 refine (b6.out _).mono ?_;rintro e w5 ⟨rfl,f4⟩;have g6:za w2 w5:=g5.trans f4;clear g5 f4 b6
 go_wp2_with fail
 refine (b7.out _).mono ?_;rintro e w6 ⟨rfl,f5⟩;have d7:za w2 w6:=g6.trans f5;clear g6 f5 b7
 go_wp2_with fail
 refine (G.out H T1 2 false 0 (.inl rfl) (by have:=E.out;omega) (by decide) B.out.rA _ d7).mono ?_;rintro e w7 ⟨rfl,f6⟩;have d8:za w2 w7:=d7.trans f6;clear d7 f6;have d4:za w7 (w7.alloc (.cells #[.int .i64 0,.int .i64 1] 3)):=(za.refl w7).alloc _;have b8:Hid (zk (w7.alloc (.cells #[.int .i64 0,.int .i64 1] 3)) (fun _=>True) (.slice (some ⟨w7.heap.size,0,none⟩) 2 2) [0,1]):=⟨_,_,rfl,DY _,AT.block (cs:=#[.int .i64 0,.int .i64 1]) (zl.new w7 _ _ rfl) trivial rfl⟩
 go_wp2_with fail
 refine (b9.out T1 _ _ [0,1] 2 T1.length (by have:=E.out;omega) (by decide) (by obtain ⟨x,h1,h2,h3,h4⟩:=B.out.oA;exact ⟨x,h1,h4,by rw [h2],h3⟩) _ (d8.trans d4) b8.out).mono ?_;rintro e w8 ⟨rfl,a4⟩;have d9:za w2 w8:=(d8.trans d4).trans a4;have k4:0<T1.length:=E.out.2.2.2;have k5:T1.length<=10000:=E.out.2.1;obtain ⟨k1,h5⟩:∃k,T1.length=k+1:=⟨T1.length - 1,by omega⟩;have hw:IntKind.i64.wrap ((T1.length:Int) - 1)=(k1:Int):=by rw [Eu];omega
 have j7:k1<=T1.length:=by omega
 have e1:ByteArray.extract ⟨T1.toArray⟩ 0 k1=⟨T0.toArray⟩:=by rw [B.out.t0,show T1.length - 1=k1 by omega];exact ext_take T1 k1
 clear d8 d4 a4 b8 h5
 go_wp2_with fail
 refine (b9.out T0 (fun _=>True) (.slice none 0 0) [] 0 H.length (by have h1:=E.out;rw [B.out.t0,EQ];omega) (by decide) ⟨_,B.out.o0,rfl,by rw [<-B.out.id.2.1];rfl,rfl⟩ _ d9 (zk.nil _ _)).mono ?_;rintro e w9 ⟨rfl,a4⟩;have g7:za w2 w9:=d9.trans a4;clear d9 a4;go_upto_region 11 with fail;refine Eo (S:=(fun W=>za w2 W)) AI (g7.drew) fun zH=>?_;generalize w9.drew=wd at zH⊢;refine z6 0 zH ?_;refine z6 1 zH ?_;simp only [zd,DV];refine z6 2 zH ?_;refine z6 3 zH ?_;simp only [zd,DV];refine z6 4 zH ?_;refine z6 5 zH ?_;simp only [zd,DV];refine AB 6 fun K hK=>?_;go_simp;go_at_call 32;refine (G.out T0 U 9 true 0 (.inr (.inl rfl)) (by have h1:=E.out;rw [B.out.t0,EQ];omega) (by decide) B.out.rB _ zH).mono ?_;rintro e w10 ⟨rfl,f1⟩;go_simp;refine Fe hK (zH.trans f1) fun zH=>?_;clear hK K;try simp only [zd,DV]
 refine z6 7 zH ?_;refine z6 8 zH ?_;simp only [zd,DV];refine z6 9 zH ?_;refine z6 10 zH ?_;simp only [zd,DV];refine z6 11 zH ?_;refine z6 12 zH ?_;simp only [zd,DV];refine z6 13 zH ?_;simp only [zd,DV];refine EC (by kernel_rfl) ?_ _;have a9:=zH;clear zH g7
 go_wp2_with fail
 refine (V.out U (.inr (.inl rfl)) (by have:=E.out;omega) _ (a9)).mono ?_;rintro e w11 ⟨vp11,vr11,rfl,c0,J,a5⟩;rw [B.out.id.2.1,B.out.qB] at J a5⊢;obtain ⟨A11,c11,B11,d11,rfl,-⟩:=a5.form;obtain ⟨_,⟨Ap11,cp11,rfl,-,-⟩,-⟩:=_root_.id J;have e5:=zh J;have b0:za w2 w11:=(a9).trans c0;have i0:∀o,za w2 (w11.alloc o):=fun o=>b0.alloc o
 clear c0 a5 J;clear a9
 go_wp2_with fail
 refine (V.out H (.inl rfl) (by have:=E.out;omega) _ (b0.alloc _)).mono ?_;rintro e w12 ⟨vp12,vr12,rfl,a0,O,a6⟩;have f9:=a0;rw [B.out.id.2.1,B.out.qH] at O a6⊢;obtain ⟨A12,c12,B12,d12,rfl,-⟩:=a6.form;obtain ⟨_,⟨Ap12,cp12,rfl,-,-⟩,-⟩:=_root_.id O;have i3:=zh O;have b1:za w2 w12:=(b0.alloc _).trans a0;have i1:∀o,za w2 (w12.alloc o):=fun o=>b1.alloc o
 clear a0 a6 O
 go_wp2_with fail
 refine (V.out [] (.inr (.inr rfl)) (by have:=E.out;simp) _ (b1.alloc _)).mono ?_;rintro e w13 ⟨vp13,vr13,rfl,a1,Q,a7⟩;have a8:=a1;rw [B.out.id.2.1,B.out.qN] at Q a7⊢;obtain ⟨A13,c13,B13,d13,rfl,-⟩:=a7.form;obtain ⟨_,⟨Ap13,cp13,rfl,-,-⟩,-⟩:=_root_.id Q;have i4:=zh Q;have c7:za w2 w13:=(b1.alloc _).trans a1;have i2:∀o,za w2 (w13.alloc o):=fun o=>c7.alloc o
 clear a1 a7 Q;have a8:za w11 w13:=(((za.refl w11).alloc _).trans f9).trans (((za.refl w12).alloc _).trans a8);have b2:za w2 (w13.alloc (.cells #[.int .i64 PT.zero.task,.slice A13 PT.zero.side.length c13,.slice B13 PT.zero.kids.length d13] 41)):=c7.alloc _
 go_wp2_with fail
 refine (G.out H [] (-1) false 1 (.inl rfl) (by have:=E.out;omega) (by decide) B.out.rC _ b2).mono ?_;rintro e w15 ⟨rfl,c6⟩;have b3:za w2 w15:=b2.trans c6
 go_wp2_with fail
 refine (G.out H H 0 false 0 (.inl rfl) (by have:=E.out;omega) (by decide) B.out.rD _ b3).mono ?_;rintro e w16 ⟨rfl,a2⟩;have c8:za w2 w16:=b3.trans a2;have b5:Hid (za w11 w16):=(((a8.alloc _).trans c6).trans a2);have e2:za w16 ((w16.alloc (.cells #[.int .i64 0,.int .i64 1,.int .i64 2] 3)).alloc (.cells #[.slice (some ⟨w16.heap.size,0,none⟩) 3 3] 23)):=((za.refl w16).alloc _).alloc _
 have f7:Aa ((w16.alloc (.cells #[.int .i64 0,.int .i64 1,.int .i64 2] 3)).alloc (.cells #[.slice (some ⟨w16.heap.size,0,none⟩) 3 3] 23)) (fun _=>True) (.slice (some ⟨w16.heap.size+1,0,none⟩) 1 1) [[0,1,2]]:=
  ⟨[.slice (some ⟨w16.heap.size,0,none⟩) 3 3],⟨_,_,rfl,DY _,AT.block (cs:=#[.slice (some ⟨w16.heap.size,0,none⟩) 3 3]) (zl.new (w16.alloc (.cells #[.int .i64 0,.int .i64 1,.int .i64 2] 3)) _ _ (by simp)) trivial rfl⟩,fun i x D=>by
   match i,D with
   | 0,D=>
    have:[0,1,2]=x:=by simpa using D
    subst this;exact ⟨_,rfl,⟨_,_,rfl,DY _,AT.block (cs:=#[.int .i64 0,.int .i64 1,.int .i64 2]) ((zl.new w16 #[.int .i64 0,.int .i64 1,.int .i64 2] 3 rfl).alloc _) trivial rfl⟩⟩⟩
 have g8:=zh (samePaths_t _ rfl (e5.out.below (b5.out.trans e2)) f7 (by simp) (fun x D=>by simp at D;rw [D];simp));have g9:Hid (za w2 ((w16.alloc (.cells #[.int .i64 0,.int .i64 1,.int .i64 2] 3)).alloc (.cells #[.slice (some ⟨w16.heap.size,0,none⟩) 3 3] 23))):=c8.trans e2;clear b2 b3 c8 a2 f7 e2
 go_wp2_with fail
 refine g8.out.mono ?_;rintro e w17 ⟨rfl,hD⟩
 go_wp2_with fail
 go_ret;exact ⟨rfl,(e9.out.trans g9.out).trans (hD.below _)⟩
theorem runJ_len {m:MZ} (g:AG m) {b lim:Int} (I:b+lim<=20000):∀(f:Nat) (r:RS) (sg:List UInt8),RInv m r->sg.length<=1000->r.steps<=20000->(runJ m b lim f r sg).1.length<=7000*f
 | 0,r,sg,_,_,_=>by simp [runJ]
 | f+1,r,sg,M,O,ht=>by
  by_cases h:r.done=true\/lim<=r.steps - b
  ·rw [runJ_stop h];simp
  ·obtain ⟨r',d⟩:∃r',RS.run m (min (16 - r.steps % 16) (lim - (r.steps - b))).toNat r=r':=⟨_,rfl⟩;rw [runJ_go h d]
   have J:r.steps - b<lim:=by
    rcases Int.lt_or_le (r.steps - b) lim with q | q
    ·exact q
    ·exact absurd (.inr q) h
   have B:=(Cq m (min (16 - r.steps % 16) (lim - (r.steps - b))).toNat r).2.1;rw [d] at B;have o:RInv m r':=by rw [<-d];exact M.run _
   have K:=Int.emod_lt_of_pos r.steps (show (0:Int)<16 by decide)
   have E:r'.steps<=20000:=by
    generalize r.steps % 16=q at B K;obtain ⟨kN,D⟩:∃k:Nat,k=(min (16 - q) (lim - (r.steps - b))).toNat:=⟨_,rfl⟩;rw [<-D] at B;have h1:(kN:Int)<=lim - (r.steps - b):=by omega
    omega
   have G:=o.st;obtain ⟨i1,i2⟩:=run_i64 g o;have h1:=recB_le (sg:=sg) (ch:=r'.ch) (st:=r'.steps) O i1 ⟨by omega,by omega⟩ i2;have h2:=runJ_len g I f r' (zJ sg r'.ch r'.steps) o (by rw [Bb];omega) E;show (zS sg r'.ch r'.steps++_).length<=_;rw [Eg];omega
theorem runF_len {m:MZ} (g:AG m) {id s:List UInt8} {n:Nat} (hid:id.length=8) (D:∀x,zG m (zr id) id s=some x->x.steps<=20000):(runF m (zr id) id s n).1.length<=s.length+7000*n:=by
 unfold runF
 cases d:zG m (zr id) id s with
 | none=>simp
 | some x=>
  simp only;rw [if_neg (by omega)];obtain ⟨h1,h2,h3⟩:=open_b (good_chk g) hid d;have o:=D x d;have E:=runJ_len g (b:=x.steps) (lim:=min (20000 - x.steps) (n:Int)) (by omega) (min (20000 - x.steps) (n:Int)).toNat (loadS m x.ch x.steps) x.sg (CM h2).2 (by rw [h1.sg];omega) o;show (s.take x.fin++_).length<=_;rw [Eg,EQ];have B:(min (20000 - x.steps) (n:Int)).toNat<=n:=by omega
  have G:=Nat.mul_le_mul_left 7000 B;omega
end
section
open Go.RowKit Go.Shelf
attribute [local go_sem ↓] Go.wp_at_zero Go.wp_at_succ
theorem mdec_calls:∀(N:Nat) (n:Int) (w:World),BI n->2*n.natAbs+(if n<0 then 1 else 0)<N->Calls Tryz.prog 109 #[.int .i64 n] w fun e w'=>e=.returned (.string ⟨(Lib.itoa n).toArray⟩)/\za w w'
 | 0,n,w,_,h=>by omega
 | N+1,n,w,U,G=>by
  have IH:Hid (∀(n:Int) (w:World),BI n->2*n.natAbs+(if n<0 then 1 else 0)<N->Calls Tryz.prog 109 #[.int .i64 n] w fun e w'=>e=.returned (.string ⟨(Lib.itoa n).toArray⟩)/\za w w'):=mdec_calls N;have a6:=U;obtain ⟨a4,a5⟩:=a6;by_cases h0:0<=n
  ·rw [if_neg (by omega)] at G;by_cases h1:n<10
   ·have hc:=dconv1 w (48+n);have hw:IntKind.u8.wrap (48+n)=48+n:=by rw [IntKind.wrap_u8];omega
    have b7:IntKind.i64.wrap (48+n)=48+n:=by rw [Eu];omega
    have d:Hid (strI [48+n]=⟨(Lib.itoa n).toArray⟩):=by
     (show _=_)
     rw [strI_eq,itoa_one h0 h1];show dmk [UInt8.ofNat (48+n).toNat]=_;rw [show (48+n).toNat=48+n.toNat from by omega];rfl
    clear G IH U
    go_enter Tryz.func109,Tryz.ntmps109
    go_wp2_with fail
    go_ret;exact ⟨by first | exact dret_str d.out | (simp;exact d.out),(za.refl w).alloc _⟩
   ·obtain ⟨q,K⟩:=Fd (n.tdiv 10);obtain ⟨r,M⟩:=Fd (n.tmod 10);have a9:q=n / 10:=by rw [K,Int.tdiv_eq_ediv_of_nonneg h0]
    have b2:r=n % 10:=by rw [M,Int.tmod_eq_emod_of_nonneg h0]
    have a1:n.tdiv 10=q:=K.symm;have a2:n.tmod 10=r:=M.symm;have a7:IntKind.i64.wrap (n.tdiv 10)=q:=by rw [a1,Eu];omega
    have b0:IntKind.i64.wrap (n.tmod 10)=r:=by rw [a2,Eu];omega
    have a8:wrap64 q=q:=IntWalk.wrap64_in _ (by omega);have b1:wrap64 r=r:=IntWalk.wrap64_in _ (by omega);have d:Hid (Lib.itoa n=Lib.itoa q++Lib.itoa r):=by (show _=_);rw [itoa_plus h0 h1,a1,a2]
    have Q:Hid (∀w,Calls Tryz.prog 109 #[.int .i64 q] w fun e w'=>e=.returned (.string ⟨(Lib.itoa q).toArray⟩)/\za w w'):=fun w=>IH.out q w ⟨by omega,by omega⟩ (by rw [if_neg (by omega)];omega)
    have D:Hid (∀w,Calls Tryz.prog 109 #[.int .i64 r] w fun e w'=>e=.returned (.string ⟨(Lib.itoa r).toArray⟩)/\za w w'):=fun w=>IH.out r w ⟨by omega,by omega⟩ (by rw [if_neg (by omega)];omega)
    have l1:=Bx (n:=q) ⟨by omega,by omega⟩;have l2:=Bx (n:=r) ⟨by omega,by omega⟩;obtain ⟨x,hx⟩:=Fd (Lib.itoa q);obtain ⟨y,B⟩:=Fd (Lib.itoa r);rw [<-hx] at d Q l1;rw [<-B] at d D l2;have ha:∀w,(Op.stringOp .add ⟨x.toArray⟩ ⟨y.toArray⟩).run Tryz.prog w=.ok (.string ⟨(x++y).toArray⟩) w:=fun w=>zx (by omega)
    clear G IH U K M a9 b2 hx B l1 l2
    go_enter Tryz.func109,Tryz.ntmps109
    go_wp2_with fail
    with_reducible refine (Q.out w).mono ?_
    rintro e w1 ⟨rfl,o⟩
    go_wp2_with fail
    with_reducible refine (D.out w1).mono ?_
    rintro e w2 ⟨rfl,E⟩
    go_wp2_with fail
    go_ret;exact ⟨BL d.out.symm,o.trans E⟩
  ·rw [if_pos (by omega)] at G;have I:n<0:=by omega
   obtain ⟨k,rfl⟩:∃k:Nat,n=-(k:Int):=⟨n.natAbs,by omega⟩;have e1:(-(k:Int)).tdiv 10=-((k / 10:Nat):Int):=by rw [Int.neg_tdiv];rfl
   have e2:(-(k:Int)).tmod 10=-((k % 10:Nat):Int):=by rw [Int.neg_tmod];rfl
   obtain ⟨n,J⟩:=Fd (-(k:Int));obtain ⟨q,K⟩:=Fd (-((k / 10:Nat):Int));obtain ⟨r,M⟩:=Fd (((k % 10:Nat):Int));rw [<-J] at e1 e2 I h0 G a4 a5⊢;rw [<-K] at e1;rw [<-M] at e2;have a7:IntKind.i64.wrap (n.tdiv 10)=q:=by rw [e1,Eu];omega
   have b0:IntKind.i64.wrap (n.tmod 10)=-r:=by rw [e2,Eu];omega
   have a8:wrap64 q=q:=IntWalk.wrap64_in _ (by omega);have b6:wrap64 r=r:=IntWalk.wrap64_in _ (by omega);have b1:IntKind.i64.wrap (- -r)=r:=by rw [Eu];omega
   have b5:IntKind.i64.wrap r=r:=by rw [Eu];omega
   have a0:- -r=r:=by omega
   have V:n.natAbs=k:=by omega
   have D:Hid (∀w,Calls Tryz.prog 109 #[.int .i64 r] w fun e w'=>e=.returned (.string ⟨(Lib.itoa r).toArray⟩)/\za w w'):=fun w=>IH.out r w ⟨by omega,by omega⟩ (by rw [if_neg (by omega)];omega)
   have l2:=Bx (n:=r) ⟨by omega,by omega⟩;by_cases O:q=0
   ·have b3:(q==0)=true:=by simp [O]
    have d:Hid (Lib.itoa n=45 :: Lib.itoa r):=by
     (show _=_)
     have h:=itoa_sign I (by rw [e1];exact O);rw [e2,a0] at h;exact h
    obtain ⟨y,B⟩:=Fd (Lib.itoa r);rw [<-B] at d D l2;have ha:∀w,(Op.stringOp .add ⟨#[45]⟩ ⟨y.toArray⟩).run Tryz.prog w=.ok (.string ⟨(45 :: y).toArray⟩) w:=fun w=>zx (x:=[45]) (by simp;omega)
    clear G IH U J K M B l2 O V
    go_enter Tryz.func109,Tryz.ntmps109
    go_wp2_with fail
    with_reducible refine (D.out w).mono ?_
    rintro e w1 ⟨rfl,o⟩
    go_wp2_with fail
    go_ret;exact ⟨BL d.out.symm,o⟩
   ·have b3:(q==0)=false:=by simp [O]
    have d:Hid (Lib.itoa n=Lib.itoa q++Lib.itoa r):=by
     (show _=_)
     have h:=itoa_more I (by rw [e1];exact O);rw [e1,e2,a0] at h;exact h
    have Q:Hid (∀w,Calls Tryz.prog 109 #[.int .i64 q] w fun e w'=>e=.returned (.string ⟨(Lib.itoa q).toArray⟩)/\za w w'):=fun w=>IH.out q w ⟨by omega,by omega⟩ (by rw [if_pos (by omega)];omega)
    have l1:=Bx (n:=q) ⟨by omega,by omega⟩;obtain ⟨x,hx⟩:=Fd (Lib.itoa q);obtain ⟨y,B⟩:=Fd (Lib.itoa r);rw [<-hx] at d Q l1;rw [<-B] at d D l2;have ha:∀w,(Op.stringOp .add ⟨x.toArray⟩ ⟨y.toArray⟩).run Tryz.prog w=.ok (.string ⟨(x++y).toArray⟩) w:=fun w=>zx (by omega)
    clear G IH U J K M hx B l1 l2 O V
    go_enter Tryz.func109,Tryz.ntmps109
    go_wp2_with fail
    with_reducible refine (Q.out w).mono ?_
    rintro e w1 ⟨rfl,o⟩
    go_wp2_with fail
    with_reducible refine (D.out w1).mono ?_
    rintro e w2 ⟨rfl,E⟩
    go_wp2_with fail
    go_ret;exact ⟨BL d.out.symm,o.trans E⟩
theorem mdecimal (w:World) (d:BI n):Calls Tryz.prog 109 #[.int .i64 n] w fun e w'=>e=.returned (.string ⟨(Lib.itoa n).toArray⟩)/\za w w':=mdec_calls _ n w d (Nat.lt_succ_self _)
theorem BP (w:World) (B:BI n):Calls Tryz.prog 53 #[.int .i64 n] w fun e w'=>e=.returned (.string ⟨(wI n).toArray⟩)/\za w w':=by
 have D:=zh (mdecimal w B);have E:=Bx B;obtain ⟨d,o⟩:=Fd (Lib.itoa n);have G:Hid (wI n=d++[59]):=by rw [o];rfl
 rw [<-o] at E D;have J:∀w,(Op.stringOp .add ⟨d.toArray⟩ ⟨#[59]⟩).run Tryz.prog w=.ok (.string ⟨(d++[59]).toArray⟩) w:=fun w=>zx (y:=[59]) (by simp;omega)
 clear o E B
 go_enter Tryz.func53,Tryz.ntmps53
 go_wp2_with fail
 refine D.out.mono ?_;rintro e w1 ⟨rfl,I⟩
 go_wp2_with fail
 go_ret;exact ⟨BL G.out.symm,I⟩
theorem wIs_take {l:List Int} (d:k<l.length):(l.take (k+1)).flatMap wI=(l.take k).flatMap wI++wI l[k]:=by
 rw [Ef d,List.flatMap_append];simp
theorem DM {v:Value} {l:List Int} (w:World) (hl:zk w ok v l) (hn:∀x∈l,BI x) (a6:l.length<=1000000000000):Calls Tryz.prog 54 #[v] w fun e w'=>e=.returned (.string ⟨(wL l).toArray⟩)/\za w w':=by
 have HL:=zh hl;have V:=zh hn;obtain ⟨A,c,rfl,-,M⟩:=hl;have a0:=zh M;clear hn M
 go_enter Tryz.func54,Tryz.ntmps54
 go_wp2_with fail
 go_loopw [3,4] (fun s i wr=>∃k:Nat,k<=l.length/\i=.int .i64 k/\s=.string ⟨(91 :: (l.take k).flatMap wI).toArray⟩/\Hid (za w wr)) (fun _ i _=>l.length - (intOf i).toNat)
 case atStart=>exact ⟨0,Em _,rfl,by simp,za.refl _⟩
 case round=>
  obtain ⟨k,hk,rfl,rfl,hE⟩:=hrel;obtain ⟨wk,rfl⟩:∃W:World,W=wr:=⟨_,rfl⟩;have hb:=wIs_len (l:=l.take k) (fun x o=>V.out x (List.mem_of_mem_take o));have E:(l.take k).length<=l.length:=by simp;omega
  by_cases d:k<l.length
  ·have J:(k:Int)<(l.length:Int):=by omega
   have b0:(0:Int)<=(k:Int):=by omega
   obtain ⟨b,off,rfl,-,G⟩:=AH a0.out d d;have a2:wk.cell? ⟨b,off+k,none⟩=some (.int .i64 l[k]):=hE.out.cell G;have B:Hid (91 :: (l.take (k+1)).flatMap wI=(91 :: (l.take k).flatMap wI)++wI l[k]):=by (show _=_);rw [wIs_take d];rfl
   have O:=Bl (V.out _ (DZ d));have Q:=zh (BP wk (V.out _ (DZ d)));obtain ⟨n,K⟩:=Fd (l[k]);rw [<-K] at a2 B Q O;obtain ⟨x,o⟩:=Fd (91 :: (l.take k).flatMap wI);obtain ⟨y,hy⟩:=Fd (wI n);have a3:x.length<=22*l.length+1:=by rw [o,Fb];omega
   rw [<-o] at B⊢;rw [<-hy] at B Q O;have ha:∀w,(Op.stringOp .add ⟨x.toArray⟩ ⟨y.toArray⟩).run Tryz.prog w=.ok (.string ⟨(x++y).toArray⟩) w:=fun w=>zx (by omega)
   clear K o hy G hb E
   go_wp2_with fail
   refine Q.out.mono ?_;rintro e w5 ⟨rfl,D⟩;have U:Hid (za w w5):=hE.out.trans D;clear D
   go_wp2_with fail
   go_roundw
   case rel=>exact ⟨k+1,by omega,by go_num,by rw [B.out],U⟩
   case measure=>simp [intOf];omega
  ·have I:k=l.length:=by omega
   have J:¬ ((k:Int)<(l.length:Int)):=by omega
   have B:Hid (wL l=(91 :: (l.take k).flatMap wI)++[93]):=by (show _=_);rw [I,Ej];rfl
   obtain ⟨x,o⟩:=Fd (91 :: (l.take k).flatMap wI);have a3:x.length<=22*l.length+1:=by rw [o,Fb];omega
   rw [<-o] at B⊢;have ha:∀w,(Op.stringOp .add ⟨x.toArray⟩ ⟨#[93]⟩).run Tryz.prog w=.ok (.string ⟨(x++[93]).toArray⟩) w:=fun w=>zx (y:=[93]) (by simp;omega)
   clear I o hb E d
   go_wp2_with fail
   go_ret;exact ⟨BL B.out.symm,hE.out⟩
structure QrS (l:List UInt8) (s:Rd) (p:Nat):Prop where
 le:p<=l.length
 ok:s.2=false->s.1=l.drop p
 bad:s.2=true->s.1=[]
def Bq (w:World) (r:Nat) (l:List UInt8) (s:Rd):Prop:=∃p:Nat,QrS l s p/\zl w r 242 #[.string ⟨l.toArray⟩,.int .i64 p,.bool s.2]
theorem Bq.ext {w w':World} {r:Nat} {l:List UInt8} {s:Rd} (h:Bq w r l s) (d:za w w'):Bq w' r l s:=by obtain ⟨p,h1,h2⟩:=h;exact ⟨p,h1,h2.ext d⟩
theorem Bq.keep (h:Bq w r l s) (d:w'.heap[r]?=w.heap[r]?):Bq w' r l s:=by obtain ⟨p,h1,h2⟩:=h;exact ⟨p,h1,d.trans h2⟩
theorem mNew_calls (l:List UInt8) (w:World):Calls Tryz.prog 156 #[.string ⟨l.toArray⟩] w fun e w'=>e=.returned (.pointer (some ⟨w.heap.size,0,none⟩))/\za w w'/\Bq w' w.heap.size l (l,false):=by
 go_enter Tryz.func156,Tryz.ntmps156
 go_wp2_with fail
 go_ret;exact ⟨rfl,(za.refl w).alloc _,0,⟨Em _,fun _=>rfl,fun h=>by cases h⟩,zl.new _ _ _ rfl⟩
theorem mBad_calls (w:World) (h:Bq w r l s):Calls Tryz.prog 160 #[.pointer (some ⟨r,0,none⟩)] w fun e w'=>e=.returned (.bool s.2)/\w=w':=by
 obtain ⟨p,-,d⟩:=h;have c2:=d.cell (k:=2) rfl;clear d
 go_enter Tryz.func160,Tryz.ntmps160
 go_wp2_with fail
 go_ret;exact ⟨rfl,rfl⟩
theorem mLeft_calls (w:World) (h:Bq w r l s) (E:l.length<=1000000000000):Calls Tryz.prog 211 #[.pointer (some ⟨r,0,none⟩)] w fun e w'=>e=.returned (.int .i64 (zU s:Nat))/\za w w':=by
 obtain ⟨p,B,o⟩:=h;have c2:=o.cell (k:=2) rfl;have c0:=o.cell (k:=0) rfl;have c1:=o.cell (k:=1) rfl;obtain ⟨sl,b⟩:=s
 cases b with
 | true=>
  clear o c0 c1
  go_enter Tryz.func211,Tryz.ntmps211
  go_wp2_with fail
  go_ret;exact ⟨rfl,za.refl _⟩
 | false=>
  have h1:=B.ok rfl;have h2:=B.le;dsimp only at h1;have d:sl.length=l.length - p:=by rw [h1,EX]
  have G:IntKind.i64.wrap ((l.length:Int) - (p:Int))=((l.length - p:Nat):Int):=by rw [Eu];omega
  have D:Hid (((zU (sl,false):Nat):Int)=((l.length - p:Nat):Int)):=by (show _=_);unfold zU;simp [d]
  clear o h1 d B
  go_enter Tryz.func211,Tryz.ntmps211
  go_wp2_with fail
  go_quiet (fail)
  go_wp2_with fail
  go_ret;exact ⟨congrArg (fun x=>Ending.returned (Value.int .i64 x)) D.out.symm,(za.refl w).drewN _⟩
theorem CB (w:World) (h:Bq w r l s):Calls Tryz.prog 212 #[.pointer (some ⟨r,0,none⟩)] w fun e w'=>e=.returned (.tuple #[])/\zC (·=r) w w'/\Bq w' r l ([],true):=by
 obtain ⟨p,o,d⟩:=h;have c2:=d.cell (k:=2) rfl;have hf:∀k,w.frozen? ⟨r,k,none⟩=false:=fun k=>d.frozen k
 have B:=zh d;have D:=zh o;clear d o
 go_enter Tryz.func212,Tryz.ntmps212
 go_wp2_with fail
 refine bodyPost_end (results_none rfl _ _ _) rfl ⟨rfl,BC (X:=(·=r)) (zC.refl _ _) r 2 _ rfl,p,⟨D.out.le,(fun h=>by cases h),fun _=>rfl⟩,B.out.set (k:=2) _⟩
theorem get_at {i:Nat} (h:i<l.length) (d:i<(ByteArray.mk l.toArray).size):(ByteArray.mk l.toArray)[i]'d=l[i]:=by
 show (l.toArray)[i]=l[i];simp
theorem Dt (l:List UInt8) (p q:Nat) (h:p<=q):(ByteArray.mk l.toArray).extract p q=⟨((l.drop p).take (q - p)).toArray⟩:=by
 apply ByteArray.ext;simp [ByteArray.data_extract,List.extract]
def NumQ (r:Nat) (l:List UInt8) (s:Rd) (o:Option (Int×List UInt8)) (w:World) (e:Ending) (w':World):Prop:=
 zC (·=r) w w'/\(∀v b,o=some (v,b)->e=.returned (.tuple #[.int .i64 v,.bool true])/\Bq w' r l (b,false))/\(o=none->e=.returned (.tuple #[.int .i64 0,.bool false])/\Bq w' r l s)
theorem numP_long (h:l.take 22=a) (o:c∉a) (G:22<=l.length):numP c l=none:=by
 rw [numP_ref]
 cases D:BG c l with
 | none=>rfl
 | some q=>
  obtain ⟨x,y⟩:=q;have h1:=(BN D).2;rw [Option.bind_some]
  cases E:Bj x with
  | none=>rfl
  | some v=>
   obtain ⟨h2,h3⟩:=refNum_some E;have d:=Bx h2;rw [h3] at d
   exfalso
   apply o;rw [<-h,h1,List.take_append];refine EN.2 (.inr ?_);obtain ⟨k,B⟩:∃k,22 - x.length=k+1:=⟨21 - x.length,by omega⟩;rw [B,List.take_succ_cons];exact EK ..
theorem CS {o:Option (Int×List UInt8)} (h:o=none) (d:zC (·=r) w w') (B:Bq w' r l s):NumQ r l s o w (.returned (.tuple #[.int .i64 0,.bool false])) w':=
 ⟨d,(fun v b e=>by rw [h] at e;cases e),fun _=>⟨rfl,B⟩⟩
theorem cut_none (h:c∉l):BG c l=none:=by
 cases d:BG c l with
 | none=>rfl
 | some q=>
  obtain ⟨a,b⟩:=q;exact absurd (by rw [(BN d).2];simp) h
theorem cut_of {c:UInt8}:∀{a b:List UInt8},c∉a->BG c (a++c :: b)=some (a,b)
 | [],b,h=>by simp [BG]
 | x :: a,b,h=>by
  have h1:x≠c:=fun e=>h (by rw [e];exact EK ..)
  have h2:=cut_of (b:=b) (fun e=>h (Et _ e):c∉a);simp [BG,h1,h2]
theorem num_end (hp:p<=q) (d:q=l.length) (h:c∉(l.drop p).take (q - p)):numP c (l.drop p)=none:=by
 rw [List.take_of_length_le (by rw [EX];omega)] at h;rw [numP_ref,cut_none h];rfl
theorem num_far (B:q=p+21) (o:q<l.length) (h:c∉(l.drop p).take (q - p)) (d:l[q]≠c):numP c (l.drop p)=none:=by
 refine numP_long rfl ?_ (by rw [EX];omega);rw [List.take_add_one,List.getElem?_drop];rw [show q - p=21 by omega] at h;intro hm;rcases EN.1 hm with hm | hm
 ·exact h hm
 ·rw [<-B,DW o,Option.toList_some] at hm;exact d (EF.1 hm).symm
def Cj (a:List UInt8) (f:Nat) (o:Option Int):Option Int:=
 if f=1 then o.bind fun n=>if Lib.itoa n=a then some n else none
 else o.bind fun n=>if n=-9223372036854775808 then none else if Lib.itoa (-n)=a then some (-n) else none
theorem num_neg (h:0<a.length) (d:a[0]=45):Bj a=Cj a 1 (zR (a.drop 1) 0):=by
 unfold Bj Cj;rw [if_pos (by rw [List.head?_eq_getElem?,DW h,d]),if_pos rfl,List.drop_one]
theorem num_pos (h:∀h:0<a.length,a[0]≠45):Bj a=Cj a 0 (zR (a.drop 0) 0):=by
 unfold Bj Cj;rw [if_neg,if_neg (by decide),List.drop_zero];intro e
 cases a with
 | nil=>cases e
 | cons x a=>
  injection e with e;exact h (by simp) e
theorem num_at (hp:p<=q) (o:q<l.length) (h:c∉(l.drop p).take (q - p)) (d:l[q]=c):numP c (l.drop p)=(Bj ((l.drop p).take (q - p))).map fun v=>(v,l.drop (q+1)):=by
 have e:l.drop p=(l.drop p).take (q - p)++c :: l.drop (q+1):=by
  rw [<-d,<-List.drop_eq_getElem_cons o,show l.drop q=(l.drop p).drop (q - p) by rw [List.drop_drop];congr 1;omega];exact (List.take_append_drop _ _).symm
 rw [numP_ref]
 conv=>lhs;rw [e]
 rw [cut_of h];rfl
theorem num_bad {α:Type} {R:Option α} {g:Int->α} {f:Nat} {o:Option Int} (d:R=(Bj a).map g) (hF:Bj a=Cj a f o) (h:o=none):R=none:=by
 rw [d,hF,h];unfold Cj
 split <;> rfl
def DigNo (d n:Int):Prop:=d<0\/9<d\/n< -922337203685477580\/(n=-922337203685477580/\8<d)
theorem refDig_no (h:k<a.length) (d:DigNo (((a[k]).toNat:Int) - 48) n):zR (a.drop k) n=none:=by
 rw [List.drop_eq_getElem_cons h];unfold zR;exact if_pos d
theorem refDig_yes (h:k<a.length) (d:¬ DigNo (((a[k]).toNat:Int) - 48) n):zR (a.drop k) n=zR (a.drop (k+1)) (10*n - (((a[k]).toNat:Int) - 48)):=by
 rw [List.drop_eq_getElem_cons h]
 conv=>lhs;unfold zR
 exact if_neg d
theorem num_fin {b:List UInt8} {v:Int} {R:Option (Int×List UInt8)} (d:R=(if Lib.itoa v=a then some v else none).map fun v=>(v,b)) (h:Lib.itoa v=a) (B:zC (·=r) w w') (D:b=l.drop q) (E:q<=l.length)
  (o:zl w' r 242 #[.string ⟨l.toArray⟩,.int .i64 q,.bool false]):NumQ r l s R w (.returned (.tuple #[.int .i64 v,.bool true])) w':=by
 rw [if_pos h,Option.map_some] at d;refine ⟨B,fun v' b' e=>?_,fun e=>by rw [d] at e;cases e⟩;rw [d] at e;injection e with e;injection e with e1 e2;subst e1 e2;exact ⟨rfl,q,⟨E,fun _=>D,fun h=>by cases h⟩,o⟩
theorem mNumber_calls (c:UInt8) (w:World) (h:Bq w r l s) (hl:l.length<=1000000000000):Calls Tryz.prog 210 #[.pointer (some ⟨r,0,none⟩),.int .u8 c.toNat] w (NumQ r l s (Bm c s) w):=by
 have HQ:=zh h;obtain ⟨p,hs,hb⟩:=h;have c0:=za.rule (hb.cell (k:=0) rfl);have c1:=za.rule (hb.cell (k:=1) rfl);have c2:=za.rule (hb.cell (k:=2) rfl);have HB:=zh hb;obtain ⟨sl,b⟩:=s;have hx:za w w:=za.refl w
 cases b with
 | true=>
  have I:Hid (Bm c (sl,true)=none):=by (show _=_);rfl
  clear hb c0 c1 hs
  go_enter Tryz.func210,Tryz.ntmps210
  go_wp2_with fail
  go_ret2
  exact CS I.out (zC.refl _ _) HQ.out
 | false=>
  have a8:=hs.ok rfl;have b4:=hs.le;dsimp only at a8 c2;have E:=zh a8;have B:Hid (Bm c (sl,false)=numP c sl):=by (show _=_);rfl
  obtain ⟨R,hR⟩:=Fd (Bm c (sl,false));rw [<-hR] at B⊢;clear hb hs a8 hR;have f8:IntKind.i64.wrap ((p:Int)+21)=(p:Int)+21:=by rw [Eu];omega
  have e9:Hid (za w w):=za.refl w
  go_enter Tryz.func210,Tryz.ntmps210
  go_upto_block 0 with fail
  go_cut [6] (fun v wx=>∃q:Nat,v=.int .i64 (q:Int)/\p<=q/\q<=p+21/\q<=l.length/\Hid (c∉(l.drop p).take (q - p))/\Hid (∀h:q<l.length,q<p+21->l[q]=c)/\Hid (za w wx))
  case first=>
   go_wp2_with fail
   clear hx;go_loopw [6] (fun v wr=>∃q:Nat,v=.int .i64 (q:Int)/\p<=q/\q<=p+21/\q<=l.length/\Hid (c∉(l.drop p).take (q - p))/\Hid (za w wr)) (fun v _=>l.length - (intOf v).toNat)
   case atStart=>exact ⟨p,rfl,by omega,by omega,b4,by (show _∉_);simp,e9.out⟩
   case round=>
    obtain ⟨q,rfl,D,Q,U,o,V⟩:=hrel;obtain ⟨wk,rfl⟩:∃W:World,W=wr:=⟨_,rfl⟩;have hx:za w wk:=V.out;by_cases h1:q<l.length
    ·have d1:decide ((q:Int)<(l.length:Int))=true:=Eb (by omega);have d2:decide (q<l.length)=true:=Eb h1;by_cases h2:(q:Int)<(p:Int)+21
     ·have d3:decide ((q:Int)<(p:Int)+21)=true:=Eb h2;have hI:∀h,(ByteArray.mk l.toArray)[q]'h=l[q]:=fun h=>get_at h1 h
      have f5:IntKind.i64.wrap ((q:Int)+1)=(q:Int)+1:=by rw [Eu];omega
      by_cases h3:l[q]=c
      ·have d4:(((l[q]).toNat:Int)==(c.toNat:Int))=true:=by rw [h3];simp
       have M:Hid (∀h:q<l.length,q<p+21->l[q]=c):=fun _ _=>h3
       go_wp2_with fail
       go_meet;exact ⟨q,rfl,D,Q,U,o,M,V⟩
      ·have d4:(((l[q]).toNat:Int)==(c.toNat:Int))=false:=by
        rw [El];intro e;exact h3 (UInt8.toNat_inj.1 (by omega))
       have e6:Hid (c∉(l.drop p).take (q+1 - p)):=by
        show _∉_;rw [show q+1 - p=(q - p)+1 by omega,List.take_add_one,List.getElem?_drop,show p+(q - p)=q by omega,DW h1];intro hm;rcases EN.1 hm with hm | hm
        ·exact o.out hm
        ·exact h3 (by rw [Option.toList_some] at hm;exact (EF.1 hm).symm)
       have hM:Hid (l.length - (q+1)<l.length - q):=by (show _<_);omega
       have e7:Hid (q+1<=p+21):=by (show _<=_);omega
       have e8:Hid (q+1<=l.length):=h1;clear h3
       go_wp2_with fail
       refine ⟨⟨q+1,by simp,by omega,e7.out,e8.out,e6,V⟩,?_⟩;have e1:(intOf (Value.int IntKind.i64 ((q:Int)+1))).toNat=q+1:=by simp [intOf];try omega
       have e2:(intOf (Value.int IntKind.i64 (q:Int))).toNat=q:=by simp [intOf]
       rw [e1,e2];exact hM.out
     ·have d3:decide ((q:Int)<(p:Int)+21)=false:=Ec h2;have M:Hid (∀h:q<l.length,q<p+21->l[q]=c):=fun _ h=>absurd h (by omega)
      go_wp2_with fail
      go_meet;exact ⟨q,rfl,D,Q,U,o,M,V⟩
    ·have d1:decide ((q:Int)<(l.length:Int))=false:=Ec (by omega);have d2:decide (q<l.length)=false:=Ec h1;have M:Hid (∀h:q<l.length,q<p+21->l[q]=c):=fun h _=>absurd h h1
     go_wp2_with fail
     go_meet;exact ⟨q,rfl,D,Q,U,o,M,V⟩
  case rest=>
   obtain ⟨q,rfl,D,Q,U,o,a2,V⟩:=hcut;obtain ⟨wk,rfl⟩:∃W:World,W=wc:=⟨_,rfl⟩;clear hx;have hx:za w wk:=V.out;have b1:Hid (Bq wk r l (sl,false)):=HQ.out.ext hx;rcases Nat.eq_or_lt_of_le U with h1 | h1
   ·have I:Hid (R=none):=by
     show _=_;rw [B.out,E.out];exact num_end D h1 o.out
    have d1:((q:Int)==(l.length:Int))=true:=by rw [h1];simp
    have d2:(q==l.length)=true:=by rw [h1];simp
    clear h1 o a2 B E
    go_wp2_with fail
    go_ret2
    exact CS I.out (zC.of_ext V.out) b1.out
   ·have d1:((q:Int)==(l.length:Int))=false:=by rw [El];omega
    have d2:(q==l.length)=false:=by rw [El];omega
    have hI:∀h,(ByteArray.mk l.toArray)[q]'h=l[q]:=fun h=>get_at h1 h
    by_cases h3:l[q]=c
    ·have I:Hid (R=(Bj ((l.drop p).take (q - p))).map fun v=>(v,l.drop (q+1))):=by
      show _=_;rw [B.out,E.out];exact num_at D h1 o.out h3
     have d4:(((l[q]).toNat:Int)==(c.toNat:Int))=true:=by rw [h3];simp
     obtain ⟨a,ha⟩:=Fd ((l.drop p).take (q - p));rw [<-ha] at I;have g9:a.length<=21:=by rw [ha,EQ];omega
     have hS:(ByteArray.mk l.toArray).extract p q=⟨a.toArray⟩:=by rw [Dt l p q D,ha]
     have s1:(p:Int)<=(q:Int):=by omega
     have s2:(q:Int)<=(l.length:Int):=by omega
     clear o a2 B E ha
     go_upto_if 86 with fail
     go_cut [7] (fun v wx=>v=.string ⟨a.toArray⟩/\Hid (za w wx))
     case first=>
      go_quiet (fail)
      go_wp2_with fail
      go_meet;exact ⟨rfl,V.out.drewN _⟩
     case rest=>
      obtain ⟨rfl,G⟩:=hcut;obtain ⟨wk7,rfl⟩:∃W:World,W=wc:=⟨_,rfl⟩;clear hx;have hx:za w wk7:=G.out;go_upto_region 10 with fail;go_cut [86] (fun v wx=>∃f:Nat,v=.bool (decide (f=1))/\f<=a.length/\f<=1/\Hid (Bj a=Cj a f (zR (a.drop f) 0))/\wx=wk7)
      case first=>
       by_cases h0:0<a.length
       ·have hA:∀h,(ByteArray.mk a.toArray)[0]'h=a[0]:=fun h=>get_at h0 h
        by_cases h5:a[0]=45
        ·have d5:(((a[0]).toNat:Int)==45)=true:=by rw [h5];rfl
         have J:Hid (Bj a=Cj a 1 (zR (a.drop 1) 0)):=num_neg h0 h5
         go_wp2_with fail
         go_meet;exact ⟨1,rfl,h0,by omega,J,rfl⟩
        ·have d5:(((a[0]).toNat:Int)==45)=false:=by
          rw [El];intro e;exact h5 (UInt8.toNat_inj.1 (by rw [show (45:UInt8).toNat=45 from rfl];omega))
         have J:Hid (Bj a=Cj a 0 (zR (a.drop 0) 0)):=num_pos (fun _=>h5)
         go_wp2_with fail
         go_meet;exact ⟨0,rfl,by omega,by omega,J,rfl⟩
       ·have J:Hid (Bj a=Cj a 0 (zR (a.drop 0) 0)):=num_pos (fun h=>absurd h h0)
        go_wp2_with fail
        go_meet;exact ⟨0,rfl,by omega,by omega,J,rfl⟩
      case rest=>
       obtain ⟨f,rfl,f1,h7,J,rfl⟩:=hcut;obtain ⟨wk8,rfl⟩:∃W:World,W=wc:=⟨_,rfl⟩
       go_upto_if 86 with fail
       go_cut [8] (fun v wx=>v=.int .i64 (f:Int)/\wx=wk8)
       case first=>
        rcases (by omega:f=0\/f=1) with rfl | rfl
        ·go_wp2_with fail
         go_meet;exact ⟨rfl,rfl⟩
        ·go_wp2_with fail
         go_meet;exact ⟨rfl,rfl⟩
       case rest=>
        obtain ⟨rfl,rfl⟩:=hcut;obtain ⟨wk9,rfl⟩:∃W:World,W=wc:=⟨_,rfl⟩
        go_upto_block 0 with fail
        go_loopw [9,10] (fun vn vk wr=>∃(n:Int) (k:Nat),vn=.int .i64 n/\vk=.int .i64 (k:Int)/\f<=k/\k<=a.length/\n<=0/\-9223372036854775808<=n/\Hid (zR (a.drop k) n=zR (a.drop f) 0)/\wr=wk9) (fun _ vk _=>a.length - (intOf vk).toNat)
        case atStart=>exact ⟨0,f,rfl,rfl,DY _,f1,by omega,by omega,by (show _=_);rfl,rfl⟩
        case round=>
         obtain ⟨n,k,rfl,rfl,h8,h9,f2,b3,HD,rfl⟩:=hrel;obtain ⟨wkA,rfl⟩:∃W:World,W=wr:=⟨_,rfl⟩;by_cases h6:k<a.length
         ·have d6:decide ((k:Int)<(a.length:Int))=true:=Eb (by omega);have d7:decide (k<a.length)=true:=Eb h6;have hA:∀h,(ByteArray.mk a.toArray)[k]'h=a[k]:=fun h=>get_at h6 h
          have i0:IntKind.i64.wrap ((k:Int)+1)=(k:Int)+1:=by rw [Eu];omega
          have a6:Hid (DigNo (((a[k]).toNat:Int) - 48) n->zR (a.drop k) n=none):=refDig_no h6;have a7:Hid (¬ DigNo (((a[k]).toNat:Int) - 48) n->zR (a.drop k) n=zR (a.drop (k+1)) (10*n - (((a[k]).toNat:Int) - 48))):=refDig_yes h6;obtain ⟨u,hu⟩:∃u:Nat,u=(a[k]).toNat:=⟨_,rfl⟩;have f3:u<256:=by rw [hu];exact UInt8.toNat_lt _
          rw [<-hu] at a6 a7;have hA2:∀h,((ByteArray.mk a.toArray)[k]'h).toNat=u:=fun h=>by rw [hA h,hu]
          clear hA hu;obtain ⟨d,hd⟩:∃d:Int,d=(u:Int) - 48:=⟨_,rfl⟩;rw [<-hd] at a6 a7;have h4:d<=207:=by omega
          have HM:Hid (a.length - (k+1)<a.length - k):=by (show _<_);omega
          have b6:wrap64 ((u:Int) - 48)=d:=(IntWalk.wrap64_in _ (by omega)).trans hd.symm;have f6:wrap64 (u:Int)=(u:Int):=IntWalk.wrap64_in _ ⟨by omega,by omega⟩;clear hd f3;go_upto_region 16 with fail;go_cut [11] (fun v wx=>v=.int .i64 d/\wx=wkA)
          case first=>
           go_wp2_with fail
           go_meet;exact ⟨by rw [b6],rfl⟩
          case rest=>
           obtain ⟨rfl,rfl⟩:=hcut;obtain ⟨wkB,rfl⟩:∃W:World,W=wc:=⟨_,rfl⟩;clear hA2 f6 b6 d6 d7;by_cases O:DigNo d n
           ·have K:Hid (R=none):=num_bad I.out J.out (HD.out.symm.trans (a6.out O));go_upto_region 17 with fail;go_cut [116] (fun v wx=>v=.bool true/\wx=wkB)
            case first=>
             by_cases g1:d<0
             ·have e1:decide (d<0)=true:=Eb g1
              go_wp2_with fail
              go_meet;exact ⟨rfl,rfl⟩
             ·have e1:decide (d<0)=false:=Ec g1;by_cases g2:9<d
              ·have e2:decide (9<d)=true:=Eb g2
               go_wp2_with fail
               go_meet;exact ⟨rfl,rfl⟩
              ·have e2:decide (9<d)=false:=Ec g2;by_cases g3:n< -922337203685477580
               ·have e3:decide (n< -922337203685477580)=true:=Eb g3
                go_wp2_with fail
                go_meet;exact ⟨rfl,rfl⟩
               ·have e3:decide (n< -922337203685477580)=false:=Ec g3;have g4:n=-922337203685477580/\8<d:=by unfold DigNo at O;omega
                obtain ⟨rfl,g5⟩:=g4;have e5:decide (8<d)=true:=Eb g5
                go_wp2_with fail
                go_meet;exact ⟨rfl,rfl⟩
            case rest=>
             obtain ⟨rfl,rfl⟩:=hcut;obtain ⟨wkC,rfl⟩:∃W:World,W=wc:=⟨_,rfl⟩
             go_wp2_with fail
             go_ret2
             exact CS K.out (zC.of_ext G.out) (HQ.out.ext G.out)
           ·have d8:Hid (zR (a.drop (k+1)) (10*n - d)=zR (a.drop f) 0):=(a7.out O).symm.trans HD.out;have hb:0<=d/\d<=9/\-922337203685477580<=n/\(n=-922337203685477580->d<=8):=by unfold DigNo at O;omega
            have f9:IntKind.i64.wrap (10*n)=10*n:=by rw [Eu];omega
            have g0:IntKind.i64.wrap (10*n - d)=10*n - d:=by rw [Eu];omega
            have a9:Hid (10*n - d<=0/\-9223372036854775808<=10*n - d):=by (show _/\_);omega
            go_upto_region 17 with fail;go_cut [116] (fun v wx=>v=.bool false/\wx=wkB)
            case first=>
             have e1:decide (d<0)=false:=Ec (by omega);have e2:decide (9<d)=false:=Ec (by omega);have e3:decide (n< -922337203685477580)=false:=Ec (by omega);by_cases g4:n=-922337203685477580
             ·have e5:decide (8<d)=false:=Ec (by omega);have e4:(n==-922337203685477580)=true:=by rw [g4];rfl
              clear g4
              go_wp2_with fail
              go_meet;exact ⟨rfl,rfl⟩
             ·have e4:(n==-922337203685477580)=false:=by rw [El];exact g4
              go_wp2_with fail
              go_meet;exact ⟨rfl,rfl⟩
            case rest=>
             obtain ⟨rfl,rfl⟩:=hcut;obtain ⟨wkC,rfl⟩:∃W:World,W=wc:=⟨_,rfl⟩;clear hb O
             go_wp2_with fail
             refine ⟨⟨10*n - d,k+1,rfl,by simp,by omega,h6,a9.out.1,a9.out.2,d8,by simp⟩,?_⟩;have e1:(intOf (Value.int IntKind.i64 ((k:Int)+1))).toNat=k+1:=by simp [intOf];try omega
             have e2:(intOf (Value.int IntKind.i64 (k:Int))).toNat=k:=by simp [intOf]
             rw [e1,e2];exact HM.out
         ·have d6:decide ((k:Int)<(a.length:Int))=false:=Ec (by omega);have d7:decide (k<a.length)=false:=Ec h6
          have HO:Hid (zR (a.drop f) 0=some n):=by
           (show _=_)
           rw [<-HD.out,List.drop_of_length_le (by omega)];rfl
          clear HD;go_upto_region 20 with fail;go_cut [122] (fun v wx=>v=.bool (decide (f=0))/\wx=wkA)
          case first=>
           rcases (by omega:f=0\/f=1) with rfl | rfl
           ·go_wp2_with fail
            go_meet;simp
           ·go_wp2_with fail
            go_meet;simp
          case rest=>
           obtain ⟨rfl,rfl⟩:=hcut;obtain ⟨wkB,rfl⟩:∃W:World,W=wc:=⟨_,rfl⟩;clear d6 d7 h6
           go_upto_if 122 with fail
           go_cut [9] (fun v wx=>∃v':Int,v=.int .i64 v'/\BI v'/\Hid (R=(if Lib.itoa v'=a then some v' else none).map fun v=>(v,l.drop (q+1)))/\wx=wkB)
           case first=>
            rcases (by omega:f=0\/f=1) with rfl | rfl
            ·by_cases g1:n=-9223372036854775808
             ·have K:Hid (R=none):=by
               (show _=_)
               rw [I.out,J.out,HO.out];unfold Cj;rw [if_neg (by decide),Option.bind_some,if_pos g1];rfl
              have f4:IntKind.i64.wrap (-n)=n:=by rw [Eu];omega
              have e0:n≠0:=by omega
              have e1:(n==0)=false:=by rw [El];omega
              clear g1
              go_wp2_with fail
              go_ret2
              exact CS K.out (zC.of_ext G.out) (HQ.out.ext G.out)
             ·have K:Hid (R=(if Lib.itoa (-n)=a then some (-n) else none).map fun v=>(v,l.drop (q+1))):=by
               (show _=_)
               rw [I.out,J.out,HO.out];unfold Cj;rw [if_neg (by decide),Option.bind_some,if_neg g1]
              have f4:IntKind.i64.wrap (-n)=-n:=by rw [Eu];omega
              by_cases g2:n=0
              ·subst g2
               go_wp2_with fail
               go_meet;exact ⟨0,rfl,by constructor <;> omega,K,rfl⟩
              ·have e1:(n==-n)=false:=by rw [El];omega
               go_wp2_with fail
               go_meet;exact ⟨-n,rfl,by constructor <;> omega,K,rfl⟩
            ·have K:Hid (R=(if Lib.itoa n=a then some n else none).map fun v=>(v,l.drop (q+1))):=by
              (show _=_)
              rw [I.out,J.out,HO.out];unfold Cj;rw [if_pos rfl,Option.bind_some]
             go_wp2_with fail
             go_meet;exact ⟨n,rfl,⟨b3,by omega⟩,K,rfl⟩
           case rest=>
            obtain ⟨v',rfl,b5,K,rfl⟩:=hcut;obtain ⟨wkC,rfl⟩:∃W:World,W=wc:=⟨_,rfl⟩;clear HO I J f2 b3
            go_wp2_with fail
            refine (mdecimal wkC b5).mono ?_;rintro e wD ⟨rfl,b2⟩;have a0:Hid (za w wD):=G.out.trans b2;clear b2 b5;by_cases g:Lib.itoa v'=a
            ·have a1:=HB.out.ext a0.out;have y1:=a1.cell (k:=1) rfl;have yf:∀j,wD.frozen? ⟨r,j,none⟩=false:=fun j=>a1.frozen j
             have f5:IntKind.i64.wrap ((q:Int)+1)=((q+1:Nat):Int):=by rw [Eu];omega
             have c9:=zh a1;have e1:(Lib.itoa v'==a)=true:=by rw [g];exact beq_self_eq_true _
             have HG:=zh g;clear a1 g hx
             go_wp2_with fail
             go_ret2
             exact num_fin (q:=q+1) K.out HG.out (BC (zC.of_ext a0.out) r 1 _ rfl) rfl h1 (c9.out.set (k:=1) _)
            ·have e1:(Lib.itoa v'==a)=false:=by rw [El];exact g
             have HG:=zh g;clear g hx
             go_wp2_with fail
             go_ret2
             exact CS (by rw [K.out,if_neg HG.out];rfl) (zC.of_ext a0.out) (HQ.out.ext a0.out)
    ·have I:Hid (R=none):=by
      show _=_;rw [B.out,E.out]
      have:q=p+21:=by
       rcases Nat.eq_or_lt_of_le Q with h | h
       ·exact h
       ·exact absurd (a2.out h1 h) h3
      exact num_far this h1 o.out h3
     have d4:(((l[q]).toNat:Int)==(c.toNat:Int))=false:=by
      rw [El];intro e;exact h3 (UInt8.toNat_inj.1 (by omega))
     clear o a2 B E h3
     go_wp2_with fail
     go_ret2
     exact CS I.out (zC.of_ext V.out) b1.out
end
end Go.Proofs.YtjomnbdjajjgfaaGreatDoor
