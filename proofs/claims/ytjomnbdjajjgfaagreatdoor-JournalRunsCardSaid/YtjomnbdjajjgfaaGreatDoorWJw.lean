import Derived.Test.YtjomnbdjajjgfaaGreatDoorWJv
import Derived.ProofKit
import Derived.OpenShut
set_option linter.unusedVariables false
set_option linter.unusedSimpArgs false
set_option maxRecDepth 100000
set_option maxHeartbeats 16000000
namespace Go.Proofs.YtjomnbdjajjgfaaGreatDoor
variable {i:List UInt8}
section
open Go.ChangeShapes Go.WideShapes Go.ChangeAt Go.RowKit
section
variable {H:Type} {enc:TypeId×Value->H} {w:World} {base:Nat} {held:Bool} {fuel:Nat} {cs:List Value} {x:DataW H×List MemPlace}
theorem cellsT9:Tryz.prog.cellsOf 9=1:=by kernel_rfl
end
end
section
open Go.RowKit Go.Shelf
attribute [local go_sem ↓] Go.wp_at_zero Go.wp_at_succ
attribute [local go_sem] Oper.semAt_some
theorem zapply_calls {s:List UInt8} (a q:Nat) (w:World) (ha:a<=65535) (hq:q<=255) (hs:s.length<=10000000) (hi:i.length<=9223372036854775807):
  Calls Tryz.prog 31 #[.agg #[.int .u16 a,.int .u8 q,.string ⟨i.toArray⟩],.string ⟨s.toArray⟩] w fun e w'=>∃t:List UInt8,e=.returned (.string ⟨t.toArray⟩)/\za w w'/\t.length<=20000100:=by
 obtain ⟨A,hA⟩:∃A:Nat,(A:Int)=(a:Int).tmod ((s.length:Int)+1):=⟨((a:Int).tmod ((s.length:Int)+1)).toNat,by have:=Int.tmod_nonneg ((s.length:Int)+1) (show (0:Int)<=(a:Int) by omega);omega⟩;have b2:A<=s.length:=by have:=Int.tmod_lt_of_pos (a:Int) (show (0:Int)<(s.length:Int)+1 by omega);omega
 obtain ⟨Q,hQ⟩:∃Q:Nat,(Q:Int)=(q:Int).tmod 20:=⟨((q:Int).tmod 20).toNat,by have:=Int.tmod_nonneg 20 (show (0:Int)<=(q:Int) by omega);omega⟩;have b4:Q<20:=by have:=Int.tmod_lt_of_pos (q:Int) (show (0:Int)<20 by omega);omega
 obtain ⟨B,hB⟩:∃B:Nat,(B:Int)=min (s.length:Int) ((A:Int)+(Q:Int)):=⟨(min (s.length:Int) ((A:Int)+(Q:Int))).toNat,by omega⟩;obtain ⟨M,hM⟩:∃M:Nat,(M:Int)=min (i.length:Int) 30:=⟨(min (i.length:Int) 30).toNat,by omega⟩;have a3:B<=s.length:=by omega
 have J:M<=i.length/\M<=30:=by omega
 obtain ⟨J,a9⟩:=J;obtain ⟨X1,E⟩:∃X,X=s.take A:=⟨_,rfl⟩;obtain ⟨X2,G⟩:∃X,X=i.take M:=⟨_,rfl⟩;obtain ⟨X3,I⟩:∃X,X=s.drop B:=⟨_,rfl⟩;have l1:X1.length<=10000000:=by rw [E,za3];omega
 have l2:X2.length<=30:=by rw [G,za3];omega
 have l3:X3.length<=10000000:=by rw [I,zaC];omega
 have e1:ByteArray.extract ⟨s.toArray⟩ 0 A=⟨X1.toArray⟩:=by rw [Cl,E]
 have e2:ByteArray.extract ⟨i.toArray⟩ 0 M=⟨X2.toArray⟩:=by rw [Cl,G]
 have e3:ByteArray.extract ⟨s.toArray⟩ B s.length=⟨X3.toArray⟩:=by rw [ext_mid s B s.length a3,I,List.take_of_length_le (by simp)]
 obtain ⟨T,O⟩:=zaI (X1++X2);obtain ⟨U,hU⟩:=zaI (T++X3);have a1:∀w,(Op.stringOp .add ⟨X1.toArray⟩ ⟨X2.toArray⟩).run Tryz.prog w=.ok (.string ⟨T.toArray⟩) w:=fun w=>by rw [O];exact zJ (by omega)
 have a2:∀w,(Op.stringOp .add ⟨T.toArray⟩ ⟨X3.toArray⟩).run Tryz.prog w=.ok (.string ⟨U.toArray⟩) w:=fun w=>by rw [hU];exact zJ (by rw [O,FG];omega)
 have HU:Hid (U.length<=20000100):=by (show _<=_);rw [hU,O,FG,FG];omega
 have b7:IntKind.i64.wrap (a:Int)=(a:Int):=by rw [zag];omega
 have c7:IntKind.i64.wrap (q:Int)=(q:Int):=by rw [zag];omega
 have c9:IntKind.i64.wrap ((s.length:Int)+1)=(s.length:Int)+1:=by rw [zag];omega
 have c8:(((s.length:Int)+1)==0)=false:=by rw [FM];omega
 have b9:(a:Int).tmod ((s.length:Int)+1)=(A:Int):=hA.symm;have c0:(q:Int).tmod 20=(Q:Int):=hQ.symm;have b3:IntKind.i64.wrap (A:Int)=(A:Int):=by rw [zag];omega
 have b5:IntKind.i64.wrap (Q:Int)=(Q:Int):=by rw [zag];omega
 have a6:IntKind.i64.wrap ((A:Int)+(Q:Int))=(A:Int)+(Q:Int):=by rw [zag];omega
 have b0:min (s.length:Int) ((A:Int)+(Q:Int))=(B:Int):=hB.symm;have a5:min (i.length:Int) 30=(M:Int):=hM.symm;clear hA hQ hB hM E G I O hU hi ha hq
 go_enter Tryz.func31,Tryz.ntmps31
 go_upto_region 1 with fail;have o:=ze.new w #[.int .u16 (a:Int),.int .u8 (q:Int),.string ⟨i.toArray⟩] 62 (g:=w.heap.size) rfl;have D:za w (w.alloc (.cells #[.int .u16 (a:Int),.int .u8 (q:Int),.string ⟨i.toArray⟩] 62)):=(za.refl w).alloc _;generalize w.alloc _=w1 at o D⊢;generalize w.heap.size=g at o⊢;have r0:=za.rule (o.cell (k:=0) rfl);have r1:=za.rule (o.cell (k:=1) rfl);have r2:=za.rule (o.cell (k:=2) rfl);have V:=zh D;have hx:za w1 w1:=za.refl w1;clear o D;go_upto_region 2 with fail;refine zab (S:=(fun W=>za w1 W)) zG (hx.drew) fun zH=>?_;generalize w1.drew=wd at zH⊢;refine zi 0 zH ?_;refine zi 1 zH ?_;simp only [zc,Fv];refine zi 2 zH ?_;refine zi 3 zH ?_;simp only [zc,Fv];refine zi 4 zH ?_;refine zi 5 zH ?_;simp only [zc,Fv];refine zi 6 zH ?_;refine zi 7 zH ?_;simp only [zc,Fv];refine zi 8 zH ?_;refine zi 9 zH ?_;simp only [zc,Fv];refine zi 10 zH ?_;refine zi 11 zH ?_;simp only [zc,Fv];refine zi 12 zH ?_;refine zi 13 zH ?_;simp only [zc,Fv];refine zi 14 zH ?_;refine zi 15 zH ?_;simp only [zc,Fv];refine zi 16 zH ?_;refine zi 17 zH ?_;simp only [zc,Fv];refine zi 18 zH ?_;refine zi 19 zH ?_;simp only [zc,Fv];refine zi 20 zH ?_;refine zi 21 zH ?_;simp only [zc,Fv];refine zi 22 zH ?_;refine zi 23 zH ?_;simp only [zc,Fv];refine zao (by kernel_rfl) ?_ _;have a0:=zh zH
 go_wp2_with fail
 go_ret;exact ⟨_,rfl,V.out.trans a0.out,HU.out⟩
theorem jruns_calls (HQ:MakeQA) {ok:Nat->Prop} {v vl:Value} {ls:List (List Int)} {bs:List (Nat×Nat)} (a q:Nat) (y:Int) (w:World) (hv:zv w) (hl:zU w ok v ls) (j1:ls.length<=9223372036854775807) (e0:∀x∈ls,x.length<=9223372036854775807)
  (hb:CutsV w vl bs) (g0:bs.length<=9223372036854775807) (ha:a<=65535) (hq:q<=255) (hi:i.length<=9223372036854775807) (hy:0<=y/\y<256):
  Calls Tryz.prog 5 #[v,vl,.agg #[.int .u16 a,.int .u8 q,.string ⟨i.toArray⟩],.int .u8 y] w fun e w'=>e=.returned (.bool true)/\za w w':=by
 have a7:=zh hl;have e9:=zh e0;have HV:=zh hv;have a5:=zh hb;have f0:=zh HQ;have e5:=zh (fun (W:World) (S:List UInt8) (hs:S.length<=10000000)=>zapply_calls a q W ha hq hs hi);obtain ⟨_,⟨A,c,rfl,i7,-⟩,-⟩:=_root_.id hl;obtain ⟨Ap,cp,rfl,-⟩:=hb;obtain ⟨N,hN⟩:=zaI (min ls.length 4);have HN:=zh hN;have d7:N<=ls.length:=by omega
 have f9:N<=4:=by omega
 have e1:min (ls.length:Int) 4=(N:Int):=by omega
 obtain ⟨n,hn⟩:∃n:Nat,(n:Int)=y.tmod 60:=⟨(y.tmod 60).toNat,by have:=Int.tmod_nonneg 60 hy.1;omega⟩;have a2:n<60:=by have:=Int.tmod_lt_of_pos y (show (0:Int)<60 by omega);omega
 have j6:IntKind.i64.wrap y=y:=by rw [zag];omega
 have j5:y.tmod 60=(n:Int):=hn.symm;have j2:IntKind.i64.wrap (n:Int)=(n:Int):=by rw [zag];omega
 obtain ⟨M,hM⟩:∃M:Nat,(M:Int)=min (i.length:Int) 30:=⟨(min (i.length:Int) 30).toNat,by omega⟩;have i4:M<=i.length:=by omega
 have g8:M<=30:=by omega
 have g3:min (i.length:Int) 30=(M:Int):=hM.symm;obtain ⟨X2,a9⟩:∃X,X=i.take M:=⟨_,rfl⟩;have a0:X2.length<=30:=by rw [a9,za3];omega
 have Q:=zh a0;have e2:ByteArray.extract ⟨i.toArray⟩ 0 M=⟨X2.toArray⟩:=by rw [Cl,a9]
 have b7:=zh a2;clear hN e0 hv hl HQ ha hq hy hn hM a9 a0 a2
 go_enter Tryz.func5,Tryz.ntmps5
 go_upto_region 1 with fail;have O:=ze.new w #[.int .u16 (a:Int),.int .u8 (q:Int),.string ⟨i.toArray⟩] 62 (g:=w.heap.size) rfl;have E:za w (w.alloc (.cells #[.int .u16 (a:Int),.int .u8 (q:Int),.string ⟨i.toArray⟩] 62)):=(za.refl w).alloc _;generalize w.alloc _=w0 at O E⊢;generalize w.heap.size=gc at O⊢;have a3:=zh O;have e7:=zh E;have a7:=zh (a7.out.below E);have HV:=zh (HV.out.ext E);have a5:=zh (a5.out.ext E);clear O E
 go_wp2_with fail
 refine (zsanity_calls w0 HV.out).mono ?_;rintro e w1 ⟨rfl,c6⟩;have b5:=zh c6;clear c6
 go_wp2_with fail
 refine (madeN_calls w1 (pref_intss (a7.out.below b5.out) d7) (by rw [za3];omega) (fun x hx=>e9.out x (List.mem_of_mem_take hx))).mono ?_;rintro e w2 ⟨v2,m,ns,rfl,c8,hm,a8,e4⟩;have HM:=zh hm;have b6:=zh a8;have e3:ns.length=m.tasks.length:=by obtain ⟨_,_,_,-,-,-,h,-⟩:=hm;exact h
 have f1:Hid (CP m ns):=a8.small e3 e4;obtain ⟨f,u,t,rfl,⟨_,⟨Af,cf,rfl,-,-⟩,-⟩,⟨Au,cu,rfl,-,-⟩,⟨-,_,⟨At,ct,rfl,-,-⟩,-⟩⟩:=hm;have e8:Hid (za w0 w2):=b5.out.trans c8;clear c8 a8 e4 e3 e1 d7 f9;go_upto_region 3 with fail;obtain ⟨G,r0,r1,r2,r3,r4,r5⟩:=CO w2 m Af cf Au cu At ct;simp only [Fr] at G r0 r1 r2 r3 r4 r5;generalize w2.alloc _=w3 at G r0 r1 r2 r3 r4 r5⊢;generalize w2.heap.size=gm at r0 r1 r2 r3 r4 r5⊢;have D:Hid (za w0 w3):=e8.out.trans G;have HG:Hid (zZ m):=b6.out.good;have a4:Hid (AV m=0):=good_chk HG.out;have a6:Hid (Lens m):=b6.out.lens;have HJ:Hid (JP w3 _ _ m ns):=⟨HM.out.below G,a6.out,fun _=>f1.out⟩;have e6:=zh (a5.out.ext D.out);obtain ⟨H,hH⟩:=zaI (zx (BB (zr m ns)));have b9:Hid (Calls Tryz.prog 27 #[.agg #[.int .i64 m.w,.int .i64 m.h,.int .i64 m.l,.slice Af m.free.length cf,.slice Au m.up.length cu,.slice At m.tasks.length ct],.slice Ap bs.length cp] w3 fun e w'=>∃t:List UInt8,e=.returned (.string ⟨t.toArray⟩)/\za w3 w'/\t.length<=5000000):=Fp w3 HJ.out a4.out e6.out g0
 have b4:Hid (∀W,za w3 W->Calls Tryz.prog 28 #[.agg #[.int .i64 m.w,.int .i64 m.h,.int .i64 m.l,.slice Af m.free.length cf,.slice Au m.up.length cu,.slice At m.tasks.length ct]] W fun e w'=>e=.returned (.tuple #[.string ⟨H.toArray⟩,.int .i64 0])/\za W w'):=fun W hW=>by
  have h1:=jBeginT_calls W (HV.out.ext (D.out.trans hW)) (HJ.out.below hW);rw [a4.out,if_pos rfl,<-hH] at h1;exact h1
 have b3:Hid (∀W,za w3 W->Calls Tryz.prog 29 #[.agg #[.int .i64 m.w,.int .i64 m.h,.int .i64 m.l,.slice Af m.free.length cf,.slice Au m.up.length cu,.slice At m.tasks.length ct]] W fun e w'=>e=.returned (.tuple #[.string ⟨H.toArray⟩,.int .i64 0])/\za W w'):=fun W hW=>by
  have h1:=Ei W (HJ.out.below hW);rw [a4.out,if_pos rfl,<-hH] at h1;exact h1
 have o:Hid (∀(S:List UInt8),S.length<=30000000->∀W,za w3 W->Calls Tryz.prog 30 #[.agg #[.int .i64 m.w,.int .i64 m.h,.int .i64 m.l,.slice Af m.free.length cf,.slice Au m.up.length cu,.slice At m.tasks.length ct],.string ⟨S.toArray⟩,.int .i64 n] W fun e w'=>e=.returned (.bool true)/\za W w'):=fun S hS W hW=>
  Fo n W (HV.out.ext (D.out.trans hW)) (HJ.out.below hW) hS (by have:=b7.out;omega) (fun W' h=>Fd W' ((HJ.out.below (hW.trans h)).hm.maze) a6.out) (f0.out W _ _ m (HJ.out.below hW).hm.maze a6.out)
 have g4:za w3 w3:=za.refl w3;have c0:=za.rule ((a3.out.ext D.out).cell (k:=0) rfl);have c1:=za.rule ((a3.out.ext D.out).cell (k:=1) rfl);have c2:=za.rule ((a3.out.ext D.out).cell (k:=2) rfl);clear G hH
 go_wp2_with fail
 refine b9.out.mono ?_;rintro e w4 ⟨S,rfl,c9,d8⟩;have J:=zh d8;have b0:za w3 w4:=c9;clear c9 d8 g4 b9
 go_wp2_with fail
 refine (b4.out _ b0).mono ?_;rintro e w5 ⟨rfl,d5⟩;have b1:za w3 w5:=b0.trans d5;clear d5 b0 b4
 go_wp2_with fail
 refine (b3.out _ b1).mono ?_;rintro e w6 ⟨rfl,d6⟩;have g5:za w3 w6:=b1.trans d6;have i3:(H.toArray==H.toArray)=true:=by simp
 have f3:=zh g5;clear d6 b1 b3;go_upto_region 7 with fail;obtain ⟨V,hV⟩:=zaI (S++X2);have d9:V.length<=30000000:=by rw [hV,FG];have:=J.out;have:=Q.out;omega
 have a1:∀w,(Op.stringOp .add ⟨S.toArray⟩ ⟨X2.toArray⟩).run Tryz.prog w=.ok (.string ⟨V.toArray⟩) w:=fun w=>by rw [hV];exact zJ (by have:=J.out;have:=Q.out;omega)
 have f2:=zh d9;clear hV d9;refine zab (S:=(fun W=>za w3 W)) zG (f3.out.drew) fun zH=>?_;generalize w6.drew=wd at zH⊢;refine zi 0 zH ?_;refine zi 1 zH ?_;simp only [zc,Fv];refine zi 2 zH ?_;refine zi 3 zH ?_;simp only [zc,Fv];refine zi 4 zH ?_;refine zi 5 zH ?_;simp only [zc,Fv];refine zi 6 zH ?_;refine zi 7 zH ?_;simp only [zc,Fv];refine zi 8 zH ?_;refine zi 9 zH ?_;simp only [zc,Fv];refine zi 10 zH ?_;refine zi 11 zH ?_;simp only [zc,Fv];refine zi 12 zH ?_;refine zi 13 zH ?_;simp only [zc,Fv];refine zi 14 zH ?_;simp only [zc,Fv];refine BO 15 fun K I=>?_;go_simp;go_at_call 30;refine (o.out S (by have:=J.out;omega) _ zH).mono ?_;rintro e w7 ⟨rfl,f5⟩;go_simp;refine zaJ I (zH.trans f5) fun zH=>?_;clear I K;try simp only [zc,Fv]
 refine zi 16 zH ?_;refine zi 17 zH ?_;simp only [zc,Fv];refine zi 18 zH ?_;refine zi 19 zH ?_;simp only [zc,Fv];refine zi 20 zH ?_;refine zi 22 zH ?_;simp only [zc,Fv];refine BO 21 fun K I=>?_;go_simp;go_at_call 31;refine (e5.out _ S (by have:=J.out;omega)).mono ?_;rintro e w8 ⟨U,rfl,f6,i6⟩;go_simp;refine zaJ I (zH.trans f6) fun zH=>?_;clear I K;try simp only [zc,Fv]
 refine BO 23 fun K I=>?_;go_simp;go_at_call 30;refine (o.out U (by omega) _ zH).mono ?_;rintro e w9 ⟨rfl,f7⟩;go_simp;refine zaJ I (zH.trans f7) fun zH=>?_;clear I K;try simp only [zc,Fv]
 refine zi 24 zH ?_;refine zi 25 zH ?_;simp only [zc,Fv];refine zi 26 zH ?_;refine zi 27 zH ?_;simp only [zc,Fv];refine zi 28 zH ?_;refine zi 29 zH ?_;simp only [zc,Fv];refine zi 30 zH ?_;refine zi 31 zH ?_;simp only [zc,Fv];refine zi 32 zH ?_;refine zi 33 zH ?_;simp only [zc,Fv];refine zi 34 zH ?_;refine zi 35 zH ?_;simp only [zc,Fv];refine zi 36 zH ?_;simp only [zc,Fv];refine BO 37 fun K I=>?_;go_simp;go_at_call 30;refine (o.out V f2.out _ zH).mono ?_;rintro e w10 ⟨rfl,c7⟩;go_simp;refine zaJ I (zH.trans c7) fun zH=>?_;clear I K;try simp only [zc,Fv]
 refine zi 38 zH ?_;refine zi 39 zH ?_;simp only [zc,Fv];refine zao (by kernel_rfl) ?_ _;have f4:=zh zH;clear zH
 go_wp2_with fail
 go_ret;exact ⟨rfl,e7.out.trans (D.out.trans f4.out)⟩
end
section
open Go.ChangeShapes Go.WideShapes Go.ChangeAt Go.RowKit
theorem u8Open {H:Type} {enc:TypeId×Value->H} {w:World} {base fuel:Nat} {held:Bool} {cs:List Value} {x:DataW H×List MemPlace} (h:DataW.trod enc Tryz.prog w base (fun _=>true) held fuel 5 cs=some x):∃n,cs=[.int .u8 n]/\0<=n/\n<256:=by
 obtain ⟨k,rfl,_,o⟩:=DataW.trod_int Tryz.underlying5 h;refine ⟨k,rfl,?_⟩;have this:=o;simp only [Lit.wf,IntKind.has,FK,FI] at this;have e1:IntKind.u8.min=0:=rfl;have e2:IntKind.u8.max=255:=rfl;omega
theorem u16Open {H:Type} {enc:TypeId×Value->H} {w:World} {base fuel:Nat} {held:Bool} {cs:List Value} {x:DataW H×List MemPlace} (h:DataW.trod enc Tryz.prog w base (fun _=>true) held fuel 60 cs=some x):∃n,cs=[.int .u16 n]/\0<=n/\n<65536:=by
 obtain ⟨k,rfl,_,o⟩:=DataW.trod_int Tryz.underlying60 h;refine ⟨k,rfl,?_⟩;have this:=o;simp only [Lit.wf,IntKind.has,FK,FI] at this;have e1:IntKind.u16.min=0:=rfl;have e2:IntKind.u16.max=65535:=rfl;omega
theorem u8Arg {H:Type} {enc:TypeId×Value->H} {base:Nat} {v:Value} {d:DataW H} {p:List MemPlace} {W:World} (o:Value.okWide Tryz.prog W .any base 5 v) (h:DataW.Trod enc Tryz.prog W 0 (fun _=>true) true 5 v d p):∃n,v=.int .u8 n/\0<=n/\n<256:=by
 obtain ⟨fuel,h⟩:=h;obtain ⟨n,e,h1⟩:=u8Open h
 have D:∀cs,v≠.agg cs:=by
  rintro cs rfl;unfold Value.okWide at o;rw [Tryz.underlying5] at o;simp [Cell.okWide,Cell.ok,Tryz.underlying5] at o
 have:v.cells=#[v]:=by
  cases v <;> first | rfl | exact absurd rfl (D _)
 rw [this] at e;injection e with e;exact ⟨n,e,h1⟩
section
variable {H:Type} {enc:TypeId×Value->H} {base:Nat} {v v0 v1 v2 v3 v4:Value} {d d0 d1 d2 d3 d4:DataW H} {p p0 p1 p2 p3 p4:List MemPlace} {W:World}
theorem cellsChg:Tryz.prog.cellsOf 62=3:=by kernel_rfl
theorem cellsU16c:Tryz.prog.cellsOf 60=1:=by kernel_rfl
theorem cellsU8c:Tryz.prog.cellsOf 5=1:=by kernel_rfl
theorem changeArg (D:Value.okWide Tryz.prog W .any base 62 v) (h:DataW.Trod enc Tryz.prog W 0 (fun _=>true) true 62 v d p):∃(a q:Nat) (S:List UInt8),v=.agg #[.int .u16 a,.int .u8 q,.string ⟨S.toArray⟩]/\a<=65535/\q<=255/\S.length<=9223372036854775807:=by
 have o:∃cs,v=.agg cs:=by
  unfold Value.okWide at D;rw [Tryz.underlying62] at D;obtain ⟨cs,h,_⟩:=D;exact ⟨cs,h⟩
 obtain ⟨fuel,h⟩:=h;obtain ⟨I,hf⟩:=fieldOpenN Tryz.underlying62 h;rw [cellsChg] at I
 obtain ⟨c0,c1,c2,G⟩:∃a b c,v.cells.toList=[a,b,c]:=by
  match v.cells.toList,I with
  | [a,b,c],_=>exact ⟨a,b,c,rfl⟩
 have E:=agg_of G o;rw [G] at hf;obtain ⟨n0,y0,-,f0⟩:=hf 0 _ _ _ rfl cellsU16c;obtain ⟨n1,y1,-,f1⟩:=hf 1 _ _ _ rfl cellsU8c;obtain ⟨n2,y2,-,f2⟩:=hf 2 _ _ _ rfl cellsT9;have f0:DataW.trod enc Tryz.prog W 0 (fun _=>true) true n0 60 [c0]=some y0:=f0;have f1:DataW.trod enc Tryz.prog W 0 (fun _=>true) true n1 5 [c1]=some y1:=f1;have f2:DataW.trod enc Tryz.prog W 0 (fun _=>true) true n2 9 [c2]=some y2:=f2;obtain ⟨k0,e0,b0⟩:=u16Open f0;obtain ⟨k1,e1,b1⟩:=u8Open f1;obtain ⟨S,e2,b2⟩:=strOpen f2;injection e0 with e0;injection e1 with e1;injection e2 with e2;subst e0 e1 e2;exact ⟨k0.toNat,k1.toNat,S,by rw [E,Int.toNat_of_nonneg b0.1,Int.toNat_of_nonneg b1.1],by omega,by omega,b2⟩
end
section
variable {H:Type} {enc:TypeId×Value->H} {base:Nat} {v v0 v1 v2 v3 v4:Value} {d d0 d1 d2 d3 d4:DataW H} {p p0 p1 p2 p3 p4:List MemPlace} {W:World}
theorem journalRuns_walk (W:World) (I:zv W) (o:Value.okWide Tryz.prog W .any base 22 v0) (h0:DataW.Trod enc Tryz.prog W 0 (fun _=>true) true 22 v0 d0 p0)
  (D:Value.okWide Tryz.prog W .any base 59 v1) (h1:DataW.Trod enc Tryz.prog W 0 (fun _=>true) true 59 v1 d1 p1)
  (E:Value.okWide Tryz.prog W .any base 62 v2) (h2:DataW.Trod enc Tryz.prog W 0 (fun _=>true) true 62 v2 d2 p2)
  (G:Value.okWide Tryz.prog W .any base 5 v3) (h3:DataW.Trod enc Tryz.prog W 0 (fun _=>true) true 5 v3 d3 p3):
  Calls Tryz.prog 5 #[v0,v1,v2,v3] W fun e w'=>e=.returned (.bool true)/\Below W.heap.size W w':=by
 obtain ⟨ls,i0,i1,i2⟩:=intssArg o h0;obtain ⟨bs,j1,j2⟩:=cutsArg D h1;obtain ⟨a,q,S,rfl,k1,k2,k3⟩:=changeArg E h2;obtain ⟨y,rfl,y1⟩:=u8Arg G h3;exact jruns_calls makeQA a q y W I i0 i1 i2 j1 j2 k1 k2 k3 y1
end
end
end Go.Proofs.YtjomnbdjajjgfaaGreatDoor
