import Derived.Test.YtjomnbdjajjgfaaGreatDoorWJp
import Derived.Laws.EntriesVeiled
set_option linter.unusedVariables false
set_option linter.unusedSimpArgs false
set_option maxRecDepth 100000
set_option maxHeartbeats 16000000
namespace Go.Proofs.YtjomnbdjajjgfaaGreatDoor
variable {mc:Array Value} {b lim st:Int} {x y:JS} {ns:List ByteArray} {ch:List Int} {h id s sg:List UInt8} {m:MZ} {K f gi gm gs l n:Nat} {R X Z ok:Nat->Prop} {r:RS} {v:Value} {W w:World}
section
open Go.RowKit Go.Shelf
attribute [local go_sem ↓] Go.wp_at_zero Go.wp_at_succ
attribute [local go_sem] Oper.semAt_some
theorem mDesc_calls (w:World) (hm:Bx w ok v m ns) (hs:CP m ns):
  Calls Tryz.prog 143 #[v] w fun e w'=>e=.returned (.string ⟨(zr m ns).toArray⟩)/\za w w':=by
 have U:=zh hs;obtain ⟨f,u,t,rfl,hF,hU,hT⟩:=hm;have HF:=zh hF;have HU:=zh hU;have HT:=zh hT;obtain ⟨_,⟨Af,cf,rfl,-,-⟩,-⟩:=hF;obtain ⟨Au,cu,rfl,-,-⟩:=hU;obtain ⟨-,_,⟨At,ct,rfl,-,-⟩,-⟩:=hT;have m0:=hs.tl;have l8:=hs.fl;have f3:Cz m.w:=⟨by have:=hs.w;omega,by have:=hs.w;omega⟩;have e9:Cz m.h:=⟨by have:=hs.h;omega,by have:=hs.h;omega⟩;have f0:Cz m.l:=⟨by have:=hs.l;omega,by have:=hs.l;omega⟩;have f2:Cz (m.tasks.length:Int):=⟨by omega,by omega⟩;have b1:=Ca f3;have b2:=Ca e9;have b3:=Ca f0;have b4:=Ca f2;obtain ⟨x1,c7⟩:∃x,x=wI m.w:=⟨_,rfl⟩;obtain ⟨x2,c8⟩:∃x,x=wI m.h:=⟨_,rfl⟩;obtain ⟨x3,c9⟩:∃x,x=wI m.l:=⟨_,rfl⟩;obtain ⟨x4,d5⟩:∃x,x=wI (m.tasks.length:Nat):=⟨_,rfl⟩;have H1:Hid (∀W,Calls Tryz.prog 53 #[.int .i64 m.w] W fun e w'=>e=.returned (.string ⟨x1.toArray⟩)/\za W w'):=fun W=>by rw [c7];exact CM W f3
 have H2:Hid (∀W,Calls Tryz.prog 53 #[.int .i64 m.h] W fun e w'=>e=.returned (.string ⟨x2.toArray⟩)/\za W w'):=fun W=>by rw [c8];exact CM W e9
 have H3:Hid (∀W,Calls Tryz.prog 53 #[.int .i64 m.l] W fun e w'=>e=.returned (.string ⟨x3.toArray⟩)/\za W w'):=fun W=>by rw [c9];exact CM W f0
 have H4:Hid (∀W,Calls Tryz.prog 53 #[.int .i64 (m.tasks.length:Nat)] W fun e w'=>e=.returned (.string ⟨x4.toArray⟩)/\za W w'):=fun W=>by rw [d5];exact CM W f2
 rw [<-c7] at b1;rw [<-c8] at b2;rw [<-c9] at b3;rw [<-d5] at b4;obtain ⟨D1,b7⟩:∃D,D=x1++(x2++(x3++x4)):=⟨_,rfl⟩;have l7:D1.length<=200:=by rw [b7];simp only [FG];omega
 have a1:∀w,(Op.stringOp .add ⟨x1.toArray⟩ ⟨x2.toArray⟩).run Tryz.prog w=.ok (.string ⟨(x1++x2).toArray⟩) w:=fun w=>zJ (by omega)
 have a2:∀w,(Op.stringOp .add ⟨(x1++x2).toArray⟩ ⟨x3.toArray⟩).run Tryz.prog w=.ok (.string ⟨(x1++(x2++x3)).toArray⟩) w:=fun w=>by rw [<-List.append_assoc];exact zJ (by simp;omega)
 have a3:∀w,(Op.stringOp .add ⟨(x1++(x2++x3)).toArray⟩ ⟨x4.toArray⟩).run Tryz.prog w=.ok (.string ⟨D1.toArray⟩) w:=fun w=>by rw [b7,<-List.append_assoc x2 x3 x4,<-List.append_assoc x1 (x2++x3) x4];exact zJ (by simp;omega)
 have HD:Hid (zr m ns=D1++(AM m.tasks ns++(wI (m.free.length:Nat)++(m.free.flatMap Bg++Bg m.up)))):=by
  (show _=_)
  rw [b7,c7,c8,c9,d5];unfold zr;simp only [List.append_assoc]
 clear hs c7 c8 c9 d5 b7 f3 e9 f0 f2 b1 b2 b3 b4
 go_enter Tryz.func143,Tryz.ntmps143
 go_upto_region 1 with fail;have I:=ze.new w #[.int .i64 m.w,.int .i64 m.h,.int .i64 m.l,.slice Af m.free.length cf,.slice Au m.up.length cu,.slice At m.tasks.length ct] 32 (g:=w.heap.size) rfl;have e7:za w (w.alloc (.cells #[.int .i64 m.w,.int .i64 m.h,.int .i64 m.l,.slice Af m.free.length cf,.slice Au m.up.length cu,.slice At m.tasks.length ct] 32)):=(za.refl w).alloc _;generalize w.alloc _=w1 at I e7⊢;obtain ⟨gm,h9⟩:∃g,g=w.heap.size:=⟨_,rfl⟩;rw [<-h9] at I⊢;have r0:=za.rule (I.cell (k:=0) rfl);have r1:=za.rule (I.cell (k:=1) rfl);have r2:=za.rule (I.cell (k:=2) rfl);have r3:=za.rule (I.cell (k:=3) rfl);have r4:=za.rule (I.cell (k:=4) rfl);have r5:=za.rule (I.cell (k:=5) rfl);have b6:=zh e7;have E:za w1 w1:=za.refl w1;clear I e7 h9;refine zab (S:=(fun W=>za w1 W)) zG (E.drew) fun zH=>?_;have a8:za w1 w1.drew:=zH;generalize w1.drew=wd at zH a8⊢;refine zi 0 zH ?_;refine zi 1 zH ?_;simp only [zc,Fv];refine zi 3 zH ?_;refine zi 4 zH ?_;simp only [zc,Fv];refine zi 7 zH ?_;refine zi 8 zH ?_;simp only [zc,Fv];refine zi 11 zH ?_;refine zi 12 zH ?_;simp only [zc,Fv];refine zi 13 zH ?_;simp only [zc,Fv];refine BO 2 fun K G=>?_;go_simp;go_at_call 53;refine (H1.out _).mono ?_;rintro e w2 ⟨rfl,a5⟩;go_simp;refine zaJ G (zH.trans a5) fun zH=>?_;clear G K;try simp only [zc,Fv]
 refine BO 5 fun K G=>?_;go_simp;go_at_call 53;refine (H2.out _).mono ?_;rintro e w3 ⟨rfl,a6⟩;go_simp;refine zaJ G (zH.trans a6) fun zH=>?_;clear G K;try simp only [zc,Fv]
 refine zi 6 zH ?_;simp only [zc,Fv];refine BO 9 fun K G=>?_;go_simp;go_at_call 53;refine (H3.out _).mono ?_;rintro e w4 ⟨rfl,a7⟩;go_simp;refine zaJ G (zH.trans a7) fun zH=>?_;clear G K;try simp only [zc,Fv]
 refine zi 10 zH ?_;simp only [zc,Fv];refine BO 14 fun K G=>?_;go_simp;go_at_call 53;refine (H4.out _).mono ?_;rintro e w5 ⟨rfl,h7⟩;go_simp;refine zaJ G (zH.trans h7) fun zH=>?_;clear G K;try simp only [zc,Fv]
 refine zi 15 zH ?_;refine zi 16 zH ?_;simp only [zc,Fv];refine zao (by kernel_rfl) ?_ _;have h5:=zh zH;clear a1 a2 a3 H1 H2 H3 H4
 go_wp2_with fail
 clear zH a8 E;go_loopw [3,4] (fun s i wr=>∃k:Nat,k<=m.tasks.length/\i=.int .i64 k/\s=.string ⟨(D1++AM (m.tasks.take k) (ns.take k)).toArray⟩/\Hid (za w1 wr)) (fun _ i _=>m.tasks.length - (intOf i).toNat)
 case atStart=>exact ⟨0,FN _,rfl,by rw [List.take_zero,List.take_zero,show D1++AM [] []=D1 from List.append_nil _],h5.out⟩
 clear h5
 case round=>
  obtain ⟨k,hk,rfl,rfl,HX⟩:=hrel;obtain ⟨wq,rfl⟩:∃wq:World,wq=wr:=⟨_,rfl⟩;have E:za w1 wq:=HX.out;by_cases Q:k<m.tasks.length
  ·have i1:(k:Int)<(m.tasks.length:Int):=by omega
   have j7:(0:Int)<=(k:Int):=by omega
   have i4:k<ns.length:=by rw [U.out.nl];exact Q
   obtain ⟨bt,off,u1,u2,rfl,t0,t1,t2,b9,c0⟩:=tasksJAt (HT.out.below (b6.out.trans E)) Q i4;obtain ⟨z,hz⟩:=zaI (m.tasks[k]);obtain ⟨sn,c6⟩:∃s,s=ns[k]:=⟨_,rfl⟩;have d7:=U.out.t z (by rw [hz];exact Fz _);have i6:=U.out.n sn (by rw [c6];exact Fz _);have e8:AM (m.tasks.take (k+1)) (ns.take (k+1))=AM (m.tasks.take k) (ns.take k)++taskB z sn:=by rw [hz,c6];exact tasksB_take U.out.nl k Q
   have i0:=Dr (l:=m.tasks.take k) (ns:=ns.take k) (fun x E=>U.out.t x (List.mem_of_mem_take E)) (fun x E=>U.out.n x (List.mem_of_mem_take E));have f6:=taskB_len d7 i6;rw [<-hz] at b9 c0;rw [<-c6] at t0;obtain ⟨A1,c1,rfl,-,-⟩:=id b9;obtain ⟨A2,c2,rfl,-,-⟩:=id c0;have g8:=zh b9;have g9:=zh c0;have j8:sn.data.toList.length=sn.size:=by rw [Array.length_toList];rfl
   obtain ⟨y1,o⟩:∃x,x=wT sn.data.toList:=⟨_,rfl⟩;obtain ⟨y2,f7⟩:∃x,x=wL z.1:=⟨_,rfl⟩;obtain ⟨y3,f8⟩:∃x,x=wL z.2:=⟨_,rfl⟩;have j1:taskB z sn=y1++(y2++y3):=by rw [<-List.append_assoc,o,f7,f8];rfl
   rw [j1] at e8 f6;have j9:y1.length+y2.length+y3.length<=50000:=by have:=f6;simp only [FG] at this;omega
   have j4:Hid (∀W,Calls Tryz.prog 142 #[.string sn] W fun e w'=>e=.returned (.string ⟨y1.toArray⟩)/\za W w'):=fun W=>by have h:=CW (s:=sn.data.toList) W (by omega);rw [bytes_self,<-o] at h;exact h
   have g0:Hid (∀W,za wq W->Calls Tryz.prog 54 #[.slice A1 z.1.length c1] W fun e w'=>e=.returned (.string ⟨y2.toArray⟩)/\za W w'):=fun W hW=>by rw [f7];exact Fa W (g8.out.below hW) (fun x E=>d7.2.2 x (.inl E)) (by omega)
   have g1:Hid (∀W,za wq W->Calls Tryz.prog 54 #[.slice A2 z.2.length c2] W fun e w'=>e=.returned (.string ⟨y3.toArray⟩)/\za W w'):=fun W hW=>by rw [f8];exact Fa W (g9.out.below hW) (fun x E=>d7.2.2 x (.inr E)) (by omega)
   obtain ⟨y0,J⟩:∃y,y=D1++AM (m.tasks.take k) (ns.take k):=⟨_,rfl⟩;have f4:y0.length<=60000000:=by have h2:(m.tasks.take k).length<=1000:=(by rw [za3];omega);rw [J,FG];omega
   have d8:Hid (D1++AM (m.tasks.take (k+1)) (ns.take (k+1))=y0++(y1++(y2++y3))):=by (show _=_);rw [e8,J,List.append_assoc]
   rw [<-J];have a1:∀w,(Op.stringOp .add ⟨y0.toArray⟩ ⟨y1.toArray⟩).run Tryz.prog w=.ok (.string ⟨(y0++y1).toArray⟩) w:=fun w=>zJ (by omega)
   have a2:∀w,(Op.stringOp .add ⟨(y0++y1).toArray⟩ ⟨y2.toArray⟩).run Tryz.prog w=.ok (.string ⟨(y0++(y1++y2)).toArray⟩) w:=fun w=>by rw [<-List.append_assoc];exact zJ (by simp;omega)
   have a3:∀w,(Op.stringOp .add ⟨(y0++(y1++y2)).toArray⟩ ⟨y3.toArray⟩).run Tryz.prog w=.ok (.string ⟨(y0++(y1++(y2++y3))).toArray⟩) w:=fun w=>by rw [<-List.append_assoc y1 y2 y3,<-List.append_assoc y0 (y1++y2) y3];exact zJ (by simp;omega)
   have q0:=za.rule t0;have q1:=za.rule t1;have q2:=za.rule t2;have d9:=zh E;clear E;have E:za wq wq:=za.refl wq;obtain ⟨n1,i2⟩:∃n,n=z.1.length:=⟨_,rfl⟩;obtain ⟨n2,i3⟩:∃n,n=z.2.length:=⟨_,rfl⟩;rw [<-i2] at q1 g0;rw [<-i3] at q2 g1;have R0:=za.rule (r0 wq d9.out);have R5:=za.rule (r5 wq d9.out);clear hz c6 d7 i6 e8 i0 f6 b9 c0 j8 J o f7 f8 j1 j9 i4 i2 i3 g8 g9 t0 t1 t2 f4;clear r0 r1 r2 r3 r4 r5;go_upto_region 5 with fail;refine zab (S:=(fun W=>za wq W)) zG (E.drew) fun zH=>?_;have a8:za wq wq.drew:=zH;generalize wq.drew=wd at zH a8⊢;refine zi 0 zH ?_;refine zi 1 zH ?_;simp only [zc,Fv];refine zi 2 zH ?_;refine zi 3 zH ?_;simp only [zc,Fv];refine zi 4 zH ?_;refine zi 5 zH ?_;simp only [zc,Fv];refine zi 6 zH ?_;refine zi 9 zH ?_;simp only [zc,Fv];refine zi 10 zH ?_;refine zi 11 zH ?_;simp only [zc,Fv];refine zi 12 zH ?_;refine zi 13 zH ?_;simp only [zc,Fv];refine zi 14 zH ?_;refine zi 17 zH ?_;simp only [zc,Fv];refine zi 18 zH ?_;refine zi 19 zH ?_;simp only [zc,Fv];refine zi 20 zH ?_;refine zi 21 zH ?_;simp only [zc,Fv];refine zi 22 zH ?_;simp only [zc,Fv];refine BO 7 fun K G=>?_;go_simp;go_at_call 142;refine (j4.out _).mono ?_;rintro e w2 ⟨rfl,a5⟩;go_simp;refine zaJ G (zH.trans a5) fun zH=>?_;clear G K;try simp only [zc,Fv]
   refine zi 8 zH ?_;simp only [zc,Fv];refine BO 15 fun K G=>?_;go_simp;go_at_call 54;refine (g0.out _ zH).mono ?_;rintro e w3 ⟨rfl,a6⟩;go_simp;refine zaJ G (zH.trans a6) fun zH=>?_;clear G K;try simp only [zc,Fv]
   refine zi 16 zH ?_;simp only [zc,Fv];refine BO 23 fun K G=>?_;go_simp;go_at_call 54;refine (g1.out _ zH).mono ?_;rintro e w4 ⟨rfl,a7⟩;go_simp;refine zaJ G (zH.trans a7) fun zH=>?_;clear G K;try simp only [zc,Fv]
   refine zi 24 zH ?_;refine zi 25 zH ?_;simp only [zc,Fv];refine zao (by kernel_rfl) ?_ _;have M:Hid (za w1 _):=d9.out.trans zH;clear a1 a2 a3 q0 q1 q2 E zH a8
   go_wp2_with fail
   go_roundw
   case rel=>exact ⟨k+1,by omega,by go_num,by rw [d8.out],M⟩
   case measure=>simp [intOf];omega
  ·obtain rfl:k=m.tasks.length:=by omega
   have e4:m.tasks.take m.tasks.length=m.tasks:=FJ;have e5:ns.take m.tasks.length=ns:=by rw [<-U.out.nl];exact FJ
   rw [e4,e5]
   have e0:(D1++AM m.tasks ns).length<=50001000:=by
    have h1:=Dr U.out.t U.out.n;rw [FG];omega
   obtain ⟨D2,a0⟩:∃D,D=D1++AM m.tasks ns:=⟨_,rfl⟩;rw [<-a0] at e0⊢;have l3:=zh e0;have g5:=zh a0;have h8:=Ca (n:=(m.free.length:Int)) ⟨by omega,by omega⟩;obtain ⟨f1,b8⟩:∃f,f=wI (m.free.length:Nat):=⟨_,rfl⟩;have j5:Hid (Calls Tryz.prog 53 #[.int .i64 (m.free.length:Nat)] wq fun e w'=>e=.returned (.string ⟨f1.toArray⟩)/\za wq w'):=by rw [b8];exact CM wq ⟨by omega,by omega⟩
   rw [<-b8] at h8;have a1:∀w,(Op.stringOp .add ⟨D2.toArray⟩ ⟨f1.toArray⟩).run Tryz.prog w=.ok (.string ⟨(D2++f1).toArray⟩) w:=fun w=>zJ (by omega)
   have e6:(D2++f1).length<=50001100:=by rw [FG];omega
   obtain ⟨D3,V⟩:∃D,D=D2++f1:=⟨_,rfl⟩;rw [<-V] at e6 a1;rw [b8] at V;have g6:=zh V;have g4:=zh e6;clear e4 e5 e0 a0 e6 V h8 b8
   go_wp2_with fail
   refine j5.out.mono ?_;rintro e w5 ⟨rfl,O⟩;have i7:za w1 w5:=HX.out.trans O;have M:=zh i7;clear O E
   go_wp2_with fail
   clear i7;go_loopw [3,5] (fun s i wr=>∃k:Nat,k<=m.free.length/\i=.int .i64 k/\s=.string ⟨(D3++(m.free.take k).flatMap Bg).toArray⟩/\Hid (za w1 wr)) (fun _ i _=>m.free.length - (intOf i).toNat)
   case atStart=>exact ⟨0,FN _,rfl,by rw [List.take_zero,show D3++([]:List (List Bool)).flatMap Bg=D3 from List.append_nil _],M⟩
   clear M
   case round=>
    obtain ⟨k,hk,rfl,rfl,HX⟩:=hrel;obtain ⟨wp,rfl⟩:∃wp:World,wp=wr:=⟨_,rfl⟩;have E:za w1 wp:=HX.out;by_cases Q:k<m.free.length
    ·have i1:(k:Int)<(m.free.length:Int):=by omega
     have j7:(0:Int)<=(k:Int):=by omega
     obtain ⟨vs,⟨A',c',e',-,hr⟩,he⟩:=HF.out.below (b6.out.trans E);injection e' with e1 e2 e3;subst e1;obtain ⟨bf,off,u,rfl,-,b0,hb⟩:=AW hr he Q Q;obtain ⟨x,d6⟩:=zaI (m.free[k]);rw [<-d6] at hb;have i9:x.length<=1000:=U.out.f x (by rw [d6];exact Fz _);have a9:=DK i9;have f5:=DL (l:=m.free.take k) fun y hy=>U.out.f y (List.mem_of_mem_take hy)
     obtain ⟨y1,o⟩:∃y,y=Bg x:=⟨_,rfl⟩;obtain ⟨y0,J⟩:∃y,y=D3++(m.free.take k).flatMap Bg:=⟨_,rfl⟩;have d8:Hid (D3++(m.free.take (k+1)).flatMap Bg=y0++y1):=by (show _=_);rw [FF Q,List.flatMap_append,<-List.append_assoc,J,o,d6];simp
     have f4:y0.length<=60000000:=by have h1:=g4.out;have h2:(m.free.take k).length<=1000:=(by rw [za3];omega);rw [J,FG];omega
     rw [<-o] at a9;have a1:∀w,(Op.stringOp .add ⟨y0.toArray⟩ ⟨y1.toArray⟩).run Tryz.prog w=.ok (.string ⟨(y0++y1).toArray⟩) w:=fun w=>zJ (by omega)
     obtain ⟨Ab,cb,rfl,-,-⟩:=id hb;have g3:Hid (Calls Tryz.prog 195 #[.slice Ab x.length cb] wp fun e w'=>e=.returned (.string ⟨y1.toArray⟩)/\za wp w'):=by rw [o];exact mBits_calls wp hb (by omega)
     obtain ⟨nx,i5⟩:∃n,n=x.length:=⟨_,rfl⟩;rw [<-i5] at b0 g3;rw [<-J];clear hr he e2 e3 d6 i9 a9 f5 i5 hb J o f4
     go_wp2_with fail
     refine g3.out.mono ?_;rintro e w5 ⟨rfl,O⟩;have M:Hid (za w1 w5):=HX.out.trans O;clear O E b0
     go_wp2_with fail
     go_roundw
     case rel=>exact ⟨k+1,by omega,by go_num,by rw [d8.out],M⟩
     case measure=>simp [intOf];omega
    ·obtain rfl:k=m.free.length:=by omega
     rw [FJ];have a9:=DK U.out.u;have f5:=DL U.out.f;have h6:(D3++m.free.flatMap Bg).length<=52001100:=by have h1:=g4.out;rw [FG];omega
     obtain ⟨D4,a4⟩:∃D,D=D3++m.free.flatMap Bg:=⟨_,rfl⟩;rw [<-a4] at h6⊢;obtain ⟨y1,o⟩:∃y,y=Bg m.up:=⟨_,rfl⟩;have j6:Hid (Calls Tryz.prog 195 #[.slice Au m.up.length cu] wp fun e w'=>e=.returned (.string ⟨y1.toArray⟩)/\za wp w'):=by rw [o];exact mBits_calls wp (HU.out.below (b6.out.trans E)) (by have:=U.out.u;omega)
     have g7:Hid (D4++y1=zr m ns):=by
      (show _=_)
      rw [a4,g6.out,g5.out,HD.out,o];simp only [List.append_assoc]
     rw [<-o] at a9;have a1:∀w,(Op.stringOp .add ⟨D4.toArray⟩ ⟨y1.toArray⟩).run Tryz.prog w=.ok (.string ⟨(D4++y1).toArray⟩) w:=fun w=>zJ (by omega)
     clear a9 f5 h6 a4 o
     go_wp2_with fail
     refine j6.out.mono ?_;rintro e w5 ⟨rfl,O⟩;have M:Hid (za w w5):=(b6.out.trans HX.out).trans O;clear O E
     go_wp2_with fail
     go_ret;exact ⟨CE g7.out,M.out⟩
theorem mOf_l (l:List UInt8) (w:World) (o:l.length<=1000000000):Calls Tryz.prog 68 #[.string ⟨l.toArray⟩] w fun e w'=>e=.returned (.string ⟨(BB l).toArray⟩)/\za w w':=by
 have:=rOf_calls ⟨l.toArray⟩ w (by simp [ByteArray.size];omega);exact this
theorem Ej (w:World) (hm:Bx w ok v m ns) (hs:CP m ns):
  Calls Tryz.prog 77 #[v] w fun e w'=>e=.returned (.string ⟨(zx (BB (zr m ns))).toArray⟩)/\za w w':=by
 have a3:=descB_len hs;have h1:=Bv (s:=BJ) (by decide);have h2:=Bv (s:=BB (zr m ns)) (by rw [Aw];omega);have h0:BJ.length=5:=rfl;obtain ⟨x1,G⟩:∃x,x=wT BJ:=⟨_,rfl⟩;obtain ⟨d,hd⟩:=zaI (BB (zr m ns));have a6:d.length=8:=by rw [hd];exact Aw _
 rw [<-hd] at h2;obtain ⟨x2,I⟩:∃x,x=wT d:=⟨_,rfl⟩;have HH:Hid (zx (BB (zr m ns))=x1++x2):=by (show _=_);rw [G,I,hd];rfl
 rw [<-G] at h1;rw [<-I] at h2;have H1:Hid (∀W,Calls Tryz.prog 142 #[.string ⟨#[114,111,117,116,101]⟩] W fun e w'=>e=.returned (.string ⟨x1.toArray⟩)/\za W w'):=fun W=>by rw [G];exact CW (s:=BJ) W (by decide)
 have H2:Hid (∀W,za w W->Calls Tryz.prog 143 #[v] W fun e w'=>e=.returned (.string ⟨(zr m ns).toArray⟩)/\za W w'):=fun W hW=>mDesc_calls W (hm.below hW) hs
 have H3:Hid (∀W,Calls Tryz.prog 68 #[.string ⟨(zr m ns).toArray⟩] W fun e w'=>e=.returned (.string ⟨d.toArray⟩)/\za W w'):=fun W=>by rw [hd];exact mOf_l _ W (by omega)
 have H4:Hid (∀W,Calls Tryz.prog 142 #[.string ⟨d.toArray⟩] W fun e w'=>e=.returned (.string ⟨x2.toArray⟩)/\za W w'):=fun W=>by rw [I];exact CW W (by omega)
 have a1:∀w,(Op.stringOp .add ⟨x1.toArray⟩ ⟨x2.toArray⟩).run Tryz.prog w=.ok (.string ⟨(x1++x2).toArray⟩) w:=fun w=>zJ (by omega)
 obtain ⟨D,hD⟩:=zaI (zr m ns);rw [<-hD] at H2 H3;clear G I hd hD a6 h0 h1 h2 a3 hs;obtain ⟨f,u,t,rfl,hF,hU,hT⟩:=hm;obtain ⟨_,⟨Af,cf,rfl,-,-⟩,-⟩:=hF;obtain ⟨Au,cu,rfl,-,-⟩:=hU;obtain ⟨-,_,⟨At,ct,rfl,-,-⟩,-⟩:=hT
 go_enter Tryz.func77,Tryz.ntmps77
 go_upto_region 1 with fail;have o:=ze.new w #[.int .i64 m.w,.int .i64 m.h,.int .i64 m.l,.slice Af m.free.length cf,.slice Au m.up.length cu,.slice At m.tasks.length ct] 32 (g:=w.heap.size) rfl;have J:za w (w.alloc (.cells #[.int .i64 m.w,.int .i64 m.h,.int .i64 m.l,.slice Af m.free.length cf,.slice Au m.up.length cu,.slice At m.tasks.length ct] 32)):=(za.refl w).alloc _;generalize w.alloc _=w1 at o J⊢;obtain ⟨gm,a2⟩:∃g,g=w.heap.size:=⟨_,rfl⟩;rw [<-a2] at o⊢;have r0:=za.rule (o.cell (k:=0) rfl);have r1:=za.rule (o.cell (k:=1) rfl);have r2:=za.rule (o.cell (k:=2) rfl);have r3:=za.rule (o.cell (k:=3) rfl);have r4:=za.rule (o.cell (k:=4) rfl);have r5:=za.rule (o.cell (k:=5) rfl);have M:=zh J;have hx:za w1 w1:=za.refl w1;clear o J a2;refine zab (S:=(fun W=>za w1 W)) zG (hx.drew) fun zH=>?_;have a5:za w1 w1.drew:=zH;generalize w1.drew=wd at zH a5⊢;refine zi 1 zH ?_;simp only [zc,Fv];refine BO 0 fun K E=>?_;go_simp;go_at_call 142;refine (H1.out _).mono ?_;rintro e w2 ⟨rfl,O⟩;go_simp;refine zaJ E (zH.trans O) fun zH=>?_;clear E K;try simp only [zc,Fv]
 refine BO 2 fun K E=>?_;go_simp;go_at_call 143;refine (H2.out _ (M.out.trans zH)).mono ?_;rintro e w3 ⟨rfl,Q⟩;go_simp;refine zaJ E (zH.trans Q) fun zH=>?_;clear E K;try simp only [zc,Fv]
 refine BO 3 fun K E=>?_;go_simp;go_at_call 68;refine (H3.out _).mono ?_;rintro e w4 ⟨rfl,U⟩;go_simp;refine zaJ E (zH.trans U) fun zH=>?_;clear E K;try simp only [zc,Fv]
 refine BO 4 fun K E=>?_;go_simp;go_at_call 142;refine (H4.out _).mono ?_;rintro e w5 ⟨rfl,V⟩;go_simp;refine zaJ E (zH.trans V) fun zH=>?_;clear E K;try simp only [zc,Fv]
 refine zi 5 zH ?_;refine zi 6 zH ?_;simp only [zc,Fv];refine zao (by kernel_rfl) ?_ _;have a4:Hid (za w _):=M.out.trans zH
 go_wp2_with fail
 go_ret;exact ⟨CE HH.out.symm,a4.out⟩
theorem mRecord_calls {steps:Int} (w:World) (hv:zg w ok v ch) (hI:∀x∈ch,Cz x) (hs:Cz steps) (hl:ch.length<=40000000) (hg:sg.length<=100000000):
  Calls Tryz.prog 138 #[.string ⟨sg.toArray⟩,v,.int .i64 steps] w fun e w'=>e=.returned (.tuple #[.string ⟨(Ay sg ch steps).toArray⟩,.string ⟨(zY sg ch steps).toArray⟩])/\za w w':=by
 have a0:=wIs_len2 (l:=ch) hI;have a3:=Ca hs;obtain ⟨x1,D⟩:∃x,x=wL ch:=⟨_,rfl⟩;obtain ⟨x2,E⟩:∃x,x=wI steps:=⟨_,rfl⟩;obtain ⟨b,hb⟩:=zaI (x1++x2);have J:b=BP ch steps:=by rw [hb,D,E];rfl
 have H1:Hid (∀W,za w W->Calls Tryz.prog 54 #[v] W fun e w'=>e=.returned (.string ⟨x1.toArray⟩)/\za W w'):=fun W hW=>by rw [D];exact Fa W (hv.below hW) hI (by omega)
 have H2:Hid (∀W,Calls Tryz.prog 53 #[.int .i64 steps] W fun e w'=>e=.returned (.string ⟨x2.toArray⟩)/\za W w'):=fun W=>by rw [E];exact CM W hs
 rw [<-D] at a0;rw [<-E] at a3;have b1:b.length<=900000000:=by rw [hb,FG];omega
 have a1:∀w,(Op.stringOp .add ⟨x1.toArray⟩ ⟨x2.toArray⟩).run Tryz.prog w=.ok (.string ⟨b.toArray⟩) w:=fun w=>by rw [hb];exact zJ (by omega)
 obtain ⟨s2,o⟩:∃s,s=zY sg ch steps:=⟨_,rfl⟩;have b3:s2.length=8:=by rw [o];rfl
 have H3:Hid (∀W,Calls Tryz.prog 69 #[.string ⟨sg.toArray⟩,.string ⟨b.toArray⟩] W fun e w'=>e=.returned (.string ⟨s2.toArray⟩)/\za W w'):=fun W=>by
  have:=rChain_calls ⟨sg.toArray⟩ ⟨b.toArray⟩ W (by simp [ByteArray.size];omega) (by simp [ByteArray.size];omega);rw [o];unfold zY;rw [<-J];exact this
 have c1:=Bv (s:=b) (by omega);have c2:=Bv (s:=s2) (by omega);obtain ⟨y1,G⟩:∃x,x=wT b:=⟨_,rfl⟩;obtain ⟨y2,I⟩:∃x,x=wT s2:=⟨_,rfl⟩;have H4:Hid (∀W,Calls Tryz.prog 142 #[.string ⟨b.toArray⟩] W fun e w'=>e=.returned (.string ⟨y1.toArray⟩)/\za W w'):=fun W=>by rw [G];exact CW W (by omega)
 have H5:Hid (∀W,Calls Tryz.prog 142 #[.string ⟨s2.toArray⟩] W fun e w'=>e=.returned (.string ⟨y2.toArray⟩)/\za W w'):=fun W=>by rw [I];exact CW W (by omega)
 rw [<-G] at c1;rw [<-I] at c2;have a2:∀w,(Op.stringOp .add ⟨y1.toArray⟩ ⟨y2.toArray⟩).run Tryz.prog w=.ok (.string ⟨(y1++y2).toArray⟩) w:=fun w=>zJ (by omega)
 have HR:Hid (Ay sg ch steps=y1++y2):=by (show _=_);rw [G,I,o,J];rfl
 obtain ⟨A,c,rfl,-,-⟩:=hv;obtain ⟨n,hn⟩:=zaI ch.length;rw [<-hn] at H1⊢;clear D E hb J b1 b3 c1 c2 G I a0 a3 hI hs hl hg hn;obtain ⟨R,hR⟩:=zaI (Ay sg ch steps);rw [<-o,<-hR];rw [<-hR] at HR;clear hR o
 go_enter Tryz.func138,Tryz.ntmps138
 have hx:za w w:=za.refl w
 go_wp2_with fail
 refine (H1.out _ hx).mono ?_;rintro e w1 ⟨rfl,M⟩;have a5:=zh M;clear M hx
 go_wp2_with fail
 refine (H2.out _).mono ?_;rintro e w2 ⟨rfl,O⟩;have a6:=zh (a5.out.trans O);clear O
 go_wp2_with fail
 refine (H3.out _).mono ?_;rintro e w3 ⟨rfl,Q⟩;have a7:=zh (a6.out.trans Q);clear Q
 go_wp2_with fail
 refine (H4.out _).mono ?_;rintro e w4 ⟨rfl,U⟩;have a8:=zh (a7.out.trans U);clear U
 go_wp2_with fail
 refine (H5.out _).mono ?_;rintro e w5 ⟨rfl,V⟩;have a9:=zh (a8.out.trans V);clear V
 go_wp2_with fail
 go_ret2
 have e:=HR.out;subst e;exact ⟨rfl,a9.out⟩
end
section
open Go.RowKit
theorem BZ (h:loadE m ch st=0):AV m=0/\CZ m (loadS m ch st):=by
 unfold loadE at h
 split at h
 ·rename_i h1;exact absurd h h1
 rename_i h1
 split at h
 ·cases h
 rename_i h2
 split at h
 ·rename_i h3
  rw [FK,zaD,FI] at h3;refine ⟨Decidable.not_not.1 h1,AX.1 h3.1,?_,rfl,fun o=>?_⟩
  ·show 0<=st;omega
  ·exact h3.2.resolve_left o
 ·cases h
noncomputable def BK (m:MZ) (b lim:Int):Nat->RS->List UInt8->List UInt8×RS
 | 0,r,_=>([],r)
 | f+1,r,sg=>if r.done=true\/lim<=r.steps - b then ([],r) else
   let r':=RS.run m (min (16 - r.steps % 16) (lim - (r.steps - b))).toNat r
   let p:=BK m b lim f r' (zY sg r'.ch r'.steps)
   (Ay sg r'.ch r'.steps++p.1,p.2)
theorem Ev (h:r.done=true\/lim<=r.steps - b):BK m b lim f r sg=([],r):=by
 cases f with
 | zero=>rfl
 | succ f=>unfold BK;rw [if_pos h]
theorem runJ_go {r':RS} (h:¬ (r.done=true\/lim<=r.steps - b)) (o:RS.run m (min (16 - r.steps % 16) (lim - (r.steps - b))).toNat r=r'):
  BK m b lim (f+1) r sg=(Ay sg r'.ch r'.steps++(BK m b lim f r' (zY sg r'.ch r'.steps)).1,(BK m b lim f r' (zY sg r'.ch r'.steps)).2):=by
 subst o
 conv=>lhs;unfold BK
 rw [if_neg h]
theorem runJ_wrt {m:MZ} {b L:Nat} (G:b<=L):∀(f n:Nat) (x:JS),AtN m x n->n<=L->L<=n+f->
  (BK m b ((L:Int) - b) f (AN m n) x.sg).1=wrt m (runN m L f n) x/\(BK m b ((L:Int) - b) f (AN m n) x.sg).2=AN m L
 | 0,n,x,h,h1,h2=>by
  obtain rfl:n=L:=by omega
  exact ⟨rfl,rfl⟩
 | f+1,n,x,h,h1,h2=>by
  have o:=h.own;by_cases hc:(AN m n).done=true\/L<=n
  ·have D:(AN m n).done=true\/(L:Int) - b<=(AN m n).steps - b:=by rw [o];rcases hc with hc | hc;exact .inl hc;exact .inr (by omega)
   rw [Ev D];unfold runN;rw [if_pos hc];refine ⟨rfl,?_⟩;rcases hc with hc | hc
   ·exact (atS_done hc h1).symm
   ·obtain rfl:n=L:=by omega
    rfl
  ·have D:¬ ((AN m n).done=true\/(L:Int) - b<=(AN m n).steps - b):=by
    rw [o];rintro (q | q)
    ·exact hc (.inl q)
    ·exact hc (.inr (by omega))
   have I:(AN m n).done=false:=by
    cases O:(AN m n).done with
    | false=>rfl
    | true=>exact absurd (.inl O) hc
   have U:n<L:=by
    rcases zah n L with q | q
    ·exact q
    ·exact absurd (.inr q) hc
   have J:0<min (16 - n % 16) (L - n):=by have:=Nat.mod_lt n (show 0<16 by omega);omega
   have E:(min (16 - (AN m n).steps % 16) ((L:Int) - b - ((AN m n).steps - b))).toNat=min (16 - n % 16) (L - n):=by rw [o];omega
   obtain ⟨b1,b2,b3,b4⟩:=next_steps o I J
   have Q:RS.run m (min (16 - (AN m n).steps % 16) ((L:Int) - b - ((AN m n).steps - b))).toNat (AN m n)=AN m (n+min (16 - n % 16) (L - n)):=by
    rw [E];exact (Dx m n _ _).symm
   rw [runJ_go D Q];unfold runN;rw [if_neg hc];generalize M:(AN m (n+min (16 - n % 16) (L - n))).steps.toNat=n' at b1 b2 b3 b4⊢;rw [<-b4];obtain ⟨i1,i2⟩:=runJ_wrt G f n' (recS m n' x) (atN_rec b3) (by omega) (by omega);refine ⟨?_,i2⟩;show Ay x.sg (AN m n').ch (AN m n').steps++_=Ay x.sg (AN m n').ch (AN m n').steps++wrt m (runN m L f n') (recS m n' x);rw [<-i1];rfl
noncomputable def Aa (m:MZ) (h id s:List UInt8):Option JS:=if h <+: s then some (endJ m s ⟨[],0,h.length,id⟩) else none
noncomputable def Da (m:MZ) (h id s:List UInt8) (n:Int):List UInt8×Bool×Int:=
 match Aa m h id s with
 | none=>([],false,4)
 | some x=>if n<0 then ([],false,1) else
   let p:=BK m x.steps (min (20000 - x.steps) n) (min (20000 - x.steps) n).toNat (loadS m x.ch x.steps) x.sg
   (s.take x.fin++p.1,p.2.done,0)
def JAt (m:MZ) (h id s:List UInt8) (K:Nat):Prop:=∃ns e,Ups m ns 0/\s=h++wrt m ns ⟨[],0,h.length,id⟩/\AtN m (wrtS m ns ⟨[],0,h.length,id⟩) e/\AN m e=AN m K/\e<=K
theorem jat_begin (m:MZ) (h id:List UInt8):JAt m h id h 0:=⟨[],0,trivial,(List.append_nil h).symm,atN_zero m _ _,rfl,Fy _⟩
theorem endJ_end (h:s.length<=x.fin):endJ m s x=x:=by
 refine DN ?_
 cases o:Aj m s x with
 | none=>rfl
 | some y=>have:=Cu o;omega
theorem jat_open (g:zZ m) (E:JAt m h id s K):∃x e,Aa m h id s=some x/\x.fin=s.length/\AtN m x e/\AN m e=AN m K/\e<=K:=by
 obtain ⟨ns,e,G,rfl,he,D,o⟩:=E;obtain ⟨h1,h2⟩:=read_wrt g ns ⟨[],0,h.length,id⟩ h [] G rfl;rw [List.append_nil] at h1;have hf:(wrtS m ns ⟨[],0,h.length,id⟩).fin=(h++wrt m ns ⟨[],0,h.length,id⟩).length:=by rw [h2,FG]
 refine ⟨_,e,?_,hf,he,D,o⟩;unfold Aa;rw [if_pos (List.prefix_append ..),h1,endJ_end (by rw [hf];exact Fy _)]
theorem jat_run (g:zZ m) (U:JAt m h id s K) (hn:K+n<=20000):
  ∃t,Da m h id s n=(s++t,(AN m (K+n)).done,0)/\JAt m h id (s++t) (K+n):=by
 obtain ⟨x,e0,G,hf,-,-,-⟩:=jat_open g U;obtain ⟨ns,e,V,O,he,M,a0⟩:=U;obtain ⟨h1,h2⟩:=read_wrt g ns ⟨[],0,h.length,id⟩ h [] V rfl;rw [List.append_nil,<-O] at h1
 have D:x=wrtS m ns ⟨[],0,h.length,id⟩:=by
  unfold Aa at G;rw [if_pos (by rw [O];exact List.prefix_append ..)] at G;injection G with G;rw [<-G,h1,endJ_end];rw [h2,O,FG];exact Fy _
 have o:x.steps=e:=by rw [D];exact he.st
 have Q:x.ch=(AN m e).ch:=by rw [D];exact he.ch
 have I:e+n<=1000000:=by omega
 obtain ⟨c1,c2,e',c3,c4,c5⟩:=torn_run (h:=h) (id:=id) (lim:=e+n) (f:=n) I V he (by omega) (by omega)
 have hL:loadS m x.ch x.steps=AN m e:=by
  have:=(atS_inv m e).loadS;rw [he.own] at this;rw [Q,o,this]
 have J:(min (20000 - x.steps) (n:Int))=((e+n:Nat):Int) - e:=by rw [o];omega
 have E:(min (20000 - x.steps) (n:Int)).toNat=n:=by rw [o];omega
 obtain ⟨d1,d2⟩:=runJ_wrt (m:=m) (b:=e) (L:=e+n) (by omega) n e x (by rw [D];exact he) (by omega) (by omega);refine ⟨wrt m (runN m (e+n) n e) x,?_,ns++runN m (e+n) n e,e',c2,?_,c3,?_,?_⟩
 ·unfold Da;rw [G];simp only;rw [if_neg (by omega),E,J,hL,o,d1,d2,hf,FJ]
  have ea:AN m (e+n)=AN m (K+n):=by
   unfold AN at M⊢;rw [Dx,Dx,M]
  rw [ea]
 ·rw [<-c1,<-O,D]
 ·rw [c4];unfold AN at M⊢;rw [Dx,Dx,M]
 ·have a1:=atS_steps m (e+n);have a2:(AN m e').steps=e':=c3.own;rw [c4] at a2;omega
theorem jat_read (g:zZ m) (o:JAt m h id s K):∃x,Aa m h id s=some x/\x.fin=s.length/\x.ch=(AN m K).ch/\x.steps=(AN m K).steps:=by
 obtain ⟨x,e,h1,h2,h3,h4,D⟩:=jat_open g o;refine ⟨x,h1,h2,by rw [h3.ch,h4],?_⟩;rw [h3.st,<-h4];exact h3.own.symm
theorem lastJ_mono {m:MZ} {s:List UInt8}:∀(f:Nat) (x:JS),x.fin<=(Dy m s f x).fin/\x.steps<=(Dy m s f x).steps
 | 0,x=>⟨Fy _,Int.le_refl _⟩
 | f+1,x=>by
  unfold Dy
  cases o:Aj m s x with
  | none=>exact ⟨Fy _,Int.le_refl _⟩
  | some y=>
   obtain ⟨h1,-⟩:=Cu o
   have h2:x.steps<y.steps:=by
    obtain ⟨ch,st,h2,-,-,-,-,rfl⟩:=EF o;exact h2
   obtain ⟨h3,h4⟩:=lastJ_mono (m:=m) (s:=s) f y;show x.fin<=(Dy m s f y).fin/\x.steps<=(Dy m s f y).steps;exact ⟨by omega,by omega⟩
theorem endJ_mono (x:JS):x.fin<=(endJ m s x).fin/\x.steps<=(endJ m s x).steps:=lastJ_mono _ x
theorem recB_two (sg:List UInt8) (ch:List Int) (steps:Int):2<=(Ay sg ch steps).length:=by
 unfold Ay wT;simp;omega
noncomputable def allJ (m:MZ) (s:List UInt8):Nat->JS->List JS
 | 0,x=>[x]
 | f+1,x=>match Aj m s x with
  | none=>[x]
  | some y=>x :: allJ m s f y
theorem allJ_zero (m:MZ) (s:List UInt8) (f:Nat) (x:JS):(allJ m s f x)[0]?=some x:=by
 cases f with
 | zero=>rfl
 | succ f=>
  unfold allJ
  cases Aj m s x <;> rfl
theorem allJ_pos (m:MZ) (s:List UInt8) (f:Nat) (x:JS):0<(allJ m s f x).length:=by
 have:=(za6.1 (allJ_zero m s f x)).1;exact this
theorem allJ_last (m:MZ) (s:List UInt8):∀(f:Nat) (x:JS),(allJ m s f x)[(allJ m s f x).length - 1]?=some (Dy m s f x)
 | 0,x=>rfl
 | f+1,x=>by
  unfold allJ Dy
  cases o:Aj m s x with
  | none=>rfl
  | some y=>
   have h:=allJ_last m s f y;have hp:=allJ_pos m s f y;show (x :: allJ m s f y)[(allJ m s f y).length+1 - 1]?=_;rw [Nat.add_sub_cancel,show (allJ m s f y).length=(allJ m s f y).length - 1+1 by omega,List.getElem?_cons_succ];exact h
theorem allJ_next {m:MZ} {s:List UInt8}:∀(f:Nat) (x:JS) (k:Nat) (y:JS),s.length<=x.fin+f->(allJ m s f x)[k]?=some y->
  (Aj m s y=none->k+1=(allJ m s f x).length)/\∀z,Aj m s y=some z->(allJ m s f x)[k+1]?=some z
 | 0,x,k,y,G,h=>by
  have E:k=0/\y=x:=by
   cases k with
   | zero=>exact ⟨rfl,by simpa [allJ] using h.symm⟩
   | succ k=>simp [allJ] at h
  obtain ⟨rfl,rfl⟩:=E;refine ⟨fun _=>rfl,fun z o=>?_⟩;have:=Cu o;omega
 | f+1,x,k,y,G,h=>by
  unfold allJ at h⊢
  cases D:Aj m s x with
  | none=>
   rw [D] at h
   have E:k=0/\y=x:=by
    cases k with
    | zero=>exact ⟨rfl,by simpa using h.symm⟩
    | succ k=>simp at h
   obtain ⟨rfl,rfl⟩:=E;refine ⟨fun _=>rfl,fun z o=>?_⟩;rw [D] at o;cases o
  | some x'=>
   rw [D] at h;simp only at h⊢;have hf:=Cu D
   cases k with
   | zero=>
    have:x=y:=by simpa using h
    subst this;refine ⟨fun h0=>?_,fun z o=>?_⟩
    ·rw [D] at h0;cases h0
    ·rw [D] at o;injection o with o;subst o;rw [List.getElem?_cons_succ];exact allJ_zero m s f x'
   | succ k=>
    rw [List.getElem?_cons_succ] at h;obtain ⟨h1,h2⟩:=allJ_next f x' k y (by omega) h;refine ⟨fun h0=>by rw [zaG,<-h1 h0],fun z o=>?_⟩;rw [List.getElem?_cons_succ];exact h2 z o
theorem wIs_ge:∀(l:List Int),l.length<=(l.flatMap wI).length
 | []=>FN _
 | n :: l=>by
  have:=wIs_ge l;simp only [List.flatMap_cons,FG,zaG];have h:1<=(wI n).length:=by unfold wI;simp
  omega
theorem recB_ge (sg:List UInt8) (ch:List Int) (st:Int):ch.length<=(Ay sg ch st).length:=by
 have:=wIs_ge ch;unfold Ay wT BP wL;simp only [FG,zaG];omega
structure JSb (s:List UInt8) (x:JS):Prop where
 fin:x.fin<=s.length
 st:Cz x.steps
 sg:x.sg.length=8
 ch:∀n∈x.ch,Cz n
 cl:x.ch.length<=s.length
theorem nextJ_b (h:Aj m s x=some y):JSb s y/\loadE m y.ch y.steps=0/\x.steps<y.steps:=by
 have hf:=(Cu h).2;obtain ⟨ch,st,h1,h2,h3,h4,o,rfl⟩:=EF h;have D:=h3.length_le;have E:=recB_ge x.sg ch st;rw [zaC] at D;exact ⟨⟨hf,o,By _ _ _,h4,by show ch.length<=_;omega⟩,h2,h1⟩
theorem allJ_b {m:MZ} {s:List UInt8}:∀(f:Nat) (x:JS) (k:Nat) (y:JS),JSb s x->loadE m x.ch x.steps=0->(allJ m s f x)[k]?=some y->JSb s y/\loadE m y.ch y.steps=0
 | 0,x,k,y,o,D,h=>by
  cases k with
  | zero=>
   have:x=y:=by simpa [allJ] using h
   exact this ▸ ⟨o,D⟩
  | succ k=>simp [allJ] at h
 | f+1,x,k,y,o,D,h=>by
  unfold allJ at h
  cases E:Aj m s x with
  | none=>
   rw [E] at h
   cases k with
   | zero=>
    have:x=y:=by simpa using h
    exact this ▸ ⟨o,D⟩
   | succ k=>simp at h
  | some x'=>
   rw [E] at h
   cases k with
   | zero=>
    have:x=y:=by simpa using h
    exact this ▸ ⟨o,D⟩
   | succ k=>
    obtain ⟨h1,h2,-⟩:=nextJ_b E;exact allJ_b f x' k y h1 h2 (by simpa using h)
def GivesJ {α:Type} (n:Nat) (P:Program) (g:Nat) (lb:Array Value) (encs:α->Array Value) (G:Nat->Nat->Nat->α->World->Prop) (N:Nat) (Z:Nat->Prop) (w:World):Prop:=
 ∀(l:Nat) (J:Nat->Nat->World->Prop) (W:World),za w W->w.heap.size<=l->l<W.heap.size->(∀gx k A B,W.heap.size<=gx->J gx k A->zu (fun b=>b=gx) A B->J gx k B)->
  (∀gx k x W1,W.heap.size<=gx->k<N->J gx k W1->G W.heap.size gx k x W1->YieldAt Fence.wide (n - 1) P l (encs x) W1 fun e W'=>e=.returned (.bool true)/\J gx (k+1) W'/\zu (fun b=>b=l\/Z b) W1 W')->
  (∀gx,J gx 0 W)->
  CallsIn Fence.wide n P g (#[.func (.yield l) #[] #[]]++lb) W fun e W'=>(∃v,e=.returned v)/\∃gx,W.heap.size<=gx/\J gx N W'
def postJ (k:Nat) (I:Nat->World->Prop) (Z:Nat->Prop) (W:World):Exit->Act->World->Prop
 | .normal,_,W'=>zu Z W W'/\I (k+1) W'
 | _,_,_=>False
theorem chg_putObj (w:World) (o:Obj) (D:X l):zu X w (w.putObj l o):=
 (zu.refl X w).grown (grownBy_putObj' w l o) (fun k e _=>by injection e with e;exact e ▸ D)
theorem wpIn_loopJ {P:Program} {α:Type} {g:Operand} {ps:Array Tmp} {assign body:Code} {Q:Exit->Act->World->Prop} {a:Act}
  {gf:Nat} {lb:Array Value} (hg:a.eval g=.func (.func gf) #[] lb) (eg:∀args w,(callFunc gf args).run P w=.ok (.enter gf args) w)
  {encs:α->Array Value} {G:Nat->Nat->Nat->α->World->Prop} {N:Nat} {w0:World} (hZ:∀b,Z b->b<w.heap.size) (b2:GivesJ (n - 1) P gf lb encs G N Z w0) (b0:za w0 w) (c6:∀x,(encs x).size=ps.size)
  (I:Nat->Nat->World->Prop) (hI:∀gx k A B,w.heap.size+2<=gx->I gx k A->zu (fun b=>b=gx\/(w.heap.size<=b/\b<=w.heap.size+1)) A B->I gx k B)
  (Ax:Nat->Nat->α->Act->World->Prop) (hAx:∀gx k x a A l,Ax gx k x a A->w.heap.size<l->l<A.heap.size->(∃r,A.heap[l]?=some (.loop r))->∀o,Ax gx k x a (A.putObj l o)) (hI0:∀gx W,za w W->I gx 0 W)
  (hassign:∀(l gx k:Nat) (x:α) (W:World) (K:Act->World->Prop),w.heap.size+2<=gx->k<N->I gx k W->G (w.heap.size+2) gx k x W->w.heap.size<W.heap.size->(∀a' W',za W W'->Ax gx k x a' W'->K a' W')->
   assign.wpIn (Fence.wide.inRound l) (n - 1 - 1) P (Exit.then K (fun _ _ _=>False)) { tmps:=(ps.zip (encs x)).foldl (fun t (p,v)=>t.setIfInBounds p v) a.tmps,defers:=[] } W)
  (hbody:∀(l gx k:Nat) (x:α) (a':Act) (W:World),w.heap.size+2<=gx->k<N->I gx k W->Ax gx k x a' W->w.heap.size<W.heap.size->(∃r,W.heap[w.heap.size+1]?=some (.loop r))->body.wpIn (Fence.wide.inRound l) (n - 1 - 1) P (postJ k (I gx) Z W) a' W)
  (hdone:∀(D gx:Nat) (W:World),w.heap.size<=D->D<=w.heap.size->w.heap.size+2<=gx->I gx N W->W.heap[D]?=some (.deferred (some []))->Q .normal { a with defers:={ target:=.collected D,args:=#[] } :: a.defers } W):
  (Code.rangeFunc g ps assign body).wpIn Fence.wide n P Q a w:=by
 refine wpIn_rangeFunc ?_;intro fn hfn;obtain ⟨rec,J⟩:∃rec:LoopState->Option Code->Loop,rec=fun st pe=>{ state:=st,pending:=pe,fn,tmps:=a.tmps,params:=ps,assign,body,defers:=w.heap.size }:=⟨_,rfl⟩
 obtain ⟨W1,U⟩:∃W1,(w.alloc (.deferred (some []))).alloc (.loop (rec .ready none))=W1:=⟨_,rfl⟩;have b3:W1.heap.size=w.heap.size+2:=by rw [<-U];simp
 have b7:W1.heap[w.heap.size+1]?=some (.loop (rec .ready none)):=by
  rw [<-U];have:=World.alloc_heap_new (w.alloc (.deferred (some []))) (.loop (rec .ready none))
  rwa [World.size_alloc] at this
 have b4:W1.heap[w.heap.size]?=some (.deferred (some [])):=by
  rw [<-U];exact (zad _ _ _ (by simp)).trans (World.alloc_heap_new w _)
 have a9:za w W1:=by rw [<-U];exact ((za.refl w).alloc _).alloc _
 refine ⟨w.heap.size+1,[{ target:=.collected w.heap.size,args:=#[] }],W1,{ target:=.fn (.func gf) lb,args:=#[.func (.yield (w.heap.size+1)) #[] #[]] },W1,gf,
  #[.func (.yield (w.heap.size+1)) #[] #[]]++lb,W1,?_,?_,fun _ _=>trivial,?_,fun h=>absurd h (by simp [Fence.wide]),?_⟩
 ·rw [<-U,J];exact run_enterLoop_outer _ _ _ _ _
 ·simp only [resolve,hg];simp [go_sem]
 ·simp [invoke,go_sem,eg]
 ·refine (b2 (w.heap.size+1)
   (fun gx k W=>I gx k W/\W.heap[w.heap.size+1]?=some (.loop (rec .ready none))/\W.heap[w.heap.size]?=some (.deferred (some []))/\w.heap.size+1<W.heap.size)
   W1 (b0.trans a9) (by have:=b0.size;omega) (by omega) ?_ ?_ (fun gx=>⟨hI0 gx _ a9,b7,b4,by omega⟩)).mono ?_
  ·rintro gx k A B E ⟨h1,h2,h3,h4⟩ V;exact ⟨hI _ _ _ _ (by omega) h1 (V.wide fun b hb=>.inl hb),(V.block _ h4 (by omega)).trans h2,(V.block _ (by omega) (by omega)).trans h3,zam h4 V.size⟩
  ·-- one round
   rintro gx k x W E b1 ⟨hi,hl,hD,M⟩ hG;rw [b3] at hG E;have hy:=run_yield (P:=P) (args:=encs x) hl (by rw [J];exact c6 x);rw [J] at hy;refine ⟨fn,_,assign,body,hy,roundIn_of_wpIn hfn (hassign _ gx k x W _ E b1 hi hG (Nat.lt_trans (Nat.lt_succ_self _) M) (fun a' Wa O b8=>?_))⟩;have hl:=(O.block _ M).trans hl;have hD:=(O.block _ (by omega)).trans hD;have hi:=hI _ _ _ _ E hi (zu.of_ext O);have M:w.heap.size+1<Wa.heap.size:=zam M O.size;refine ⟨_,run_beginRound hl (by rw [J]),?_⟩;have a6:(Wa.putObj (w.heap.size+1) (.loop { rec .ready none with state:=.busy })).heap[w.heap.size+1]?=some (.loop { rec .ready none with state:=.busy }):=World.putObj_heap_same M;have b5:(Wa.putObj (w.heap.size+1) (.loop { rec .ready none with state:=.busy })).heap[w.heap.size]?=some (.deferred (some [])):=(World.putObj_heap_other (by omega)).trans hD;have a1:w.heap.size+1<(Wa.putObj (w.heap.size+1) (.loop { rec .ready none with state:=.busy })).heap.size:=(za7.1 a6).1;have b9:Wa.grownBy (Wa.putObj (w.heap.size+1) (.loop { rec .ready none with state:=.busy })) (some (w.heap.size+1)):=grownBy_putObj' _ _ _;refine wpIn_mono (hbody _ gx k x a' _ E b1 (hI _ _ _ _ E hi (chg_putObj _ _ (by omega))) (hAx _ _ _ _ _ _ b8 (by omega) M ⟨_,hl⟩ _) (Nat.lt_trans (Nat.lt_succ_self _) a1) ⟨_,a6⟩) ?_;generalize Wa.putObj (w.heap.size+1) (.loop { rec .ready none with state:=.busy })=W2 at*
   have fin:∀(jump:Option Code) (W3:World),W3.heap[w.heap.size+1]?=some (.loop { rec .ready none with state:=.busy })->
     (Instr.endRound (w.heap.size+1) jump).run P W3=.ok (.bool jump.isNone) (W3.putObj (w.heap.size+1) (.loop (rec (if jump.isNone then .ready else .done) jump))):=fun jump W3 a0=>by
    have:=run_endRound (P:=P) jump a0;rw [J] at this⊢;exact this
   rintro e a3 W3 hp
   cases e with
   | normal=>
    obtain ⟨a4,c0⟩:=hp;have a0:=(a4.block _ a1 (fun h=>by have:=hZ _ h;omega)).trans a6;have a2:=(za7.1 a0).1;have b6:=(a4.block _ (by omega) (fun h=>by have:=hZ _ h;omega)).trans b5;refine ⟨_,_,fin none W3 a0,rfl,⟨hI _ _ _ _ E c0 (chg_putObj _ _ (by omega)),World.putObj_heap_same a2,(World.putObj_heap_other (by omega)).trans b6,?_⟩,?_⟩
    ·exact (za7.1 (World.putObj_heap_same a2)).1
    ·exact (((zu.of_ext (X:=fun b=>b=w.heap.size+1\/Z b) O).grown b9 (fun k e _=>by injection e with e;exact .inl e.symm)).trans a4 (fun k _ h=>.inr h)).grown (grownBy_putObj' _ _ _) (fun k e _=>by injection e with e;exact .inl e.symm)
   | ret=>exact hp.elim
   | exit id=>exact hp.elim
   | goto t=>exact hp.elim
   | panic ch=>exact hp.elim
   | outgrown=>exact hp.elim
  ·-- behind the iterator
   rintro e W2 ⟨⟨v,rfl⟩,gx,E,hi,hl,hD,M⟩;rw [b3] at E;exact ⟨none,_,by have:=run_endLoop (P:=P) hl (by rw [J];simp);rw [J] at this;exact this,hdone _ gx _ (Fy _) (Fy _) E (hI _ _ _ _ E hi (chg_putObj _ _ (by omega))) ((World.putObj_heap_other (by omega)).trans hD)⟩
end
section
open Go.RowKit Go.Shelf
attribute [local go_sem ↓] Go.wp_at_zero Go.wp_at_succ
attribute [local go_sem] Oper.semAt_some
def jsc (vc:Value) (x:JS):Array Value:=#[vc,.int .i64 x.steps,.int .i64 x.fin,.string ⟨x.sg.toArray⟩]
def j0 (id:List UInt8):JS:=⟨[],0,(zx id).length,id⟩
def Fr (m:MZ) (Af:Option Addr) (cf:Nat) (Au:Option Addr) (cu:Nat) (At:Option Addr) (ct:Nat):Array Value:=#[.int .i64 m.w,.int .i64 m.h,.int .i64 m.l,.slice Af m.free.length cf,.slice Au m.up.length cu,.slice At m.tasks.length ct]
structure JCtx (W:World) (gi gs gm:Nat) (id s:List UInt8) (mc:Array Value) (m:MZ) (R:Nat->Prop):Prop where
 bi:ze W gi 9 #[.string ⟨id.toArray⟩]
 bs:ze W gs 9 #[.string ⟨s.toArray⟩]
 bm:ze W gm 32 mc
 mz:zL W R (.agg mc) m
 v:zv W
theorem JCtx.ext {W W':World} {gi gs gm:Nat} {id s:List UInt8} {mc:Array Value} {m:MZ} {R:Nat->Prop} (h:JCtx W gi gs gm id s mc m R) (o:za W W'):JCtx W' gi gs gm id s mc m R:=
 ⟨h.bi.ext o,h.bs.ext o,h.bm.ext o,h.mz.below o,h.v.ext o⟩
theorem JCtx.chg {W':World} (h:JCtx W gi gs gm id s mc m R) (o:zu X W W') (h1:¬ X gi) (h2:¬ X gs) (h3:¬ X gm) (h4:∀b,R b->¬ X b) (D:∀g,X g->¬ isVar g):JCtx W' gi gs gm id s mc m R:=
 ⟨o.blk h.bi h1,o.blk h.bs h2,o.blk h.bm h3,h.mz.keep (o.same h4),EP h.v o D⟩
structure JOut (w W:World) (l gi gs gm:Nat) (R Z:Nat->Prop):Prop where
 l1:w.heap.size<=l
 l2:l<W.heap.size
 wW:w.heap.size<=W.heap.size
 b:gi<w.heap.size/\gs<w.heap.size/\gm<w.heap.size
 z:¬ Z gi/\¬ Z gs/\¬ Z gm
 rb:∀b,R b->b<w.heap.size/\¬ Z b
 zb:∀b,Z b->b<w.heap.size/\¬ isVar b
 nv:∀b,w.heap.size<=b->¬ isVar b
structure JIt (W wr:World) (gi gs gm gx:Nat) (id s:List UInt8) (mc:Array Value) (m:MZ) (R:Nat->Prop) (y:JS) (vc:Value):Prop where
 ctx:JCtx wr gi gs gm id s mc m R
 x:ze wr gx 126 (jsc vc y)
 ch:zg wr (fun b=>W.heap.size<=b/\b≠gx) vc y.ch
 sz:W.heap.size<=wr.heap.size
theorem JIt.yield {wr w':World} {gx:Nat} {vc:Value} (h:JIt W wr gi gs gm gx id s mc m R y vc) (o:JOut w W l gi gs gm R Z) (I:W.heap.size<=gx) (D:zu (fun b=>b=l\/Z b) wr w'):JIt W w' gi gs gm gx id s mc m R y vc:=by
 have h1:=o.l1;have h2:=o.l2;have h3:=o.wW;have h4:=o.b;have E:=o.z;refine ⟨h.ctx.chg D ?_ ?_ ?_ ?_ ?_,D.blk h.x ?_,h.ch.keep (D.same ?_),FA h.sz D.size⟩
 ·rintro (e | e);omega;exact E.1 e
 ·rintro (e | e);omega;exact E.2.1 e
 ·rintro (e | e);omega;exact E.2.2 e
 ·rintro b G (e | e)
  ·have:=(o.rb b G).1;omega
  ·exact (o.rb b G).2 e
 ·rintro g (e | e)
  ·exact o.nv g (by omega)
  ·exact (o.zb g e).2
 ·rintro (e | e)
  ·omega
  ·have:=(o.zb _ e).1;omega
 ·rintro b ⟨G,-⟩ (e | e)
  ·omega
  ·have:=(o.zb _ e).1;omega
theorem rec_seal {T:List UInt8} (h:RecOk ch st) (hp:Ay sg ch st <+: T):(Cd (Cd (T,false)).2).1=zY sg ch st:=by
 obtain ⟨rest,rfl⟩:=hp;obtain ⟨h1,h2,-,-⟩:=rec_read (sg:=sg) (rest:=rest) h;rw [h1,h2]
theorem elsF_cl:∀(f:Nat) (s:Rd) (l:List Int),(Bk f s l).1.length<=l.length+f
 | 0,s,l=>by simp [Bk]
 | f+1,s,l=>by
  unfold Bk
  split
  ·simp only;omega
  ·have:=elsF_cl f (Br s).2 (l++[(Br s).1]);simp only [FG,zak] at this;omega
theorem intsF_cl (s:Rd):(AJ s).1.length<=s.1.length:=by
 unfold AJ
 split
 ·simp
 ·have h:=elsF_cl s.1.tail.length (s.1.tail,false) [];simp only [zaH,List.length_tail] at h;unfold intsE
  split
  ·simp
  ·simp only [List.length_tail];omega
theorem zR {g:Nat} {a b c d:Value} (h:ze W g 126 #[a,b,c,d]):W.cell? ⟨g,0,none⟩=some a/\W.cell? ⟨g,1,none⟩=some b/\W.cell? ⟨g,2,none⟩=some c/\W.cell? ⟨g,3,none⟩=some d:=
 ⟨h.cell (k:=0) rfl,h.cell (k:=1) rfl,h.cell (k:=2) rfl,h.cell (k:=3) rfl⟩
theorem jStates_gives {cf cu ct:Nat} {Af Au At:Option Addr} (w:World) (hC:JCtx w gi gs gm id s (Fr m Af cf Au cu At ct) m R) (hl:Lens m) (hc:AV m=0) (hid:id.length=8) (hs:s.length<=40000000) (hh:(zx id).length<=s.length)
  (q9:∀b,R b->b<w.heap.size/\¬ Z b) (hZ:¬ Z gi/\¬ Z gs/\¬ Z gm) (r6:∀b,Z b->b<w.heap.size/\¬ isVar b) (n:Nat):
  GivesJ n Tryz.prog 197 #[.pointer (some ⟨gi,0,none⟩),.pointer (some ⟨gs,0,none⟩),.pointer (some ⟨gm,0,none⟩)] (fun x:Value=>#[x])
   (fun B gx k x W=>∃y vc,(allJ m s s.length (j0 id))[k]?=some y/\x=.agg (jsc vc y)/\zg W (fun b=>B<=b/\b≠gx) vc y.ch) (allJ m s s.length (j0 id)).length Z w:=by
 intro l J W hW s9 s3 hJ hY h0;refine callsIn_wide.2 ?_;obtain ⟨L,hL⟩:=zaI (allJ m s s.length (j0 id));have q7:JSb s (j0 id):=⟨hh,(show Cz 0 from ⟨by decide,by decide⟩),hid,(fun n hn=>by cases hn),FN _⟩
 have q8:loadE m (j0 id).ch (j0 id).steps=0:=by
  have h:=(rinv_load (m:=m)).loadE hc;exact h
 have m7:Hid (∀(k:Nat) (y:JS),L[k]?=some y->JSb s y/\(Aj m s y=none->k+1=L.length)/\∀z,Aj m s y=some z->L[k+1]?=some z):=fun k y hy=>by
  rw [hL] at hy⊢;exact ⟨(allJ_b _ _ _ _ q7 q8 hy).1,allJ_next _ _ _ _ (by omega) hy⟩
 have i0:Hid (L[0]?=some (j0 id)):=by (show _=_);rw [hL];exact allJ_zero _ _ _ _
 rw [<-hL] at hY⊢;have HO:Hid (JOut w W l gi gs gm R Z):=⟨s9,s3,hW.size,⟨zd hC.bi,zd hC.bs,zd hC.bm⟩,hZ,q9,r6,fun b hb=>var_new hC.v hb⟩;have d8:=zh (hC.ext hW);have HJ:=zh hJ;have HY:=zh hY;have h9:=zh h0;have HL:=zh hl;have o3:=zh hs;have c0:=d8.out.bi.cell (k:=0) rfl;have q0:=za.rule c0;have g8:Hid (∀W',za W W'->Calls Tryz.prog 75 #[.string ⟨id.toArray⟩] W' fun e w'=>e=.returned (.string ⟨(zx id).toArray⟩)/\za W' w'):=fun W' h=>Eh W' (d8.out.v.ext h) (by omega)
 have hx:za W W:=za.refl W;clear hL q7 q8 hJ hY h0 hC hW s9 s3 q9 hZ r6 hl hc hid hs hh c0
 go_enter Tryz.func197,Tryz.ntmps197
 go_upto_region 0 with fail;go_cut [5] (fun v5 wc=>∃gx,v5=.pointer (some ⟨gx,0,none⟩)/\W.heap.size<=gx/\Hid (za W wc)/\Hid (ze wc gx 126 (jsc (.slice none 0 0) (j0 id))))
 case first=>
  clear m7 i0 HJ HY h9;refine Cj fun Q' hP e4=>?_;refine zB (S:=(fun W'=>za W W')) zG (hx.drew) fun zH=>?_;generalize W.drew=wd at zH⊢;refine AQ 0 hP zH ?_;simp only [zc,Fv];refine AQ 3 hP zH ?_;simp only [zc,Fv];refine ES (rs:=[1,5]) (by kernel_rfl) (by simp) ?_;refine BE.cons rfl (fun K E=>?_) ?_
  ·go_simp;go_at_call 75;refine (g8.out _ (zH)).mono ?_;rintro e w1 ⟨rfl,y4⟩;go_simp;refine zaJ E (zH.trans y4) fun zH=>?_;clear E K;try simp only [zc,Fv]
   refine AQ 2 hP zH ?_;simp only [zc,Fv];refine AQ 4 hP zH ?_;simp only [zc,Fv];refine EM 5 fun K E=>?_;go_simp;have M:=ze.new w1 #[.slice none 0 0,.int .i64 0,.int .i64 0,.string ⟨#[]⟩] 126 (g:=w1.heap.size) rfl;have hA2:za w1 (w1.alloc (.cells #[.slice none 0 0,.int .i64 0,.int .i64 0,.string ⟨#[]⟩] 126)):=(za.refl w1).alloc _;have b0:Hid (W.heap.size<=w1.heap.size):=zH.size;generalize w1.alloc _=w2 at M hA2⊢;generalize w1.heap.size=gx at M b0⊢;go_simp;refine zaJ E (zH.trans hA2) fun zH=>?_;clear E K;try simp only [zc,Fv]
   have z8:=M;refine rlZ 6 fun K E=>?_;go_simp;obtain ⟨k0,k1,k2,k3⟩:=zR M;have fz:∀k,w2.frozen? ⟨gx,k,none⟩=false:=fun k=>M.frozen k
   go_simp;have o:Hid (za W ((((w2.setCell ⟨gx,0,none⟩ (.slice none 0 0)).setCell ⟨gx,1,none⟩ (.int .i64 0)).setCell ⟨gx,2,none⟩ (.int .i64 (zx id).length)).setCell ⟨gx,3,none⟩ (.string ⟨id.toArray⟩))):=(((Below.setCell (zH) (p:=⟨gx,0,none⟩) b0.out _).setCell (p:=⟨gx,1,none⟩) b0.out _).setCell (p:=⟨gx,2,none⟩) b0.out _).setCell (p:=⟨gx,3,none⟩) b0.out _;have g6:Hid (ze ((((w2.setCell ⟨gx,0,none⟩ (.slice none 0 0)).setCell ⟨gx,1,none⟩ (.int .i64 0)).setCell ⟨gx,2,none⟩ (.int .i64 (zx id).length)).setCell ⟨gx,3,none⟩ (.string ⟨id.toArray⟩)) gx 126 (jsc (.slice none 0 0) (j0 id))):=(((M.set (k:=0) _).set (k:=1) _).set (k:=2) _).set (k:=3) _;have g7:=b0;refine E.out _ _ ?_;clear E K;refine zP (by kernel_rfl) ?_ _;subst e4;go_wp2;go_meet;exact ⟨gx,rfl,g7.out,o,g6⟩
  refine BE.cons rfl (fun K E=>?_) ?_
  ·go_simp;have j1:=ze.new wd #[.slice none 0 0,.int .i64 0,.int .i64 0,.string ⟨#[]⟩] 126 (g:=wd.heap.size) rfl;have hA1:za wd (wd.alloc (.cells #[.slice none 0 0,.int .i64 0,.int .i64 0,.string ⟨#[]⟩] 126)):=(za.refl wd).alloc _;have a9:Hid (W.heap.size<=wd.heap.size):=zH.size;generalize wd.alloc _=w1 at j1 hA1⊢;generalize wd.heap.size=gx at j1 a9⊢;go_simp;refine zaJ E (zH.trans hA1) fun zH=>?_;clear E K;try simp only [zc,Fv]
   refine EM 1 fun K E=>?_;go_simp;go_at_call 75;refine (g8.out _ (zH)).mono ?_;rintro e w2 ⟨rfl,q6⟩;have M:=j1.ext q6;go_simp;refine zaJ E (zH.trans q6) fun zH=>?_;clear E K;try simp only [zc,Fv]
   refine AQ 2 hP zH ?_;simp only [zc,Fv];refine AQ 4 hP zH ?_;simp only [zc,Fv];refine rlZ 6 fun K E=>?_;go_simp;obtain ⟨k0,k1,k2,k3⟩:=zR M;have fz:∀k,w2.frozen? ⟨gx,k,none⟩=false:=fun k=>M.frozen k
   go_simp;have o:Hid (za W ((((w2.setCell ⟨gx,0,none⟩ (.slice none 0 0)).setCell ⟨gx,1,none⟩ (.int .i64 0)).setCell ⟨gx,2,none⟩ (.int .i64 (zx id).length)).setCell ⟨gx,3,none⟩ (.string ⟨id.toArray⟩))):=(((Below.setCell (zH) (p:=⟨gx,0,none⟩) a9.out _).setCell (p:=⟨gx,1,none⟩) a9.out _).setCell (p:=⟨gx,2,none⟩) a9.out _).setCell (p:=⟨gx,3,none⟩) a9.out _;have g6:Hid (ze ((((w2.setCell ⟨gx,0,none⟩ (.slice none 0 0)).setCell ⟨gx,1,none⟩ (.int .i64 0)).setCell ⟨gx,2,none⟩ (.int .i64 (zx id).length)).setCell ⟨gx,3,none⟩ (.string ⟨id.toArray⟩)) gx 126 (jsc (.slice none 0 0) (j0 id))):=(((M.set (k:=0) _).set (k:=1) _).set (k:=2) _).set (k:=3) _;have g7:=a9;refine E.out _ _ ?_;clear E K;refine zP (by kernel_rfl) ?_ _;subst e4;go_wp2;go_meet;exact ⟨gx,rfl,g7.out,o,g6⟩
  exact BE.nil
 case rest=>
  obtain ⟨gx,rfl,k9,e0,b9⟩:=hcut;obtain ⟨wa,rfl⟩:∃wa:World,wa=wc:=⟨_,rfl⟩;have a2:Hid (JIt W wa gi gs gm gx id s (Fr m Af cf Au cu At ct) m R (j0 id) (.slice none 0 0)):=⟨d8.out.ext e0.out,b9.out,zg.nil _ _,e0.out.size⟩;have m4:Hid (J gx 0 wa):=HJ.out gx 0 W wa k9 (h9.out gx) (zu.of_ext e0.out);have b4:=zh k9;clear e0 b9 h9 hx q0 g8 d8 k9
  go_wp2_with fail
  go_loopg [] (L.length) (fun gk wr=>∃(k:Nat) (y:JS) (vc:Value),L[k]?=some y/\gk+k=L.length/\Hid (JIt W wr gi gs gm gx id s (Fr m Af cf Au cu At ct) m R y vc)/\Hid (J gx k wr))
  case atStart=>exact ⟨0,_,_,i0.out,rfl,a2,m4⟩
  clear a2 m4 i0
  case round=>
   obtain ⟨k,y,vc,d6,B1,a2,m5⟩:=hrel;obtain ⟨wk,rfl⟩:∃wk:World,wk=wr:=⟨_,rfl⟩;have y8:k<L.length:=(za6.1 d6).1;obtain ⟨t3,t5,t7⟩:=m7.out k y d6;have t6:=HY.out gx k (.agg (jsc vc y)) wk b4.out y8 m5.out ⟨y,vc,d6,rfl,a2.out.ch⟩;obtain ⟨fn,tmps,assign,body,t4,hR⟩:=yield_any t6;have HR:=zh hR;obtain ⟨k0,k1,k2,k3⟩:=zR a2.out.x;have A6:=zh d6;have i9:=zh t3;have y2:=zh t5;have y3:=zh t7;clear t6 hR d6 t3 t5 t7;go_upto_region 1 with fail;refine (Go.wpIn_wide (n:=6)).1 ?_;simp only [jsc] at t4
   gi_wp2_with fail
   refine (HR.out _).mono ?_;rintro e w2 ⟨rfl,r9,r7⟩;have m3:=zh r9;have D:=zh (a2.out.yield HO.out b4.out r7);clear HR t4 r9 r7 a2 m5 k0 k1 k2 k3;obtain ⟨k0,k1,k2,k3⟩:=zR D.out.x;have x0:=za.rule k0;have x1:=za.rule k1;have x2:=za.rule k2;have x3:=za.rule k3;have s0:=za.rule (D.out.ctx.bs.cell (k:=0) rfl);have m0:Hid (y.fin<=s.length/\s.length<=40000000):=⟨i9.out.fin,o3.out⟩;have f6:y.fin<=s.length:=i9.out.fin;have f7:=o3.out;have e1:ByteArray.extract ⟨s.toArray⟩ y.fin s.length=⟨(s.drop y.fin).toArray⟩:=Eo s y.fin;obtain ⟨T,hT⟩:=zaI (s.drop y.fin);have o7:Hid (T.length<=40000000):=by (show _<=_);rw [hT,zaC];omega
   rw [<-hT] at e1;have HT:=zh hT;have hx:za w2 w2:=za.refl w2;clear k0 k1 k2 k3 hT
   gi_wp2_with fail
   obtain ⟨t1,e9⟩:∃t,t=Cd (T,false):=⟨_,rfl⟩;obtain ⟨t2,f0⟩:∃t,t=Cd t1.2:=⟨_,rfl⟩;obtain ⟨c,d5⟩:=zaI (AJ (t1.1,false));obtain ⟨q,hq⟩:=zaI (Br c.2)
   have V:Hid (Aj m s y=if t2.2.2=true\/q.2.2=true\/q.1<=y.steps then none else if ¬ Ay y.sg c.1 q.1 <+: T then none else if loadE m c.1 q.1≠0 then none else some ⟨c.1,q.1,y.fin+(Ay y.sg c.1 q.1).length,zY y.sg c.1 q.1⟩):=by
    (show _=_);unfold Aj;rw [hq,d5,f0,e9,HT.out]
   have e7:=textF_len (T,false);have l4:=textF_len t1.2;have s2:=intsF_len (t1.1,false);have e8:=(intsF_lv (t1.1,false));have l6:=Do c.2;rw [<-e9] at e7;rw [<-f0] at l4;rw [<-d5] at s2 e8;rw [<-hq] at l6
   have b5:Hid (t1.1.length<=40000000/\t1.2.1.length<=40000000/\t2.1.length<=40000000/\c.2.1.length<=40000000/\c.1.length<=40000000/\Cz q.1/\∀x∈c.1,Cz x):=by
    have h0:=o7.out;have h1:=e7.1;have h2:=e7.2;have h3:=l4.1;have h4:(t1.1,false).1.length=t1.1.length:=rfl;have h5:(T,false).1.length=T.length:=rfl;have h6:=e8.1;have h7:lv (t1.1,false)=t1.1.length+1:=lv_ok rfl;refine ⟨by omega,by omega,by omega,by omega,?_,l6,e8.2⟩;have h8:c.1.length<=(t1.1,false).1.length:=by rw [d5];exact intsF_cl _
    omega
   have o5:=zh e9;have o6:=zh f0;have v7:=zh d5;have HQ:=zh hq;clear e9 f0 d5 hq e7 l4 s2 e8 l6
   go_wp2_with fail
   refine (wNew_calls T w2).mono ?_;rintro e w3 ⟨rfl,j4,j7⟩;obtain ⟨r,hr⟩:=zaI w2.heap.size;rw [<-hr] at j7⊢;have n5:=zh j7;have m8:Hid (r=w2.heap.size):=hr;have p7:Hid (za w2 w3):=j4;have o8:Hid (zv w3):=D.out.ctx.v.ext j4;clear hr j4 j7 hx e1 f6 f7
   go_wp2_with fail
   refine (rText_calls w3 o8.out n5.out (by have:=o7.out;show T.length<=_;omega)).mono ?_;rintro e w4 ⟨rfl,p9,j8⟩;rw [<-o5.out] at j8⊢;have i2:=zh j8;have i4:Hid (za w2 w4):=Below.trans p7.out (p9.below p7.out.size (fun b hb=>by rw [hb,m8.out];exact Fy _));have x8:Hid (zv w4):=D.out.ctx.v.ext i4.out;clear p9 j8
   go_wp2_with fail
   refine (wNew_calls t1.1 w4).mono ?_;rintro e w5 ⟨rfl,j5,j9⟩;obtain ⟨b,hb⟩:∃r,r=w4.heap.size:=⟨_,rfl⟩;rw [<-hb] at j9⊢;have n6:=zh j9;have f1:=zh (i2.out.ext j5);have U:Hid (r<b/\w2.heap.size<=b):=⟨by have:=zd i2.out;omega,by have:=i4.out.size;omega⟩;have i5:Hid (za w2 w5):=i4.out.trans j5;have o9:Hid (zv w5):=D.out.ctx.v.ext i5.out;clear hb j5 j9 n5 i2 o8 x8
   go_wp2_with fail
   refine (rText_calls w5 o9.out f1.out (by have:=b5.out.2.1;omega)).mono ?_;rintro e w6 ⟨rfl,j2,k5⟩;rw [<-o6.out] at k5⊢;have n7:=zh k5;have l8:Hid (RdAt w6 b (t1.1,false)):=j2.blk n6.out (by have:=U.out;omega);have d9:Hid (za w2 w6):=Below.trans i5.out (j2.below i5.out.size (fun b hb=>by rw [hb,m8.out];exact Fy _));have p5:Hid (zv w6):=D.out.ctx.v.ext d9.out;clear j2 k5 f1 n6
   go_wp2_with fail
   refine (rInts_calls w6 p5.out l8.out (by have:=b5.out.1;show t1.1.length<=_;omega)).mono ?_;rintro e w7 ⟨vn,rfl,j3,k6,e3⟩;rw [<-v7.out] at k6 e3;obtain ⟨An,cn,rfl,-⟩:=Bl e3;have n8:Hid (RdAt w7 r t2.2):=j3.blk n7.out (by have:=U.out;omega);have i6:Hid (za w2 w7):=Below.trans d9.out (j3.below d9.out.size (fun g hg=>by have:=U.out;omega));have p6:Hid (zv w7):=D.out.ctx.v.ext i6.out;have f9:=zh k6;have n4:=zh e3;clear j3 k6 e3 n7 l8 o9
   go_wp2_with fail
   refine (rInt_calls w7 p6.out f9.out (by have:=b5.out.2.2.2.1;omega)).mono ?_;rintro e w8 ⟨rfl,e2,k7⟩;rw [<-HQ.out] at k7⊢;have n9:Hid (RdAt w8 r t2.2):=e2.blk n8.out (by have:=U.out;omega);have i7:Hid (za w2 w8):=Below.trans i6.out (e2.below i6.out.size (fun g hg=>by have:=U.out;omega));have x9:Hid (zv w8):=D.out.ctx.v.ext i7.out;have l9:=zh k7;have m2:Hid (zg w8 (fun b=>w6.heap.size<=b/\b<w8.heap.size) (.slice An c.1.length cn) c.1):=AS.bound (AS.of_own (Et n4.out f9.out (by decide) e2)) (by decide);clear e2 k7 n8 f9 n4 p6 p5;go_upto_region 6 with fail;have a8:=ze.new w8 #[.slice An c.1.length cn,.int .i64 q.1,.int .i64 0,.string ⟨t2.1.toArray⟩] 126 (g:=w8.heap.size) rfl;have b6:za w8 (w8.alloc (.cells #[.slice An c.1.length cn,.int .i64 q.1,.int .i64 0,.string ⟨t2.1.toArray⟩] 126)):=(za.refl w8).alloc _;generalize w8.alloc _=w9 at a8 b6⊢;obtain ⟨gn,e6⟩:∃g,g=w8.heap.size:=⟨_,rfl⟩;rw [<-e6] at a8⊢;have m1:Hid (gn=w8.heap.size/\w2.heap.size<=gn):=⟨e6,by have:=i7.out.size;omega⟩;obtain ⟨n0,n1,n2,n3⟩:=zR a8;have z0:=za.rule n0;have z1:=za.rule n1;have z2:=za.rule n2;have z3:=za.rule n3;have a8:=zh a8;have o:Hid (za w2 w9):=i7.out.trans b6;have g9:Hid (zg w9 (fun b=>w6.heap.size<=b/\b<gn) (.slice An c.1.length cn) c.1):=by (show zg _ _ _ _);rw [e6];exact m2.out.below b6
   have a1:=zh (EQ w9 (n9.out.ext b6));have a7:=zh (EQ w9 (l9.out.ext b6));have x0:∀W,za w9 W->W.cell? ⟨gx,0,none⟩=some vc:=fun W h=>x0 W (o.out.trans h)
   have x1:=fun W h=>x1 W (o.out.trans h)
   have x2:=fun W h=>x2 W (o.out.trans h)
   have x3:=fun W h=>x3 W (o.out.trans h)
   have s0:=fun W h=>s0 W (o.out.trans h)
   have hx:za w9 w9:=za.refl w9
   have Q:Hid (∀W',za w2 W'->Aj m s y=none->(∃v:Value,Ending.returned (.tuple #[])=.returned v)/\∃gx,W.heap.size<=gx/\J gx L.length W'):=fun W' h hn=>by
    refine ⟨⟨_,rfl⟩,gx,b4.out,?_⟩;have h1:=y2.out hn;rw [<-h1];exact HJ.out _ _ _ _ b4.out m3.out (zu.of_ext h)
   clear b6 e6 n0 n1 n2 n3 n9 l9 m2 x9;by_cases b1:t2.2.2=true
   ·have O:Hid (Aj m s y=none):=by (show _=_);rw [V.out,if_pos (.inl b1)]
    rw [b1] at a1;clear V b1
    go_wp2_with fail
    refine a1.out.mono ?_;rintro e wb ⟨rfl,rfl⟩
    go_wp2_with fail
    exact za5 (results_none rfl _ _ _) rfl (Q.out _ o.out O.out)
   ·have b1f:t2.2.2=false:=by simpa using b1
    rw [b1f] at a1;by_cases b2:q.2.2=true
    ·have O:Hid (Aj m s y=none):=by (show _=_);rw [V.out,if_pos (.inr (.inl b2))]
     rw [b2] at a7;clear V b1 b1f b2
     go_wp2_with fail
     refine a1.out.mono ?_;rintro e wb ⟨rfl,rfl⟩
     go_wp2_with fail
     refine a7.out.mono ?_;rintro e wb ⟨rfl,rfl⟩
     go_wp2_with fail
     exact za5 (results_none rfl _ _ _) rfl (Q.out _ o.out O.out)
    ·have b2f:q.2.2=false:=by simpa using b2
     rw [b2f] at a7;by_cases b3:q.1<=y.steps
     ·have O:Hid (Aj m s y=none):=by (show _=_);rw [V.out,if_pos (.inr (.inr b3))]
      clear V b1 b1f b2 b2f
      go_wp2_with fail
      refine a1.out.mono ?_;rintro e wb ⟨rfl,rfl⟩
      go_wp2_with fail
      refine a7.out.mono ?_;rintro e wb ⟨rfl,rfl⟩
      go_wp2_with fail
      exact za5 (results_none rfl _ _ _) rfl (Q.out _ o.out O.out)
     ·obtain ⟨rec,a6⟩:∃x,x=Ay y.sg c.1 q.1:=⟨_,rfl⟩
      have a5:Hid (Aj m s y=if ¬ rec <+: T then none else if loadE m c.1 q.1≠0 then none else some ⟨c.1,q.1,y.fin+rec.length,zY y.sg c.1 q.1⟩):=by
       (show _=_)
       rw [V.out,if_neg (fun h=>h.elim b1 fun h=>h.elim b2 b3),a6]
      have s6:y.sg.length<=1000:=by rw [i9.out.sg];omega
      have i3:Hid (∀W,Calls Tryz.prog 82 #[.string ⟨y.sg.toArray⟩] W fun e w'=>e=.returned (.func (.func 153) #[] #[.pointer (some ⟨W.heap.size,0,none⟩)])/\za W w'/\Eg w' W.heap.size y.sg):=fun W=>jSealer_calls y.sg W
      have c7:Hid (∀W g,za w9 W->Eg W g y.sg->Calls Tryz.prog 153 #[.slice An c.1.length cn,.int .i64 q.1,.pointer (some ⟨g,0,none⟩)] W fun e w'=>e=.returned (.string ⟨rec.toArray⟩)/\zu (·=g) W w'/\Eg w' g (zY y.sg c.1 q.1)/\zv w'):=fun W g hW hg=>by
       rw [a6];obtain ⟨-,-,-,-,l1,l2,l3⟩:=b5.out;exact jSeal_calls W (D.out.ctx.v.ext (o.out.trans hW)) hg s6 (g9.out.below hW) l3 l1 l2
      have o0:=zh a6;clear V b1 b1f b2 b2f a6 s6
      go_wp2_with fail
      refine a1.out.mono ?_;rintro e wb ⟨rfl,rfl⟩
      go_wp2_with fail
      refine a7.out.mono ?_;rintro e wb ⟨rfl,rfl⟩;clear a1 a7;go_upto_region 7 with fail;go_cut [10] (fun v10 wc=>v10=.string ⟨rec.toArray⟩/\Hid (za w9 wc))
      case first=>
       refine Cj fun Q' hP e4=>?_;refine zB (S:=(fun W=>za w9 W)) zG (hx.drew) fun zH=>?_;generalize w9.drew=wd at zH⊢;refine AQ 0 hP zH ?_;simp only [zc,Fv];refine AQ 1 hP zH ?_;simp only [zc,Fv];refine AQ 3 hP zH ?_;simp only [zc,Fv];refine AQ 4 hP zH ?_;simp only [zc,Fv];refine AQ 5 hP zH ?_;simp only [zc,Fv];refine AQ 6 hP zH ?_;simp only [zc,Fv];refine EM 2 fun K E=>?_;go_simp;go_at_call 82;refine (i3.out _).mono ?_;rintro e w10 ⟨rfl,q5,f5⟩;have f2:Hid (w9.heap.size<=wd.heap.size):=zH.size;generalize wd.heap.size=g10 at f5 f2⊢;have o1:=zh f5;go_simp;refine zaJ E (zH.trans q5) fun zH=>?_;clear E K;try simp only [zc,Fv]
       refine EM 7 fun K E=>?_;go_simp;go_at_call 153;refine (c7.out _ _ zH o1.out).mono ?_;rintro e w11 ⟨rfl,p8,-,-⟩;have I:Hid (za w9 w11):=Below.trans zH (p8.below zH.size (fun b hb=>by have:=f2.out;omega));go_simp;refine zaJ E (I.out) fun zH=>?_;clear E K;try simp only [zc,Fv]
       refine rlZ 8 fun K E=>?_;go_simp;go_simp;refine E.out _ _ ?_;clear E K;refine zP (by kernel_rfl) ?_ _;subst e4;go_wp2;go_meet;exact ⟨rfl,I⟩
      case rest=>
       obtain ⟨rfl,c8⟩:=hcut;obtain ⟨w10,rfl⟩:∃w10:World,w10=wc:=⟨_,rfl⟩;have hx:za w9 w10:=c8.out;have f6:y.fin<=s.length:=m0.out.1;have f7:s.length<=40000000:=m0.out.2;have e1:ByteArray.extract ⟨s.toArray⟩ y.fin s.length=⟨T.toArray⟩:=by rw [HT.out];exact Eo s y.fin
       have c6:=zh (pre_calls T rec w10);by_cases hp:rec <+: T
       ·have d7:rec.isPrefixOf T=true:=List.isPrefixOf_iff_prefix.2 hp;rw [d7] at c6;have z4:=hp.length_le;have a0:Hid (Aj m s y=if loadE m c.1 q.1≠0 then none else some ⟨c.1,q.1,y.fin+rec.length,zY y.sg c.1 q.1⟩):=by (show _=_);rw [a5.out,if_neg (fun h=>h hp)]
        have s7:t2.1=zY y.sg c.1 q.1:=by
         obtain ⟨l0,-,-,-,l1,l2,l3⟩:=b5.out;have hb:=(body_len l3 l2).1;have hr:RecOk c.1 q.1:=⟨l3,l2,by omega⟩;rw [o0.out] at hp;have:=rec_seal hr hp;rw [<-o5.out,<-o6.out] at this;exact this
        have o4:=zh s7;have y5:T.length+y.fin=s.length:=by rw [HT.out,zaC];omega
        have e5:IntKind.i64.wrap ((y.fin:Int)+(rec.length:Int))=((y.fin+rec.length:Nat):Int):=by rw [zag];omega
        have v9:=zh e5;have G:=D.out.ctx.bm;have g0:=za.rule (G.cell (k:=0) rfl);have g1:=za.rule (G.cell (k:=1) rfl);have g2:=za.rule (G.cell (k:=2) rfl);have g3:=za.rule (G.cell (k:=3) rfl);have g4:=za.rule (G.cell (k:=4) rfl);have g5:=za.rule (G.cell (k:=5) rfl);have g0:=fun W h=>g0 W (o.out.trans h)
        have g1:=fun W h=>g1 W (o.out.trans h)
        have g2:=fun W h=>g2 W (o.out.trans h)
        have g3:=fun W h=>g3 W (o.out.trans h)
        have g4:=fun W h=>g4 W (o.out.trans h)
        have g5:=fun W h=>g5 W (o.out.trans h)
        have i1:Hid (Calls Tryz.prog 80 #[.agg #[.int .i64 m.w,.int .i64 m.h,.int .i64 m.l,.slice Af m.free.length cf,.slice Au m.up.length cu,.slice At m.tasks.length ct],.slice An c.1.length cn,.int .i64 q.1] w10 fun e w'=>∃v,e=.returned (.tuple #[v,.int .i64 (loadE m c.1 q.1)])/\za w10 w'):=by
         refine (load_calls q.1 w10 ((D.out.ctx.mz.bound).below (o.out.trans hx)) HL.out (g9.out.below hx) (by have:=b5.out.2.2.2.2.1;omega) (fun b hb=>?_)).mono ?_
         ·have h1:=(o.out.trans hx).size;omega
         ·rintro e w' ⟨v,rfl,hE,-⟩;exact ⟨v,rfl,hE⟩
        obtain ⟨le,l5⟩:∃e,e=loadE m c.1 q.1:=⟨_,rfl⟩;rw [<-l5] at i1 a0;have A8:=zh l5;clear hp d7 s7 G l5 z4 i3 c7 a5 e5 y5
        go_wp2_with fail
        refine c6.out.mono ?_;rintro e wb ⟨rfl,rfl⟩
        go_wp2_with fail
        refine i1.out.mono ?_;rintro e w11 ⟨vl,rfl,f3⟩;have I:Hid (za w9 w11):=c8.out.trans f3;clear f3 hx c6 i1 g0 g1 g2 g3 g4 g5;by_cases b8:le=0
        ·have s1:(le != 0)=false:=by simp [b8]
         have x5:Hid (Aj m s y=some ⟨c.1,q.1,y.fin+rec.length,zY y.sg c.1 q.1⟩):=by (show _=_);rw [a0.out,if_neg (fun h=>h b8)]
         have hx:za w9 w11:=I.out;have e5:=v9.out;have fn0:∀j,w11.frozen? ⟨gn,j,none⟩=false:=fun j=>(a8.out.ext hx).frozen j
         have b9:=zh (D.out.x.ext (o.out.trans hx));have fx0:∀j,w11.frozen? ⟨gx,j,none⟩=false:=fun j=>b9.out.frozen j
         have s4:gx≠gn:=by have h1:=zd D.out.x;have h2:=m1.out.2;omega
         have A4:gn≠gx:=fun e=>s4 e.symm
         clear b8 a0
         go_wp2_with fail
         have r8:gx<w2.heap.size:=zd D.out.x;have f8:=m1.out.2;have s8:=d9.out.size;have t0:=D.out.sz;have f4:za w2 (w11.setCell ⟨gn,2,none⟩ (.int .i64 ((y.fin:Int)+(rec.length:Int)))):=Below.setCell (o.out.trans I.out) (p:=⟨gn,2,none⟩) f8 _;have c9:zu (fun b=>b=gx) w2 (((((w11.setCell ⟨gn,2,none⟩ (.int .i64 ((y.fin:Int)+(rec.length:Int)))).setCell ⟨gx,0,none⟩ (.slice An c.1.length cn)).setCell ⟨gx,1,none⟩ (.int .i64 q.1)).setCell ⟨gx,2,none⟩ (.int .i64 ((y.fin:Int)+(rec.length:Int)))).setCell ⟨gx,3,none⟩ (.string ⟨t2.1.toArray⟩)):=((((zu.of_ext (X:=fun b=>b=gx) f4).set gx 0 _ rfl).set gx 1 _ rfl).set gx 2 _ rfl).set gx 3 _ rfl;have k8:ze (((((w11.setCell ⟨gn,2,none⟩ (.int .i64 ((y.fin:Int)+(rec.length:Int)))).setCell ⟨gx,0,none⟩ (.slice An c.1.length cn)).setCell ⟨gx,1,none⟩ (.int .i64 q.1)).setCell ⟨gx,2,none⟩ (.int .i64 ((y.fin:Int)+(rec.length:Int)))).setCell ⟨gx,3,none⟩ (.string ⟨t2.1.toArray⟩)) gx 126 #[.slice An c.1.length cn,.int .i64 q.1,.int .i64 ((y.fin:Int)+(rec.length:Int)),.string ⟨t2.1.toArray⟩]:=((((b9.out.setOther (a:=⟨gn,2,none⟩) (by show gx≠gn;omega) _).set (k:=0) _).set (k:=1) _).set (k:=2) _).set (k:=3) _;have r5:zu (fun b=>b=gn\/b=gx) w11 (((((w11.setCell ⟨gn,2,none⟩ (.int .i64 ((y.fin:Int)+(rec.length:Int)))).setCell ⟨gx,0,none⟩ (.slice An c.1.length cn)).setCell ⟨gx,1,none⟩ (.int .i64 q.1)).setCell ⟨gx,2,none⟩ (.int .i64 ((y.fin:Int)+(rec.length:Int)))).setCell ⟨gx,3,none⟩ (.string ⟨t2.1.toArray⟩)):=(((((zu.refl (fun b=>b=gn\/b=gx) w11).set gn 2 _ (.inl rfl)).set gx 0 _ (.inr rfl)).set gx 1 _ (.inr rfl)).set gx 2 _ (.inr rfl)).set gx 3 _ (.inr rfl);have j6:zg (((((w11.setCell ⟨gn,2,none⟩ (.int .i64 ((y.fin:Int)+(rec.length:Int)))).setCell ⟨gx,0,none⟩ (.slice An c.1.length cn)).setCell ⟨gx,1,none⟩ (.int .i64 q.1)).setCell ⟨gx,2,none⟩ (.int .i64 ((y.fin:Int)+(rec.length:Int)))).setCell ⟨gx,3,none⟩ (.string ⟨t2.1.toArray⟩)) (fun b=>W.heap.size<=b/\b≠gx) (.slice An c.1.length cn) c.1:=((g9.out.below I.out).keep (r5.same fun b hb e=>by omega)).weaken fun b hb=>by omega
         generalize (((((w11.setCell ⟨gn,2,none⟩ (.int .i64 ((y.fin:Int)+(rec.length:Int)))).setCell ⟨gx,0,none⟩ (.slice An c.1.length cn)).setCell ⟨gx,1,none⟩ (.int .i64 q.1)).setCell ⟨gx,2,none⟩ (.int .i64 ((y.fin:Int)+(rec.length:Int)))).setCell ⟨gx,3,none⟩ (.string ⟨t2.1.toArray⟩))=wf at c9 k8 j6⊢
         have y0:Hid (ze wf gx 126 (jsc (.slice An c.1.length cn) ⟨c.1,q.1,y.fin+rec.length,zY y.sg c.1 q.1⟩)):=by
          (show ze _ _ _ #[.slice An c.1.length cn,.int .i64 q.1,.int .i64 ((y.fin+rec.length:Nat):Int),.string ⟨(zY y.sg c.1 q.1).toArray⟩])
          rw [<-o4.out,Int.natCast_add];exact k8
         have v8:Hid (JCtx wf gi gs gm id s (Fr m Af cf Au cu At ct) m R):=by
          have h1:=HO.out.wW;have h2:=HO.out.b;have h3:=b4.out;exact D.out.ctx.chg c9 (by omega) (by omega) (by omega) (fun b hb e=>by have:=(HO.out.rb b hb).1;omega) (fun g e=>HO.out.nv g (by omega))
         have x4:Hid (J gx (k+1) wf):=HJ.out _ _ _ _ b4.out m3.out c9;have w0:=zh j6;have x6:Hid (W.heap.size<=wf.heap.size):=FA t0 c9.size;have m6:Hid (L[k+1]?=some ⟨c.1,q.1,y.fin+rec.length,zY y.sg c.1 q.1⟩):=y3.out _ x5.out;have B2:k+1<L.length:=(za6.1 m6.out).1;clear f4 c9 k8 r5 j6 r8 f8 s8 t0 e5 fn0 fx0 hx
         go_roundg (L.length - (k+1))
         case measure=>omega
         case rel=>exact ⟨k+1,_,_,m6.out,by omega,⟨v8.out,y0.out,w0.out,x6.out⟩,x4.out⟩
        ·have s1:(le != 0)=true:=by simp [b8]
         have O:Hid (Aj m s y=none):=by (show _=_);rw [a0.out,if_pos b8]
         clear b8 a0
         go_wp2_with fail
         exact za5 (results_none rfl _ _ _) rfl (Q.out _ (o.out.trans I.out) O.out)
       ·have d7:rec.isPrefixOf T=false:=by
         cases h:rec.isPrefixOf T with
         | false=>rfl
         | true=>exact absurd (List.isPrefixOf_iff_prefix.1 h) hp
        rw [d7] at c6;have O:Hid (Aj m s y=none):=by (show _=_);rw [a5.out,if_pos hp]
        clear hp d7 a5 i3 c7
        go_wp2_with fail
        refine c6.out.mono ?_;rintro e wb ⟨rfl,rfl⟩
        go_wp2_with fail
        exact za5 (results_none rfl _ _ _) rfl (Q.out _ (o.out.trans c8.out) O.out)
end
end Go.Proofs.YtjomnbdjajjgfaaGreatDoor
