import Derived.Test.YthbjngbhbbkkgaaGreatHPm
import Derived.ProofKit
import Derived.OpenShut
set_option linter.unusedVariables false
set_option linter.unusedSimpArgs false
set_option maxRecDepth 100000
set_option maxHeartbeats 16000000
namespace Go.Proofs.YthbjngbhbbkkgaaGreat
variable {pp:List (List Int)} {a ch s:List Int} {m:MZ} {g k t:Nat} {ok okc okp:Nat->Prop} {v v1 vc vp:Value}
section
open Go.RowKit
attribute [local go_sem ↓] Go.wp_at_zero Go.wp_at_succ
theorem endB_none (h:pp.getD t []=[]):endB m pp t=false:=by
 unfold endB;rw [h];rfl
theorem endB_snoc {q:List Int} {x:Int} (h:pp.getD t []=q++[x]):endB m pp t=decide (x∈(m.tasks.getD t ([],[])).2):=by
 unfold endB;rw [h,List.getLast?_append];rfl
theorem vfinished_calls (t:Nat) (w:World) (hm:zt w ok v m) (hl:Lens m) (hp:zq w okp vp pp) (c0:pp.length<=m.tasks.length) (a7:∀x∈pp,x.length<=20000000000000):
  Calls Tryz.prog 122 #[v,vp,.int .i64 t] w fun e w'=>e=.returned (.bool (endB m pp t))/\zb w w':=by
 obtain ⟨Af,cf,Au,cu,At,ct,rfl,-,-,b0⟩:=hm.parts;have b5:=zh b0;have HL:=zh hl;obtain ⟨vps,⟨Ap,cp,rfl,d5,a8⟩,a3⟩:=hp;have b4:=zh a8;have b1:=zh a3;have c9:=zh c0;have b3:=zh a7;have c6:(pp.length:Int)<=(m.tasks.length:Int):=by omega
 have e4:=hl.ts;clear hm hl b0 a8 a3 a7;obtain ⟨fb,O⟩:=zak (endB m pp t);rw [<-O];have L:=zh O;clear O
 go_enter Tryz.func122,Tryz.ntmps122
 go_upto_region 1 with fail;obtain ⟨M,r0,r1,r2,r3,r4,r5⟩:=CG w (.int .i64 m.w) (.int .i64 m.h) (.int .i64 m.l) (.slice Af m.free.length cf) (.slice Au m.up.length cu) (.slice At m.tasks.length ct);generalize w.alloc _=w1 at M r0 r1 r2 r3 r4 r5⊢;obtain ⟨gm,a4⟩:=zak w.heap.size;rw [<-a4] at r0 r1 r2 r3 r4 r5⊢;clear a4;have o:=zh M;have hx:zb w1 w1:=zb.refl w1;clear M;have t0:(0:Int)<=(t:Int):=by omega
 by_cases I:t<pp.length
 ·have J:(t:Int)<(pp.length:Int):=by omega
  have E:t<m.tasks.length:=by omega
  have b8:(t:Int)<(m.tasks.length:Int):=by omega
  obtain ⟨bp,offp,up,rfl,-,G,T⟩:=zO b4.out b1.out I I;have D:=b3.out _ (EO I);have Q:pp.getD t []=pp[t]:=zgd I
  obtain ⟨P,a0⟩:=zak (pp[t]);rw [<-a0] at T D Q;have V:=zh Q;clear a0 Q;have rq:=zb.rule (o.out.cell G);clear G;rcases (show P=[]\/∃q x,P=q++[x] from by by_cases h:P=[];exact .inl h;exact .inr ⟨_,_,(List.dropLast_concat_getLast h).symm⟩) with rfl | ⟨q,x,rfl⟩
  ·have U:Hid (fb=false):=by show _=_;rw [L.out];exact endB_none V.out
   obtain ⟨Aq,cq,rfl,-,-⟩:=T;clear D
   go_wp2_with fail
   go_ret;exact ⟨zf U.out.symm,o.out⟩
  ·obtain ⟨Aq,cq,rfl,G,a9⟩:=T;obtain ⟨bq,offq,e,-,z⟩:=zy a9 (k:=q.length) (by simp) (by simp);have z:w.cell? ⟨bq,offq+q.length,none⟩=some (.int .i64 x):=by rw [z];simp
   subst e;obtain ⟨bt,offt,sn,u1,u2,rfl,-,-,-,a1,-,a6⟩:=AO b5.out E;have e5:=(HL.out.tl _ (EO E)).2;have a5:m.tasks.getD t ([],[])=m.tasks[t]:=zgd E
   have U:Hid (fb=decide (x∈(m.tasks[t]).2)):=by show _=_;rw [L.out,endB_snoc V.out,a5]
   clear a5;obtain ⟨N,hN⟩:=zak ((q++[x]).length);obtain ⟨n,hn⟩:=zak q.length;have Z:N=n+1:=by rw [hN,hn];simp
   rw [<-hN] at rq D G;rw [<-hn] at z;have rx:=zb.rule (o.out.cell z);have rt2:=zb.rule (o.out.cell a1);have b2:=zh (a6.below o.out);obtain ⟨Au2,cu2,rfl,-,-⟩:=a6;have e3:IntKind.i64.wrap ((N:Int) - 1)=(n:Int):=by rw [Fi];omega
   have d6:(0:Int)<=(n:Int):=by omega
   have d7:(n:Int)<(N:Int):=by omega
   have c4:¬ ((N:Int)=0):=by omega
   have d8:((N:Int)==0)=false:=by rw [Fa];omega
   have d9:¬ ((pp.length:Int)<=(t:Int)):=by omega
   have e0:decide (pp.length<=t)=false:=ER (by omega);have HQ:=zh Z;clear a9 hN hn z a1 Z c4
   go_wp2_with fail
   go_region_held3 (fun w'=>zb w1 w') (first | (exact hx.drew) | assumption) ((go_at_call 12;refine (zL x _ (b2.out.below hx.drew) (by omega)).mono ?_;rintro e w9 ⟨rfl,rfl⟩))
   rename_i hS
   go_wp2_with fail
   go_ret;exact ⟨zf U.out.symm,o.out.trans hS⟩
 ·have J:¬ ((t:Int)<(pp.length:Int)):=by omega
  have c5:(pp.length:Int)<=(t:Int):=by omega
  have U:Hid (fb=false):=by
   show _=_;rw [L.out];exact endB_none (by rw [EM,Fg (by omega)];rfl)
  clear J
  go_wp2_with fail
  go_ret;exact ⟨zf U.out.symm,o.out⟩
theorem DH (w:World) (hm:zt w ok v m) (V:Lens m) (hp:zq w okp vp pp) (a0:pp.length<=m.tasks.length) (I:∀x∈pp,x.length<=20000000000000):
  Calls Tryz.prog 95 #[v,vp] w fun e w'=>e=.returned (.int .i64 (curF m pp pp.length 0))/\zb w w':=by
 have HM:=zh hm;have HL:=zh V;have HP:=zh hp;have O:=zh I;obtain ⟨Af,cf,Au,cu,At,ct,rfl,-,-,-⟩:=hm.parts;obtain ⟨vps,⟨Ap,cp,rfl,-,-⟩,-⟩:=hp;have a9:=V.ts;clear hm V I
 go_enter Tryz.func95,Tryz.ntmps95
 go_upto_region 1 with fail;obtain ⟨D,r0,r1,r2,r3,r4,r5⟩:=CG w (.int .i64 m.w) (.int .i64 m.h) (.int .i64 m.l) (.slice Af m.free.length cf) (.slice Au m.up.length cu) (.slice At m.tasks.length ct);generalize w.alloc _=w1 at D r0 r1 r2 r3 r4 r5⊢;obtain ⟨gm,G⟩:=zak w.heap.size;rw [<-G] at r0 r1 r2 r3 r4 r5⊢;clear G;have z:=zh D;clear D
 go_wp2_with fail
 obtain ⟨N,T⟩:=zak pp.length;have L:=zh T;have a8:N<=20000000000000:=by omega
 rw [<-T];clear T;go_loopw [5] (fun i wr=>∃k:Nat,k<=N/\i=.int .i64 k/\Hid (curF m pp (N - k) k=curF m pp N 0)/\Hid (zb w1 wr)) (fun i _=>N - (intOf i).toNat)
 case atStart=>exact ⟨0,Fb _,rfl,rfl,zb.refl w1⟩
 case round=>
  obtain ⟨k,hk,rfl,E,hE⟩:=hrel;obtain ⟨wk,rfl⟩:∃wk:World,wk=wr:=⟨_,rfl⟩;have hx:zb w1 wk:=hE.out
  have HV:Hid (Calls Tryz.prog 122 #[.agg #[.int .i64 m.w,.int .i64 m.h,.int .i64 m.l,.slice Af m.free.length cf,.slice Au m.up.length cu,.slice At m.tasks.length ct],.slice Ap N cp,.int .i64 k] wk fun e w'=>e=.returned (.bool (endB m pp k))/\zb wk w'):=by
   (show Calls _ _ _ _ _)
   rw [L.out];exact vfinished_calls k wk (HM.out.below (z.out.trans hx)) HL.out (HP.out.below (z.out.trans hx)) a0 O.out
  go_wp2_with fail
  refine HV.out.mono ?_;rintro e w9 ⟨rfl,Q⟩;have J:zb w1 w9:=zb.trans ‹_› Q;obtain ⟨b,U⟩:=zak (endB m pp k);rw [<-U];have M:=zh U;clear U HV
  cases b with
  | true=>
   have Z:k<N:=by
    rw [L.out];refine Decidable.byContradiction fun h=>?_
    have:=M.out;rw [endB_none (by rw [EM,Fg (by omega)];rfl)] at this;cases this
   have o:Hid (curF m pp (N - (k+1)) (k+1)=curF m pp N 0):=by
    show _=_;rw [<-E.out,show N - k=(N - (k+1))+1 from by omega]
    conv=>rhs;unfold curF
    rw [if_pos ⟨by rw [<-L.out];exact Z,M.out.symm⟩]
   have b0:IntKind.i64.wrap ((k:Int)+1)=(k:Int)+1:=by rw [Fi];omega
   go_wp2_with fail
   go_roundw
   case rel=>exact ⟨k+1,by omega,by go_num,o,J⟩
   case measure=>simp [intOf];omega
  | false=>
   have o:Hid (curF m pp N 0=k):=by
    show _=_;rw [<-E.out]
    cases N - k with
    | zero=>rfl
    | succ n=>
     unfold curF;rw [if_neg (fun h=>by rw [<-M.out] at h;exact absurd h.2 (by simp))]
   go_wp2_with fail
   go_ret;exact ⟨(show Ending.returned (Value.int .i64 ((k:Nat):Int))=.returned (.int .i64 ((curF m pp pp.length 0:Nat):Int)) from by have h:=o.out;rw [L.out] at h;rw [h]),z.out.trans J⟩
theorem vComplete_calls (w:World) (hm:zt w ok v m) (hl:Lens m) (Z:AY m=0) (L:zi w okc vc ch) (hi:zC m ch):
  Calls Tryz.prog 99 #[v,vc] w fun e w'=>e=.returned (.bool (decide (m.tasks.length<=AD m ch)))/\zb w w':=by
 have HM:=zh hm;have HL:=zh hl;have HC:=zh Z;have HI:=zh hi;have T:=zh L;have D:=zh (BQ Z hi);obtain ⟨Af,cf,Au,cu,At,ct,rfl,-,-,-⟩:=hm.parts;obtain ⟨Ac,cc,rfl,-,-⟩:=L;have a9:=hl.ts;clear hm hl Z hi;obtain ⟨c,I⟩:=zak (AD m ch);rw [<-I];have U:=zh I;clear I
 go_enter Tryz.func99,Tryz.ntmps99
 go_upto_region 1 with fail;obtain ⟨G,r0,r1,r2,r3,r4,r5⟩:=CG w (.int .i64 m.w) (.int .i64 m.h) (.int .i64 m.l) (.slice Af m.free.length cf) (.slice Au m.up.length cu) (.slice At m.tasks.length ct);generalize w.alloc _=w1 at G r0 r1 r2 r3 r4 r5⊢;obtain ⟨gm,M⟩:=zak w.heap.size;rw [<-M] at r0 r1 r2 r3 r4 r5⊢;clear M;have o:=zh G;clear G;have hx:zb w1 w1:=zb.refl w1
 go_wp2_with fail
 refine (Ek w1 (HM.out.below o.out) HL.out (T.out.below o.out) (by have:=D.out;omega)).mono ?_;rintro e w2 ⟨vp,rfl,E,O⟩;have V:=zh O;have Q:zb w1 w2:=E;obtain ⟨_,⟨Ap,cp,rfl,-,-⟩,-⟩:=O
 have HV:Hid (∀W,zb w2 W->Calls Tryz.prog 95 #[.agg #[.int .i64 m.w,.int .i64 m.h,.int .i64 m.l,.slice Af m.free.length cf,.slice Au m.up.length cu,.slice At m.tasks.length ct],.slice Ap (zv m ch).length cp] W fun e w'=>e=.returned (.int .i64 c)/\zb W w'):=fun W hW=>by
  rw [U.out];exact DH W (HM.out.below ((o.out.trans E).trans hW)) HL.out (V.out.below hW) D.out.1 (fun x hx=>by have:=(D.out.2.2.2 x hx).2;omega)
 clear E;obtain ⟨PL,z⟩:=zak ((zv m ch).length);rw [<-z] at HV⊢;clear z;have hy:zb w2 w2:=zb.refl w2
 go_wp2_with fail
 go_region_held3 (fun w'=>zb w1 w'/\zb w2 w') (first | (exact ⟨Q.drew,hy.drew⟩) | (exact ⟨Q.drew.trans J,hy.drew.trans J⟩)) ((go_at_call 95;refine (HV.out _ hy.drew).mono ?_;rintro e w9 ⟨rfl,J⟩))
 rename_i hS
 go_wp2_with fail
 go_ret;exact ⟨by simp,o.out.trans hS.1⟩
theorem vhead_calls (tk:Nat) (w:World) (hm:zt w ok v m) (hl:Lens m) (hc:AY m=0) (b7:zi w okc vc ch) (hi:zC m ch) (hp:zq w okp vp (zv m ch)) (V:tk<m.tasks.length):
  Calls Tryz.prog 123 #[v,vc,vp,.int .i64 tk] w fun e w'=>∃v',e=.returned v'/\zb w w'/\zi w' (fun b=>w.heap.size<=b) v' (BP m ch tk):=by
 have a6:=BQ hc hi;have G:=zh (zI.of hc);have HL:=zh hl;have e9:=zh G.out.fl;have e6:=zh b7;obtain ⟨Af,cf,Au,cu,At,ct,rfl,hf,-,d6⟩:=hm.parts;have HF:=zh hf;obtain ⟨Ac,cc,rfl,-,-⟩:=b7;obtain ⟨vps,⟨Ap,cp,rfl,Q,d4⟩,b9⟩:=hp;have f4:=zh d6;have b2:=zh d4;have e8:=zh b9;obtain ⟨PL,hP⟩:=zak ((zv m ch).length);rw [<-hP] at b2⊢;clear hf d6 d4 b9 hl hc hm Q;by_cases g7:tk<PL
 ·obtain ⟨i7,h9,-,c8⟩:=a6;have U:tk<(zv m ch).length:=by omega
  obtain ⟨bp,offp,up,rfl,-,Q,d7⟩:=zO b2.out e8.out g7 U;obtain ⟨a0,a3⟩:=c8 _ (EO U)
  have E:Hid (BP m ch tk=((zv m ch)[tk]).getLast?.toList):=by
   show _=_;unfold BP;rw [if_pos U,EM,EL U];rfl
  obtain ⟨P,b5⟩:=zak ((zv m ch)[tk]);rw [<-b5] at d7 a0 a3 E;clear b5 c8 hi;obtain ⟨q,x,rfl⟩:∃q x,P=q++[x]:=⟨P.dropLast,P.getLast a0,(List.dropLast_concat_getLast a0).symm⟩;obtain ⟨Aq,cq,rfl,b8,d5⟩:=d7;obtain ⟨bq,offq,e,-,T⟩:=zy d5 (k:=q.length) (by simp) (by simp);have T:w.cell? ⟨bq,offq+q.length,none⟩=some (.int .i64 x):=by rw [T];simp
  subst e;obtain ⟨N,hN⟩:=zak ((q++[x]).length);obtain ⟨n,hn⟩:=zak q.length;have f8:N=n+1:=by rw [hN,hn];simp
  rw [<-hN] at Q a3 b8;rw [<-hn] at T
  have f0:Hid (BP m ch tk=[x]):=by
   show _=_;rw [E.out,List.getLast?_append];rfl
  clear d5 hN hn E a0 hP;have k0:(0:Int)<=(tk:Int):=by omega
  have k1:(tk:Int)<(PL:Int):=by omega
  have j1:IntKind.i64.wrap ((N:Int) - 1)=(n:Int):=by rw [Fi];omega
  have i8:(0:Int)<=(n:Int):=by omega
  have i9:(n:Int)<(N:Int):=by omega
  have j0:(0:Int)<(N:Int):=by omega
  go_enter Tryz.func123,Tryz.ntmps123
  go_upto_region 1 with fail;obtain ⟨z,r0,r1,r2,r3,r4,r5⟩:=CG w (.int .i64 m.w) (.int .i64 m.h) (.int .i64 m.l) (.slice Af m.free.length cf) (.slice Au m.up.length cu) (.slice At m.tasks.length ct);generalize w.alloc _=w1 at z r0 r1 r2 r3 r4 r5⊢;obtain ⟨gm,J⟩:=zak w.heap.size;rw [<-J] at r0 r1 r2 r3 r4 r5⊢;have i1:Hid (gm=w.heap.size):=J;clear J;have hx:zb w1 w1:=zb.refl w1;have o:=zh z;clear z;have qp:=zb.rule (o.out.cell Q);have qx:=zb.rule (o.out.cell T);clear Q f8 b8 U T
  go_wp2_with fail
  refine Fd (S:=(fun W=>zb w1 W)) zU (hx.drew) fun zH=>?_;have a5:zb w1 w1.drew:=zH;generalize w1.drew=wd at zH a5⊢;refine ze 0 zH ?_;refine ze 1 zH ?_;simp only [za,EK];refine ze 2 zH ?_;refine ze 3 zH ?_;simp only [za,EK];refine ze 4 zH ?_;refine ze 5 zH ?_;simp only [za,EK];refine ze 6 zH ?_;refine ze 7 zH ?_;simp only [za,EK];refine ze 8 zH ?_;refine ze 9 zH ?_;simp only [za,EK];refine ze 10 zH ?_;refine ze 11 zH ?_;simp only [za,EK];refine zx 12 fun K hK=>?_;go_simp;have hA:zb w1 (wd.alloc (.cells #[.int .i64 x] 3)):=a5.alloc _;have hB:zg (wd.alloc (.cells #[.int .i64 x] 3)) wd.heap.size 3 #[.int .i64 x]:=zg.new _ _ _ rfl;generalize wd.alloc _=wb at hA hB⊢;refine zal hK (hA) fun zH=>?_;clear hK K;try simp only [za,EK]
  refine zx 13 fun K hK=>?_;go_simp;refine zal hK (hA) fun zH=>?_;clear hK K;try simp only [za,EK]
  refine Fs (by kernel_rfl) ?_ _;go_wp2;go_ret;refine ⟨_,rfl,o.out.trans hA,?_⟩;rw [f0.out];refine ⟨_,_,rfl,EN _,rfl,fun _=>⟨wd.heap.size,0,rfl,EP o.out.size a5.size,fun j u hu=>?_⟩⟩
  match j,hu with
  | 0,hu=>
   have:u=.int .i64 x:=by simpa using hu.symm
   rw [this];exact hB.cell (k:=0) rfl
 ·obtain ⟨bt,offt,sn,u1,u2,rfl,-,-,O,-,a7,-⟩:=AO f4.out V;have a9:=fun x hx=>G.out.tn _ (EO V) x (.inl hx)
  have c0:=(HL.out.tl _ (EO V)).1
  have E:Hid (BP m ch tk=((m.tasks[tk]).1).filter fun n=>zl m tk n && !decide (n∈ch)):=by
   show _=_;unfold BP;rw [if_neg (by omega),EM,EL V];rfl
  obtain ⟨L,hL⟩:=zak ((m.tasks[tk]).1);rw [<-hL] at a7 a9 c0 E;clear hL;have f3:=zh a9;have e7:Hid (ch.length<=300):=a6.2.2.1;have b3:Hid (tk<m.free.length):=by show _<_;rw [e9.out];exact V
  have k0:(0:Int)<=(tk:Int):=by omega
  have k1:(tk:Int)<(m.tasks.length:Int):=by omega
  have k2:¬ ((tk:Int)<(PL:Int)):=by omega
  clear a9 a6 hi hP;obtain ⟨p,a8⟩:∃p:Int->Bool,p=fun n=>zl m tk n && !decide (n∈ch):=⟨_,rfl⟩
  rw [<-a8] at E;have f2:=zh a8;clear a8
  go_enter Tryz.func123,Tryz.ntmps123
  go_upto_region 1 with fail;obtain ⟨z,r0,r1,r2,r3,r4,r5⟩:=CG w (.int .i64 m.w) (.int .i64 m.h) (.int .i64 m.l) (.slice Af m.free.length cf) (.slice Au m.up.length cu) (.slice (some ⟨bt,offt,none⟩) m.tasks.length ct);generalize w.alloc _=w1 at z r0 r1 r2 r3 r4 r5⊢;obtain ⟨gm,J⟩:=zak w.heap.size;rw [<-J] at r0 r1 r2 r3 r4 r5⊢;clear J;have hx:zb w1 w1:=zb.refl w1;have o:=zh z;clear z;have qt:=zb.rule (o.out.cell O);have f1:=zh (a7.below o.out);obtain ⟨Al,cl,rfl,i4,-⟩:=a7;clear O
  go_wp2_with fail
  have b1:=zh (Mk.nil w1);go_loopw [9,11] (fun v i wr=>∃k:Nat,k<=L.length/\i=.int .i64 (k:Nat)/\Hid (Mk w1 wr v ((L.take k).filter p))) (fun _ i _=>L.length - (intOf i).toNat)
  case atStart=>exact ⟨0,Fb _,rfl,b1⟩
  clear b1
  case round=>
   obtain ⟨k,hk,rfl,hM⟩:=hrel;have hx:zb w1 wr:=hM.out.ext;obtain ⟨wk,rfl⟩:∃wk:World,wk=wr:=⟨_,rfl⟩;by_cases I:k<L.length
   ·obtain ⟨A',c',e,-,c9⟩:=f1.out;injection e with e1 e2 e3;subst e1 e3;obtain ⟨bl,offl,rfl,-,D⟩:=zy c9 I I;clear c9;obtain ⟨d8,d9⟩:=f3.out _ (EO I);have Z:=EU I;obtain ⟨x,e4⟩:=zak (L[k]);rw [<-e4] at D d8 d9 Z;clear e4;have HT:=zh Z;have rx:=zb.rule D;clear Z D;obtain ⟨bf,off,b',off',l,c',rfl,O,hl,i6,i5,b6⟩:=Dq HF.out G.out.fn b3.out d8 d9;have q1:=zb.rule (o.out.cell O);have q2:=zb.rule (o.out.cell b6);have kk0:(0:Int)<=(k:Int):=by omega
    have kk1:(k:Int)<(L.length:Int):=by omega
    have kf1:(tk:Int)<(m.free.length:Int):=by have:=b3.out;omega
    have hp:Hid (p x=(zl m tk x && !decide (x∈ch))):=by (show _=_);rw [f2.out]
    obtain ⟨fv,c4⟩:=zak (zl m tk x);rw [<-c4] at q2 hp;clear c4 O b6;have g6:((L.take k).filter p).length<=L.length:=EP (Fr _ _) (by simp;omega);go_upto_region 8 with fail;go_cut [68] (fun v wx=>v=.bool (p x)/\zb wk wx)
    case first=>
     cases fv with
     | false=>
      have a1:zb wk wk:=zb.refl wk;go_quiet (fail)
      go_wp2_with fail
      go_meet
      first | exact ⟨by rw [hp.out,Bool.false_and],a1.drew⟩ | exact ⟨by rw [hp.out,Bool.false_and],a1.drewN _⟩
     | true=>
      have a1:zb wk wk:=zb.refl wk
      go_region_held3 (fun w'=>zb w1 w'/\zb wk w') (first | (exact ⟨hx.drew,a1.drew⟩) | assumption) ((go_at_call 12;refine (zL x _ (e6.out.below (o.out.trans hx.drew)) (by have:=e7.out;omega)).mono ?_;rintro e w9 ⟨rfl,rfl⟩))
      rename_i hS
      go_wp2_with fail
      go_meet;exact ⟨by rw [hp.out,Bool.true_and],hS.2⟩
    case rest=>
     obtain ⟨rfl,h4⟩:=hcut;have M:=zh (hM.out.more h4);have e0:=M.out.ext
     cases hb:p x with
     | true=>
      have HS:Hid ((L.take (k+1)).filter p=(L.take k).filter p++[x]):=by show _=_;rw [HT.out,FC,FJ hb];rfl
      clear hb;obtain ⟨l,c6⟩:=zak ((L.take k).filter p);rw [<-c6] at M g6 HS;clear c6
      go_wp2_with (at_builtin;refine AP rfl _ _ rfl _ l x w1.heap.size wc.heap.size 1 _ rfl rfl (M.out.own.alloc _) ?d1 ?d2 ?d3 ?_)
      (try case d1=>exact zr _ _ _ (by simp))
      case d2=>(first | (simp;done) | (have:=e0.size;simp;omega) | (have:=e0.size;omega))
      case d3=>omega
      intro v' wb c7 c5 g0;have f6:=zh ((M.out.alloc _).app c7 c5);clear c7 c5 g0;go_wp2;go_roundw
      case rel=>exact ⟨k+1,by omega,by go_num,by rw [HS.out];exact f6⟩
      case measure=>simp [intOf];omega
     | false=>
      have HS:Hid ((L.take (k+1)).filter p=(L.take k).filter p):=by show _=_;rw [HT.out,FC,Fw (by rw [hb];simp),List.filter_nil,List.append_nil]
      clear hb;go_wp2;go_roundw
      case rel=>exact ⟨k+1,by omega,by go_num,by rw [HS.out];exact M⟩
      case measure=>simp [intOf];omega
   ·obtain rfl:k=L.length:=by omega
    go_wp2;go_ret;refine ⟨_,rfl,o.out.trans hx,?_⟩;rw [E.out];have h:=hM.out.ints;rw [EY] at h;exact h.weaken (fun b hb=>EP o.out.size hb)
theorem box3 (w:World) (a0 a1 a2:Value):zb w (w.alloc (.cells #[a0,a1,a2] 37))/\
  (∀W,zb (w.alloc (.cells #[a0,a1,a2] 37)) W->W.cell? ⟨w.heap.size,0,none⟩=some a0)/\(∀W,zb (w.alloc (.cells #[a0,a1,a2] 37)) W->W.cell? ⟨w.heap.size,1,none⟩=some a1)/\(∀W,zb (w.alloc (.cells #[a0,a1,a2] 37)) W->W.cell? ⟨w.heap.size,2,none⟩=some a2):=by
 have o:=zg.new w #[a0,a1,a2] 37 rfl;exact ⟨(zb.refl w).alloc _,zb.rule (o.cell (k:=0) rfl),zb.rule (o.cell (k:=1) rfl),zb.rule (o.cell (k:=2) rfl)⟩
def stepOk (N:Int) (tg s:List Int) (i:Nat):Prop:=0<=s.getD i 0/\s.getD i 0<N/\(0<i->s.getD (i - 1) 0<s.getD i 0)/\s.getD i 0∉tg
theorem incB_iff {N:Int}:∀{l:List Int} {b:Int},incB N b l=true↔∀i,i<l.length->(b :: l).getD i 0<l.getD i 0/\l.getD i 0<N
 | [],b=>by simp [incB]
 | x :: l,b=>by
  unfold incB;rw [EZ,EZ,EX,EX,incB_iff];constructor
  ·rintro ⟨h1,h2,h3⟩ i o
   cases i with
   | zero=>exact ⟨by simpa using h1,by simpa using h2⟩
   | succ i=>simpa using h3 i (by simpa using o)
  ·intro h;refine ⟨by simpa using (h 0 (by simp)).1,by simpa using (h 0 (by simp)).2,fun i o=>?_⟩;simpa using h (i+1) (by simpa using o)
theorem side_iff {N:Int} {tg:List Int}:(incB N (-1) s && !(s.any fun n=>decide (n∈tg)))=true↔∀i,i<s.length->stepOk N tg s i:=by
 rw [EZ,incB_iff,Bool.not_eq_true',<-Bool.not_eq_true,zaf];constructor
 ·rintro ⟨h1,h2⟩ i o;have z:s.getD i 0∈s:=by rw [EM,EL o];exact EO o
  have D:∀j,j<s.length->0<=s.getD j 0:=by
   intro j
   induction j with
   | zero=>intro E;have:=(h1 0 E).1;simp at this⊢;omega
   | succ j ih=>intro E;have:=(h1 (j+1) E).1;have J:=ih (by omega);rw [List.getD_cons_succ] at this;omega
  refine ⟨D i o,(h1 i o).2,fun h0=>?_,fun h=>h2 ⟨_,z,by simpa using h⟩⟩;have:=(h1 i o).1;obtain ⟨j,rfl⟩:∃j,i=j+1:=⟨i - 1,by omega⟩;rw [List.getD_cons_succ] at this;simpa using this
 ·intro h;refine ⟨fun i o=>⟨?_,(h i o).2.1⟩,?_⟩
  ·cases i with
   | zero=>have:=(h 0 o).1;simp at this⊢;omega
   | succ j=>have:=(h (j+1) o).2.2.1 (by omega);rw [List.getD_cons_succ];simpa using this
  ·rintro ⟨x,I,G⟩;obtain ⟨i,o,rfl⟩:=Fu I;refine (h i o).2.2.2 ?_;rw [EM,EL o];simpa using G
theorem curT_le (o:AY m=0) (z:zC m ch):AD m ch<=m.tasks.length:=by
 rcases cur_of o z with ⟨-,h⟩ | ⟨-,qs,a,h⟩
 ·omega
 ·have:=h.lt;have:=h.cur;omega
theorem nextO_len (m:MZ) (x:Int):(BC m x).length<=6:=by
 unfold BC
 split
 ·exact Ba m x
 ·simp
theorem nextO_rng (g:zI m) {x y:Int} (h:y∈BC m x):0<=y/\y<m.n:=by
 unfold BC at h
 split at h
 ·next h1=>exact AG g.dim h1.2.1 h1.2.2 h
 ·cases h
theorem headP_le (z:Lens m) (o:t<m.tasks.length):(BP m ch t).length<=20000000000000:=by
 unfold BP
 split
 ·cases ((zv m ch).getD t []).getLast? <;> simp
 ·refine EP (Fr _ _) ?_;rw [EM,EL o];have:=(z.tl _ (EO o)).1;show (m.tasks[t]).1.length<=_;omega
theorem vcut_calls {p:PT} (w:World) (hm:zt w ok v m) (hl:Lens m) (hc:AY m=0) (j8:zi w okc vc ch) (hi:zC m ch) (hp:En w okp vp p) (o1:p.side.length<=20000000000000):
  Calls Tryz.prog 96 #[v,vc,vp] w fun e w'=>e=.returned (.bool (cutB m ch p.task p.side p.kids.length))/\zb w w':=by
 have HM:=zh hm;have HL:=zh hl;have HC:=zh hc;have HI:=zh hi;have e5:=zh j8;have G:=zh (zI.of hc);have b7:=zh (BQ hc hi);obtain ⟨Af,cf,Au,cu,At,ct,rfl,j9,-,l0⟩:=hm.parts;have m6:=zh l0;have l8:=zh j9;clear j9;obtain ⟨Ac,cc,rfl,-,-⟩:=j8;obtain ⟨As,cs,Ak,ck,rfl,a4⟩:=hp.form;have c0:=zh a4;have q5:=hl.ts;clear hm hl hc hi hp l0;obtain ⟨R,hR⟩:=zak (cutB m ch p.task p.side p.kids.length);rw [<-hR];have b9:=zh hR;obtain ⟨tk,g8⟩:=zak p.task;obtain ⟨s,hs⟩:=zak p.side;obtain ⟨nk,g5⟩:=zak p.kids.length;rw [<-g8,<-hs,<-g5] at b9;rw [<-hs] at c0 a4 o1;rw [<-g8,<-hs,<-g5];clear hR g8 hs g5;obtain ⟨c,j7⟩:=zak (AD m ch);have e6:=zh j7;clear j7
 go_enter Tryz.func96,Tryz.ntmps96
 go_upto_region 1 with fail;obtain ⟨f4,r0,r1,r2,r3,r4,r5⟩:=CG w (.int .i64 m.w) (.int .i64 m.h) (.int .i64 m.l) (.slice Af m.free.length cf) (.slice Au m.up.length cu) (.slice At m.tasks.length ct);have g7:(w.alloc (.cells #[.int .i64 m.w,.int .i64 m.h,.int .i64 m.l,.slice Af m.free.length cf,.slice Au m.up.length cu,.slice At m.tasks.length ct] 32)).heap.size=w.heap.size+1:=by simp
 generalize w.alloc _=w0 at f4 r0 r1 r2 r3 r4 r5 g7⊢;obtain ⟨c8,p0,p1,p2⟩:=box3 w0 (.int .i64 tk) (.slice As s.length cs) (.slice Ak nk ck);generalize w0.alloc _=w1 at c8 p0 p1 p2⊢;rw [g7] at p0 p1 p2;obtain ⟨gm,f9⟩:=zak w.heap.size;rw [<-f9] at r0 r1 r2 r3 r4 r5 p0 p1 p2⊢;have p3:Hid (gm=w.heap.size):=f9;have a6:=zh c8;have o:=zh (f4.trans c8);have r0:=fun W h=>r0 W (a6.out.trans h)
 have r1:=fun W h=>r1 W (a6.out.trans h)
 have r2:=fun W h=>r2 W (a6.out.trans h)
 have r3:=fun W h=>r3 W (a6.out.trans h)
 have r4:=fun W h=>r4 W (a6.out.trans h)
 have r5:=fun W h=>r5 W (a6.out.trans h)
 clear f9 f4 c8 g7;have E:zb w1 w1:=zb.refl w1
 go_wp2_with fail
 refine (Ek w1 (HM.out.below o.out) HL.out (e5.out.below o.out) (by have:=b7.out;omega)).mono ?_;rintro e w2 ⟨vpp,rfl,f1,d9⟩;have b8:=zh d9;have o4:zb w1 w2:=f1;obtain ⟨_,⟨App,cpp,rfl,-,-⟩,-⟩:=d9
 have HV:Hid (∀W,zb w2 W->Calls Tryz.prog 95 #[.agg #[.int .i64 m.w,.int .i64 m.h,.int .i64 m.l,.slice Af m.free.length cf,.slice Au m.up.length cu,.slice At m.tasks.length ct],.slice App (zv m ch).length cpp] W fun e w'=>e=.returned (.int .i64 c)/\zb W w'):=fun W hW=>by
  rw [e6.out];exact DH W (HM.out.below ((o.out.trans f1).trans hW)) HL.out (b8.out.below hW) b7.out.1 (fun x E=>by have:=(b7.out.2.2.2 x E).2;omega)
 clear f1 E;obtain ⟨PL,d5⟩:=zak ((zv m ch).length);rw [<-d5] at HV b8⊢;clear d5;have hy:zb w2 w2:=zb.refl w2
 go_wp2_with fail
 refine (HV.out _ hy).mono ?_;rintro e w3 ⟨rfl,f2⟩;have E:zb w1 w3:=zb.trans ‹zb w1 w2› f2;have d4:=zh (b8.out.below f2);clear HV f2 hy o4 b8;go_upto_region 3 with fail;obtain ⟨bad,d6⟩:∃bad:Bool,bad=decide (tk<c\/(m.tasks.length:Int)<=tk\/(tk=c/\s=[])\/nk≠0):=⟨_,rfl⟩;have J:=zh d6;clear d6;go_cut [54] (fun v wx=>v=.bool bad/\w3=wx)
 case first=>
  by_cases h1:tk<(c:Int)
  ·have M:Hid (bad=true):=by (show _=_);rw [J.out];exact EQ (.inl h1)
   go_wp2_with fail
   go_meet;exact ⟨by rw [M.out],rfl⟩
  ·by_cases h2:(m.tasks.length:Int)<=tk
   ·have M:Hid (bad=true):=by (show _=_);rw [J.out];exact EQ (.inr (.inl h2))
    go_wp2_with fail
    go_meet;exact ⟨by rw [M.out],rfl⟩
   ·by_cases h3:tk=(c:Int)
    ·have m9:(tk==(c:Int))=true:=by rw [beq_iff_eq];exact h3
     by_cases h4:s=[]
     ·have M:Hid (bad=true):=by (show _=_);rw [J.out];exact EQ (.inr (.inr (.inl ⟨h3,h4⟩)))
      have n2:((s.length:Int)==0)=true:=by rw [h4];rfl
      clear h3 h4
      go_wp2_with fail
      go_meet;exact ⟨by rw [M.out],rfl⟩
     ·have M:Hid (bad=decide (0<nk)):=by
       (show _=_)
       rw [J.out,decide_eq_decide];constructor
       ·rintro (h | h | h | h)
        ·exact absurd h h1
        ·exact absurd h h2
        ·exact absurd h.2 h4
        ·omega
       ·intro h;exact .inr (.inr (.inr (by omega)))
      have n2:((s.length:Int)==0)=false:=by
       rw [Fa];intro h;exact h4 (Fe (by omega))
      clear h3 h4
      go_wp2_with fail
      go_meet;refine ⟨?_,rfl⟩;rw [M.out]
      all_goals (first | rfl | (congr 1;done) | (congr 1;rw [decide_eq_decide];omega))
    ·have m9:(tk==(c:Int))=false:=by rw [Fa];exact h3
     have M:Hid (bad=decide (0<nk)):=by
      (show _=_)
      rw [J.out,decide_eq_decide];constructor
      ·rintro (h | h | h | h)
       ·exact absurd h h1
       ·exact absurd h h2
       ·exact absurd h.1 h3
       ·omega
      ·intro h;exact .inr (.inr (.inr (by omega)))
     clear h3
     go_wp2_with fail
     go_meet;refine ⟨?_,rfl⟩;rw [M.out]
     all_goals (first | rfl | (congr 1;done) | (congr 1;rw [decide_eq_decide];omega))
 case rest=>
  obtain ⟨rfl,rfl⟩:=hcut
  cases bad with
  | true=>
   have HF:Hid (R=false):=by
    (show _=_)
    have:=zah J.out.symm;rw [e6.out] at this;rw [b9.out];unfold cutB;rw [if_pos this]
   go_wp2_with fail
   go_ret;exact ⟨zf HF.out.symm,o.out.trans E⟩
  | false=>
   have k5:=of_decide_eq_false J.out.symm
   have HF:Hid (R=(incB m.n (-1) s && (!(s.any fun n=>decide (n∈(m.tasks.getD tk.toNat ([],[])).2)) && ((BP m ch tk.toNat).all (fun n=>decide (n∈s)) && wallB m ch tk.toNat s)))):=by
    (show _=_)
    have:=k5;rw [e6.out] at this;rw [b9.out];unfold cutB;rw [if_neg this]
   obtain ⟨t,ht⟩:∃t:Nat,tk=t:=⟨tk.toNat,by omega⟩;subst ht;rw [FF] at HF;have k9:t<m.tasks.length:=by omega
   have T:=zh k9;have k1:(t:Int)<(m.tasks.length:Int):=by omega
   have k0:(0:Int)<=(t:Int):=by omega
   clear k5 J b9;have p9:=G.out.dim.n1;have o6:=G.out.dim.layer;have o7:IntKind.i64.wrap (m.w*m.h)=m.w*m.h:=by rw [Fi];omega
   have o8:IntKind.i64.wrap (m.w*m.h*m.l)=m.w*m.h*m.l:=by rw [Fi];omega
   have c4:Hid ((incB m.n (-1) s && !(s.any fun n=>decide (n∈(m.tasks.getD t ([],[])).2)))=true↔∀i,i<s.length->stepOk m.n (m.tasks.getD t ([],[])).2 s i):=side_iff;obtain ⟨bt,offt,sn,u1,u2,rfl,-,-,-,d7,-,g4⟩:=AO m6.out T.out;have o3:=(HL.out.tl _ (EO T.out)).2;have i4:Hid ((m.tasks.getD t ([],[])).2=(m.tasks[t]'T.out).2):=by (show _=_);rw [EM,EL T.out];rfl
   obtain ⟨tg,k8⟩:=zak ((m.tasks[t]'T.out).2);rw [<-k8] at g4 o3 i4;rw [i4.out] at c4 HF;have i5:=zh (g4.below o.out);obtain ⟨Atg,ctg,rfl,-,-⟩:=g4;have rtg:=zb.rule (o.out.cell d7);have i6:=zh E;have e8:=zh (show zN w okp 1 As s.length (s.map (Value.int .i64)) from by obtain ⟨A',c',e,-,h⟩:=c0.out;injection e with e1 e2 e3;rw [e1];exact h);clear k8 d7 a4 E
   go_wp2_with fail
   go_loopw [10] (fun i wr=>∃k:Nat,k<=s.length/\i=.int .i64 k/\Hid (∀j,j<k->stepOk m.n tg s j)/\Hid (zb w3 wr)) (fun i _=>s.length - (intOf i).toNat)
   case atStart=>exact ⟨0,Fb _,rfl,fun j hj=>by omega,zb.refl _⟩
   case round=>
    obtain ⟨k,hk,rfl,a7,hE⟩:=hrel;obtain ⟨wk,rfl⟩:∃wk:World,wk=wr:=⟨_,rfl⟩;have E:zb w1 wk:=i6.out.trans hE.out;by_cases I:k<s.length
    ·have d8:(k:Int)<(s.length:Int):=by omega
     have kk0:(0:Int)<=(k:Int):=by omega
     obtain ⟨bs,offs,rfl,-,a3⟩:=zy e8.out I I;have g0:s.getD k 0=s[k]:=zgd I
     obtain ⟨x,V⟩:=zak (s[k]);rw [<-V] at a3 g0;have rx:=zb.rule (o.out.cell a3)
     obtain ⟨ob,g6⟩:∃ob:Bool,ob=true↔stepOk m.n tg s k:=by
      by_cases h:stepOk m.n tg s k
      ·exact ⟨true,by simp [h]⟩
      ·exact ⟨false,by simp [h]⟩
     have b6:Hid (ob=true↔0<=x/\x<m.n/\(0<k->s.getD (k - 1) 0<x)/\x∉tg):=by
      (show _↔_)
      rw [g6];unfold stepOk;rw [g0]
     have c9:=zh g6;clear a3 g0 V g6;have z:zb wk wk:=zb.refl wk;go_upto_region 8 with fail;go_cut [116] (fun v wx=>v=.bool (!ob)/\zb wk wx)
     case first=>
      by_cases h1:x<0
      ·have M:Hid (ob=false):=by (show _=_);rw [<-Bool.not_eq_true,b6.out];omega
       go_quiet (fail)
       go_wp2_with fail
       go_meet;exact ⟨by rw [M.out];rfl,z.drewN _⟩
      ·by_cases h2:m.w*m.h*m.l<=x
       ·have M:Hid (ob=false):=by (show _=_);rw [<-Bool.not_eq_true,b6.out];unfold MZ.n;omega
        go_quiet (fail)
        go_wp2_with fail
        go_meet;exact ⟨by rw [M.out];rfl,z.drewN _⟩
       ·have c5:x<m.n:=by unfold MZ.n;omega
        by_cases h3:k=0
        ·have M:Hid (ob=!decide (x∈tg)):=by
          (show _=_)
          rw [Bool.eq_iff_iff,b6.out,Bool.not_eq_true',Fl];exact ⟨fun h=>h.2.2.2,fun h=>⟨by omega,c5,fun h0=>by omega,h⟩⟩
         have j1:¬ (0<k):=by omega
         have n0:¬ ((0:Int)<(k:Int)):=by omega
         clear h3 c5;go_quiet ((go_at_call 12;refine (zL x _ (i5.out.below (E.drewN _)) (by omega)).mono ?_;rintro e w9 ⟨rfl,rfl⟩;exact ⟨rfl,⟨_,rfl⟩⟩))
         go_wp2_with fail
         go_meet;exact ⟨by rw [M.out];simp,z.drewN _⟩
        ·have j1:0<k:=by omega
         have n0:(0:Int)<(k:Int):=by omega
         have a5:k - 1<s.length:=by omega
         obtain ⟨bs',offs',e,-,f5⟩:=zy e8.out a5 a5;injection e with e;injection e with e1 e2;subst e1 e2;have g3:s.getD (k - 1) 0=s[k - 1]:=zgd a5
         obtain ⟨y,b4⟩:=zak (s[k - 1]);rw [<-b4] at f5 g3;have ry:=zb.rule (o.out.cell f5)
         have e0:Hid (ob=(decide (y<x) && !decide (x∈tg))):=by
          (show _=_)
          rw [Bool.eq_iff_iff,b6.out,g3,EZ,Bool.not_eq_true',Fl,EX];exact ⟨fun h=>⟨h.2.2.1 j1,h.2.2.2⟩,fun h=>⟨by omega,c5,fun _=>h.1,h.2⟩⟩
         have n8:IntKind.i64.wrap ((k:Int) - 1)=((k - 1:Nat):Int):=by rw [Fi];omega
         have k3:(0:Int)<=((k - 1:Nat):Int):=by omega
         have k4:((k - 1:Nat):Int)<(s.length:Int):=by omega
         clear h3 c5 f5 g3 b4;obtain ⟨k',k2⟩:∃k',k'=k - 1:=⟨_,rfl⟩;rw [<-k2] at ry n8 k3 k4 a5;clear k2;by_cases h4:x<=y
         ·have M:Hid (ob=false):=by (show _=_);rw [e0.out,ER (by omega)];rfl
          go_quiet (fail)
          go_wp2_with fail
          go_meet;exact ⟨by rw [M.out];rfl,z.drewN _⟩
         ·have M:Hid (ob=!decide (x∈tg)):=by (show _=_);rw [e0.out,EQ (by omega)];rfl
          clear e0;go_quiet ((go_at_call 12;refine (zL x _ (i5.out.below (E.drewN _)) (by omega)).mono ?_;rintro e w9 ⟨rfl,rfl⟩;exact ⟨rfl,⟨_,rfl⟩⟩))
          go_wp2_with fail
          go_meet;exact ⟨by rw [M.out];simp,z.drewN _⟩
     case rest=>
      obtain ⟨rfl,b0⟩:=hcut;have O:zb w3 wc:=hE.out.trans b0
      cases ob with
      | false=>
       have Z:Hid (R=false):=by
        (show _=_)
        have h:¬ ∀i,i<s.length->stepOk m.n tg s i:=fun h=>absurd (c9.out.2 (h k I)) (by simp)
        rw [HF.out,<-Bool.and_assoc,Bool.eq_false_iff.2 (fun h2=>h (c4.out.1 h2)),Bool.false_and]
       go_wp2_with fail
       go_ret;exact ⟨zf Z.out.symm,o.out.trans (i6.out.trans O)⟩
      | true=>
       have b3:Hid (∀j,j<k+1->stepOk m.n tg s j):=fun j hj=>by
        rcases Fk j k with h | h
        ·exact a7.out j h
        ·obtain rfl:j=k:=by omega
         exact c9.out.1 rfl
       go_wp2_with fail
       go_roundw
       case rel=>exact ⟨k+1,by omega,by go_num,b3,O⟩
       case measure=>simp [intOf];omega
    ·obtain rfl:k=s.length:=by omega
     have b5:Hid (R=((BP m ch t).all (fun n=>decide (n∈s)) && wallB m ch t s)):=by
      (show _=_)
      rw [HF.out,<-Bool.and_assoc,c4.out.2 a7.out,Bool.true_and]
     clear a7 HF c4;have h9:=zh (headP_le HL.out (ch:=ch) T.out)
     go_wp2_with fail
     refine (vhead_calls t wk (HM.out.below (o.out.trans E)) HL.out HC.out (e5.out.below (o.out.trans E)) HI.out (d4.out.below hE.out) T.out).mono ?_;rintro e w5 ⟨vb,rfl,j2,f3⟩;have e9:Hid (zb w1 w5):=E.trans j2;have m0:=zh f3;obtain ⟨B,hB⟩:=zak (BP m ch t);rw [<-hB] at f3 m0 b5 h9;obtain ⟨Ab,cb,rfl,-,k6⟩:=f3;have m1:=zh k6;clear hB k6 j2 E hE d4;have E:=e9.out
     go_wp2_with fail
     have i7:=zh (zb.refl w5);go_loopw [12] (fun i wr=>∃j:Nat,j<=B.length/\i=.int .i64 j/\Hid ((B.take j).all (fun n=>decide (n∈s))=true)/\Hid (zb w5 wr)) (fun i _=>B.length - (intOf i).toNat)
     case atStart=>exact ⟨0,Fb _,rfl,rfl,i7.out⟩
     case round=>
      obtain ⟨j,hj,rfl,Q,hE⟩:=hrel;obtain ⟨wj,rfl⟩:∃wj:World,wj=wr:=⟨_,rfl⟩;have E:zb w1 wj:=e9.out.trans hE.out;have p5:B.length<=20000000000000:=h9.out;by_cases I:j<B.length
      ·have d8:(j:Int)<(B.length:Int):=by omega
       have kk0:(0:Int)<=(j:Int):=by omega
       obtain ⟨bb,offb,rfl,-,a1⟩:=zy m1.out I I;have D:=EU I;have a9:Hid (B[j]∈B):=EO I;obtain ⟨x,V⟩:=zak (B[j]);rw [<-V] at a1 D a9;have HT:=zh D;have rb:∀W,zb w1 W/\zb wj W->W.cell? ⟨bb,offb+j,none⟩=some (.int .i64 x):=fun W h=>(hE.out.trans h.2).cell a1
       clear D a1 V;have z:zb wj wj:=zb.refl wj;go_upto_region 14 with fail;have rb:∀n,(wj.drewN n).cell? ⟨bb,offb+j,none⟩=some (.int .i64 x):=fun n=>rb _ ⟨E.drewN n,z.drewN n⟩
       go_cut [136] (fun v wx=>v=.bool (!decide (x∈s))/\zb wj wx)
       case first=>
        go_quiet ((go_at_call 12;refine (zL x _ (c0.out.below (o.out.trans (E.drewN _))) (by omega)).mono ?_;rintro e w9 ⟨rfl,rfl⟩;exact ⟨rfl,⟨_,rfl⟩⟩))
        go_wp2_with fail
        go_meet;exact ⟨rfl,z.drewN _⟩
       case rest=>
        obtain ⟨rfl,b0⟩:=hcut;have O:zb w5 wc:=hE.out.trans b0;by_cases b2:x∈s
        ·have hd:decide (x∈s)=true:=EQ b2;rw [hd];have a0:Hid ((B.take (j+1)).all (fun n=>decide (n∈s))=true):=by (show _=_);rw [HT.out,List.all_append,Q.out];simpa using b2
         clear b2 hd
         go_wp2_with fail
         go_roundw
         case rel=>exact ⟨j+1,by omega,by go_num,a0,O⟩
         case measure=>simp [intOf];omega
        ·have hd:decide (x∈s)=false:=ER b2;rw [hd]
         have Z:Hid (R=false):=by
          (show _=_)
          rw [b5.out,Bool.and_eq_false_iff]
          left
          rw [List.all_eq_false];exact ⟨x,a9.out,by rw [hd];simp⟩
         clear b2 hd
         go_wp2_with fail
         go_ret;exact ⟨zf Z.out.symm,o.out.trans (e9.out.trans O)⟩
      ·obtain rfl:j=B.length:=by omega
       have h6:Hid (R=wallB m ch t s):=by
        (show _=_)
        have h:=Q.out;rw [EY] at h;rw [b5.out,h,Bool.true_and]
       clear Q b5;have m8:=zh E;clear E hE;have i8:=zh (zb.refl wj)
       go_wp2_with fail
       go_loopw [13] (fun i wr=>∃k:Nat,k<=s.length/\i=.int .i64 k/\Hid (∀n∈s.take k,(BC m n).all (fun k=>!(zl m t k && !decide (k∈ch)) || decide (k∈s))=true)/\Hid (zb wj wr)) (fun i _=>s.length - (intOf i).toNat)
       case atStart=>exact ⟨0,Fb _,rfl,fun n hn=>by simp at hn,i8.out⟩
       case round=>
        obtain ⟨k,hk,rfl,a7,hE⟩:=hrel;obtain ⟨wk,rfl⟩:∃wk:World,wk=wr:=⟨_,rfl⟩;have E:zb w1 wk:=m8.out.trans hE.out;by_cases I:k<s.length
        ·have d8:(k:Int)<(s.length:Int):=by omega
         have kk0:(0:Int)<=(k:Int):=by omega
         obtain ⟨bs,offs,rfl,-,a3⟩:=zy e8.out I I;have D:=EU I;have i2:Hid (s[k]∈s):=EO I;obtain ⟨x,V⟩:=zak (s[k]);rw [<-V] at a3 D i2;have rx:=zb.rule (o.out.cell a3);have HT:=zh D;clear a3 D V;go_upto_region 19 with fail;have z:zb wk wk:=zb.refl wk
         go_region_held3 (fun w'=>zb w1 w'/\zb wk w')
          (first | (exact ⟨E.drew,z.drew⟩) | (exact ⟨E.drew.trans c7.ext,z.drew.trans c7.ext⟩))
          ((go_at_call 53;refine (EA x _ (HM.out.below (o.out.trans E.drew)) HL.out).mono ?_;rintro e wn ⟨v9,rfl,c7⟩))
         rename_i hS
         have j3:zb w1 wn:=hS.1;have i0:=zh c7.ints;have m3:=zh hS.2;have o0:=nextO_len m x;have i3:Hid (∀y∈BC m x,0<=y/\y<m.n):=fun y hy=>nextO_rng G.out hy
         obtain ⟨L,hL⟩:=zak (BC m x);rw [<-hL] at i0 o0 i3;have i1:=zh hL;obtain ⟨AL,cL,rfl,-,k7⟩:=i0.out;have m2:=zh k7;clear c7 hL k7 hS E z;have i9:=zh j3;have j0:=zh (zb.refl wn);clear j3
         go_wp2_with fail
         go_loopw [15] (fun i wr=>∃j:Nat,j<=L.length/\i=.int .i64 j/\Hid ((L.take j).all (fun k=>!(zl m t k && !decide (k∈ch)) || decide (k∈s))=true)/\Hid (zb wn wr)) (fun i _=>L.length - (intOf i).toNat)
         case atStart=>exact ⟨0,Fb _,rfl,rfl,j0.out⟩
         case round=>
          obtain ⟨j,hj,rfl,Q,c6⟩:=hrel;obtain ⟨wj,rfl⟩:∃wj:World,wj=wr:=⟨_,rfl⟩;have E:zb w1 wj:=i9.out.trans c6.out;by_cases U:j<L.length
          ·have n9:(j:Int)<(L.length:Int):=by omega
           have kk02:(0:Int)<=(j:Int):=by omega
           obtain ⟨bl,offl,rfl,-,a1⟩:=zy m2.out U U;have D:=EU U;obtain ⟨l1,l2⟩:=i3.out _ (EO U);have a9:Hid (L[j]∈L):=EO U;obtain ⟨y,b4⟩:=zak (L[j]);rw [<-b4] at a1 D a9 l1 l2;have m5:=zh D;obtain ⟨bf,off,b',off',l,c',rfl,j5,hl,p8,p6,j6⟩:=Dq l8.out G.out.fn (by rw [G.out.fl];exact T.out) l1 l2;have q1:=zb.rule (o.out.cell j5);have q2:=zb.rule (o.out.cell j6);have q3:∀n,(wj.drewN n).cell? ⟨bl,offl+j,none⟩=some (.int .i64 y):=fun n=>(c6.out.drewN n).cell a1
           have kf1:(t:Int)<(m.free.length:Int):=by have:=G.out.fl;omega
           obtain ⟨fv,f8⟩:=zak (zl m t y);rw [<-f8] at q2;have h7:=zh f8;clear f8 j5 j6 D a1 b4;have z:zb wj wj:=zb.refl wj;obtain ⟨bd,j4⟩:∃bd:Bool,bd=(fv && (!decide (y∈ch) && !decide (y∈s))):=⟨_,rfl⟩;have e4:=zh j4;clear j4;go_upto_region 23 with fail;go_cut [187] (fun v wx=>v=.bool bd/\zb wj wx)
           case first=>
            obtain ⟨dc,f6⟩:=zak (decide (y∈ch));obtain ⟨ds,f7⟩:=zak (decide (y∈s));have h8:Hid (∀W,zb wj W->Calls Tryz.prog 12 #[.slice Ac ch.length cc,.int .i64 y] W fun e w'=>e=.returned (.bool dc)/\W=w'):=fun W hW=>by rw [f6];exact zL y W (e5.out.below (o.out.trans (E.trans hW))) (by have:=b7.out;omega)
            have l9:Hid (∀W,zb wj W->Calls Tryz.prog 12 #[.slice (some ⟨bs,offs,none⟩) s.length cs,.int .i64 y] W fun e w'=>e=.returned (.bool ds)/\W=w'):=fun W hW=>by rw [f7];exact zL y W (c0.out.below (o.out.trans (E.trans hW))) (by omega)
            have M:Hid (bd=(fv && (!dc && !ds))):=by (show _=_);rw [e4.out,f6,f7]
            clear f6 f7
            cases fv with
            | false=>
             go_quiet (fail)
             go_wp2_with fail
             go_meet;exact ⟨by rw [M.out];rfl,z.drewN _⟩
            | true=>
             cases dc with
             | true=>
              go_quiet ((go_at_call 12;with_reducible refine (h8.out _ (z.drewN _)).mono ?_;rintro e w8 ⟨b1,rfl⟩;exact ⟨b1,⟨_,rfl⟩⟩))
              go_wp2_with fail
              go_meet;exact ⟨by rw [M.out];rfl,z.drewN _⟩
             | false=>
              go_quiet (first | (go_at_call 12;with_reducible refine (h8.out _ (z.drewN _)).mono ?_;rintro e w8 ⟨b1,rfl⟩;exact ⟨b1,⟨_,rfl⟩⟩) | (go_at_call 12;with_reducible refine (l9.out _ (z.drewN _)).mono ?_;rintro e w8 ⟨b1,rfl⟩;exact ⟨b1,⟨_,rfl⟩⟩))
              go_wp2_with fail
              go_meet;exact ⟨by rw [M.out];cases ds <;> rfl,z.drewN _⟩
           case rest=>
            obtain ⟨rfl,b0⟩:=hcut;have O:zb wn wc:=c6.out.trans b0
            cases bd with
            | true=>
             have Z:Hid (R=false):=by
              (show _=_)
              have h:=e4.out;rw [eq_comm,EZ,EZ] at h;obtain ⟨h1,h2,h3⟩:=h;rw [h6.out];unfold wallB;rw [List.all_eq_false];refine ⟨x,i2.out,?_⟩;rw [<-i1.out,Bool.not_eq_true,List.all_eq_false];exact ⟨y,a9.out,by rw [<-h7.out,h1,h2];simpa using h3⟩
             go_wp2_with fail
             go_ret;exact ⟨zf Z.out.symm,o.out.trans (i9.out.trans O)⟩
            | false=>
             have a0:Hid ((L.take (j+1)).all (fun k=>!(zl m t k && !decide (k∈ch)) || decide (k∈s))=true):=by
              (show _=_)
              rw [m5.out,List.all_append,Q.out,Bool.true_and,List.all_cons,List.all_nil,Bool.and_true,<-h7.out];have h:=e4.out
              revert h
              cases fv <;> cases decide (y∈ch) <;> cases decide (y∈s) <;> simp
             go_wp2_with fail
             go_roundw
             case rel=>exact ⟨j+1,by omega,by go_num,a0,O⟩
             case measure=>simp [intOf];omega
          ·obtain rfl:j=L.length:=by omega
           have b3:Hid (∀n∈s.take (k+1),(BC m n).all (fun k=>!(zl m t k && !decide (k∈ch)) || decide (k∈s))=true):=fun n hn=>by
            rw [HT.out] at hn;rcases FE.1 hn with hn | hn
            ·exact a7.out n hn
            ·obtain rfl:n=x:=by simpa using hn
             rw [<-i1.out];have h:=Q.out
             rwa [EY] at h
           have O:=zh (m3.out.trans c6.out);clear E
           go_wp2_with fail
           go_roundw
           case rel=>exact ⟨k+1,by omega,by go_num,b3,hE.out.trans O.out⟩
           case measure=>simp [intOf];omega
        ·obtain rfl:k=s.length:=by omega
         have Z:Hid (R=true):=by
          (show _=_)
          have h:=a7.out;rw [EY] at h;rw [h6.out];unfold wallB;rw [zag];exact h
         go_wp2_with fail
         go_ret;exact ⟨zf Z.out.symm,o.out.trans E⟩
end
section
open Go.RowKit
attribute [local go_sem ↓] Go.wp_at_zero Go.wp_at_succ
attribute [local go_sem] Oper.semAt_some
mutual
def PT.Lens:PT->Prop
 | .node _ s ks=>s.length<=20000000000000/\ks.length<=20000000000000/\PT.LensL ks
def PT.LensL:List PT->Prop
 | []=>True
 | k :: ks=>k.Lens/\PT.LensL ks
end
theorem lensL_mem:∀{ks:List PT},PT.LensL ks->∀k∈ks,k.Lens
 | [],_,k,hk=>by cases hk
 | a :: ks,h,k,hk=>by
  unfold PT.LensL at h;rcases FD.1 hk with rfl | hk
  ·exact h.1
  ·exact lensL_mem h.2 k hk
theorem size_mem:∀{ks:List PT},∀k∈ks,k.size<=PT.sizeL ks
 | [],k,hk=>by cases hk
 | a :: ks,k,hk=>by
  unfold PT.sizeL;rcases FD.1 hk with rfl | hk
  ·omega
  ·have:=size_mem k hk;omega
theorem with_calls29 (n:Int) (w:World) (J:zi w okc vc ch) (hl:ch.length<=1000000000):
  Calls Tryz.prog 98 #[vc,.int .i64 n] w fun e w'=>∃v',e=.returned v'/\Mk w w' v' (ch++[n]):=by
 have Q:=zh J;obtain ⟨A,c,rfl,Z,-⟩:=J
 go_enter Tryz.func98,Tryz.ntmps98
 go_upto_region 1 with fail
 go_wp2_with (at_builtin;refine BV (ok:=okc) rfl _ _ _ rfl w.heap.size [] ch _ _ rfl rfl (Dr w w.heap.size (EN _)) (Q.out.below ((zb.refl w).alloc _)) (by simp) (by simp;omega) ?_)
 intro v1 w1 z L G;have o:zb w w1:=Ae ((zb.refl w).alloc _) L (by simp) (fun k U=>Bq (Dr w w.heap.size (EN _)) U);have D:=zh z;obtain ⟨A1,n1,c1,rfl⟩:=Cy z;have T:=zh o;have E:Hid (w.heap.size<=w1.heap.size):=o.size;clear z L G o
 go_wp2_with (at_builtin;refine BV (ok:=fun _=>True) rfl _ _ _ rfl w.heap.size ch [n] _ _ rfl rfl (D.out.ext ((zb.refl w1).alloc (.cells #[.int .i64 n] 3))) (DB (zr w1 (.int .i64 n) 3 rfl)) (by have:=E.out;simp;omega) (by simp;omega) ?_)
 intro v2 w2 O M I;have V:Hid (Mk w w2 v2 (ch++[n])):=⟨O,Ae (T.out.alloc _) M (by have:=E.out;simp;omega) (fun k U=>Bq D.out U)⟩;clear O M I
 go_wp2_with fail
 go_ret;exact ⟨_,rfl,V.out⟩
theorem sizeL_app:∀(a b:List PT),PT.sizeL (a++b)=PT.sizeL a+PT.sizeL b
 | [],b=>by simp [PT.sizeL]
 | k :: a,b=>by
  rw [List.cons_append];simp only [PT.sizeL,sizeL_app a b];omega
theorem kidsAt {w:World} {A:Option Addr} {n:Nat} {cs:List Value} (h:zN w ok 3 A n cs) (E:k<n):∃b off,A=some ⟨b,off,none⟩/\w.cell? ⟨b,off+k*3,none⟩=some (cs.getD (k*3) undef)/\w.cell? ⟨b,off+k*3+1,none⟩=some (cs.getD (k*3+1) undef)/\w.cell? ⟨b,off+k*3+2,none⟩=some (cs.getD (k*3+2) undef):=by
 obtain ⟨G,o⟩:=h;obtain ⟨b,off,rfl,-,o⟩:=o (by omega);have z:∀j,j<cs.length->cs[j]?=some (cs.getD j undef):=fun j D=>by rw [EL D,EM,EL D];rfl
 exact ⟨b,off,rfl,o _ _ (z _ (by omega)),by rw [Nat.add_assoc];exact o _ _ (z _ (by omega)),by rw [Nat.add_assoc];exact o _ _ (z _ (by omega))⟩
theorem vsize_calls:∀(N:Nat) {ok:Nat->Prop} {v:Value} {p:PT} (w:World),En w ok v p->p.size<=N->p.Lens->N<=4000000000000000000->
  Calls Tryz.prog 70 #[v] w fun e w'=>e=.returned (.int .i64 p.size)/\zb w w'
 | 0,ok,v,.node t s ks,w,h,hN,_,_=>by unfold PT.size at hN;omega
 | N+1,ok,v,.node t s ks,w,h,hN,hl,b2=>by
  have IH:Hid (∀(ok:Nat->Prop) (v:Value) (p:PT) (w:World),En w ok v p->p.size<=N->p.Lens->N<=4000000000000000000->Calls Tryz.prog 70 #[v] w fun e w'=>e=.returned (.int .i64 p.size)/\zb w w'):=fun ok v p w=>vsize_calls N w
  cases h with
  | mk hs hk he=>
   rename_i vs vk cs
   obtain ⟨As,cs',rfl,-,-⟩:=hs;obtain ⟨Ak,ck,rfl,b3,Q⟩:=hk;have V:=zh Q;have T:=zh he;unfold PT.Lens at hl;obtain ⟨b4,b5,M⟩:=hl;have U:=zh (lensL_mem M);have Z:Hid (∀k∈ks,k.size<=PT.sizeL ks):=size_mem;unfold PT.size at hN⊢;clear Q he M
   go_enter Tryz.func70,Tryz.ntmps70
   go_upto_region 1 with fail;obtain ⟨G,p0,p1,p2⟩:=box3 w (.int .i64 t) (.slice As s.length cs') (.slice Ak ks.length ck);generalize w.alloc _=w1 at G p0 p1 p2⊢;obtain ⟨gp,L⟩:=zak w.heap.size;rw [<-L] at p0 p1 p2⊢;have o:=zh G;have a1:=zh (zb.refl w1);clear G L
   go_wp2_with fail
   go_loopw [3,4] (fun n i wr=>∃k:Nat,k<=ks.length/\i=.int .i64 k/\n=.int .i64 ((1+PT.sizeL (ks.take k):Nat):Int)/\Hid (zb w1 wr)) (fun _ i _=>ks.length - (intOf i).toNat)
   case atStart=>exact ⟨0,Fb _,rfl,rfl,a1.out⟩
   case round=>
    obtain ⟨k,hk,rfl,rfl,hE⟩:=hrel;obtain ⟨wk,rfl⟩:∃wk:World,wk=wr:=⟨_,rfl⟩;have hx:zb w1 wk:=hE.out;by_cases D:k<ks.length
    ·have a8:(k:Int)<(ks.length:Int):=by omega
     have kk0:(0:Int)<=(k:Int):=by omega
     obtain ⟨b,off,rfl,h0,h1,h2⟩:=kidsAt V.out D;have q0:=zb.rule (o.out.cell h0);have q1:=zb.rule (o.out.cell h1);have q2:=zb.rule (o.out.cell h2);have O:=T.out k D
     have E:Hid (PT.sizeL (ks.take (k+1))=PT.sizeL (ks.take k)+(ks[k]).size):=by
      (show _=_)
      rw [EU D,sizeL_app];simp [PT.sizeL]
     have a0:Hid (PT.sizeL (ks.take (k+1))<=PT.sizeL ks):=by
      (show _<=_)
      conv=>rhs;rw [<-List.take_append_drop (k+1) ks,sizeL_app]
      omega
     have I:=zh (IH.out _ _ _ wk (O.ext (o.out.trans hx)) (by have:=Z.out _ (EO D);omega) (U.out _ (EO D)) (by omega));obtain ⟨z,hz⟩:=zak ((ks[k]).size);rw [<-hz] at E I;obtain ⟨y,hy⟩:=zak (PT.sizeL (ks.take k));rw [<-hy] at E⊢;have hb:1+y+z<=4000000000000000000:=by have h1:=E.out;have h2:=a0.out;omega
     clear h0 h1 h2 O hz hy
     go_wp2_with fail
     refine I.out.mono ?_;rintro e w9 ⟨rfl,J⟩;have a3:=zh (hx.trans J);clear J;have b7:IntKind.i64.wrap (((1+y:Nat):Int)+(z:Int))=((1+y:Nat):Int)+(z:Int):=by rw [Fi];omega
     go_wp2_with fail
     go_roundw
     case rel=>exact ⟨k+1,by omega,by go_num,by rw [E.out];congr 1;omega,a3.out⟩
     case measure=>simp [intOf];omega
    ·obtain rfl:k=ks.length:=by omega
     go_wp2_with fail
     go_ret;exact ⟨by rw [EY];rfl,o.out.trans hx⟩
theorem holdsT_node {t:Int} {ks:List PT} (h:¬ m.tasks.length<=AD m ch):Cp m (.node t s ks) ch=if t≠AD m ch\/s≠[] then cutB m ch t s ks.length else Ch m ks ch (AK m ch):=by
 unfold Cp;rw [if_neg h]
theorem holdsL_len {m:MZ} {ch:List Int}:∀{ks:List PT} {l:List Int},ks.length≠l.length->Ch m ks ch l=false
 | [],[],h=>absurd rfl h
 | k :: ks,n :: l,h=>by
  unfold Ch;rw [holdsL_len (by simpa using h),Bool.and_false]
 | [],_ :: _,_=>by unfold Ch;rfl
 | _ :: _,[],_=>by unfold Ch;rfl
theorem holdsL_drop {ks:List PT} {l:List Int} (h1:k<ks.length) (h2:k<l.length):Ch m (ks.drop k) ch (l.drop k)=(Cp m ks[k] (ch++[l[k]]) && Ch m (ks.drop (k+1)) ch (l.drop (k+1))):=by
 rw [List.drop_eq_getElem_cons h1,List.drop_eq_getElem_cons h2]
 conv=>lhs;unfold Ch
theorem holdsT_done {p:PT} (h:m.tasks.length<=AD m ch):Cp m p ch=false:=by
 cases p
 unfold Cp;rw [if_pos h]
theorem vholds_calls {m:MZ} (hl:Lens m) (hc:AY m=0):∀(N:Nat) (ok okc okp:Nat->Prop) (v vc vp:Value) (ch:List Int) (p:PT) (w:World),zt w ok v m->zi w okc vc ch->zC m ch->¬ m.tasks.length<=AD m ch->En w okp vp p->p.size<=N->p.Lens->
  Calls Tryz.prog 71 #[v,vc,vp] w fun e w'=>e=.returned (.bool (Cp m p ch))/\zb w w'
 | 0,ok,okc,okp,v,vc,vp,ch,.node t s ks,w,_,_,_,_,_,hN,_=>by unfold PT.size at hN;omega
 | N+1,ok,okc,okp,v,vc,vp,ch,.node tk s ks,w,hm,f3,hi,c8,hp,hN,c9=>by
  have IH:=zh (vholds_calls hl hc N);have HM:=zh hm;have HL:=zh hl;have HC:=zh hc;have HI:=zh hi;have a5:=zh f3;have HP:=zh hp;have U:=zh (BQ hc hi);have j8:=zh c8;have j7:=zh (curT_le hc hi);obtain ⟨Af,cf,Au,cu,At,ct,rfl,-,-,-⟩:=hm.parts;obtain ⟨Ac,cc,rfl,-,-⟩:=f3;have k6:=hl.ts;obtain ⟨R,hR⟩:=zak (Cp m (.node tk s ks) ch);rw [<-hR];rw [holdsT_node c8] at hR;have b8:=zh hR;have j4:=zh c9;unfold PT.Lens at c9;obtain ⟨j0,k4,f8⟩:=c9;have i0:=zh (lensL_mem f8);have i3:Hid (∀k∈ks,k.size<=PT.sizeL ks):=size_mem;unfold PT.size at hN
  cases hp with
  | mk hs hk he=>
   rename_i vs vk cs
   obtain ⟨As,cs',rfl,-,-⟩:=hs;obtain ⟨Ak,ck,rfl,k2,f9⟩:=hk;have i1:=zh f9;have h7:=zh he;clear hm hl hc hi c8 hR f8 f9 he;obtain ⟨c,c7⟩:=zak (AD m ch);have h5:=zh c7;rw [<-c7] at b8;clear c7
   go_enter Tryz.func71,Tryz.ntmps71
   go_upto_region 1 with fail;obtain ⟨c5,r0,r1,r2,r3,r4,r5⟩:=CG w (.int .i64 m.w) (.int .i64 m.h) (.int .i64 m.l) (.slice Af m.free.length cf) (.slice Au m.up.length cu) (.slice At m.tasks.length ct);have d4:(w.alloc (.cells #[.int .i64 m.w,.int .i64 m.h,.int .i64 m.l,.slice Af m.free.length cf,.slice Au m.up.length cu,.slice At m.tasks.length ct] 32)).heap.size=w.heap.size+1:=by simp
   generalize w.alloc _=w0 at c5 r0 r1 r2 r3 r4 r5 d4⊢;obtain ⟨a7,p0,p1,p2⟩:=box3 w0 (.int .i64 tk) (.slice As s.length cs') (.slice Ak ks.length ck);generalize w0.alloc _=w1 at a7 p0 p1 p2⊢;rw [d4] at p0 p1 p2;obtain ⟨gm,f5⟩:=zak w.heap.size;rw [<-f5] at r0 r1 r2 r3 r4 r5 p0 p1 p2⊢;have M:=zh a7;have z:=zh (c5.trans a7);have r0:=fun W h=>r0 W (M.out.trans h)
   have r1:=fun W h=>r1 W (M.out.trans h)
   have r2:=fun W h=>r2 W (M.out.trans h)
   have r3:=fun W h=>r3 W (M.out.trans h)
   have r4:=fun W h=>r4 W (M.out.trans h)
   have r5:=fun W h=>r5 W (M.out.trans h)
   clear f5 c5 a7 d4;have G:zb w1 w1:=zb.refl w1
   go_wp2_with fail
   refine (Ek w1 (HM.out.below z.out) HL.out (a5.out.below z.out) (by have:=U.out;omega)).mono ?_;rintro e w2 ⟨vpp,rfl,c0,b3⟩;have e6:=zh b3;have b0:zb w1 w2:=c0;obtain ⟨_,⟨App,cpp,rfl,-,-⟩,-⟩:=b3
   have HV:Hid (∀W,zb w2 W->Calls Tryz.prog 95 #[.agg #[.int .i64 m.w,.int .i64 m.h,.int .i64 m.l,.slice Af m.free.length cf,.slice Au m.up.length cu,.slice At m.tasks.length ct],.slice App (zv m ch).length cpp] W fun e w'=>e=.returned (.int .i64 c)/\zb W w'):=fun W hW=>by
    rw [h5.out];exact DH W (HM.out.below ((z.out.trans c0).trans hW)) HL.out (e6.out.below hW) U.out.1 (fun x G=>by have:=(U.out.2.2.2 x G).2;omega)
   clear c0 G;obtain ⟨PL,b1⟩:=zak ((zv m ch).length);rw [<-b1] at HV e6⊢;clear b1;have hy:zb w2 w2:=zb.refl w2;go_upto_region 2 with fail;obtain ⟨bq,f0⟩:∃bq:Bool,bq=decide (tk≠(c:Int)\/s≠[]):=⟨_,rfl⟩;have I:=zh f0;clear f0;go_cut [29] (fun v wx=>v=.bool bq/\zb w2 wx)
   case first=>
    by_cases O:tk=(c:Int)
    ·have hd:(tk != (c:Int))=false:=by rw [O];simp
     have b4:Hid (bq=decide (0<s.length)):=by
      (show _=_)
      rw [I.out,decide_eq_decide];constructor
      ·rintro (h | h)
       ·exact absurd O h
       ·exact List.length_pos_iff.2 h
      ·intro h;exact .inr (List.length_pos_iff.1 h)
     clear O;refine Fd (S:=(fun W=>zb w1 W/\zb w2 W)) zU (⟨b0.drew,hy.drew⟩) fun zH=>?_;have D:zb w1 w2.drew/\zb w2 w2.drew:=zH;generalize w2.drew=wd at zH D⊢;refine ze 0 zH ?_;refine ze 1 zH ?_;simp only [za,EK];refine ze 2 zH ?_;refine ze 3 zH ?_;simp only [za,EK];refine zx 4 fun K J=>?_;go_simp;go_at_call 95;refine (HV.out _ zH.2).mono ?_;rintro e w9 ⟨rfl,o⟩;go_simp;refine zal J (⟨zH.1.trans o,zH.2.trans o⟩) fun zH=>?_;clear J K;try simp only [za,EK]
     refine ze 5 zH ?_;refine ze 6 zH ?_;simp only [za,EK];refine ze 7 zH ?_;refine ze 8 zH ?_;simp only [za,EK];refine ze 9 zH ?_;refine ze 10 zH ?_;simp only [za,EK];refine ze 11 zH ?_;simp only [za,EK];refine Fs (by kernel_rfl) ?_ _;go_wp2;go_meet;exact ⟨by rw [b4.out],D.2.trans o⟩
    ·have hd:(tk != (c:Int))=true:=by rw [bne_iff_ne];exact O
     have b4:Hid (bq=true):=by (show _=_);rw [I.out];exact EQ (.inl O)
     clear O;refine Fd (S:=(fun W=>zb w1 W/\zb w2 W)) zU (⟨b0.drew,hy.drew⟩) fun zH=>?_;have D:zb w1 w2.drew/\zb w2 w2.drew:=zH;generalize w2.drew=wd at zH D⊢;refine ze 0 zH ?_;refine ze 1 zH ?_;simp only [za,EK];refine ze 2 zH ?_;refine ze 3 zH ?_;simp only [za,EK];refine zx 4 fun K J=>?_;go_simp;go_at_call 95;refine (HV.out _ zH.2).mono ?_;rintro e w9 ⟨rfl,o⟩;go_simp;refine zal J (⟨zH.1.trans o,zH.2.trans o⟩) fun zH=>?_;clear J K;try simp only [za,EK]
     refine ze 5 zH ?_;refine ze 6 zH ?_;simp only [za,EK];refine AC 7 zH ?_;refine AC 8 zH ?_;simp only [za,EK];refine AC 9 zH ?_;refine AC 10 zH ?_;simp only [za,EK];refine ze 11 zH ?_;simp only [za,EK];refine Fs (by kernel_rfl) ?_ _;go_wp2;go_meet;exact ⟨by rw [b4.out],D.2.trans o⟩
   case rest=>
    obtain ⟨rfl,o⟩:=hcut;obtain ⟨wq,rfl⟩:∃wq:World,wq=wc:=⟨_,rfl⟩;have G:zb w1 wq:=b0.trans o;clear b0 hy o HV
    cases bq with
    | true=>
     have hb:=zah I.out.symm;have HF:Hid (R=cutB m ch tk s ks.length):=by (show _=_);rw [b8.out,if_pos hb]
     clear hb
     go_wp2_with fail
     refine (vcut_calls wq (HM.out.below (z.out.trans G)) HL.out HC.out (a5.out.below (z.out.trans G)) HI.out (HP.out.ext (z.out.trans G)) j0).mono ?_;rintro e w4 ⟨rfl,i5⟩
     go_wp2_with fail
     go_ret;exact ⟨zf HF.out.symm,(z.out.trans G).trans i5⟩
    | false=>
     have hb:=of_decide_eq_false I.out.symm;have HF:Hid (R=Ch m ks ch (AK m ch)):=by (show _=_);rw [b8.out,if_neg hb]
     clear hb
     go_wp2_with fail
     refine (qCandidates_calls wq (HM.out.below (z.out.trans G)) HL.out (a5.out.below (z.out.trans G)) (by have:=U.out;omega)).mono ?_;rintro e w4 ⟨vl,rfl,c4⟩;have d9:=zh c4.ints;have d5:zb w1 w4:=G.trans c4.ext;have b5:Hid (AK m ch=Bw m ch):=by (show _=_);unfold AK;rw [if_pos (okC_of HC.out HI.out)]
     have e3:Hid (∀n∈AK m ch,zC m (ch++[n])):=fun n hn=>by
      rw [b5.out] at hn;exact .snoc HI.out hn
     have i6:(AK m ch).length<=400000000000:=by rw [b5.out];exact DO HL.out ch
     obtain ⟨L,hL⟩:=zak (AK m ch);rw [<-hL] at d9 HF e3 i6;obtain ⟨AL,cL,rfl,-,g0⟩:=d9.out;have i2:=zh g0;have e7:=zh d5;clear c4 G hL g0 b5;by_cases a3:L.length=ks.length
     ·have hd:((L.length:Int) != (ks.length:Int))=false:=by rw [a3];simp
      have e4:=zh a3;clear a3;have e8:=zh (zb.refl w4)
      go_wp2_with fail
      clear d5;go_loopw [10] (fun i wr=>∃j:Nat,j<=L.length/\i=.int .i64 j/\Hid (R=Ch m (ks.drop j) ch (L.drop j))/\Hid (zb w4 wr)) (fun i _=>L.length - (intOf i).toNat)
      case atStart=>exact ⟨0,Fb _,rfl,HF.out,e8.out⟩
      case round=>
       obtain ⟨j,hj,rfl,hr,hE⟩:=hrel;obtain ⟨wj,rfl⟩:∃wj:World,wj=wr:=⟨_,rfl⟩;have G:zb w1 wj:=e7.out.trans hE.out;by_cases a1:j<L.length
       ·have j6:(j:Int)<(L.length:Int):=by omega
        have kk0:(0:Int)<=(j:Int):=by omega
        have E:j<ks.length:=by rw [<-e4.out];exact a1
        have i9:(j:Int)<(ks.length:Int):=by omega
        obtain ⟨bl,offl,rfl,-,b2⟩:=zy i2.out a1 a1;have f4:wj.cell? ⟨bl,offl+j,none⟩=some (.int .i64 L[j]):=hE.out.cell b2;have b6:Hid (zC m (ch++[L[j]])):=e3.out _ (EO a1);have Q:=zh (holdsL_drop (m:=m) (ch:=ch) E a1);obtain ⟨b,off,rfl,h0,h1,h2⟩:=kidsAt i1.out E;have q0:=zb.rule (z.out.cell h0);have q1:=zb.rule (z.out.cell h1);have q2:=zb.rule (z.out.cell h2);have e5:=zh (h7.out j E);have b7:Hid ((ks[j]).Lens/\(ks[j]).size<=N):=⟨i0.out _ (EO E),by have:=i3.out _ (EO E);omega⟩;obtain ⟨n,hn⟩:=zak (L[j]);obtain ⟨kd,f6⟩:=zak (ks[j]);rw [<-hn] at f4 b6 Q;rw [<-f6] at Q e5 b7;clear b2 h0 h1 h2 hn f6
        go_wp2_with fail
        refine (with_calls29 n wj (a5.out.below (z.out.trans G)) (by have:=U.out;omega)).mono ?_;rintro e w6 ⟨v6,rfl,Z⟩;have e0:=zh Z.ints;have a4:zb w1 w6:=G.trans Z.ext;have g4:zb w6 w6:=zb.refl w6;have h6:Hid (zb w4 w6):=hE.out.trans Z.ext;obtain ⟨A6,c6,rfl,-⟩:=Z.slice;obtain ⟨cb,a8⟩:=zak (decide (m.tasks.length<=AD m (ch++[n])))
        have b9:Hid (∀W,zb w6 W->Calls Tryz.prog 99 #[.agg #[.int .i64 m.w,.int .i64 m.h,.int .i64 m.l,.slice Af m.free.length cf,.slice Au m.up.length cu,.slice At m.tasks.length ct],.slice A6 (ch++[n]).length c6] W fun e w'=>e=.returned (.bool cb)/\zb W w'):=fun W hW=>by
         rw [a8];exact vComplete_calls W (HM.out.below (z.out.trans (a4.trans hW))) HL.out HC.out (e0.out.below hW) b6.out
        obtain ⟨hb,a9⟩:=zak (Cp m kd (ch++[n]))
        have a6:Hid (cb=false->∀W,zb w6 W->Calls Tryz.prog 71 #[.agg #[.int .i64 m.w,.int .i64 m.h,.int .i64 m.l,.slice Af m.free.length cf,.slice Au m.up.length cu,.slice At m.tasks.length ct],.slice A6 (ch++[n]).length c6,.agg #[cs.getD (j*3) undef,cs.getD (j*3+1) undef,cs.getD (j*3+2) undef]] W fun e w'=>e=.returned (.bool hb)/\zb W w'):=fun f2 W hW=>by
         rw [a9];rw [a8] at f2;exact IH.out _ _ _ _ _ _ _ _ W (HM.out.below (z.out.trans (a4.trans hW))) (e0.out.below hW) b6.out (of_decide_eq_false f2) (e5.out.ext (z.out.trans (a4.trans hW))) b7.out.2 b7.out.1
        have h8:Hid (cb=true->hb=false):=fun h=>by
         rw [a8] at h;rw [a9];exact holdsT_done (zah h)
        rw [<-a9] at Q;clear Z a8 a9 G f4;obtain ⟨N6,e9⟩:=zak ((ch++[n]).length);rw [<-e9] at b9 a6⊢;clear e9;go_upto_region 11 with fail;go_cut [68] (fun v wx=>v=.bool (!hb)/\zb w6 wx)
        case first=>
         cases cb with
         | true=>
          have g9:Hid (hb=false):=h8.out rfl;refine Fd (S:=(fun W=>zb w1 W/\zb w6 W)) zU (⟨a4.drew,g4.drew⟩) fun zH=>?_;have D:zb w1 w6.drew/\zb w6 w6.drew:=zH;generalize w6.drew=wd at zH D⊢;refine ze 0 zH ?_;refine ze 1 zH ?_;simp only [za,EK];refine zx 2 fun K J=>?_;go_simp;go_at_call 99;refine (b9.out _ zH.2).mono ?_;rintro e w9 ⟨rfl,o⟩;go_simp;refine zal J (⟨zH.1.trans o,zH.2.trans o⟩) fun zH=>?_;clear J K;try simp only [za,EK]
          refine ze 3 zH ?_;refine AC 4 zH ?_;simp only [za,EK];refine AC 5 zH ?_;refine AC 6 zH ?_;simp only [za,EK];refine AC 7 zH ?_;refine AC 8 zH ?_;simp only [za,EK];refine AC 9 zH ?_;refine AC 10 zH ?_;simp only [za,EK];refine AC 11 zH ?_;refine AC 12 zH ?_;simp only [za,EK];refine ze 13 zH ?_;simp only [za,EK];refine Fs (by kernel_rfl) ?_ _;go_wp2;go_meet;exact ⟨by rw [g9.out];rfl,D.2.trans o⟩
         | false=>
          have a6:=zh (a6.out rfl);refine Fd (S:=(fun W=>zb w1 W/\zb w6 W)) zU (⟨a4.drew,g4.drew⟩) fun zH=>?_;have D:zb w1 w6.drew/\zb w6 w6.drew:=zH;generalize w6.drew=wd at zH D⊢;refine ze 0 zH ?_;refine ze 1 zH ?_;simp only [za,EK];refine zx 2 fun K J=>?_;go_simp;go_at_call 99;refine (b9.out _ zH.2).mono ?_;rintro e w9 ⟨rfl,o⟩;go_simp;refine zal J (⟨zH.1.trans o,zH.2.trans o⟩) fun zH=>?_;clear J K;try simp only [za,EK]
          refine ze 3 zH ?_;refine ze 4 zH ?_;simp only [za,EK];refine ze 5 zH ?_;refine ze 6 zH ?_;simp only [za,EK];refine ze 7 zH ?_;refine ze 8 zH ?_;simp only [za,EK];refine ze 9 zH ?_;refine ze 10 zH ?_;simp only [za,EK];refine zx 11 fun K J=>?_;go_simp;go_at_call 71;refine (a6.out _ zH.2).mono ?_;rintro e w10 ⟨rfl,V⟩;go_simp;refine zal J (⟨zH.1.trans V,zH.2.trans V⟩) fun zH=>?_;clear J K;try simp only [za,EK]
          refine ze 12 zH ?_;refine ze 13 zH ?_;simp only [za,EK];refine Fs (by kernel_rfl) ?_ _;go_wp2;go_meet;exact ⟨by first | rfl | simp,(D.2.trans o).trans V⟩
        case rest=>
         obtain ⟨rfl,o⟩:=hcut;have g3:zb w4 wc:=h6.out.trans o
         cases hb with
         | false=>
          have T:Hid (R=false):=by (show _=_);rw [hr.out,Q.out,Bool.false_and]
          go_wp2_with fail
          go_ret;exact ⟨zf T.out.symm,z.out.trans (e7.out.trans g3)⟩
         | true=>
          have j2:Hid (R=Ch m (ks.drop (j+1)) ch (L.drop (j+1))):=by (show _=_);rw [hr.out,Q.out,Bool.true_and]
          go_wp2_with fail
          go_roundw
          case rel=>exact ⟨j+1,by omega,by go_num,j2,g3⟩
          case measure=>simp [intOf];omega
       ·obtain rfl:j=L.length:=by omega
        have T:Hid (R=true):=by
         (show _=_)
         rw [hr.out,List.drop_length,e4.out,List.drop_length];unfold Ch;rfl
        go_wp2_with fail
        go_ret;exact ⟨zf T.out.symm,z.out.trans G⟩
     ·have hd:((L.length:Int) != (ks.length:Int))=true:=by rw [bne_iff_ne];omega
      have T:Hid (R=false):=by (show _=_);rw [HF.out];exact holdsL_len (fun h=>a3 h.symm)
      clear a3
      go_wp2_with fail
      go_ret;exact ⟨zf T.out.symm,z.out.trans d5⟩
theorem pathsO_nil (o:AY m=0):zv m []=[]:=by
 unfold zv;rw [if_pos (okC_of o zC.nil)];rw [List.filter_eq_nil_iff];intro x z;have h1:=(zC.nil (m:=m)).psOk;have h3:=flat_le z;rw [h1.fl] at h3;have:x.length=0:=by simpa using h3
 simp [this]
theorem curT_nil (o:AY m=0):AD m []=0:=by
 unfold AD;rw [pathsO_nil o];rfl
theorem vCheck_calls {p:PT} (w:World) (hm:zt w ok v m) (hl:Lens m) (hp:En w okp vp p) (a0:p.Lens) (b1:p.size<=4000000000000000000):
  Calls Tryz.prog 35 #[v,vp] w fun e w'=>e=.returned (.bool (checkP m p))/\zb w w':=by
 have HM:=zh hm;have HL:=zh hl;have HP:=zh hp;have Q:=zh a0;have T:=zh b1;obtain ⟨Af,cf,Au,cu,At,ct,rfl,-,-,-⟩:=hm.parts;obtain ⟨As,cs,Ak,ck,rfl,-⟩:=hp.form;have b8:=hl.ts;clear hm hl hp a0;obtain ⟨R,hR⟩:=zak (checkP m p);rw [<-hR];have HR:=zh hR;clear hR
 go_enter Tryz.func35,Tryz.ntmps35
 go_upto_region 1 with fail;obtain ⟨L,r0,r1,r2,r3,r4,r5⟩:=CG w (.int .i64 m.w) (.int .i64 m.h) (.int .i64 m.l) (.slice Af m.free.length cf) (.slice Au m.up.length cu) (.slice At m.tasks.length ct);have M:(w.alloc (.cells #[.int .i64 m.w,.int .i64 m.h,.int .i64 m.l,.slice Af m.free.length cf,.slice Au m.up.length cu,.slice At m.tasks.length ct] 32)).heap.size=w.heap.size+1:=by simp
 generalize w.alloc _=w0 at L r0 r1 r2 r3 r4 r5 M⊢;obtain ⟨I,p0,p1,p2⟩:=box3 w0 (.int .i64 p.task) (.slice As p.side.length cs) (.slice Ak p.kids.length ck);generalize w0.alloc _=w1 at I p0 p1 p2⊢;rw [M] at p0 p1 p2;obtain ⟨gm,Z⟩:=zak w.heap.size;rw [<-Z] at r0 r1 r2 r3 r4 r5 p0 p1 p2⊢;have D:=zh I;have o:=zh (L.trans I);have r0:=fun W h=>r0 W (D.out.trans h)
 have r1:=fun W h=>r1 W (D.out.trans h)
 have r2:=fun W h=>r2 W (D.out.trans h)
 have r3:=fun W h=>r3 W (D.out.trans h)
 have r4:=fun W h=>r4 W (D.out.trans h)
 have r5:=fun W h=>r5 W (D.out.trans h)
 clear Z L I M;have G:zb w1 w1:=zb.refl w1
 go_wp2_with fail
 refine (Cm w1 (HM.out.below o.out) HL.out).mono ?_;rintro e w2 ⟨rfl,U⟩;clear G;have G:zb w1 w2:=U;obtain ⟨ck0,E⟩:∃c,c=AY m:=⟨_,rfl⟩;rw [<-E];have O:=zh E;clear U E;by_cases h0:ck0=0
 ·subst h0;have HC:Hid (AY m=0):=O.out.symm;by_cases h1:0<m.tasks.length
  ·have a5:(0:Int)<(m.tasks.length:Int):=by omega
   have a4:Hid (¬ m.tasks.length<=AD m []):=by (show ¬ _);rw [curT_nil HC.out];omega
   go_wp2_with fail
   refine (vsize_calls 4000000000000000000 w2 (HP.out.ext (o.out.trans G)) T.out Q.out (EN _)).mono ?_;rintro e w3 ⟨rfl,V⟩;have G:zb w1 w3:=G.trans V;obtain ⟨z,hz⟩:=zak p.size;rw [<-hz];have HZ:=zh hz;clear hz V;by_cases h2:z<=3000
   ·have a7:(z:Int)<=3000:=by omega
    go_wp2_with fail
    refine (vholds_calls HL.out HC.out 4000000000000000000 _ _ _ _ _ _ _ _ w3 (HM.out.below (o.out.trans G)) (zi.nil _ (fun _=>True)) zC.nil a4.out (HP.out.ext (o.out.trans G)) T.out Q.out).mono ?_;rintro e w4 ⟨rfl,a8⟩;have J:Hid (R=Cp m p []):=by (show _=_);rw [HR.out];unfold checkP;rw [EQ HC.out,EQ h1,<-HZ.out,EQ h2];rfl
    go_wp2_with fail
    go_ret;exact ⟨zf J.out.symm,(o.out.trans G).trans a8⟩
   ·have a7:¬ ((z:Int)<=3000):=by omega
    have J:Hid (R=false):=by (show _=_);rw [HR.out];unfold checkP;rw [<-HZ.out,ER h2];simp
    go_wp2_with fail
    go_ret;exact ⟨zf J.out.symm,o.out.trans G⟩
  ·have a5:¬ ((0:Int)<(m.tasks.length:Int)):=by omega
   have a6:m.tasks.length=0:=by omega
   have J:Hid (R=false):=by (show _=_);rw [HR.out];unfold checkP;rw [ER h1];simp
   clear a6
   go_wp2_with fail
   go_ret;exact ⟨zf J.out.symm,o.out.trans G⟩
 ·have b7:(ck0==0)=false:=by rw [Fa];exact h0
  have J:Hid (R=false):=by (show _=_);rw [HR.out];unfold checkP;rw [ER (by rw [<-O.out];exact h0)];rfl
  clear h0
  go_wp2_with fail
  go_ret;exact ⟨zf J.out.symm,o.out.trans G⟩
end
section
open Go.RowKit
mutual
def lensB:PT->Bool
 | .node _ s ks=>decide (s.length<=20000000000000) && (decide (ks.length<=20000000000000) && lensLB ks)
def lensLB:List PT->Bool
 | []=>true
 | k :: ks=>lensB k && lensLB ks
end
mutual
theorem lens_ofB:∀(p:PT),lensB p=true->p.Lens
 | .node _ s ks,h=>by
  unfold lensB at h;simp only [EZ,EX] at h;unfold PT.Lens;exact ⟨h.1,h.2.1,lensL_ofB ks h.2.2⟩
theorem lensL_ofB:∀(ks:List PT),lensLB ks=true->PT.LensL ks
 | [],_=>by unfold PT.LensL;exact True.intro
 | k :: ks,h=>by
  unfold lensLB at h;simp only [EZ] at h;unfold PT.LensL;exact ⟨lens_ofB k h.1,lensL_ofB ks h.2⟩
end
def e1:MZ:=exN [(0,2),(1,7),(6,8)]
def e2:MZ:=exN [(3,5),(1,7),(6,8)]
theorem e1_chk:AY e1=0:=by decide +kernel
theorem e2_chk:AY e2=0:=by decide +kernel
theorem e1_path:Br e1 0 []=some [0,1,2]:=by decide +kernel
theorem e1_path2:Br e1 0 [[1]]=some [0,3,6,7,8,5,2]:=by decide +kernel
theorem e1_add:(addX e1 [[0,1,2],[],[]] 2).err=0/\(addX e1 [[0,1,2],[],[]] 2).ps=[[0,1,2],[],[6,7,8]]/\(addX e1 [[0,1,2],[],[]] 2).mv=[]:=by decide +kernel
theorem e2_add:(addX e2 [[],[],[6,7,8]] 0).err=0/\(addX e2 [[],[],[6,7,8]] 0).ps=[[3,0,1,2,5],[],[6,7,8]]/\(addX e2 [[],[],[6,7,8]] 0).mv=[]:=by decide +kernel
theorem e2_add2:(addX e2 [[3,6,7,8,5],[],[]] 2).err=0/\(addX e2 [[3,6,7,8,5],[],[]] 2).ps=[[3,0,1,2,5],[],[6,7,8]]/\(addX e2 [[3,6,7,8,5],[],[]] 2).mv=[0]:=by decide +kernel
theorem e1_ref:(addX e1 [[0,1,2],[],[]] 1).err=54/\checkP (CK e1 [[0,1,2],[],[]] 1) (addX e1 [[0,1,2],[],[]] 1).why=true:=by decide +kernel
theorem e1_why:lensB (addX e1 [[0,1,2],[],[]] 1).why=true/\(addX e1 [[0,1,2],[],[]] 1).why.size<=4000000000000000000:=by decide +kernel
theorem e1_laid:(AV e1 [[0,1,2],[],[]] && AM e1 1)=true:=by decide +kernel
end
section
open Go.RowKit
attribute [local go_sem ↓] Go.wp_at_zero Go.wp_at_succ
theorem intss3 {w:World} {v2 v3:Value} {b c:List Int} (z:zg w g 23 #[v1,v2,v3]) (D:ok g) (h1:zi w ok v1 a) (h2:zi w ok v2 b) (h3:zi w ok v3 c):zq w ok (.slice (some ⟨g,0,none⟩) 3 3) [a,b,c]:=by
 refine ⟨[v1,v2,v3],⟨_,_,rfl,EN _,zN.block (cs:=#[v1,v2,v3]) z D rfl⟩,fun i x o=>?_⟩
 match i,o with
 | 0,o=>(injection o with o;subst o;exact ⟨_,rfl,h1⟩)
 | 1,o=>(injection o with o;subst o;exact ⟨_,rfl,h2⟩)
 | 2,o=>(injection o with o;subst o;exact ⟨_,rfl,h3⟩)
 | k+3,o=>cases o
theorem intss1 {w:World} (z:zg w g 23 #[v1]) (D:ok g) (h1:zi w ok v1 a):zq w ok (.slice (some ⟨g,0,none⟩) 1 1) [a]:=by
 refine ⟨[v1],⟨_,_,rfl,EN _,zN.block (cs:=#[v1]) z D rfl⟩,fun i x o=>?_⟩
 match i,o with
 | 0,o=>(injection o with o;subst o;exact ⟨_,rfl,h1⟩)
 | k+1,o=>cases o
theorem e1_lens:Lens e1:=⟨by decide,by decide,by decide,by decide⟩
theorem e2_lens:Lens e2:=⟨by decide,by decide,by decide,by decide⟩
def wK1 (w:World):World:=(((((w.alloc (.cells #[.int .i64 0,.int .i64 1,.int .i64 2] 3)).alloc (.cells #[.slice (some ⟨w.heap.size,0,none⟩) 3 3,.slice none 0 0,.slice none 0 0] 23)).alloc (.cells #[.int .i64 0,.int .i64 1,.int .i64 2] 3)).alloc (.cells #[.int .i64 6,.int .i64 7,.int .i64 8] 3)).alloc (.cells #[.slice (some ⟨w.heap.size+1+1,0,none⟩) 3 3,.slice none 0 0,.slice (some ⟨w.heap.size+1+1+1,0,none⟩) 3 3] 23))
theorem kadd1 (w:World) (E:zt w ok v e1):Calls Tryz.prog 34 #[v,.slice (some ⟨w.heap.size+1,0,none⟩) 3 3,.int .i64 2,.slice (some ⟨w.heap.size+1+1+1+1,0,none⟩) 3 3,.slice none 0 0] (wK1 w) fun e w'=>e=.returned (.bool true)/\zb w w':=by
 have D:zb w (wK1 w):=(((((zb.refl _).alloc _).alloc _).alloc _).alloc _).alloc _;have G:zq (wK1 w) (fun _=>True) (.slice (some ⟨w.heap.size+1,0,none⟩) 3 3) [[0,1,2],[],[]]:=(intss3 (zg.ext (zg.new _ _ _ (by simp)) ((((zb.refl _).alloc _).alloc _).alloc _)) trivial ⟨_,_,rfl,EN _,zN.block (cs:=#[.int .i64 0,.int .i64 1,.int .i64 2]) (zg.ext (zg.new _ _ _ (by simp)) (((((zb.refl _).alloc _).alloc _).alloc _).alloc _)) trivial rfl⟩ (zi.nil _ _) (zi.nil _ _));have J:zq (wK1 w) (fun _=>True) (.slice (some ⟨w.heap.size+1+1+1+1,0,none⟩) 3 3) [[0,1,2],[],[6,7,8]]:=(intss3 (zg.ext (zg.new _ _ _ (by simp)) (zb.refl _)) trivial ⟨_,_,rfl,EN _,zN.block (cs:=#[.int .i64 0,.int .i64 1,.int .i64 2]) (zg.ext (zg.new _ _ _ (by simp)) (((zb.refl _).alloc _).alloc _)) trivial rfl⟩ (zi.nil _ _) ⟨_,_,rfl,EN _,zN.block (cs:=#[.int .i64 6,.int .i64 7,.int .i64 8]) (zg.ext (zg.new _ _ _ (by simp)) ((zb.refl _).alloc _)) trivial rfl⟩);have I:zi (wK1 w) (fun _=>True) (.slice none 0 0) []:=(zi.nil _ _);have h:=Ev 2 _ (E.below D) e1_lens G (by decide) (by decide) J (by decide) (by decide) I (by decide);rw [add_x (zI.of e1_chk).dim] at h;obtain ⟨h1,h2,h3⟩:=e1_add;have z:=h (by rw [h2];decide) (by rw [h2];decide) (by rw [h3];decide);rw [h1,h2,h3] at z;refine z.mono ?_;rintro e w' ⟨rfl,o⟩;exact ⟨rfl,D.trans o⟩
def wK2 (w:World):World:=(((((w.alloc (.cells #[.int .i64 6,.int .i64 7,.int .i64 8] 3)).alloc (.cells #[.slice none 0 0,.slice none 0 0,.slice (some ⟨w.heap.size,0,none⟩) 3 3] 23)).alloc (.cells #[.int .i64 3,.int .i64 0,.int .i64 1,.int .i64 2,.int .i64 5] 3)).alloc (.cells #[.int .i64 6,.int .i64 7,.int .i64 8] 3)).alloc (.cells #[.slice (some ⟨w.heap.size+1+1,0,none⟩) 5 5,.slice none 0 0,.slice (some ⟨w.heap.size+1+1+1,0,none⟩) 3 3] 23))
theorem kadd2 (w:World) (E:zt w ok v e2):Calls Tryz.prog 34 #[v,.slice (some ⟨w.heap.size+1,0,none⟩) 3 3,.int .i64 0,.slice (some ⟨w.heap.size+1+1+1+1,0,none⟩) 3 3,.slice none 0 0] (wK2 w) fun e w'=>e=.returned (.bool true)/\zb w w':=by
 have D:zb w (wK2 w):=(((((zb.refl _).alloc _).alloc _).alloc _).alloc _).alloc _;have G:zq (wK2 w) (fun _=>True) (.slice (some ⟨w.heap.size+1,0,none⟩) 3 3) [[],[],[6,7,8]]:=(intss3 (zg.ext (zg.new _ _ _ (by simp)) ((((zb.refl _).alloc _).alloc _).alloc _)) trivial (zi.nil _ _) (zi.nil _ _) ⟨_,_,rfl,EN _,zN.block (cs:=#[.int .i64 6,.int .i64 7,.int .i64 8]) (zg.ext (zg.new _ _ _ (by simp)) (((((zb.refl _).alloc _).alloc _).alloc _).alloc _)) trivial rfl⟩);have J:zq (wK2 w) (fun _=>True) (.slice (some ⟨w.heap.size+1+1+1+1,0,none⟩) 3 3) [[3,0,1,2,5],[],[6,7,8]]:=(intss3 (zg.ext (zg.new _ _ _ (by simp)) (zb.refl _)) trivial ⟨_,_,rfl,EN _,zN.block (cs:=#[.int .i64 3,.int .i64 0,.int .i64 1,.int .i64 2,.int .i64 5]) (zg.ext (zg.new _ _ _ (by simp)) (((zb.refl _).alloc _).alloc _)) trivial rfl⟩ (zi.nil _ _) ⟨_,_,rfl,EN _,zN.block (cs:=#[.int .i64 6,.int .i64 7,.int .i64 8]) (zg.ext (zg.new _ _ _ (by simp)) ((zb.refl _).alloc _)) trivial rfl⟩);have I:zi (wK2 w) (fun _=>True) (.slice none 0 0) []:=(zi.nil _ _);have h:=Ev 0 _ (E.below D) e2_lens G (by decide) (by decide) J (by decide) (by decide) I (by decide);rw [add_x (zI.of e2_chk).dim] at h;obtain ⟨h1,h2,h3⟩:=e2_add;have z:=h (by rw [h2];decide) (by rw [h2];decide) (by rw [h3];decide);rw [h1,h2,h3] at z;refine z.mono ?_;rintro e w' ⟨rfl,o⟩;exact ⟨rfl,D.trans o⟩
def wK3 (w:World):World:=((((((w.alloc (.cells #[.int .i64 3,.int .i64 6,.int .i64 7,.int .i64 8,.int .i64 5] 3)).alloc (.cells #[.slice (some ⟨w.heap.size,0,none⟩) 5 5,.slice none 0 0,.slice none 0 0] 23)).alloc (.cells #[.int .i64 3,.int .i64 0,.int .i64 1,.int .i64 2,.int .i64 5] 3)).alloc (.cells #[.int .i64 6,.int .i64 7,.int .i64 8] 3)).alloc (.cells #[.slice (some ⟨w.heap.size+1+1,0,none⟩) 5 5,.slice none 0 0,.slice (some ⟨w.heap.size+1+1+1,0,none⟩) 3 3] 23)).alloc (.cells #[.int .i64 0] 3))
theorem kadd3 (w:World) (E:zt w ok v e2):Calls Tryz.prog 34 #[v,.slice (some ⟨w.heap.size+1,0,none⟩) 3 3,.int .i64 2,.slice (some ⟨w.heap.size+1+1+1+1,0,none⟩) 3 3,.slice (some ⟨w.heap.size+1+1+1+1+1,0,none⟩) 1 1] (wK3 w) fun e w'=>e=.returned (.bool true)/\zb w w':=by
 have D:zb w (wK3 w):=((((((zb.refl _).alloc _).alloc _).alloc _).alloc _).alloc _).alloc _;have G:zq (wK3 w) (fun _=>True) (.slice (some ⟨w.heap.size+1,0,none⟩) 3 3) [[3,6,7,8,5],[],[]]:=(intss3 (zg.ext (zg.new _ _ _ (by simp)) (((((zb.refl _).alloc _).alloc _).alloc _).alloc _)) trivial ⟨_,_,rfl,EN _,zN.block (cs:=#[.int .i64 3,.int .i64 6,.int .i64 7,.int .i64 8,.int .i64 5]) (zg.ext (zg.new _ _ _ (by simp)) ((((((zb.refl _).alloc _).alloc _).alloc _).alloc _).alloc _)) trivial rfl⟩ (zi.nil _ _) (zi.nil _ _));have J:zq (wK3 w) (fun _=>True) (.slice (some ⟨w.heap.size+1+1+1+1,0,none⟩) 3 3) [[3,0,1,2,5],[],[6,7,8]]:=(intss3 (zg.ext (zg.new _ _ _ (by simp)) ((zb.refl _).alloc _)) trivial ⟨_,_,rfl,EN _,zN.block (cs:=#[.int .i64 3,.int .i64 0,.int .i64 1,.int .i64 2,.int .i64 5]) (zg.ext (zg.new _ _ _ (by simp)) ((((zb.refl _).alloc _).alloc _).alloc _)) trivial rfl⟩ (zi.nil _ _) ⟨_,_,rfl,EN _,zN.block (cs:=#[.int .i64 6,.int .i64 7,.int .i64 8]) (zg.ext (zg.new _ _ _ (by simp)) (((zb.refl _).alloc _).alloc _)) trivial rfl⟩);have I:zi (wK3 w) (fun _=>True) (.slice (some ⟨w.heap.size+1+1+1+1+1,0,none⟩) 1 1) [0]:=⟨_,_,rfl,EN _,zN.block (cs:=#[.int .i64 0]) (zg.ext (zg.new _ _ _ (by simp)) (zb.refl _)) trivial rfl⟩;have h:=Ev 2 _ (E.below D) e2_lens G (by decide) (by decide) J (by decide) (by decide) I (by decide);rw [add_x (zI.of e2_chk).dim] at h;obtain ⟨h1,h2,h3⟩:=e2_add2;have z:=h (by rw [h2];decide) (by rw [h2];decide) (by rw [h3];decide);rw [h1,h2,h3] at z;refine z.mono ?_;rintro e w' ⟨rfl,o⟩;exact ⟨rfl,D.trans o⟩
theorem ex3_calls (a b c d e f:Int) (w:World):
  Calls Tryz.prog 33 #[.slice (some ⟨w.heap.size,0,none⟩) 3 3] (w.alloc (.cells #[.int .i64 a,.int .i64 b,.int .i64 c,.int .i64 d,.int .i64 e,.int .i64 f] 70)) fun e' w'=>∃v,e'=.returned v/\zb w w'/\zt w' (fun x=>w.heap.size<=x) v (exN [(a,b),(c,d),(e,f)]):=by
 refine (kexample_calls [(a,b),(c,d),(e,f)] w.heap.size _ (by simp) ?_).mono ?_
 ·intro k x o;have z:zg (w.alloc (.cells #[.int .i64 a,.int .i64 b,.int .i64 c,.int .i64 d,.int .i64 e,.int .i64 f] 70)) w.heap.size 70 _:=zg.new _ _ _ rfl
  match k,o with
  | 0,o=>(injection o with o;subst o;exact ⟨z.cell (k:=0) rfl,z.cell (k:=1) rfl⟩)
  | 1,o=>(injection o with o;subst o;exact ⟨z.cell (k:=2) rfl,z.cell (k:=3) rfl⟩)
  | 2,o=>(injection o with o;subst o;exact ⟨z.cell (k:=4) rfl,z.cell (k:=5) rfl⟩)
  | k+3,o=>cases o
 rintro e w1 ⟨v1,rfl,D,E⟩;exact ⟨v1,rfl,zb.trans ((zb.refl w).alloc _) D,E.weaken fun b z=>by simp at z;omega⟩
theorem ksanity_calls (w:World):
  Calls Tryz.prog 8 #[] w fun e w'=>e=.returned (.bool true)/\zb w w':=by
 go_enter Tryz.func8,Tryz.ntmps8
 go_wp2_with fail
 refine (ex3_calls 0 2 1 7 6 8 w).mono ?_;rintro e w1 ⟨v1,rfl,f0,e8⟩;have b1:Hid (zt w1 (fun b=>w.heap.size<=b) v1 e1):=e8;clear e8;obtain ⟨Af,cf,Au,cu,At,ct,rfl,-,-,-⟩:=b1.out.parts;go_upto_region 2 with fail;obtain ⟨a5,r0,r1,r2,r3,r4,r5⟩:=CG w1 (.int .i64 e1.w) (.int .i64 e1.h) (.int .i64 e1.l) (.slice Af e1.free.length cf) (.slice Au e1.up.length cu) (.slice At e1.tasks.length ct);generalize w1.alloc _=w2 at a5 r0 r1 r2 r3 r4 r5⊢;obtain ⟨g1,f2⟩:∃g,g=w1.heap.size:=⟨_,rfl⟩;rw [<-f2] at r0 r1 r2 r3 r4 r5⊢;clear f2;have d8:Hid (zb w w2):=f0.trans a5;have c4:=zh (b1.out.below a5);clear f0 b1 a5
 go_wp2_with fail
 refine (ex3_calls 3 5 1 7 6 8 w2).mono ?_;rintro e w3 ⟨v3,rfl,T,e9⟩;have b2:Hid (zt w3 (fun b=>w2.heap.size<=b) v3 e2):=e9;clear e9;obtain ⟨Bf,df,Bu,du,Bt,dt,rfl,-,-,-⟩:=b2.out.parts;go_upto_region 3 with fail;obtain ⟨Q,s0,s1,s2,s3,s4,s5⟩:=CG w3 (.int .i64 e2.w) (.int .i64 e2.h) (.int .i64 e2.l) (.slice Bf e2.free.length df) (.slice Bu e2.up.length du) (.slice Bt e2.tasks.length dt);generalize w3.alloc _=w4 at Q s0 s1 s2 s3 s4 s5⊢;obtain ⟨g3,f3⟩:∃g,g=w3.heap.size:=⟨_,rfl⟩;rw [<-f3] at s0 s1 s2 s3 s4 s5⊢;clear f3;have b5:Hid (zb w2 w4):=T.trans Q;have g5:=zh (b2.out.below Q);have c8:=zh (c4.out.below b5.out);have k0:=fun W h=>r0 W ((T.trans Q).trans h)
 have k1:=fun W h=>r1 W ((T.trans Q).trans h)
 have k2:=fun W h=>r2 W ((T.trans Q).trans h)
 have k3:=fun W h=>r3 W ((T.trans Q).trans h)
 have k4:=fun W h=>r4 W ((T.trans Q).trans h)
 have k5:=fun W h=>r5 W ((T.trans Q).trans h)
 clear r0 r1 r2 r3 r4 r5 T Q b2 c4;have i4:zb w4 w4:=zb.refl w4;have E:=Ah w4
 go_wp2_with fail
 have hp:=Ej 0 w4 c8.out e1_lens (Da w4 fun _=>True) (by simp) (by simp);rw [e1_path] at hp;refine hp.mono ?_;rintro e w5 ⟨u5,rfl,f5⟩;have U:Mk w4 w5 u5 [0,1,2]:=f5;clear hp f5;obtain ⟨Ap,cp,rfl,-⟩:=Bk U.own;have G:=zh U.ext;have h5:Hid (zi w5 (fun b=>w4.heap.size<=b) (.slice Ap ([0,1,2]:List Int).length cp) [0,1,2]):=zV.of_own U.own;clear U;have q0:=fun W h=>k0 W (G.out.trans h)
 have t0:=fun W h=>s0 W (G.out.trans h)
 have q1:=fun W h=>k1 W (G.out.trans h)
 have t1:=fun W h=>s1 W (G.out.trans h)
 have q2:=fun W h=>k2 W (G.out.trans h)
 have t2:=fun W h=>s2 W (G.out.trans h)
 have q3:=fun W h=>k3 W (G.out.trans h)
 have t3:=fun W h=>s3 W (G.out.trans h)
 have q4:=fun W h=>k4 W (G.out.trans h)
 have t4:=fun W h=>s4 W (G.out.trans h)
 have q5:=fun W h=>k5 W (G.out.trans h)
 have t5:=fun W h=>s5 W (G.out.trans h)
 clear k0 k1 k2 k3 k4 k5 s0 s1 s2 s3 s4 s5 i4 E;have g6:=zh (g5.out.below G.out);have c9:=zh (c8.out.below G.out);have i5:zb w5 w5:=zb.refl w5;have E:=Ah w5;go_upto_region 4 with fail
 go_wp2_with fail
 have b6:zb w5 ((w5.alloc (.cells #[.int .i64 1] 3)).alloc (.cells #[.slice (some ⟨w5.heap.size,0,none⟩) 1 1] 23)):=((zb.refl _).alloc _).alloc _
 have f1:zq ((w5.alloc (.cells #[.int .i64 1] 3)).alloc (.cells #[.slice (some ⟨w5.heap.size,0,none⟩) 1 1] 23)) (fun _=>True) (.slice (some ⟨w5.heap.size+1,0,none⟩) 1 1) [[1]]:=
  intss1 (zg.new _ _ _ (by simp)) trivial ⟨_,_,rfl,EN _,zN.block (cs:=#[.int .i64 1]) (zg.ext (zg.new w5 _ 3 rfl) ((zb.refl _).alloc _)) trivial rfl⟩
 have hp:=Ej 0 _ (c9.out.below b6) e1_lens f1 (by simp) (by simp);rw [e1_path2] at hp;refine hp.mono ?_;rintro e w6 ⟨u6,rfl,f6⟩;have V:Mk _ w6 u6 [0,3,6,7,8,5,2]:=f6;clear hp f6;obtain ⟨Aq,cq,rfl,-⟩:=Bk V.own;have o:Hid (zb w5 w6):=b6.trans V.ext;have h7:Hid (zi w6 _ (.slice Aq ([0,3,6,7,8,5,2]:List Int).length cq) [0,3,6,7,8,5,2]):=zV.of_own V.own;clear V b6 f1;have k0:=fun W h=>q0 W (o.out.trans h)
 have s0:=fun W h=>t0 W (o.out.trans h)
 have k1:=fun W h=>q1 W (o.out.trans h)
 have s1:=fun W h=>t1 W (o.out.trans h)
 have k2:=fun W h=>q2 W (o.out.trans h)
 have s2:=fun W h=>t2 W (o.out.trans h)
 have k3:=fun W h=>q3 W (o.out.trans h)
 have s3:=fun W h=>t3 W (o.out.trans h)
 have k4:=fun W h=>q4 W (o.out.trans h)
 have s4:=fun W h=>t4 W (o.out.trans h)
 have k5:=fun W h=>q5 W (o.out.trans h)
 have s5:=fun W h=>t5 W (o.out.trans h)
 clear q0 q1 q2 q3 q4 q5 t0 t1 t2 t3 t4 t5 i5 E;have h6:=zh (h5.out.below o.out);have g7:=zh (g6.out.below o.out);have h4:=zh (c9.out.below o.out);have i6:zb w6 w6:=zb.refl w6;have E:=Ah w6;go_upto_region 5 with fail
 go_wp2_with fail
 have e3:zi (w6.alloc (.cells #[.int .i64 0,.int .i64 1,.int .i64 2] 3)) (fun _=>True) (.slice (some ⟨w6.heap.size,0,none⟩) 3 3) [0,1,2]:=⟨_,_,rfl,EN _,zN.block (cs:=#[.int .i64 0,.int .i64 1,.int .i64 2]) (zg.new w6 _ 3 rfl) trivial rfl⟩;refine (Ck _ (h6.out.below ((zb.refl w6).alloc _)) e3 (by simp) (by simp)).mono ?_;rintro e w7 ⟨rfl,hD⟩;have z:Hid (zb w6 w7):=zb.trans ((zb.refl w6).alloc _) (hD.below _);clear hD e3;rw [show decide (([0,1,2]:List Int)=[0,1,2])=true from rfl];have q0:=fun W h=>k0 W (z.out.trans h)
 have t0:=fun W h=>s0 W (z.out.trans h)
 have q1:=fun W h=>k1 W (z.out.trans h)
 have t1:=fun W h=>s1 W (z.out.trans h)
 have q2:=fun W h=>k2 W (z.out.trans h)
 have t2:=fun W h=>s2 W (z.out.trans h)
 have q3:=fun W h=>k3 W (z.out.trans h)
 have t3:=fun W h=>s3 W (z.out.trans h)
 have q4:=fun W h=>k4 W (z.out.trans h)
 have t4:=fun W h=>s4 W (z.out.trans h)
 have q5:=fun W h=>k5 W (z.out.trans h)
 have t5:=fun W h=>s5 W (z.out.trans h)
 clear k0 k1 k2 k3 k4 k5 s0 s1 s2 s3 s4 s5 i6 E;have i7:zb w7 w7:=zb.refl w7;have E:=Ah w7
 go_wp2_with fail
 have e4:zi (w7.alloc (.cells #[.int .i64 0,.int .i64 3,.int .i64 6,.int .i64 7,.int .i64 8,.int .i64 5,.int .i64 2] 3)) (fun _=>True) (.slice (some ⟨w7.heap.size,0,none⟩) 7 7) [0,3,6,7,8,5,2]:=⟨_,_,rfl,EN _,zN.block (cs:=#[.int .i64 0,.int .i64 3,.int .i64 6,.int .i64 7,.int .i64 8,.int .i64 5,.int .i64 2]) (zg.new w7 _ 3 rfl) trivial rfl⟩;refine (Ck _ (h7.out.below (z.out.trans ((zb.refl w7).alloc _))) e4 (by simp) (by simp)).mono ?_;rintro e w8 ⟨rfl,hD⟩;have I:Hid (zb w7 w8):=zb.trans ((zb.refl w7).alloc _) (hD.below _);clear hD e4;rw [show decide (([0,3,6,7,8,5,2]:List Int)=[0,3,6,7,8,5,2])=true from rfl];have k0:=fun W h=>q0 W (I.out.trans h)
 have s0:=fun W h=>t0 W (I.out.trans h)
 have k1:=fun W h=>q1 W (I.out.trans h)
 have s1:=fun W h=>t1 W (I.out.trans h)
 have k2:=fun W h=>q2 W (I.out.trans h)
 have s2:=fun W h=>t2 W (I.out.trans h)
 have k3:=fun W h=>q3 W (I.out.trans h)
 have s3:=fun W h=>t3 W (I.out.trans h)
 have k4:=fun W h=>q4 W (I.out.trans h)
 have s4:=fun W h=>t4 W (I.out.trans h)
 have k5:=fun W h=>q5 W (I.out.trans h)
 have s5:=fun W h=>t5 W (I.out.trans h)
 clear q0 q1 q2 q3 q4 q5 t0 t1 t2 t3 t4 t5 i7 E;have g8:=zh ((g7.out.below z.out).below I.out);have d4:=zh ((h4.out.below z.out).below I.out);have i8:zb w8 w8:=zb.refl w8;have E:=Ah w8;go_upto_region 6 with fail
 go_wp2_with fail
 refine (kadd1 w8 d4.out).mono ?_;rintro e w9 ⟨rfl,hE⟩;have J:=zh hE;clear hE;have q0:=fun W h=>k0 W (J.out.trans h)
 have t0:=fun W h=>s0 W (J.out.trans h)
 have q1:=fun W h=>k1 W (J.out.trans h)
 have t1:=fun W h=>s1 W (J.out.trans h)
 have q2:=fun W h=>k2 W (J.out.trans h)
 have t2:=fun W h=>s2 W (J.out.trans h)
 have q3:=fun W h=>k3 W (J.out.trans h)
 have t3:=fun W h=>s3 W (J.out.trans h)
 have q4:=fun W h=>k4 W (J.out.trans h)
 have t4:=fun W h=>s4 W (J.out.trans h)
 have q5:=fun W h=>k5 W (J.out.trans h)
 have t5:=fun W h=>s5 W (J.out.trans h)
 clear k0 k1 k2 k3 k4 k5 s0 s1 s2 s3 s4 s5 i8 E;have b3:=zh (g8.out.below J.out);have d5:=zh (d4.out.below J.out);have O:zb w9 w9:=zb.refl w9;have E:=Ah w9
 go_wp2_with fail
 refine (kadd2 w9 b3.out).mono ?_;rintro e wa ⟨rfl,hE⟩;have L:=zh hE;clear hE;have k0:=fun W h=>q0 W (L.out.trans h)
 have s0:=fun W h=>t0 W (L.out.trans h)
 have k1:=fun W h=>q1 W (L.out.trans h)
 have s1:=fun W h=>t1 W (L.out.trans h)
 have k2:=fun W h=>q2 W (L.out.trans h)
 have s2:=fun W h=>t2 W (L.out.trans h)
 have k3:=fun W h=>q3 W (L.out.trans h)
 have s3:=fun W h=>t3 W (L.out.trans h)
 have k4:=fun W h=>q4 W (L.out.trans h)
 have s4:=fun W h=>t4 W (L.out.trans h)
 have k5:=fun W h=>q5 W (L.out.trans h)
 have s5:=fun W h=>t5 W (L.out.trans h)
 clear q0 q1 q2 q3 q4 q5 t0 t1 t2 t3 t4 t5 O E;have c5:=zh (b3.out.below L.out);have b4:=zh (d5.out.below L.out);have a4:zb wa wa:=zb.refl wa;have E:=Ah wa;go_upto_region 7 with fail
 go_wp2_with fail
 have b7:zb wa ((wa.alloc (.cells #[.int .i64 0,.int .i64 1,.int .i64 2] 3)).alloc (.cells #[.slice (some ⟨wa.heap.size,0,none⟩) 3 3,.slice none 0 0,.slice none 0 0] 23)):=((zb.refl _).alloc _).alloc _
 have hf:zq ((wa.alloc (.cells #[.int .i64 0,.int .i64 1,.int .i64 2] 3)).alloc (.cells #[.slice (some ⟨wa.heap.size,0,none⟩) 3 3,.slice none 0 0,.slice none 0 0] 23)) (fun _=>True) (.slice (some ⟨wa.heap.size+1,0,none⟩) 3 3) [[0,1,2],[],[]]:=
  intss3 (zg.new _ _ _ (by simp)) trivial ⟨_,_,rfl,EN _,zN.block (cs:=#[.int .i64 0,.int .i64 1,.int .i64 2]) (zg.ext (zg.new wa _ _ rfl) ((zb.refl _).alloc _)) trivial rfl⟩ (zi.nil _ _) (zi.nil _ _)
 have hp:=hadd_calls 1 _ (b4.out.below b7) e1_lens hf (by decide) (by decide);rw [add_x (zI.of e1_chk).dim] at hp;refine hp.mono ?_;rintro e wb ⟨vp,vmm,vy,rfl,hE,f8,f7,a6⟩;rw [e1_ref.1];have b9:=e1_ref.2;have c0:=e1_why;generalize addX e1 [[0,1,2],[],[]] 1=r at f8 f7 a6 b9 c0;obtain ⟨As,cs,Ak,ck,rfl,-⟩:=a6.form;have M:=zh (b7.trans hE);have HY:=zh a6;have g4:=zh b9;have d9:=zh c0;clear hE hp hf b7 f8 f7 a6 b9 c0;have q0:=fun W h=>k0 W (M.out.trans h)
 have t0:=fun W h=>s0 W (M.out.trans h)
 have q1:=fun W h=>k1 W (M.out.trans h)
 have t1:=fun W h=>s1 W (M.out.trans h)
 have q2:=fun W h=>k2 W (M.out.trans h)
 have t2:=fun W h=>s2 W (M.out.trans h)
 have q3:=fun W h=>k3 W (M.out.trans h)
 have t3:=fun W h=>s3 W (M.out.trans h)
 have q4:=fun W h=>k4 W (M.out.trans h)
 have t4:=fun W h=>s4 W (M.out.trans h)
 have q5:=fun W h=>k5 W (M.out.trans h)
 have t5:=fun W h=>s5 W (M.out.trans h)
 clear k0 k1 k2 k3 k4 k5 s0 s1 s2 s3 s4 s5 a4 E;have c6:=zh (c5.out.below M.out);have d6:=zh (b4.out.below M.out);have a4:zb wb wb:=zb.refl wb;have E:=Ah wb;go_upto_region 8 with fail;obtain ⟨b8,y0,y1,y2⟩:=box3 wb (.int .i64 r.why.task) (.slice As r.why.side.length cs) (.slice Ak r.why.kids.length ck);generalize wb.alloc _=wc at b8 y0 y1 y2⊢;obtain ⟨gw,f4⟩:∃g,g=wb.heap.size:=⟨_,rfl⟩;rw [<-f4] at y0 y1 y2⊢;clear f4;have D:=zh b8;clear b8;have k0:=fun W h=>q0 W (D.out.trans h)
 have s0:=fun W h=>t0 W (D.out.trans h)
 have k1:=fun W h=>q1 W (D.out.trans h)
 have s1:=fun W h=>t1 W (D.out.trans h)
 have k2:=fun W h=>q2 W (D.out.trans h)
 have s2:=fun W h=>t2 W (D.out.trans h)
 have k3:=fun W h=>q3 W (D.out.trans h)
 have s3:=fun W h=>t3 W (D.out.trans h)
 have k4:=fun W h=>q4 W (D.out.trans h)
 have s4:=fun W h=>t4 W (D.out.trans h)
 have k5:=fun W h=>q5 W (D.out.trans h)
 have s5:=fun W h=>t5 W (D.out.trans h)
 clear q0 q1 q2 q3 q4 q5 t0 t1 t2 t3 t4 t5 a4 E;have c7:=zh (c6.out.below D.out);have d7:=zh (d6.out.below D.out);have e0:=zh (HY.out.ext D.out)
 have h8:Hid (subO e1 [[0,1,2],[],[]] 1=CK e1 [[0,1,2],[],[]] 1):=by
  (show _=_)
  unfold subO;rw [if_pos e1_laid];rfl
 have a7:Hid (zb w wc):=((((((((d8.out.trans b5.out).trans G.out).trans o.out).trans z.out).trans I.out).trans J.out).trans L.out).trans M.out).trans D.out;clear HY c6 d6 D M L c5 b4 b3 d5 J I z o G b5 d8;have f9:zb wc wc:=zb.refl wc;refine Fd (S:=(fun W=>zb wc W)) zU (f9.drew) fun zH=>?_;have e7:zb wc wc.drew:=zH;generalize wc.drew=wd at zH e7⊢;refine ze 0 zH ?_;refine ze 1 zH ?_;simp only [za,EK];refine ze 2 zH ?_;refine ze 3 zH ?_;simp only [za,EK];refine ze 7 zH ?_;simp only [za,EK];refine zx 4 fun K hK=>?_;go_simp;have a9:zb wc (wd.alloc (.cells #[.int .i64 0,.int .i64 1,.int .i64 2] 3)):=e7.alloc _;refine zal hK (a9) fun zH=>?_;clear hK K;try simp only [za,EK]
 refine zx 5 fun K hK=>?_;go_simp;have Z:zb wc ((wd.alloc (.cells #[.int .i64 0,.int .i64 1,.int .i64 2] 3)).alloc (.cells #[.slice (some ⟨wd.heap.size,0,none⟩) 3 3,.slice none 0 0,.slice none 0 0] 23)):=a9.alloc _;refine zal hK (Z) fun zH=>?_;clear hK K;try simp only [za,EK]
 refine zx 6 fun K hK=>?_;go_simp;go_at_call 15;obtain ⟨ns,i3⟩:=(d7.out.below Z).nets;have i1:zq ((wd.alloc (.cells #[.int .i64 0,.int .i64 1,.int .i64 2] 3)).alloc (.cells #[.slice (some ⟨wd.heap.size,0,none⟩) 3 3,.slice none 0 0,.slice none 0 0] 23)) (fun _=>True) (.slice (some ⟨wd.heap.size+1,0,none⟩) 3 3) [[0,1,2],[],[]]:=intss3 (zg.new _ _ _ (by simp)) trivial ⟨_,_,rfl,EN _,zN.block (cs:=#[.int .i64 0,.int .i64 1,.int .i64 2]) (zg.ext (zg.new wd _ _ rfl) ((zb.refl _).alloc _)) trivial rfl⟩ (zi.nil _ _) (zi.nil _ _);refine (sub_calls 1 _ i3 e1_lens i1 (by decide) (by decide)).mono ?_;rintro e wp ⟨vs,rfl,h9,i2⟩;have b0:=i2.maze;rw [h8.out] at b0;have a0:zb wc wp:=Z.trans h9;go_simp;refine zal hK (a0) fun zH=>?_;clear hK K;try simp only [za,EK]
 refine zx 8 fun K hK=>?_;go_simp;go_at_call 35;refine (vCheck_calls wp b0 (subM_lens e1_lens (by decide) 1) (e0.out.ext a0) (lens_ofB _ d9.out.1) d9.out.2).mono ?_;rintro e wq ⟨rfl,i0⟩;rw [g4.out];have a1:zb wc wq:=a0.trans i0;go_simp;refine zal hK (a1) fun zH=>?_;clear hK K;try simp only [za,EK]
 refine ze 9 zH ?_;refine ze 10 zH ?_;simp only [za,EK];refine Fs (by kernel_rfl) ?_ _;have O:zb wc wq:=a1;clear zH;have q0:=fun W h=>s0 W (O.trans h)
 have q1:=fun W h=>s1 W (O.trans h)
 have q2:=fun W h=>s2 W (O.trans h)
 have q3:=fun W h=>s3 W (O.trans h)
 have q4:=fun W h=>s4 W (O.trans h)
 have q5:=fun W h=>s5 W (O.trans h)
 clear k0 k1 k2 k3 k4 k5 s0 s1 s2 s3 s4 s5 f9;have g9:=zh (c7.out.below O);have g0:=zh (a7.out.trans O);clear O d7 e0 c7 a7 a1;have a4:zb wq wq:=zb.refl wq;have E:=Ah wq
 go_wp2_with fail
 refine (kadd3 wq g9.out).mono ?_;rintro e wz ⟨rfl,e6⟩;have HZ:=zh (g0.out.trans e6);clear e6 a4 E q0 q1 q2 q3 q4 q5
 go_wp2_with fail
 go_ret;exact ⟨rfl,HZ.out⟩
end
section
open Go.ChangeShapes Go.WideShapes Go.ChangeAt Go.RowKit
theorem spot_none {w:World} {a:Addr} (h:w.cell? a=some v):a.spot=none:=by
 unfold World.cell? at h
 split at h
 ·split at h
  ·cases h
  ·rename_i h1
   cases o:a.spot
   ·rfl
   ·rw [o] at h1;simp at h1
 ·cases h
theorem addr_at {a:Addr} (h:a.spot=none) (n:Nat):a.add n=⟨a.block,a.off+n,none⟩:=by
 obtain ⟨b,o,s⟩:=a;simp only at h;subst h;unfold Addr.add
 split
 ·rename_i h0;subst h0;rfl
 ·rfl
theorem chooseList {β:Type} {p:Nat->β->Prop}:∀(n:Nat),(∀i,i<n->∃b,p i b)->∃l:List β,l.length=n/\∀i b,l[i]?=some b->p i b
 | 0,_=>⟨[],rfl,fun i b h=>by simp at h⟩
 | n+1,h=>by
  obtain ⟨l,D,h1⟩:=chooseList n (fun i hi=>h i (by omega));obtain ⟨b,E⟩:=h n (by omega);refine ⟨l++[b],by simp [D],fun i x o=>?_⟩;rcases Fk i l.length with hi | hi
  ·rw [ES hi] at o;exact h1 i x o
  ·have z:i=l.length:=by
    rcases Fk i (l++[b]).length with h2 | h2
    ·simp at h2;omega
    ·rw [Fg h2] at o;cases o
   subst z;rw [ET (EN _),Nat.sub_self] at o;have:b=x:=by simpa using o
   subst this;rw [D];exact E
section
variable {H:Type} {enc:TypeId×Value->H} {w:World} {base:Nat} {held:Bool} {fuel:Nat} {cs:List Value} {x:DataW H×List MemPlace}
theorem sliceOpen {t e:TypeId} {sz:Nat} (V:Tryz.prog.underlying t=some (.slice e)) (M:Tryz.prog.cellsOf e=sz) (h0:0<sz) (h:DataW.trod enc Tryz.prog w base (fun _=>true) held fuel t cs=some x):
  ∃A len c,cs=[.slice A len c]/\len<=c/\len<=9223372036854775807/\(0<len->∃b off,A=some ⟨b,off,none⟩/\∀i,i<len->∃(cl:List Value) (n:Nat) (y:DataW H×List MemPlace),cl.length=sz/\(∀j,j<sz->w.cell? ⟨b,off+(i*sz+j),none⟩=cl[j]?)/\DataW.trod enc Tryz.prog w base (fun _=>true) held n e cl=some y):=by
 rcases DataW.trod_slice V h with ⟨rfl,_⟩ | ⟨a,len,cap,elems,rest,n,_,rfl,_,Z,U,hm,Q,I,_,_⟩
 ·exact ⟨none,0,0,rfl,EN _,by decide,fun h=>by omega⟩
 ·refine ⟨some a,len,cap,rfl,U,by unfold maxLen at hm;omega,fun D=>?_⟩
  have each:∀i,i<len->∃(cl:List Value) (y:DataW H×List MemPlace),w.cells? base (a.add (i*sz)) sz=some cl/\DataW.trod enc Tryz.prog w base (fun _=>true) held n e cl=some y:=fun i J=>by
   have h1:=I i J;rw [M,EL (by omega)] at h1;obtain ⟨cl,h2,h3⟩:=Option.bind_eq_some_iff.1 h1;exact ⟨cl,_,h2,h3⟩
  have L:a.spot=none:=by
   obtain ⟨cl,y,h2,_⟩:=each 0 D;obtain ⟨_,O,E⟩:=World.cells?_some h2;have z:=E 0 h0;rw [EL (by omega)] at z;have G:=spot_none z;rw [Nat.zero_mul] at G;unfold Addr.add at G
   rwa [if_pos rfl,if_pos rfl] at G
  refine ⟨a.block,a.off,?_,fun i J=>?_⟩
  ·obtain ⟨b,o,s⟩:=a;simp only at L;subst L;rfl
  ·obtain ⟨cl,y,h2,h3⟩:=each i J;obtain ⟨_,O,E⟩:=World.cells?_some h2;refine ⟨cl,n,y,O,fun j T=>?_,h3⟩;have z:=E j T;rw [addr_at L,addr_at rfl] at z;rw [<-Nat.add_assoc];exact z
theorem eachOpen {α:Type} {R:Value->α->Prop} {t e:TypeId} (U:Tryz.prog.underlying t=some (.slice e)) (M:Tryz.prog.cellsOf e=1)
  (Q:∀n cl y,DataW.trod enc Tryz.prog w base (fun _=>true) held n e cl=some y->∃v a,cl=[v]/\R v a) (h:DataW.trod enc Tryz.prog w base (fun _=>true) held fuel t cs=some x):
  ∃v l,cs=[v]/\Each R w (fun _=>True) v l/\l.length<=9223372036854775807/\∀a∈l,∃u,R u a:=by
 obtain ⟨A,len,c,rfl,z,L,o⟩:=sliceOpen U M (by omega) h;rcases Fz len with rfl | hpos
 ·exact ⟨_,[],rfl,⟨[],⟨A,c,rfl,z,zN.nil _ _ _ _⟩,fun i y D=>by simp at D⟩,by simp,fun a E=>by cases E⟩
 ·obtain ⟨b,off,rfl,G⟩:=o hpos;clear o
  obtain ⟨l,J,hp⟩:=chooseList (β:=Value×α) (p:=fun i va=>w.cell? ⟨b,off+i,none⟩=some va.1/\R va.1 va.2) len (fun i I=>by
   obtain ⟨cl,n,y,h1,h2,h3⟩:=G i I;obtain ⟨v,a,rfl,T⟩:=Q n cl y h3;have:=h2 0 (by omega);rw [Nat.mul_one,Nat.add_zero] at this;exact ⟨(v,a),this,T⟩)
  refine ⟨_,l.map (·.2),rfl,⟨l.map (·.1),⟨_,c,by rw [Fy,J],by rw [Fy,J];exact z,by simp,fun _=>⟨b,off,rfl,trivial,fun j u O=>?_⟩⟩,fun i y D=>?_⟩,by rw [Fy,J];exact L,fun a E=>?_⟩
  ·rw [Fx] at O;obtain ⟨va,h1,rfl⟩:=Option.map_eq_some_iff.1 O;exact (hp j va h1).1
  ·rw [Fx] at D;obtain ⟨va,h1,rfl⟩:=Option.map_eq_some_iff.1 D;exact ⟨va.1,by rw [Fx,h1];rfl,(hp i va h1).2⟩
  ·obtain ⟨va,h1,rfl⟩:=zac.1 E;obtain ⟨i,I,rfl⟩:=Fu h1;exact ⟨_,(hp i _ (EL I)).2⟩
theorem row_of_each {α:Type} {f:α->Value} {l:List α} (h:Each (fun u a=>u=f a) w (fun _=>True) v l):zV w (fun _=>True) 1 v l.length (l.map f):=by
 obtain ⟨vs,z,he⟩:=h
 have:vs=l.map f:=by
  have o:=z;obtain ⟨A,c,_,_,hA⟩:=o;have E:vs.length=l.length:=by have:=hA.1;omega
  refine List.ext_getElem? fun i=>?_
  rcases Fk i l.length with hi | hi
  ·obtain ⟨u,D,z⟩:=he i _ (EL hi);rw [D,Fx,EL hi,z];rfl
  ·rw [Fg (by omega),Fg (by simp;omega)]
 rw [<-this];exact z
theorem intsOpen (h:DataW.trod enc Tryz.prog w base (fun _=>true) held fuel 23 cs=some x):∃v l,cs=[v]/\zi w (fun _=>True) v l/\l.length<=9223372036854775807:=by
 obtain ⟨v,l,rfl,he,o,_⟩:=eachOpen (R:=fun u a=>u=Value.int .i64 a) Tryz.underlying23 (by kernel_rfl) (fun n cl y z=>by
  obtain ⟨k,rfl,_,_⟩:=DataW.trod_int Tryz.underlying3 z;exact ⟨_,k,rfl,rfl⟩) h
 exact ⟨v,l,rfl,row_of_each he,o⟩
theorem intssOpen (h:DataW.trod enc Tryz.prog w base (fun _=>true) held fuel 22 cs=some x):∃v l,cs=[v]/\zq w (fun _=>True) v l/\l.length<=9223372036854775807/\∀a∈l,a.length<=9223372036854775807:=by
 obtain ⟨v,l,rfl,he,G,z⟩:=eachOpen (R:=fun u a=>zi w (fun _=>True) u a/\a.length<=9223372036854775807) Tryz.underlying22 (by kernel_rfl) (fun n cl y D=>by
  obtain ⟨v,l,rfl,h1,h2⟩:=intsOpen D;exact ⟨v,l,rfl,h1,h2⟩) h
 obtain ⟨vs,I,o⟩:=he
 exact ⟨v,l,rfl,⟨vs,I,fun i y D=>by
  obtain ⟨u,h1,h2,_⟩:=o i y D;exact ⟨u,h1,h2⟩⟩,G,fun a E=>by obtain ⟨u,h⟩:=z a E;exact h.2⟩
theorem intOpen (h:DataW.trod enc Tryz.prog w base (fun _=>true) held fuel 3 cs=some x):∃n,cs=[.int .i64 n]/\-9223372036854775808<=n/\n<=9223372036854775807:=by
 obtain ⟨k,rfl,_,o⟩:=DataW.trod_int Tryz.underlying3 h;refine ⟨k,rfl,?_⟩;have this:=o;simp only [Lit.wf,IntKind.has,EZ,EX] at this;have e1:IntKind.i64.min=-9223372036854775808:=rfl;have e2:IntKind.i64.max=9223372036854775807:=rfl;omega
theorem fieldOpen {t:TypeId} {fs:Array Field} (J:Tryz.prog.underlying t=some (.struct fs)) (h:DataW.trod enc Tryz.prog w base (fun _=>true) held fuel t cs=some x):
  cs.length=Tryz.prog.cellsOf t/\∀(i ty off sz:Nat),(fs[i]?).map (fun f=>(f.type,f.offset))=some (ty,off)->Tryz.prog.cellsOf ty=sz->∃n y,DataW.trod enc Tryz.prog w base (fun _=>true) held n ty ((cs.drop off).take sz)=some y:=by
 obtain ⟨xs,n,_,_,I,L,G⟩:=DataW.trod_struct J h;refine ⟨I,fun i ty off sz o E=>?_⟩;obtain ⟨f,o,he⟩:=Option.map_eq_some_iff.1 o;injection he with z D;have h1:=G i f o;have h2:i<fs.size:=(FN.1 o).1;rw [EL (by omega),z,D,E] at h1;exact ⟨n,_,h1⟩
theorem cellsT24:Tryz.prog.cellsOf 23=1:=by kernel_rfl
theorem cellsT22:Tryz.prog.cellsOf 22=1:=by kernel_rfl
theorem cellsT23:Tryz.prog.cellsOf 24=3:=by kernel_rfl
theorem cellsT3:Tryz.prog.cellsOf 3=1:=by kernel_rfl
theorem agg_of {l:List Value} (h:v.cells.toList=l) (h2:∃cs,v=.agg cs):v=.agg l.toArray:=by
 obtain ⟨cs,rfl⟩:=h2;subst h;rfl
end
end
end Go.Proofs.YthbjngbhbbkkgaaGreat
