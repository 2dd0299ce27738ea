import Derived.Test.YthbjngbhbbkkgaaGreatHRv
set_option linter.unusedVariables false
set_option linter.unusedSimpArgs false
set_option maxRecDepth 100000
set_option maxHeartbeats 16000000
namespace Go.Proofs.YthbjngbhbbkkgaaGreat
variable {ch l:List Int} {m:MZ} {g i k n t:Nat} {ok:Nat->Prop} {f ts u vc vp:Value} {w w':World}
section
open Go.RowKit
attribute [local go_sem ↓] Go.wp_at_zero Go.wp_at_succ
theorem box9 (w:World) (a0 a1 a2 a3 a4 a5 a6 a7 a8:Value):zb w (w.alloc (.cells #[a0,a1,a2,a3,a4,a5,a6,a7,a8] 103))/\
  (∀W,zb (w.alloc (.cells #[a0,a1,a2,a3,a4,a5,a6,a7,a8] 103)) W->W.cell? ⟨w.heap.size,0,none⟩=some a0)/\(∀W,zb (w.alloc (.cells #[a0,a1,a2,a3,a4,a5,a6,a7,a8] 103)) W->W.cell? ⟨w.heap.size,1,none⟩=some a1)/\(∀W,zb (w.alloc (.cells #[a0,a1,a2,a3,a4,a5,a6,a7,a8] 103)) W->W.cell? ⟨w.heap.size,2,none⟩=some a2)/\(∀W,zb (w.alloc (.cells #[a0,a1,a2,a3,a4,a5,a6,a7,a8] 103)) W->W.cell? ⟨w.heap.size,3,none⟩=some a3)/\(∀W,zb (w.alloc (.cells #[a0,a1,a2,a3,a4,a5,a6,a7,a8] 103)) W->W.cell? ⟨w.heap.size,4,none⟩=some a4)/\(∀W,zb (w.alloc (.cells #[a0,a1,a2,a3,a4,a5,a6,a7,a8] 103)) W->W.cell? ⟨w.heap.size,5,none⟩=some a5)/\(∀W,zb (w.alloc (.cells #[a0,a1,a2,a3,a4,a5,a6,a7,a8] 103)) W->W.cell? ⟨w.heap.size,6,none⟩=some a6)/\(∀W,zb (w.alloc (.cells #[a0,a1,a2,a3,a4,a5,a6,a7,a8] 103)) W->W.cell? ⟨w.heap.size,7,none⟩=some a7)/\(∀W,zb (w.alloc (.cells #[a0,a1,a2,a3,a4,a5,a6,a7,a8] 103)) W->W.cell? ⟨w.heap.size,8,none⟩=some a8):=by
 have o:=zk.new w #[a0,a1,a2,a3,a4,a5,a6,a7,a8] 103 rfl;exact ⟨(zb.refl w).alloc _,zb.rule (o.cell (k:=0) rfl),zb.rule (o.cell (k:=1) rfl),zb.rule (o.cell (k:=2) rfl),zb.rule (o.cell (k:=3) rfl),zb.rule (o.cell (k:=4) rfl),zb.rule (o.cell (k:=5) rfl),zb.rule (o.cell (k:=6) rfl),zb.rule (o.cell (k:=7) rfl),zb.rule (o.cell (k:=8) rfl)⟩
theorem PSt.parts {w:World} {ok:Nat->Prop} {m:MZ} {f u ts vc vp:Value} {ch:List Int} (h:PSt w ok m f u ts vc vp ch):∃Af cf Au cu At ct Ac cc Ap cp,f=.slice Af m.free.length cf/\u=.slice Au m.up.length cu/\ts=.slice At m.tasks.length ct/\vc=.slice Ac ch.length cc/\vp=.slice Ap (zq m ch).length cp/\
  Bj w ok (.slice Af m.free.length cf) m.free/\BU w ok (.slice At m.tasks.length ct) m.tasks:=by
 obtain ⟨Af,cf,Au,cu,At,ct,e,z,-,o⟩:=h.maze.parts;injection e with e;injection e with e;simp only [List.cons.injEq,and_true,true_and] at e;obtain ⟨rfl,rfl,rfl⟩:=e;obtain ⟨Ac,cc,rfl,-,-⟩:=h.chs;obtain ⟨_,⟨Ap,cp,rfl,-,-⟩,-⟩:=h.ps;exact ⟨Af,cf,Au,cu,At,ct,Ac,cc,Ap,cp,rfl,rfl,rfl,rfl,rfl,z,o⟩
theorem Ed (t:Int) (w:World) (h:PSt w ok m f u ts vc vp ch):
  Calls Tryz.prog 90 #[Ey m f u ts vc vp t] w fun e w'=>e=.returned (.bool (decide ((m.tasks.length:Int)<=t)))/\zb w w':=by
 obtain ⟨Af,cf,Au,cu,At,ct,Ac,cc,Ap,cp,rfl,rfl,rfl,rfl,rfl,-,-⟩:=h.parts;clear h;unfold Ey
 go_enter Tryz.func90,Tryz.ntmps90
 go_wp2_with fail
 obtain ⟨o,r0,r1,r2,r3,r4,r5,r6,r7,r8⟩:=box9 w (.int .i64 m.w) (.int .i64 m.h) (.int .i64 m.l) (.slice Af m.free.length cf) (.slice Au m.up.length cu) (.slice At m.tasks.length ct) (.slice Ac ch.length cc) (.slice Ap (zq m ch).length cp) (.int .i64 t);generalize w.alloc _=w1 at o r0 r1 r2 r3 r4 r5 r6 r7 r8⊢;obtain ⟨gm,z⟩:=zad w.heap.size;rw [<-z] at r0 r1 r2 r3 r4 r5 r6 r7 r8⊢;clear z;have E:zb w1 w1:=zb.refl w1;have D:=zh o;clear o
 go_wp2_with fail
 go_ret;exact ⟨rfl,D.out⟩
theorem popen_calls (t:Int) (tk:Nat) (n:Int) (w:World) (h:PSt w ok m f u ts vc vp ch) (g:zC m) (L:ch.length<=20000000000000) (M:tk<m.free.length) (h0:0<=n) (h1:n<m.n):
  Calls Tryz.prog 119 #[Ey m f u ts vc vp t,.int .i64 tk,.int .i64 n] w fun e w'=>e=.returned (.bool (zi m tk n && !decide (n∈ch)))/\zb w w':=by
 have H:=zh h;obtain ⟨Af,cf,Au,cu,At,ct,Ac,cc,Ap,cp,rfl,rfl,rfl,rfl,rfl,O,-⟩:=h.parts;obtain ⟨b,off,b',off',l,c',rfl,E,hl,U,T,D⟩:=De O g.fn M h0 h1;have Q:=zh h.chs;clear h O g;obtain ⟨fv,G⟩:=zad (zi m tk n);rw [<-G] at D⊢;clear G;have k0:(0:Int)<=(tk:Int):=by omega
 have k1:(tk:Int)<(m.free.length:Int):=by omega
 have V:off'+n.toNat=off'+n.toNat:=rfl;unfold Ey
 go_enter Tryz.func119,Tryz.ntmps119
 go_upto_region 1 with fail;obtain ⟨z,r0,r1,r2,r3,r4,r5,r6,r7,r8⟩:=box9 w (.int .i64 m.w) (.int .i64 m.h) (.int .i64 m.l) (.slice (some ⟨b,off,none⟩) m.free.length cf) (.slice Au m.up.length cu) (.slice At m.tasks.length ct) (.slice Ac ch.length cc) (.slice Ap (zq m ch).length cp) (.int .i64 t);generalize w.alloc _=w1 at z r0 r1 r2 r3 r4 r5 r6 r7 r8⊢;obtain ⟨gm,I⟩:=zad w.heap.size;rw [<-I] at r0 r1 r2 r3 r4 r5 r6 r7 r8⊢;clear I;have hx:zb w1 w1:=zb.refl w1;have o:=zh z;clear z;have q1:=zb.rule (o.out.cell E);have q2:=zb.rule (o.out.cell D);have J:=zh (Q.out.below o.out);clear E D
 cases fv with
 | false=>
  go_wp2_with fail
  go_ret;exact ⟨rfl,o.out⟩
 | true=>
  go_wp2_with fail
  refine (zB n w1 J.out L).mono ?_;rintro e w9 ⟨rfl,rfl⟩
  go_wp2_with fail
  go_ret;exact ⟨rfl,o.out⟩
theorem phead_calls (t:Int) (tk:Nat) (w:World) (h:PSt w ok m f u ts vc vp ch) (hl:Lens m) (hc:AO m=0) (hi:zx m ch) (Q:tk<m.tasks.length):
  Calls Tryz.prog 116 #[Ey m f u ts vc vp t,.int .i64 tk] w fun e w'=>∃v',e=.returned v'/\zb w w'/\zj w' (fun _=>True) v' (AE m ch tk):=by
 have H:=zh h;have a1:=AG hc hi;have G:=zh (zC.of hc);have HL:=zh hl;have e6:=zh G.out.fl;obtain ⟨_,g3,_⟩:=h.ps;have b4:=‹∀(i:Nat) x,(zq m ch)[i]?=some x->_›;obtain ⟨Af,cf,Au,cu,At,ct,Ac,cc,Ap,cp,rfl,rfl,rfl,rfl,rfl,hf,c6⟩:=h.parts;obtain ⟨_,_,e,-,c4⟩:=g3;injection e with e1 e2 e3;subst e1 e3;have f2:=zh c6;have a9:=zh c4;have e5:=zh b4;obtain ⟨PL,hP⟩:=zad ((zq m ch).length);rw [<-hP] at a9 H;clear h hf c6 c4 b4 hl hc;unfold Ey;rw [<-hP];by_cases f9:tk<PL
 ·obtain ⟨h7,g8,-,b9⟩:=a1;have O:tk<(zq m ch).length:=by omega
  obtain ⟨bp,offp,up,rfl,-,a2,c7⟩:=Ai a9.out e5.out f9 O;obtain ⟨V,a0⟩:=b9 _ (EH O)
  have E:Hid (AE m ch tk=((zq m ch)[tk]).getLast?.toList):=by
   show _=_;unfold AE;rw [if_pos O,EF,EE O];rfl
  obtain ⟨P,b2⟩:=zad ((zq m ch)[tk]);rw [<-b2] at c7 V a0 E;clear b2 b9 hi;obtain ⟨q,x,rfl⟩:∃q x,P=q++[x]:=⟨P.dropLast,P.getLast V,(List.dropLast_concat_getLast V).symm⟩;obtain ⟨Aq,cq,rfl,a3,c5⟩:=c7;obtain ⟨bq,offq,e,-,U⟩:=zy c5 (k:=q.length) (by simp) (by simp);have U:w.cell? ⟨bq,offq+q.length,none⟩=some (.int .i64 x):=by rw [U];simp
  subst e;obtain ⟨N,hN⟩:=zad ((q++[x]).length);obtain ⟨n,hn⟩:=zad q.length;have b1:N=n+1:=by rw [hN,hn];simp
  rw [<-hN] at a2 a0 a3;rw [<-hn] at U
  have e7:Hid (AE m ch tk=[x]):=by
   show _=_;rw [E.out,List.getLast?_append];rfl
  clear c5 hN hn E V hP;have k0:(0:Int)<=(tk:Int):=by omega
  have k1:(tk:Int)<(PL:Int):=by omega
  have i2:IntKind.i64.wrap ((N:Int) - 1)=(n:Int):=by rw [Fb];omega
  have h8:(0:Int)<=(n:Int):=by omega
  have h9:(n:Int)<=(N:Int):=by omega
  have i0:N - n=1:=by omega
  have i1:(N:Int)<=(cq:Int):=by omega
  have HQ:=zh b1;have e4:=zh a3
  go_enter Tryz.func116,Tryz.ntmps116
  go_upto_region 1 with fail;obtain ⟨D,r0,r1,r2,r3,r4,r5,r6,r7,r8⟩:=box9 w (.int .i64 m.w) (.int .i64 m.h) (.int .i64 m.l) (.slice Af m.free.length cf) (.slice Au m.up.length cu) (.slice At m.tasks.length ct) (.slice Ac ch.length cc) (.slice (some ⟨bp,offp,none⟩) PL cp) (.int .i64 t);generalize w.alloc _=w1 at D r0 r1 r2 r3 r4 r5 r6 r7 r8⊢;obtain ⟨gm,M⟩:=zad w.heap.size;rw [<-M] at r0 r1 r2 r3 r4 r5 r6 r7 r8⊢;clear M;have hx:zb w1 w1:=zb.refl w1;have z:=zh D;clear D;have qp:=zb.rule (z.out.cell a2);clear a2 b1 a3 O
  go_wp2_with fail
  go_ret;refine ⟨_,rfl,z.out,?_⟩;rw [e7.out];refine ⟨_,_,rfl,by have:=HQ.out;have:=e4.out;show 1<=_;omega,rfl,fun _=>⟨bq,offq+n,rfl,trivial,fun j u hu=>?_⟩⟩
  match j,hu with
  | 0,hu=>
   have:u=.int .i64 x:=by simpa using hu.symm
   rw [this];exact z.out.cell U
 ·obtain ⟨bt,offt,sn,u1,u2,rfl,-,-,b3,-,a4,-⟩:=AJ f2.out Q;have a6:=fun x hx=>G.out.tn _ (EH Q) x (.inl hx)
  have b5:=(HL.out.tl _ (EH Q)).1
  have E:Hid (AE m ch tk=((m.tasks[tk]).1).filter fun n=>zi m tk n && !decide (n∈ch)):=by
   show _=_;unfold AE;rw [if_neg (by omega),EF,EE Q];rfl
  obtain ⟨L,hL⟩:=zad ((m.tasks[tk]).1);rw [<-hL] at a4 a6 b5 E;clear hL;have f1:=zh a6;have e0:Hid (ch.length<=300):=a1.2.2.1;have f0:Hid (tk<m.free.length):=by show _<_;rw [e6.out];exact Q
  have k0:(0:Int)<=(tk:Int):=by omega
  have k1:(tk:Int)<(m.tasks.length:Int):=by omega
  have k2:¬ ((tk:Int)<(PL:Int)):=by omega
  clear a6 a1 hi hP;obtain ⟨p,a5⟩:∃p:Int->Bool,p=fun n=>zi m tk n && !decide (n∈ch):=⟨_,rfl⟩
  rw [<-a5] at E;have e9:=zh a5;clear a5
  go_enter Tryz.func116,Tryz.ntmps116
  go_upto_region 1 with fail;obtain ⟨D,r0,r1,r2,r3,r4,r5,r6,r7,r8⟩:=box9 w (.int .i64 m.w) (.int .i64 m.h) (.int .i64 m.l) (.slice Af m.free.length cf) (.slice Au m.up.length cu) (.slice (some ⟨bt,offt,none⟩) m.tasks.length ct) (.slice Ac ch.length cc) (.slice Ap PL cp) (.int .i64 t);generalize w.alloc _=w1 at D r0 r1 r2 r3 r4 r5 r6 r7 r8⊢;obtain ⟨gm,M⟩:=zad w.heap.size;rw [<-M] at r0 r1 r2 r3 r4 r5 r6 r7 r8⊢;clear M;have hx:zb w1 w1:=zb.refl w1;have z:=zh D;clear D;have qt:=zb.rule (z.out.cell b3);have e8:=zh (a4.below z.out);obtain ⟨Al,cl,rfl,h5,-⟩:=a4;clear b3
  go_wp2_with fail
  have a8:=zh (Mk.nil w1);go_loopw [4,31] (fun v i wr=>∃k:Nat,k<=L.length/\i=.int .i64 (k:Nat)/\Hid (Mk w1 wr v ((L.take k).filter p))) (fun _ i _=>L.length - (intOf i).toNat)
  case atStart=>exact ⟨0,EU _,rfl,a8⟩
  clear a8
  case round=>
   obtain ⟨k,hk,rfl,hM⟩:=hrel;have hx:zb w1 wr:=hM.out.ext;obtain ⟨wk,rfl⟩:∃wk:World,wk=wr:=⟨_,rfl⟩;by_cases I:k<L.length
   ·obtain ⟨A',c',e,-,c0⟩:=e8.out;injection e with e1 e2 e3;subst e1 e3;obtain ⟨bl,offl,rfl,-,o⟩:=zy c0 I I;clear c0;obtain ⟨c8,c9⟩:=f1.out _ (EH I);have T:=EN I;obtain ⟨x,d5⟩:=zad (L[k]);rw [<-d5] at o c8 c9 T;clear d5;have HT:=zh T;have o:wk.cell? ⟨bl,offl+k,none⟩=some (.int .i64 x):=hx.cell o;clear T;have kk0:(0:Int)<=(k:Int):=by omega
    have kk1:(k:Int)<(L.length:Int):=by omega
    go_wp2_with fail
    refine (popen_calls t tk x wk ((H.out.more z.out).more hx) G.out (by have:=e0.out;omega) f0.out c8 c9).mono ?_;rintro e w9 ⟨rfl,b0⟩;have J:=zh (hM.out.more b0);have d4:=J.out.ext;have hp:p x=(zi m tk x && !decide (x∈ch)):=by rw [e9.out]
    rw [<-hp];clear hp o b0;have f8:((L.take k).filter p).length<=L.length:=EI (Fi _ _) (by simp;omega)
    cases hb:p x with
    | true=>
     have HS:Hid ((L.take (k+1)).filter p=(L.take k).filter p++[x]):=by show _=_;rw [HT.out,Fv,FB hb];rfl
     clear hb;obtain ⟨l,b7⟩:=zad ((L.take k).filter p);rw [<-b7] at J f8 HS;clear b7
     go_wp2_with (at_builtin;refine AQ rfl _ _ rfl _ l x w1.heap.size w9.heap.size 1 _ rfl rfl (J.out.own.alloc _) ?d1 ?d2 ?d3 ?_)
     (try case d1=>exact zr _ _ _ (by simp))
     case d2=>(first | (simp;done) | (have:=d4.size;simp;omega) | (have:=d4.size;omega))
     case d3=>omega
     intro v' wb b8 b6 f5;have f3:=zh ((J.out.alloc _).app b8 b6);clear b8 b6 f5;go_wp2;go_roundw
     case rel=>exact ⟨k+1,by omega,by go_num,by rw [HS.out];exact f3⟩
     case measure=>simp [intOf];omega
    | false=>
     have HS:Hid ((L.take (k+1)).filter p=(L.take k).filter p):=by show _=_;rw [HT.out,Fv,Fp (by rw [hb];simp),List.filter_nil,List.append_nil]
     clear hb;go_wp2;go_roundw
     case rel=>exact ⟨k+1,by omega,by go_num,by rw [HS.out];exact J⟩
     case measure=>simp [intOf];omega
   ·obtain rfl:k=L.length:=by omega
    go_wp2;go_ret;refine ⟨_,rfl,z.out.trans hM.out.ext,?_⟩;rw [E.out];have:=hM.out;rw [ER] at this;exact this.ints.weaken (fun _ _=>trivial)
end
section
open Go.RowKit
attribute [local go_sem ↓] Go.wp_at_zero Go.wp_at_succ
attribute [local go_sem] Oper.semAt_some
theorem PSt.weaken {w:World} {ok ok':Nat->Prop} {m:MZ} {f u ts vc vp:Value} {ch:List Int} (h:PSt w ok m f u ts vc vp ch) (o:∀b,ok b->ok' b):PSt w ok' m f u ts vc vp ch:=⟨h.maze.weaken o,h.chs.weaken o,h.ps.weaken o⟩
theorem PSt.keep {w w':World} {ok:Nat->Prop} {m:MZ} {f u ts vc vp:Value} {ch:List Int} (h:PSt w ok m f u ts vc vp ch) (o:zW ok w w'):PSt w' ok m f u ts vc vp ch:=⟨h.maze.keep o,h.chs.keep o,h.ps.keep o⟩
theorem En (t n:Int) (w:World) (h:PSt w ok m f u ts vc vp ch) (hl:Lens m) (hc:AO m=0) (hi:zx m (ch++[n])) (f6:ch.length<=300):
  Calls Tryz.prog 93 #[Ey m f u ts vc vp t,.int .i64 n] w fun e w'=>∃vc' vp',e=.returned (Ey m f u ts vc' vp' (zR m (ch++[n])))/\zb w w'/\PSt w' (fun b=>ok b\/w.heap.size<=b) m f u ts vc' vp' (ch++[n]):=by
 have H:=zh h;have HL:=zh hl;have HC:=zh hc;have HI:=zh hi;obtain ⟨Af,cf,Au,cu,At,ct,Ac,cc,Ap,cp,rfl,rfl,rfl,rfl,rfl,-,-⟩:=h.parts;obtain ⟨PL,hP⟩:=zad ((zq m ch).length);rw [<-hP] at H⊢;clear h hl hc hi hP;unfold Ey
 go_enter Tryz.func93,Tryz.ntmps93
 go_upto_region 1 with fail;have T:=zk.new w #[.int .i64 m.w,.int .i64 m.h,.int .i64 m.l,.slice Af m.free.length cf,.slice Au m.up.length cu,.slice At m.tasks.length ct,.slice Ac ch.length cc,.slice Ap PL cp,.int .i64 t] 103 (g:=w.heap.size) rfl;have b1:zb w (w.alloc (.cells #[.int .i64 m.w,.int .i64 m.h,.int .i64 m.l,.slice Af m.free.length cf,.slice Au m.up.length cu,.slice At m.tasks.length ct,.slice Ac ch.length cc,.slice Ap PL cp,.int .i64 t] 103)):=(zb.refl w).alloc _;have b7:(w.alloc (.cells #[.int .i64 m.w,.int .i64 m.h,.int .i64 m.l,.slice Af m.free.length cf,.slice Au m.up.length cu,.slice At m.tasks.length ct,.slice Ac ch.length cc,.slice Ap PL cp,.int .i64 t] 103)).heap.size=w.heap.size+1:=by simp
 generalize w.alloc _=w1 at T b1 b7⊢;have o:=zk.new w1 #[.int .i64 0,.int .i64 0,.int .i64 0,.slice none 0 0,.slice none 0 0,.slice none 0 0,.slice none 0 0,.slice none 0 0,.int .i64 0] 103 (g:=w1.heap.size) rfl;have a3:zb w1 (w1.alloc (.cells #[.int .i64 0,.int .i64 0,.int .i64 0,.slice none 0 0,.slice none 0 0,.slice none 0 0,.slice none 0 0,.slice none 0 0,.int .i64 0] 103)):=(zb.refl w1).alloc _;generalize w1.alloc _=w2 at o a3⊢;rw [b7] at o;obtain ⟨gm,b2⟩:=zad w.heap.size;rw [<-b2] at T o⊢;have Q:Hid (gm=w.heap.size):=b2;have HZ:=zh o;have J:zk w2 gm 103 _:=T.ext a3;have rul:∀{j:Nat} {v:Value},w2.cell? ⟨gm,j,none⟩=some v->∀W,Below (gm+1) w2 W->W.cell? ⟨gm,j,none⟩=some v:=fun h W hW=>(hW.cell (p:=⟨gm,_,none⟩) (Nat.lt_succ_self gm)).trans h
 have r0:=rul (J.cell (k:=0) rfl);have r1:=rul (J.cell (k:=1) rfl);have r2:=rul (J.cell (k:=2) rfl);have r3:=rul (J.cell (k:=3) rfl);have r4:=rul (J.cell (k:=4) rfl);have r5:=rul (J.cell (k:=5) rfl);have r6:=rul (J.cell (k:=6) rfl);have d9:=zh (b1.trans a3);have d8:Hid (gm+1<w2.heap.size):=zd o;clear T b1 b7 o a3 J rul b2;refine EW (S:=(fun W=>Below (gm+1) w2 W)) Ag ((Below.refl (gm+1) w2).drew) fun zH=>?_;have G:Below (gm+1) w2 w2.drew:=(Below.refl (gm+1) w2).drew;have HD:Hid (zb w2 w2.drew):=(zb.refl w2).drew;generalize w2.drew=wd at zH G HD⊢;have I:Hid (zb w wd):=d9.out.trans HD.out;have E:Hid (gm+1<wd.heap.size):=Fh d8.out HD.out.size;refine zf 0 zH ?_;refine zf 1 zH ?_;refine zf 2 zH ?_;refine zf 3 zH ?_;refine zf 5 zH ?_;simp only [za,ED];refine rdA [4,6] ?_;refine Fg rfl (fun K D=>?_) ?_
 ·go_simp;go_at_call 46;refine (Bw wd ((H.out.chs.below I.out).below (zb.refl wd)) (by omega)).mono ?_;rintro e w1 ⟨v1,rfl,b0⟩;have a8:zb wd w1:=b0.ext;have b9:Hid (zD w1 wd.heap.size v1 ch):=b0.own.mono ((zb.refl wd)).size;obtain ⟨A1,n1,c1,rfl⟩:=Cq b9.out;clear b0;refine D.out _ _ (Below.trans G (Below.mono a8 (by have:=E.out;omega))) fun zH=>?_;clear D K
  refine zE 6 fun K D=>?_;go_simp;have hA2:zb w1 (w1.alloc (.cells #[.int .i64 n] 3)):=(zb.refl w1).alloc _;have a5:Hid ((w1.alloc (.cells #[.int .i64 n] 3)).cell? ⟨w1.heap.size,0,none⟩=some (.int .i64 n)):=zr _ _ _ rfl;generalize w1.heap.size=g2 at a5⊢;generalize w1.alloc _=w2 at hA2 a5⊢;have c0:=zh (b9.out.ext hA2);have U:zb wd w2:=Below.trans a8 (hA2.mono (a8).size);refine D.out _ _ (Below.trans G (Below.mono U (by have:=E.out;omega))) fun zH=>?_;clear D K
  refine zE 7 fun K D=>?_;refine Be (ok:=fun _=>True) (by rfl) _ _ _ (by rfl) wd.heap.size ch [n] _ _ (by rfl) (by rfl) c0.out (Dt a5.out) (U).size (by simp;omega) ?_;intro v3 w3 b5 c9 c6;have L:zb wd w3:=Ad U c9 (U).size (fun k hk=>Bg c0.out hk);have d6:=zh b5;obtain ⟨A3,n3,cc3,rfl⟩:=Cq b5;clear b5 c9 c6;refine D.out _ _ (Below.trans G (Below.mono L (by have:=E.out;omega))) fun zH=>?_;clear D K
  refine zE 8 fun K D=>?_;go_simp;go_at_call 66;refine (of_calls (ok:=fun b=>(ok b/\b<w.heap.size)\/wd.heap.size<=b) w3 (((H.out.maze.bound.below I.out).below L).weaken (fun b hb=>.inl hb)) HL.out HC.out ((Mk.ints ⟨d6.out,L⟩).weaken (fun b hb=>.inr hb)) HI.out).mono ?_;rintro e w4 ⟨vp4,rfl,e0,e4⟩;have a1:zb wd w4:=Below.trans L (e0.mono (L).size);have c4:Hid (PSt w4 (fun b=>(ok b\/w.heap.size<=b)/\b≠gm+1) m (.slice Af m.free.length cf) (.slice Au m.up.length cu) (.slice At m.tasks.length ct) (.slice A3 n3 cc3) vp4 (ch++[n])):=e4.weaken (fun b hb=>by have h1:=E.out;have h2:=Q.out;have h3:=I.out.size;have h4:=(L).size;rcases hb with (hb | hb) | hb;exact ⟨.inl hb.1,by omega⟩;exact ⟨.inr (by omega),by omega⟩;exact ⟨.inr (by omega),by omega⟩);obtain ⟨_,_,_,_,_,_,_,_,Ap4,cp4,-,-,-,-,rfl,-,-⟩:=c4.out.parts;unfold Ey;refine D.out _ _ (Below.trans G (Below.mono a1 (by have:=E.out;omega))) fun zH=>?_;clear D K
  refine zE 9 fun K D=>?_;have o:zk w4 (gm+1) 103 _:=(HZ.out.ext HD.out).ext a1;have z0:=o.cell (k:=0) rfl;have z1:=o.cell (k:=1) rfl;have z2:=o.cell (k:=2) rfl;have z3:=o.cell (k:=3) rfl;have z4:=o.cell (k:=4) rfl;have z5:=o.cell (k:=5) rfl;have z6:=o.cell (k:=6) rfl;have z7:=o.cell (k:=7) rfl;have z8:=o.cell (k:=8) rfl;have hfz:∀j,w4.frozen? ⟨gm+1,j,none⟩=false:=fun j=>o.frozen j
  have a4:=zh o;clear o;go_simp;refine D.out _ _ (Below.trans (Below.trans G (Below.mono a1 (by have:=E.out;omega))) (Dw (gm+1) [.int .i64 m.w,.int .i64 m.h,.int .i64 m.l,.slice Af m.free.length cf,.slice Au m.up.length cu,.slice At m.tasks.length ct,.slice A3 n3 cc3,.slice Ap4 (zq m (ch++[n])).length cp4,.int .i64 (zR m (ch++[n]))] 0 w4)) fun zH=>?_;clear D K;try simp only [za,ED]
  refine Fk (by kernel_rfl) ?_ _;go_wp2;refine case_fin9 (P:=fun W=>bodyPost Tryz.prog Tryz.f93 _ Exit.ret _ W) (g2:=gm+1) ?_ a4.out;intro WZ z a9 b3;have y0:=z.cell (k:=0) rfl;have y1:=z.cell (k:=1) rfl;have y2:=z.cell (k:=2) rfl;have y3:=z.cell (k:=3) rfl;have y4:=z.cell (k:=4) rfl;have y5:=z.cell (k:=5) rfl;have y6:=z.cell (k:=6) rfl;have y7:=z.cell (k:=7) rfl;have y8:=z.cell (k:=8) rfl;refine FC (v:=Ey m (.slice Af m.free.length cf) (.slice Au m.up.length cu) (.slice At m.tasks.length ct) (.slice A3 n3 cc3) (.slice Ap4 (zq m (ch++[n])).length cp4) (zR m (ch++[n]))) (by simp [results,Tryz.results93,go_sem,y0,y1,y2,y3,y4,y5,y6,y7,y8,Ey]) rfl ⟨_,_,rfl,?_,?_⟩
  ·exact Below.trans (I.out.trans (Below.mono a1 (EG _))) (a9.mono (by have:=Q.out;omega))
  ·exact (c4.out.keep (fun b hb b4=>b3 b b4 hb.2)).weaken (fun b hb=>hb.1)
 refine Fg rfl (fun K D=>?_) .nil;go_simp;have hA6:zb wd (wd.alloc (.cells #[.int .i64 n] 3)):=(zb.refl wd).alloc _;have a6:Hid ((wd.alloc (.cells #[.int .i64 n] 3)).cell? ⟨wd.heap.size,0,none⟩=some (.int .i64 n)):=zr _ _ _ rfl;generalize wd.heap.size=g6 at a6⊢;generalize wd.alloc _=w6 at hA6 a6⊢;have O:zb wd w6:=Below.trans (zb.refl wd) (hA6.mono ((zb.refl wd)).size);refine D.out _ _ (Below.trans G (Below.mono O (by have:=E.out;omega))) fun zH=>?_;clear D K
 refine zE 4 fun K D=>?_;go_simp;go_at_call 46;refine (Bw w6 ((H.out.chs.below I.out).below O) (by omega)).mono ?_;rintro e w7 ⟨v7,rfl,a0⟩;have V:zb wd w7:=Below.trans O (a0.ext.mono (O).size);have a7:Hid (zD w7 wd.heap.size v7 ch):=a0.own.mono (O).size;have d5:Hid (w7.cell? ⟨g6,0,none⟩=some (.int .i64 n)):=zb.cell a6.out a0.ext;obtain ⟨A7,n7,c7,rfl⟩:=Cq a7.out;clear a0;refine D.out _ _ (Below.trans G (Below.mono V (by have:=E.out;omega))) fun zH=>?_;clear D K
 refine zE 7 fun K D=>?_;refine Be (ok:=fun _=>True) (by rfl) _ _ _ (by rfl) wd.heap.size ch [n] _ _ (by rfl) (by rfl) a7.out (Dt d5.out) (V).size (by simp;omega) ?_;intro v8 w8 b6 d4 c8;have M:zb wd w8:=Ad V d4 (V).size (fun k hk=>Bg a7.out hk);have d7:=zh b6;obtain ⟨A8,n8,cc8,rfl⟩:=Cq b6;clear b6 d4 c8;refine D.out _ _ (Below.trans G (Below.mono M (by have:=E.out;omega))) fun zH=>?_;clear D K
 refine zE 8 fun K D=>?_;go_simp;go_at_call 66;refine (of_calls (ok:=fun b=>(ok b/\b<w.heap.size)\/wd.heap.size<=b) w8 (((H.out.maze.bound.below I.out).below M).weaken (fun b hb=>.inl hb)) HL.out HC.out ((Mk.ints ⟨d7.out,M⟩).weaken (fun b hb=>.inr hb)) HI.out).mono ?_;rintro e w9 ⟨vp9,rfl,e3,e5⟩;have a2:zb wd w9:=Below.trans M (e3.mono (M).size);have c5:Hid (PSt w9 (fun b=>(ok b\/w.heap.size<=b)/\b≠gm+1) m (.slice Af m.free.length cf) (.slice Au m.up.length cu) (.slice At m.tasks.length ct) (.slice A8 n8 cc8) vp9 (ch++[n])):=e5.weaken (fun b hb=>by have h1:=E.out;have h2:=Q.out;have h3:=I.out.size;have h4:=(M).size;rcases hb with (hb | hb) | hb;exact ⟨.inl hb.1,by omega⟩;exact ⟨.inr (by omega),by omega⟩;exact ⟨.inr (by omega),by omega⟩);obtain ⟨_,_,_,_,_,_,_,_,Ap9,cp9,-,-,-,-,rfl,-,-⟩:=c5.out.parts;unfold Ey;refine D.out _ _ (Below.trans G (Below.mono a2 (by have:=E.out;omega))) fun zH=>?_;clear D K
 refine zE 9 fun K D=>?_;have o:zk w9 (gm+1) 103 _:=(HZ.out.ext HD.out).ext a2;have z0:=o.cell (k:=0) rfl;have z1:=o.cell (k:=1) rfl;have z2:=o.cell (k:=2) rfl;have z3:=o.cell (k:=3) rfl;have z4:=o.cell (k:=4) rfl;have z5:=o.cell (k:=5) rfl;have z6:=o.cell (k:=6) rfl;have z7:=o.cell (k:=7) rfl;have z8:=o.cell (k:=8) rfl;have hfz:∀j,w9.frozen? ⟨gm+1,j,none⟩=false:=fun j=>o.frozen j
 have a4:=zh o;clear o;go_simp;refine D.out _ _ (Below.trans (Below.trans G (Below.mono a2 (by have:=E.out;omega))) (Dw (gm+1) [.int .i64 m.w,.int .i64 m.h,.int .i64 m.l,.slice Af m.free.length cf,.slice Au m.up.length cu,.slice At m.tasks.length ct,.slice A8 n8 cc8,.slice Ap9 (zq m (ch++[n])).length cp9,.int .i64 (zR m (ch++[n]))] 0 w9)) fun zH=>?_;clear D K;try simp only [za,ED]
 refine Fk (by kernel_rfl) ?_ _;go_wp2;refine case_fin9 (P:=fun W=>bodyPost Tryz.prog Tryz.f93 _ Exit.ret _ W) (g2:=gm+1) ?_ a4.out;intro WZ z a9 b3;have y0:=z.cell (k:=0) rfl;have y1:=z.cell (k:=1) rfl;have y2:=z.cell (k:=2) rfl;have y3:=z.cell (k:=3) rfl;have y4:=z.cell (k:=4) rfl;have y5:=z.cell (k:=5) rfl;have y6:=z.cell (k:=6) rfl;have y7:=z.cell (k:=7) rfl;have y8:=z.cell (k:=8) rfl;refine FC (v:=Ey m (.slice Af m.free.length cf) (.slice Au m.up.length cu) (.slice At m.tasks.length ct) (.slice A8 n8 cc8) (.slice Ap9 (zq m (ch++[n])).length cp9) (zR m (ch++[n]))) (by simp [results,Tryz.results93,go_sem,y0,y1,y2,y3,y4,y5,y6,y7,y8,Ey]) rfl ⟨_,_,rfl,?_,?_⟩
 ·exact Below.trans (I.out.trans (Below.mono a2 (EG _))) (a9.mono (by have:=Q.out;omega))
 ·exact (c5.out.keep (fun b hb b4=>b3 b b4 hb.2)).weaken (fun b hb=>hb.1)
end
section
open Go.RowKit
attribute [local go_sem ↓] Go.wp_at_zero Go.wp_at_succ
theorem Tryz.infoProof:(Tryz.prog.info? 37).map (fun i=>(i.zero,i.size,i.bytes))=some (some (.agg #[.int .i64 0,.slice none 0 0,.slice none 0 0]),3,56):=by kernel_rfl
theorem eProof:ElemI 35 37 (.agg #[.int .i64 0,.slice none 0 0,.slice none 0 0]) 3 56:=⟨Tryz.underlying35,Tryz.infoProof,rfl,by decide⟩
inductive Dz (w:World) (ok:Nat->Prop):Value->PT->Prop
 | mk {t:Int} {side:List Int} {kids:List PT} {vs vk:Value} {cs:List Value} (hs:zj w ok vs side) (hk:AI w ok 3 vk kids.length cs)
  (he:∀(i:Nat) (hi:i<kids.length),Dz w ok (.agg #[cs.getD (i*3) undef,cs.getD (i*3+1) undef,cs.getD (i*3+2) undef]) kids[i]):Dz w ok (.agg #[.int .i64 t,vs,vk]) (.node t side kids)
theorem Dz.keepW {ok':Nat->Prop} {v:Value} {p:PT} (h:Dz w ok v p) (o:zW ok w w') (z:∀b,ok b->ok' b):Dz w' ok' v p:=by
 induction h with
 | mk h1 h2 _ ih=>exact .mk ((h1.keep o).weaken z) ((h2.keep o).weaken z) ih
theorem Dz.ext {v:Value} {p:PT} (h:Dz w ok v p) (o:zb w w'):Dz w' ok v p:=h.keepW (zW.of_below o) (fun _ h=>h)
theorem Dz.zero (w:World) (ok:Nat->Prop):Dz w ok (.agg #[.int .i64 0,.slice none 0 0,.slice none 0 0]) PT.zero:=
 .mk (cs:=[]) (zj.nil _ _) ⟨none,0,rfl,EG _,Ae.nil _ _ _ _⟩ (fun i o=>absurd o (by simp))
theorem Dz.form {v:Value} {p:PT} (h:Dz w ok v p):∃As cs Ak ck,v=.agg #[.int .i64 p.task,.slice As p.side.length cs,.slice Ak p.kids.length ck]/\zj w ok (.slice As p.side.length cs) p.side:=by
 cases h with
 | mk h1 h2 _=>
  have o:=h1;obtain ⟨As,cs,rfl,-,-⟩:=h1;obtain ⟨Ak,ck,rfl,-,-⟩:=h2;exact ⟨As,cs,Ak,ck,rfl,o⟩
theorem prove1_calls {gs gt:Nat} {At:Option Addr} {ct tk:Nat} (x:Int) (w:World) (M:w.cell? ⟨gs,5,none⟩=some (.slice At m.tasks.length ct)) (O:w.cell? ⟨gt,0,none⟩=some (.int .i64 tk)) (D:BU w ok (.slice At m.tasks.length ct) m.tasks) (G:Lens m) (o:tk<m.tasks.length):
  Calls Tryz.prog 125 #[.int .i64 x,.pointer (some ⟨gs,0,none⟩),.pointer (some ⟨gt,0,none⟩)] w fun e w'=>e=.returned (.bool (decide (x∈(m.tasks.getD tk ([],[])).2)))/\w=w':=by
 obtain ⟨bt,offt,sn,u1,u2,rfl,-,-,-,J,-,z⟩:=AJ D o;have L:=(G.tl _ (EH o)).2;have E:(m.tasks.getD tk ([],[])).2=(m.tasks[tk]).2:=by rw [zgd o]
 rw [E];have I:=zh z;obtain ⟨Au,cu,rfl,-,-⟩:=z;have k0:(0:Int)<=(tk:Int):=by omega
 have k1:(tk:Int)<(m.tasks.length:Int):=by omega
 clear G D E
 go_enter Tryz.func125,Tryz.ntmps125
 go_wp2_with fail
 refine (zB x w I.out (by omega)).mono ?_;rintro e w9 ⟨rfl,rfl⟩
 go_wp2_with fail
 go_ret;exact ⟨rfl,rfl⟩
end
section
open Go.RowKit
theorem find_at {p:Nat->Bool} {c:Nat} (E:i<n) (hp:p (c+i)=true) (z:∀j,j<i->p (c+j)=false):((List.range n).map (c+·)).find? p=some (c+i):=by
 have h:List.range n=List.range i++([i]++(List.range (n - i - 1)).map (i+1+·)):=by
  have h1:n=(i+1)+(n - i - 1):=by omega
  conv=>lhs;rw [h1,List.range_add,List.range_succ,List.append_assoc]
 rw [h,Fz,List.find?_append]
 have h0:((List.range i).map (c+·)).find? p=none:=by
  rw [List.find?_eq_none];intro x D;obtain ⟨j,o,rfl⟩:=FH.1 D;rw [z j (FI.1 o)];simp
 rw [h0];simp [hp]
theorem find_no {p:Nat->Bool} {c:Nat} (z:∀j,j<n->p (c+j)=false):((List.range n).map (c+·)).find? p=none:=by
 rw [List.find?_eq_none];intro x D;obtain ⟨j,o,rfl⟩:=FH.1 D;rw [z j (FI.1 o)];simp
theorem cutT_at (h0:zR m ch<=t) (h1:t<m.tasks.length) (hp:offB m ch t=true) (o:∀j,zR m ch<=j->j<t->offB m ch j=false):cutT m ch=some t:=by
 unfold cutT;have:=find_at (p:=offB m ch) (c:=zR m ch) (n:=m.tasks.length - zR m ch) (i:=t - zR m ch) (by omega) (by rw [show zR m ch+(t - zR m ch)=t from by omega];exact hp) (fun j z=>o _ (by omega) (by omega));rw [this,show zR m ch+(t - zR m ch)=t from by omega]
theorem cutT_no (o:∀j,zR m ch<=j->j<m.tasks.length->offB m ch j=false):cutT m ch=none:=by
 unfold cutT;exact find_no fun j z=>o _ (by omega) (by omega)
theorem proveP_end {f:Nat} (h:m.tasks.length<=zR m ch):zu m (f+1) ch k=(51,.zero,k):=by
 conv=>lhs;unfold zu
 rw [if_pos h]
theorem proveP_many {f:Nat} (h:¬ m.tasks.length<=zR m ch) (o:3000<k+1):zu m (f+1) ch k=(53,.zero,k+1):=by
 conv=>lhs;unfold zu
 rw [if_neg h,if_pos o]
theorem proveP_cut {f:Nat} (h:¬ m.tasks.length<=zR m ch) (z:¬ 3000<k+1) (o:cutT m ch=some t):zu m (f+1) ch k=(0,.node t (Cw m ch t) [],k+1):=by
 conv=>lhs;unfold zu
 rw [if_neg h,if_neg z,o]
theorem proveP_kids {f:Nat} (h:¬ m.tasks.length<=zR m ch) (z:¬ 3000<k+1) (o:cutT m ch=none):zu m (f+1) ch k=if (zZ (fun n k=>zu m f (ch++[n]) k) (zO m ch) (k+1) []).1=0 then (0,.node (zR m ch) [] (zZ (fun n k=>zu m f (ch++[n]) k) (zO m ch) (k+1) []).2.1,(zZ (fun n k=>zu m f (ch++[n]) k) (zO m ch) (k+1) []).2.2) else ((zZ (fun n k=>zu m f (ch++[n]) k) (zO m ch) (k+1) []).1,.zero,(zZ (fun n k=>zu m f (ch++[n]) k) (zO m ch) (k+1) []).2.2):=by
 conv=>lhs;unfold zu
 rw [if_neg h,if_neg z,o]
theorem DW {f:Int->Nat->Int×PT×Nat} {n:Int} {acc:List PT} (h:(f n k).1=0):zZ f (n :: l) k acc=zZ f l (f n k).2.2 (acc++[(f n k).2.1]):=by
 conv=>lhs;unfold zZ
 rw [if_pos h]
theorem kidsR_stop {f:Int->Nat->Int×PT×Nat} {n:Int} {acc:List PT} (h:(f n k).1≠0):zZ f (n :: l) k acc=((f n k).1,[],(f n k).2.2):=by
 conv=>lhs;unfold zZ
 rw [if_neg h]
theorem Dz.bound {w:World} {ok:Nat->Prop} {v:Value} {p:PT} (h:Dz w ok v p):Dz w (fun b=>ok b/\b<w.heap.size) v p:=by
 induction h with
 | mk h1 h2 _ ih=>exact .mk h1.bound (h2.bound (by decide)) ih
theorem own_chg {W W':World} {X:Nat->Prop} {B sz:Nat} {e:TypeId} {v:Value} {xs:List Value} (h:W.ownsRow B e sz v n xs) (z:zp X W W') (D:∀b,B<=b->¬ X b):W'.ownsRow B e sz v n xs:=by
 refine ⟨h.1,?_⟩;rcases h.2 with h | ⟨g,cap,cur,h1,h2,h3,o⟩
 ·exact .inl h
 ·exact .inr ⟨g,cap,cur,h1,h2,(z.block g (zd h3) (D g h2)).trans h3,o⟩
structure BT (W:World) (B:Nat) (v:Value) (acc:List PT) (cs:List Value):Prop where
 own:W.ownsRow B 37 3 v acc.length cs
 each:∀(i:Nat) (hi:i<acc.length),Dz W (fun b=>B<=b/\v.ownBlock≠some b) (.agg #[cs.getD (i*3) undef,cs.getD (i*3+1) undef,cs.getD (i*3+2) undef]) acc[i]
section
variable {W W':World} {B lo:Nat} {v v':Value} {acc:List PT} {cs:List Value} {p:PT} {a b c:Value} {X:Nat->Prop}
theorem BT.nil (W:World) (B:Nat):BT W B (.slice none 0 0) [] []:=⟨World.ownsRow_nil _ _ _ _,fun i o=>absurd o (by simp)⟩
theorem BT.chg (h:BT W B v acc cs) (z:zp X W W') (D:∀b,B<=b->¬ X b):BT W' B v acc cs:=
 ⟨own_chg h.own z D,fun i G=>(h.each i G).keepW (fun b E o=>z.block b o (D b E.1)) (fun _ h=>h)⟩
theorem BT.lt (h:BT W B v acc cs) (o:v.ownBlock=some k):B<=k/\k<W.heap.size:=by
 rcases h.own.2 with ⟨rfl,-⟩ | ⟨g,cap,cur,rfl,h1,h2,-⟩
 ·cases o
 ·have:g=k:=by simpa [Value.ownBlock] using o
  subst this;exact ⟨h1,zd h2⟩
theorem getD_left {l l2:List Value} (h:i<l.length):(l++l2).getD i undef=l.getD i undef:=by
 rw [EF,EF,EL h]
theorem BT.app (h:BT W B v acc cs) (hp:Dz W (fun b=>lo<=b) (.agg #[a,b,c]) p) (E:∀k,v.ownBlock=some k->k<lo) (T:B<=lo) (O:W'.ownsRow B 37 3 v' (acc.length+1) (cs++[a,b,c])) (J:W.grownBy W' v.ownBlock)
  (Q:v'.ownBlock=v.ownBlock\/v'.ownBlock=some W.heap.size):BT W' B v' (acc++[p]) (cs++[a,b,c]):=by
 have z:cs.length=acc.length*3:=h.own.1
 have G:∀k,k<W.heap.size->v.ownBlock≠some k->v'.ownBlock≠some k:=fun k o h1=>by
  rcases Q with h2 | h2
  ·rw [h2];exact h1
  ·rw [h2];intro e;injection e with e;omega
 refine ⟨by rw [EO];exact O,fun i L=>?_⟩;by_cases M:i<acc.length
 ·rw [getD_left (by omega),getD_left (by omega),getD_left (by omega),List.getElem_append_left M];exact (h.each i M).bound.keepW (fun k o D=>J.block k D (fun e=>o.1.2 e.symm)) (fun k o=>⟨o.1.1,G k o.2 o.1.2⟩)
 ·have I:i=acc.length:=by rw [EO,Ff] at L;omega
  subst I;have e0:(cs++[a,b,c]).getD (acc.length*3) undef=a:=by rw [EF,EM (by omega),z,Nat.sub_self];rfl
  have e1:(cs++[a,b,c]).getD (acc.length*3+1) undef=b:=by rw [EF,EM (by omega),z,Nat.add_sub_cancel_left];rfl
  have e2:(cs++[a,b,c]).getD (acc.length*3+2) undef=c:=by rw [EF,EM (by omega),z,Nat.add_sub_cancel_left];rfl
  rw [e0,e1,e2];have:(acc++[p])[acc.length]'L=p:=by simp
  rw [this];exact hp.bound.keepW (fun k o D=>J.block k D (fun e=>by have:=E k e.symm;omega)) (fun k o=>⟨by omega,G k o.2 (fun e=>by have:=E k e;omega)⟩)
theorem BT.kids (h:BT W B v acc cs) (t:Int):Dz W (fun b=>B<=b) (.agg #[.int .i64 t,.slice none 0 0,v]) (.node t [] acc):=
 .mk (cs:=cs) (zj.nil _ _) (AI.of_own h.own) (fun i o=>(h.each i o).keepW (fun _ _ _=>rfl) (fun _ h=>h.1))
end
theorem zp.wide {X X':Nat->Prop} {a b:World} (h:zp X a b) (o:∀k,X k->X' k):zp X' a b:=⟨h.os,h.tape,h.output,h.size,fun b z D=>h.block b z fun e=>D (o b e)⟩
theorem zp.set {X:Nat->Prop} {a b:World} (h:zp X a b) (g k:Nat) (v:Value) (z:X g):zp X a (b.setCell ⟨g,k,none⟩ v):=
 ⟨h.os,h.tape,h.output,by simpa using h.size,fun i D o=>(EP b ⟨g,k,none⟩ v i (fun e=>o (by rw [e];exact z))).trans (h.block i D o)⟩
theorem zp.grown {X:Nat->Prop} {a b c:World} {r:Option Nat} (h:zp X a b) (o:b.grownBy c r) (E:∀k,r=some k->k<a.heap.size->X k):zp X a c:=
 ⟨o.os.trans h.os,o.tape.trans h.tape,o.output.trans h.output,EI h.size o.size,fun i z D=>(o.block i (Fh z h.size) (fun e=>D (E i e.symm z))).trans (h.block i z D)⟩
theorem zp.blk {X:Nat->Prop} {a b:World} {t:TypeId} {cs:Array Value} (h:zp X a b) (o:zk a g t cs) (z:¬ X g):zk b g t cs:=(h.block g (zd o) z).trans o
theorem zp.cellk {X:Nat->Prop} {a b:World} {p:Addr} {v:Value} (h:zp X a b) (o:a.cell? p=some v) (z:¬ X p.block):b.cell? p=some v:=(CK (h.block _ (zo o) z)).trans o
theorem zb.cellB {W:World} {t:TypeId} {cs:Array Value} (o:zb w W) (h:zk w g t cs):zk W g t cs:=h.ext o
theorem prove_err {F:Int->Nat->Int×PT×Nat} {n:Int} {L:List Int} {k0:Nat} {acc:List PT} (h:(F n k).1≠0) (o:zZ F L k0 []=zZ F (n :: l) k acc) {a:Int×PT×Nat} {b:PT×Nat}:(if (zZ F L k0 []).1=0 then a else ((zZ F L k0 []).1,b)).1=(F n k).1:=by
 rw [o,kidsR_stop h,if_neg h]
theorem prv_row1 {W:World} {a b c:Value} (o:zk W g 37 #[a,b,c]):AI W (fun _=>True) 3 (.slice (some ⟨g,0,none⟩) 1 1) 1 [a,b,c]:=
 ⟨_,1,rfl,EG _,by simp,fun _=>⟨g,0,rfl,trivial,fun j u z=>by rw [Nat.zero_add];exact o.cell (by simpa using z)⟩⟩
end
end Go.Proofs.YthbjngbhbbkkgaaGreat
