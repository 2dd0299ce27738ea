import Derived.Test.YthbjngbhbbkkgaaGreatHPh
set_option linter.unusedVariables false
set_option linter.unusedSimpArgs false
set_option maxRecDepth 100000
set_option maxHeartbeats 16000000
namespace Go.Proofs.YthbjngbhbbkkgaaGreat
variable {d x:Int} {fixed:List (List Int)} {ch l:List Int} {m:MZ} {i n t:Nat} {ok okm:Nat->Prop} {f ts u vc vp:Value}
section
open Go.RowKit
attribute [local go_sem ↓] Go.wp_at_zero Go.wp_at_succ
theorem box9 (w:World) (a0 a1 a2 a3 a4 a5 a6 a7 a8:Value):zb w (w.alloc (.cells #[a0,a1,a2,a3,a4,a5,a6,a7,a8] 103))/\
  (∀W,zb (w.alloc (.cells #[a0,a1,a2,a3,a4,a5,a6,a7,a8] 103)) W->W.cell? ⟨w.heap.size,0,none⟩=some a0)/\(∀W,zb (w.alloc (.cells #[a0,a1,a2,a3,a4,a5,a6,a7,a8] 103)) W->W.cell? ⟨w.heap.size,1,none⟩=some a1)/\(∀W,zb (w.alloc (.cells #[a0,a1,a2,a3,a4,a5,a6,a7,a8] 103)) W->W.cell? ⟨w.heap.size,2,none⟩=some a2)/\(∀W,zb (w.alloc (.cells #[a0,a1,a2,a3,a4,a5,a6,a7,a8] 103)) W->W.cell? ⟨w.heap.size,3,none⟩=some a3)/\(∀W,zb (w.alloc (.cells #[a0,a1,a2,a3,a4,a5,a6,a7,a8] 103)) W->W.cell? ⟨w.heap.size,4,none⟩=some a4)/\(∀W,zb (w.alloc (.cells #[a0,a1,a2,a3,a4,a5,a6,a7,a8] 103)) W->W.cell? ⟨w.heap.size,5,none⟩=some a5)/\(∀W,zb (w.alloc (.cells #[a0,a1,a2,a3,a4,a5,a6,a7,a8] 103)) W->W.cell? ⟨w.heap.size,6,none⟩=some a6)/\(∀W,zb (w.alloc (.cells #[a0,a1,a2,a3,a4,a5,a6,a7,a8] 103)) W->W.cell? ⟨w.heap.size,7,none⟩=some a7)/\(∀W,zb (w.alloc (.cells #[a0,a1,a2,a3,a4,a5,a6,a7,a8] 103)) W->W.cell? ⟨w.heap.size,8,none⟩=some a8):=by
 have o:=zg.new w #[a0,a1,a2,a3,a4,a5,a6,a7,a8] 103 rfl;exact ⟨(zb.refl w).alloc _,zb.rule (o.cell (k:=0) rfl),zb.rule (o.cell (k:=1) rfl),zb.rule (o.cell (k:=2) rfl),zb.rule (o.cell (k:=3) rfl),zb.rule (o.cell (k:=4) rfl),zb.rule (o.cell (k:=5) rfl),zb.rule (o.cell (k:=6) rfl),zb.rule (o.cell (k:=7) rfl),zb.rule (o.cell (k:=8) rfl)⟩
theorem PSt.parts {w:World} {ok:Nat->Prop} {m:MZ} {f u ts vc vp:Value} {ch:List Int} (h:PSt w ok m f u ts vc vp ch):∃Af cf Au cu At ct Ac cc Ap cp,f=.slice Af m.free.length cf/\u=.slice Au m.up.length cu/\ts=.slice At m.tasks.length ct/\vc=.slice Ac ch.length cc/\vp=.slice Ap (zv m ch).length cp/\
  Bn w ok (.slice Af m.free.length cf) m.free/\BX w ok (.slice At m.tasks.length ct) m.tasks:=by
 obtain ⟨Af,cf,Au,cu,At,ct,e,s,-,o⟩:=h.maze.parts;injection e with e;injection e with e;simp only [List.cons.injEq,and_true,true_and] at e;obtain ⟨rfl,rfl,rfl⟩:=e;obtain ⟨Ac,cc,rfl,-,-⟩:=h.chs;obtain ⟨_,⟨Ap,cp,rfl,-,-⟩,-⟩:=h.ps;exact ⟨Af,cf,Au,cu,At,ct,Ac,cc,Ap,cp,rfl,rfl,rfl,rfl,rfl,s,o⟩
theorem pcomplete_calls (t:Int) (w:World) (h:PSt w ok m f u ts vc vp ch):
  Calls Tryz.prog 90 #[stv m f u ts vc vp t] w fun e w'=>e=.returned (.bool (decide ((m.tasks.length:Int)<=t)))/\zb w w':=by
 obtain ⟨Af,cf,Au,cu,At,ct,Ac,cc,Ap,cp,rfl,rfl,rfl,rfl,rfl,-,-⟩:=h.parts;clear h;unfold stv
 go_enter Tryz.func90,Tryz.ntmps90
 go_wp2_with fail
 obtain ⟨o,r0,r1,r2,r3,r4,r5,r6,r7,r8⟩:=box9 w (.int .i64 m.w) (.int .i64 m.h) (.int .i64 m.l) (.slice Af m.free.length cf) (.slice Au m.up.length cu) (.slice At m.tasks.length ct) (.slice Ac ch.length cc) (.slice Ap (zv m ch).length cp) (.int .i64 t);generalize w.alloc _=w1 at o r0 r1 r2 r3 r4 r5 r6 r7 r8⊢;obtain ⟨gm,s⟩:=zak w.heap.size;rw [<-s] at r0 r1 r2 r3 r4 r5 r6 r7 r8⊢;clear s;have D:zb w1 w1:=zb.refl w1;have z:=zh o;clear o
 go_wp2_with fail
 go_ret;exact ⟨rfl,z.out⟩
theorem popen_calls (t:Int) (tk:Nat) (n:Int) (w:World) (h:PSt w ok m f u ts vc vp ch) (g:zI m) (J:ch.length<=20000000000000) (M:tk<m.free.length) (h0:0<=n) (h1:n<m.n):
  Calls Tryz.prog 119 #[stv m f u ts vc vp t,.int .i64 tk,.int .i64 n] w fun e w'=>e=.returned (.bool (zl m tk n && !decide (n∈ch)))/\zb w w':=by
 have H:=zh h;obtain ⟨Af,cf,Au,cu,At,ct,Ac,cc,Ap,cp,rfl,rfl,rfl,rfl,rfl,O,-⟩:=h.parts;obtain ⟨b,off,b',off',l,c',rfl,D,hl,V,U,z⟩:=Dq O g.fn M h0 h1;have Q:=zh h.chs;clear h O g;obtain ⟨fv,E⟩:=zak (zl m tk n);rw [<-E] at z⊢;clear E;have k0:(0:Int)<=(tk:Int):=by omega
 have k1:(tk:Int)<(m.free.length:Int):=by omega
 have Z:off'+n.toNat=off'+n.toNat:=rfl;unfold stv
 go_enter Tryz.func119,Tryz.ntmps119
 go_upto_region 1 with fail;obtain ⟨s,r0,r1,r2,r3,r4,r5,r6,r7,r8⟩:=box9 w (.int .i64 m.w) (.int .i64 m.h) (.int .i64 m.l) (.slice (some ⟨b,off,none⟩) m.free.length cf) (.slice Au m.up.length cu) (.slice At m.tasks.length ct) (.slice Ac ch.length cc) (.slice Ap (zv m ch).length cp) (.int .i64 t);generalize w.alloc _=w1 at s r0 r1 r2 r3 r4 r5 r6 r7 r8⊢;obtain ⟨gm,G⟩:=zak w.heap.size;rw [<-G] at r0 r1 r2 r3 r4 r5 r6 r7 r8⊢;clear G;have hx:zb w1 w1:=zb.refl w1;have o:=zh s;clear s;have q1:=zb.rule (o.out.cell D);have q2:=zb.rule (o.out.cell z);have I:=zh (Q.out.below o.out);clear D z
 cases fv with
 | false=>
  go_wp2_with fail
  go_ret;exact ⟨rfl,o.out⟩
 | true=>
  go_wp2_with fail
  refine (zE n w1 I.out J).mono ?_;rintro e w9 ⟨rfl,rfl⟩
  go_wp2_with fail
  go_ret;exact ⟨rfl,o.out⟩
theorem phead_calls (t:Int) (tk:Nat) (w:World) (h:PSt w ok m f u ts vc vp ch) (hl:Lens m) (hc:AY m=0) (hi:zC m ch) (O:tk<m.tasks.length):
  Calls Tryz.prog 116 #[stv m f u ts vc vp t,.int .i64 tk] w fun e w'=>∃v',e=.returned v'/\zb w w'/\zi w' (fun _=>True) v' (BP m ch tk):=by
 have H:=zh h;have a0:=BQ hc hi;have G:=zh (zI.of hc);have HL:=zh hl;have e6:=zh G.out.fl;obtain ⟨_,g3,_⟩:=h.ps;have b4:=‹∀(i:Nat) x,(zv m ch)[i]?=some x->_›;obtain ⟨Af,cf,Au,cu,At,ct,Ac,cc,Ap,cp,rfl,rfl,rfl,rfl,rfl,hf,c6⟩:=h.parts;obtain ⟨_,_,e,-,c4⟩:=g3;injection e with e1 e2 e3;subst e1 e3;have f2:=zh c6;have a9:=zh c4;have e5:=zh b4;obtain ⟨PL,hP⟩:=zak ((zv m ch).length);rw [<-hP] at a9 H;clear h hf c6 c4 b4 hl hc;unfold stv;rw [<-hP];by_cases f9:tk<PL
 ·obtain ⟨h7,g8,-,b9⟩:=a0;have M:tk<(zv m ch).length:=by omega
  obtain ⟨bp,offp,up,rfl,-,a1,c7⟩:=zO a9.out e5.out f9 M;obtain ⟨V,Z⟩:=b9 _ (EO M)
  have D:Hid (BP m ch tk=((zv m ch)[tk]).getLast?.toList):=by
   show _=_;unfold BP;rw [if_pos M,EM,EL M];rfl
  obtain ⟨P,b2⟩:=zak ((zv m ch)[tk]);rw [<-b2] at c7 V Z D;clear b2 b9 hi;obtain ⟨q,x,rfl⟩:∃q x,P=q++[x]:=⟨P.dropLast,P.getLast V,(List.dropLast_concat_getLast V).symm⟩;obtain ⟨Aq,cq,rfl,a3,c5⟩:=c7;obtain ⟨bq,offq,e,-,U⟩:=zy c5 (k:=q.length) (by simp) (by simp);have U:w.cell? ⟨bq,offq+q.length,none⟩=some (.int .i64 x):=by rw [U];simp
  subst e;obtain ⟨N,hN⟩:=zak ((q++[x]).length);obtain ⟨n,hn⟩:=zak q.length;have b1:N=n+1:=by rw [hN,hn];simp
  rw [<-hN] at a1 Z a3;rw [<-hn] at U
  have e7:Hid (BP m ch tk=[x]):=by
   show _=_;rw [D.out,List.getLast?_append];rfl
  clear c5 hN hn D V hP;have k0:(0:Int)<=(tk:Int):=by omega
  have k1:(tk:Int)<(PL:Int):=by omega
  have i2:IntKind.i64.wrap ((N:Int) - 1)=(n:Int):=by rw [Fi];omega
  have h8:(0:Int)<=(n:Int):=by omega
  have h9:(n:Int)<=(N:Int):=by omega
  have i0:N - n=1:=by omega
  have i1:(N:Int)<=(cq:Int):=by omega
  have HQ:=zh b1;have e4:=zh a3
  go_enter Tryz.func116,Tryz.ntmps116
  go_upto_region 1 with fail;obtain ⟨z,r0,r1,r2,r3,r4,r5,r6,r7,r8⟩:=box9 w (.int .i64 m.w) (.int .i64 m.h) (.int .i64 m.l) (.slice Af m.free.length cf) (.slice Au m.up.length cu) (.slice At m.tasks.length ct) (.slice Ac ch.length cc) (.slice (some ⟨bp,offp,none⟩) PL cp) (.int .i64 t);generalize w.alloc _=w1 at z r0 r1 r2 r3 r4 r5 r6 r7 r8⊢;obtain ⟨gm,J⟩:=zak w.heap.size;rw [<-J] at r0 r1 r2 r3 r4 r5 r6 r7 r8⊢;clear J;have hx:zb w1 w1:=zb.refl w1;have s:=zh z;clear z;have qp:=zb.rule (s.out.cell a1);clear a1 b1 a3 M
  go_wp2_with fail
  go_ret;refine ⟨_,rfl,s.out,?_⟩;rw [e7.out];refine ⟨_,_,rfl,by have:=HQ.out;have:=e4.out;show 1<=_;omega,rfl,fun _=>⟨bq,offq+n,rfl,trivial,fun j u hu=>?_⟩⟩
  match j,hu with
  | 0,hu=>
   have:u=.int .i64 x:=by simpa using hu.symm
   rw [this];exact s.out.cell U
 ·obtain ⟨bt,offt,sn,u1,u2,rfl,-,-,b3,-,a4,-⟩:=AO f2.out O;have a6:=fun x hx=>G.out.tn _ (EO O) x (.inl hx)
  have b5:=(HL.out.tl _ (EO O)).1
  have D:Hid (BP m ch tk=((m.tasks[tk]).1).filter fun n=>zl m tk n && !decide (n∈ch)):=by
   show _=_;unfold BP;rw [if_neg (by omega),EM,EL O];rfl
  obtain ⟨L,hL⟩:=zak ((m.tasks[tk]).1);rw [<-hL] at a4 a6 b5 D;clear hL;have f1:=zh a6;have e0:Hid (ch.length<=300):=a0.2.2.1;have f0:Hid (tk<m.free.length):=by show _<_;rw [e6.out];exact O
  have k0:(0:Int)<=(tk:Int):=by omega
  have k1:(tk:Int)<(m.tasks.length:Int):=by omega
  have k2:¬ ((tk:Int)<(PL:Int)):=by omega
  clear a6 a0 hi hP;obtain ⟨p,a5⟩:∃p:Int->Bool,p=fun n=>zl m tk n && !decide (n∈ch):=⟨_,rfl⟩
  rw [<-a5] at D;have e9:=zh a5;clear a5
  go_enter Tryz.func116,Tryz.ntmps116
  go_upto_region 1 with fail;obtain ⟨z,r0,r1,r2,r3,r4,r5,r6,r7,r8⟩:=box9 w (.int .i64 m.w) (.int .i64 m.h) (.int .i64 m.l) (.slice Af m.free.length cf) (.slice Au m.up.length cu) (.slice (some ⟨bt,offt,none⟩) m.tasks.length ct) (.slice Ac ch.length cc) (.slice Ap PL cp) (.int .i64 t);generalize w.alloc _=w1 at z r0 r1 r2 r3 r4 r5 r6 r7 r8⊢;obtain ⟨gm,J⟩:=zak w.heap.size;rw [<-J] at r0 r1 r2 r3 r4 r5 r6 r7 r8⊢;clear J;have hx:zb w1 w1:=zb.refl w1;have s:=zh z;clear z;have qt:=zb.rule (s.out.cell b3);have e8:=zh (a4.below s.out);obtain ⟨Al,cl,rfl,h5,-⟩:=a4;clear b3
  go_wp2_with fail
  have a8:=zh (Mk.nil w1);go_loopw [4,31] (fun v i wr=>∃k:Nat,k<=L.length/\i=.int .i64 (k:Nat)/\Hid (Mk w1 wr v ((L.take k).filter p))) (fun _ i _=>L.length - (intOf i).toNat)
  case atStart=>exact ⟨0,Fb _,rfl,a8⟩
  clear a8
  case round=>
   obtain ⟨k,hk,rfl,hM⟩:=hrel;have hx:zb w1 wr:=hM.out.ext;obtain ⟨wk,rfl⟩:∃wk:World,wk=wr:=⟨_,rfl⟩;by_cases E:k<L.length
   ·obtain ⟨A',c',e,-,c0⟩:=e8.out;injection e with e1 e2 e3;subst e1 e3;obtain ⟨bl,offl,rfl,-,o⟩:=zy c0 E E;clear c0;obtain ⟨c8,c9⟩:=f1.out _ (EO E);have Q:=EU E;obtain ⟨x,d5⟩:=zak (L[k]);rw [<-d5] at o c8 c9 Q;clear d5;have HT:=zh Q;have o:wk.cell? ⟨bl,offl+k,none⟩=some (.int .i64 x):=hx.cell o;clear Q;have kk0:(0:Int)<=(k:Int):=by omega
    have kk1:(k:Int)<(L.length:Int):=by omega
    go_wp2_with fail
    refine (popen_calls t tk x wk ((H.out.more s.out).more hx) G.out (by have:=e0.out;omega) f0.out c8 c9).mono ?_;rintro e w9 ⟨rfl,b0⟩;have I:=zh (hM.out.more b0);have d4:=I.out.ext;have hp:p x=(zl m tk x && !decide (x∈ch)):=by rw [e9.out]
    rw [<-hp];clear hp o b0;have f8:((L.take k).filter p).length<=L.length:=EP (Fr _ _) (by simp;omega)
    cases hb:p x with
    | true=>
     have HS:Hid ((L.take (k+1)).filter p=(L.take k).filter p++[x]):=by show _=_;rw [HT.out,FC,FJ hb];rfl
     clear hb;obtain ⟨l,b7⟩:=zak ((L.take k).filter p);rw [<-b7] at I f8 HS;clear b7
     go_wp2_with (at_builtin;refine AP rfl _ _ rfl _ l x w1.heap.size w9.heap.size 1 _ rfl rfl (I.out.own.alloc _) ?d1 ?d2 ?d3 ?_)
     (try case d1=>exact zr _ _ _ (by simp))
     case d2=>(first | (simp;done) | (have:=d4.size;simp;omega) | (have:=d4.size;omega))
     case d3=>omega
     intro v' wb b8 b6 f5;have f3:=zh ((I.out.alloc _).app b8 b6);clear b8 b6 f5;go_wp2;go_roundw
     case rel=>exact ⟨k+1,by omega,by go_num,by rw [HS.out];exact f3⟩
     case measure=>simp [intOf];omega
    | false=>
     have HS:Hid ((L.take (k+1)).filter p=(L.take k).filter p):=by show _=_;rw [HT.out,FC,Fw (by rw [hb];simp),List.filter_nil,List.append_nil]
     clear hb;go_wp2;go_roundw
     case rel=>exact ⟨k+1,by omega,by go_num,by rw [HS.out];exact I⟩
     case measure=>simp [intOf];omega
   ·obtain rfl:k=L.length:=by omega
    go_wp2;go_ret;refine ⟨_,rfl,s.out.trans hM.out.ext,?_⟩;rw [D.out];have:=hM.out;rw [EY] at this;exact this.ints.weaken (fun _ _=>trivial)
end
section
open Go.RowKit
attribute [local go_sem ↓] Go.wp_at_zero Go.wp_at_succ
attribute [local go_sem] Oper.semAt_some
theorem PSt.weaken {w:World} {ok ok':Nat->Prop} {m:MZ} {f u ts vc vp:Value} {ch:List Int} (h:PSt w ok m f u ts vc vp ch) (o:∀b,ok b->ok' b):PSt w ok' m f u ts vc vp ch:=⟨h.maze.weaken o,h.chs.weaken o,h.ps.weaken o⟩
theorem PSt.keep {w w':World} {ok:Nat->Prop} {m:MZ} {f u ts vc vp:Value} {ch:List Int} (h:PSt w ok m f u ts vc vp ch) (o:Ao ok w w'):PSt w' ok m f u ts vc vp ch:=⟨h.maze.keep o,h.chs.keep o,h.ps.keep o⟩
theorem pnext_calls (t n:Int) (w:World) (h:PSt w ok m f u ts vc vp ch) (hl:Lens m) (hc:AY m=0) (hi:zC m (ch++[n])) (f7:ch.length<=300):
  Calls Tryz.prog 93 #[stv m f u ts vc vp t,.int .i64 n] w fun e w'=>∃vc' vp',e=.returned (stv m f u ts vc' vp' (AD m (ch++[n])))/\zb w w'/\PSt w' (fun b=>ok b\/w.heap.size<=b) m f u ts vc' vp' (ch++[n]):=by
 have H:=zh h;have HL:=zh hl;have HC:=zh hc;have HI:=zh hi;obtain ⟨Af,cf,Au,cu,At,ct,Ac,cc,Ap,cp,rfl,rfl,rfl,rfl,rfl,-,-⟩:=h.parts;obtain ⟨PL,hP⟩:=zak ((zv m ch).length);rw [<-hP] at H⊢;clear h hl hc hi hP;unfold stv
 go_enter Tryz.func93,Tryz.ntmps93
 go_upto_region 1 with fail;have U:=zg.new w #[.int .i64 m.w,.int .i64 m.h,.int .i64 m.l,.slice Af m.free.length cf,.slice Au m.up.length cu,.slice At m.tasks.length ct,.slice Ac ch.length cc,.slice Ap PL cp,.int .i64 t] 103 (g:=w.heap.size) rfl;have b2:zb w (w.alloc (.cells #[.int .i64 m.w,.int .i64 m.h,.int .i64 m.l,.slice Af m.free.length cf,.slice Au m.up.length cu,.slice At m.tasks.length ct,.slice Ac ch.length cc,.slice Ap PL cp,.int .i64 t] 103)):=(zb.refl w).alloc _;have b8:(w.alloc (.cells #[.int .i64 m.w,.int .i64 m.h,.int .i64 m.l,.slice Af m.free.length cf,.slice Au m.up.length cu,.slice At m.tasks.length ct,.slice Ac ch.length cc,.slice Ap PL cp,.int .i64 t] 103)).heap.size=w.heap.size+1:=by simp
 generalize w.alloc _=w1 at U b2 b8⊢;have o:=zg.new w1 #[.int .i64 0,.int .i64 0,.int .i64 0,.slice none 0 0,.slice none 0 0,.slice none 0 0,.slice none 0 0,.slice none 0 0,.int .i64 0] 103 (g:=w1.heap.size) rfl;have a4:zb w1 (w1.alloc (.cells #[.int .i64 0,.int .i64 0,.int .i64 0,.slice none 0 0,.slice none 0 0,.slice none 0 0,.slice none 0 0,.slice none 0 0,.int .i64 0] 103)):=(zb.refl w1).alloc _;generalize w1.alloc _=w2 at o a4⊢;rw [b8] at o;obtain ⟨gm,b3⟩:=zak w.heap.size;rw [<-b3] at U o⊢;have Q:Hid (gm=w.heap.size):=b3;have HZ:=zh o;have I:zg w2 gm 103 _:=U.ext a4;have rul:∀{j:Nat} {v:Value},w2.cell? ⟨gm,j,none⟩=some v->∀W,Below (gm+1) w2 W->W.cell? ⟨gm,j,none⟩=some v:=fun h W hW=>(hW.cell (p:=⟨gm,_,none⟩) (Nat.lt_succ_self gm)).trans h
 have r0:=rul (I.cell (k:=0) rfl);have r1:=rul (I.cell (k:=1) rfl);have r2:=rul (I.cell (k:=2) rfl);have r3:=rul (I.cell (k:=3) rfl);have r4:=rul (I.cell (k:=4) rfl);have r5:=rul (I.cell (k:=5) rfl);have r6:=rul (I.cell (k:=6) rfl);have e0:=zh (b2.trans a4);have d9:Hid (gm+1<w2.heap.size):=zd o;clear U b2 b8 o a4 I rul b3;refine Fd (S:=(fun W=>Below (gm+1) w2 W)) zU ((Below.refl (gm+1) w2).drew) fun zH=>?_;have E:Below (gm+1) w2 w2.drew:=(Below.refl (gm+1) w2).drew;have HD:Hid (zb w2 w2.drew):=(zb.refl w2).drew;generalize w2.drew=wd at zH E HD⊢;have G:Hid (zb w wd):=e0.out.trans HD.out;have D:Hid (gm+1<wd.heap.size):=Fq d9.out HD.out.size;refine ze 0 zH ?_;refine ze 1 zH ?_;refine ze 2 zH ?_;refine ze 3 zH ?_;refine ze 5 zH ?_;simp only [za,EK];refine rdA [4,6] ?_;refine Fp rfl (fun K z=>?_) ?_
 ·go_simp;go_at_call 46;refine (BB wd ((H.out.chs.below G.out).below (zb.refl wd)) (by omega)).mono ?_;rintro e w1 ⟨v1,rfl,b1⟩;have a9:zb wd w1:=b1.ext;have c0:Hid (zA w1 wd.heap.size v1 ch):=b1.own.mono ((zb.refl wd)).size;obtain ⟨A1,n1,c1,rfl⟩:=Cy c0.out;clear b1;refine z.out _ _ (Below.trans E (Below.mono a9 (by have:=D.out;omega))) fun zH=>?_;clear z K
  refine zx 6 fun K z=>?_;go_simp;have hA2:zb w1 (w1.alloc (.cells #[.int .i64 n] 3)):=(zb.refl w1).alloc _;have a6:Hid ((w1.alloc (.cells #[.int .i64 n] 3)).cell? ⟨w1.heap.size,0,none⟩=some (.int .i64 n)):=zr _ _ _ rfl;generalize w1.heap.size=g2 at a6⊢;generalize w1.alloc _=w2 at hA2 a6⊢;have c4:=zh (c0.out.ext hA2);have V:zb wd w2:=Below.trans a9 (hA2.mono (a9).size);refine z.out _ _ (Below.trans E (Below.mono V (by have:=D.out;omega))) fun zH=>?_;clear z K
  refine zx 7 fun K z=>?_;refine Bl (ok:=fun _=>True) (by rfl) _ _ _ (by rfl) wd.heap.size ch [n] _ _ (by rfl) (by rfl) c4.out (DB a6.out) (V).size (by simp;omega) ?_;intro v3 w3 b6 d4 c8;have J:zb wd w3:=Ae V d4 (V).size (fun k hk=>Bq c4.out hk);have d7:=zh b6;obtain ⟨A3,n3,cc3,rfl⟩:=Cy b6;clear b6 d4 c8;refine z.out _ _ (Below.trans E (Below.mono J (by have:=D.out;omega))) fun zH=>?_;clear z K
  refine zx 8 fun K z=>?_;go_simp;go_at_call 66;refine (of_calls (ok:=fun b=>(ok b/\b<w.heap.size)\/wd.heap.size<=b) w3 (((H.out.maze.bound.below G.out).below J).weaken (fun b hb=>.inl hb)) HL.out HC.out ((Mk.ints ⟨d7.out,J⟩).weaken (fun b hb=>.inr hb)) HI.out).mono ?_;rintro e w4 ⟨vp4,rfl,e3,e5⟩;have a1:zb wd w4:=Below.trans J (e3.mono (J).size);have c5:Hid (PSt w4 (fun b=>(ok b\/w.heap.size<=b)/\b≠gm+1) m (.slice Af m.free.length cf) (.slice Au m.up.length cu) (.slice At m.tasks.length ct) (.slice A3 n3 cc3) vp4 (ch++[n])):=e5.weaken (fun b hb=>by have h1:=D.out;have h2:=Q.out;have h3:=G.out.size;have h4:=(J).size;rcases hb with (hb | hb) | hb;exact ⟨.inl hb.1,by omega⟩;exact ⟨.inr (by omega),by omega⟩;exact ⟨.inr (by omega),by omega⟩);obtain ⟨_,_,_,_,_,_,_,_,Ap4,cp4,-,-,-,-,rfl,-,-⟩:=c5.out.parts;unfold stv;refine z.out _ _ (Below.trans E (Below.mono a1 (by have:=D.out;omega))) fun zH=>?_;clear z K
  refine zx 9 fun K z=>?_;have o:zg w4 (gm+1) 103 _:=(HZ.out.ext HD.out).ext a1;have z0:=o.cell (k:=0) rfl;have z1:=o.cell (k:=1) rfl;have z2:=o.cell (k:=2) rfl;have z3:=o.cell (k:=3) rfl;have z4:=o.cell (k:=4) rfl;have z5:=o.cell (k:=5) rfl;have z6:=o.cell (k:=6) rfl;have z7:=o.cell (k:=7) rfl;have z8:=o.cell (k:=8) rfl;have hfz:∀j,w4.frozen? ⟨gm+1,j,none⟩=false:=fun j=>o.frozen j
  have a5:=zh o;clear o;go_simp;refine z.out _ _ (Below.trans (Below.trans E (Below.mono a1 (by have:=D.out;omega))) (DF (gm+1) [.int .i64 m.w,.int .i64 m.h,.int .i64 m.l,.slice Af m.free.length cf,.slice Au m.up.length cu,.slice At m.tasks.length ct,.slice A3 n3 cc3,.slice Ap4 (zv m (ch++[n])).length cp4,.int .i64 (AD m (ch++[n]))] 0 w4)) fun zH=>?_;clear z K;try simp only [za,EK]
  refine Fs (by kernel_rfl) ?_ _;go_wp2;refine case_fin9 (P:=fun W=>bodyPost Tryz.prog Tryz.f93 _ Exit.ret _ W) (g2:=gm+1) ?_ a5.out;intro WZ s b0 b4;have y0:=s.cell (k:=0) rfl;have y1:=s.cell (k:=1) rfl;have y2:=s.cell (k:=2) rfl;have y3:=s.cell (k:=3) rfl;have y4:=s.cell (k:=4) rfl;have y5:=s.cell (k:=5) rfl;have y6:=s.cell (k:=6) rfl;have y7:=s.cell (k:=7) rfl;have y8:=s.cell (k:=8) rfl;refine FK (v:=stv m (.slice Af m.free.length cf) (.slice Au m.up.length cu) (.slice At m.tasks.length ct) (.slice A3 n3 cc3) (.slice Ap4 (zv m (ch++[n])).length cp4) (AD m (ch++[n]))) (by simp [results,Tryz.results93,go_sem,y0,y1,y2,y3,y4,y5,y6,y7,y8,stv]) rfl ⟨_,_,rfl,?_,?_⟩
  ·exact Below.trans (G.out.trans (Below.mono a1 (EN _))) (b0.mono (by have:=Q.out;omega))
  ·exact (c5.out.keep (fun b hb b5=>b4 b b5 hb.2)).weaken (fun b hb=>hb.1)
 refine Fp rfl (fun K z=>?_) .nil;go_simp;have hA6:zb wd (wd.alloc (.cells #[.int .i64 n] 3)):=(zb.refl wd).alloc _;have a7:Hid ((wd.alloc (.cells #[.int .i64 n] 3)).cell? ⟨wd.heap.size,0,none⟩=some (.int .i64 n)):=zr _ _ _ rfl;generalize wd.heap.size=g6 at a7⊢;generalize wd.alloc _=w6 at hA6 a7⊢;have O:zb wd w6:=Below.trans (zb.refl wd) (hA6.mono ((zb.refl wd)).size);refine z.out _ _ (Below.trans E (Below.mono O (by have:=D.out;omega))) fun zH=>?_;clear z K
 refine zx 4 fun K z=>?_;go_simp;go_at_call 46;refine (BB w6 ((H.out.chs.below G.out).below O) (by omega)).mono ?_;rintro e w7 ⟨v7,rfl,a0⟩;have Z:zb wd w7:=Below.trans O (a0.ext.mono (O).size);have a8:Hid (zA w7 wd.heap.size v7 ch):=a0.own.mono (O).size;have d6:Hid (w7.cell? ⟨g6,0,none⟩=some (.int .i64 n)):=zb.cell a7.out a0.ext;obtain ⟨A7,n7,c7,rfl⟩:=Cy a8.out;clear a0;refine z.out _ _ (Below.trans E (Below.mono Z (by have:=D.out;omega))) fun zH=>?_;clear z K
 refine zx 7 fun K z=>?_;refine Bl (ok:=fun _=>True) (by rfl) _ _ _ (by rfl) wd.heap.size ch [n] _ _ (by rfl) (by rfl) a8.out (DB d6.out) (Z).size (by simp;omega) ?_;intro v8 w8 b7 d5 c9;have M:zb wd w8:=Ae Z d5 (Z).size (fun k hk=>Bq a8.out hk);have d8:=zh b7;obtain ⟨A8,n8,cc8,rfl⟩:=Cy b7;clear b7 d5 c9;refine z.out _ _ (Below.trans E (Below.mono M (by have:=D.out;omega))) fun zH=>?_;clear z K
 refine zx 8 fun K z=>?_;go_simp;go_at_call 66;refine (of_calls (ok:=fun b=>(ok b/\b<w.heap.size)\/wd.heap.size<=b) w8 (((H.out.maze.bound.below G.out).below M).weaken (fun b hb=>.inl hb)) HL.out HC.out ((Mk.ints ⟨d8.out,M⟩).weaken (fun b hb=>.inr hb)) HI.out).mono ?_;rintro e w9 ⟨vp9,rfl,e4,e6⟩;have a3:zb wd w9:=Below.trans M (e4.mono (M).size);have c6:Hid (PSt w9 (fun b=>(ok b\/w.heap.size<=b)/\b≠gm+1) m (.slice Af m.free.length cf) (.slice Au m.up.length cu) (.slice At m.tasks.length ct) (.slice A8 n8 cc8) vp9 (ch++[n])):=e6.weaken (fun b hb=>by have h1:=D.out;have h2:=Q.out;have h3:=G.out.size;have h4:=(M).size;rcases hb with (hb | hb) | hb;exact ⟨.inl hb.1,by omega⟩;exact ⟨.inr (by omega),by omega⟩;exact ⟨.inr (by omega),by omega⟩);obtain ⟨_,_,_,_,_,_,_,_,Ap9,cp9,-,-,-,-,rfl,-,-⟩:=c6.out.parts;unfold stv;refine z.out _ _ (Below.trans E (Below.mono a3 (by have:=D.out;omega))) fun zH=>?_;clear z K
 refine zx 9 fun K z=>?_;have o:zg w9 (gm+1) 103 _:=(HZ.out.ext HD.out).ext a3;have z0:=o.cell (k:=0) rfl;have z1:=o.cell (k:=1) rfl;have z2:=o.cell (k:=2) rfl;have z3:=o.cell (k:=3) rfl;have z4:=o.cell (k:=4) rfl;have z5:=o.cell (k:=5) rfl;have z6:=o.cell (k:=6) rfl;have z7:=o.cell (k:=7) rfl;have z8:=o.cell (k:=8) rfl;have hfz:∀j,w9.frozen? ⟨gm+1,j,none⟩=false:=fun j=>o.frozen j
 have a5:=zh o;clear o;go_simp;refine z.out _ _ (Below.trans (Below.trans E (Below.mono a3 (by have:=D.out;omega))) (DF (gm+1) [.int .i64 m.w,.int .i64 m.h,.int .i64 m.l,.slice Af m.free.length cf,.slice Au m.up.length cu,.slice At m.tasks.length ct,.slice A8 n8 cc8,.slice Ap9 (zv m (ch++[n])).length cp9,.int .i64 (AD m (ch++[n]))] 0 w9)) fun zH=>?_;clear z K;try simp only [za,EK]
 refine Fs (by kernel_rfl) ?_ _;go_wp2;refine case_fin9 (P:=fun W=>bodyPost Tryz.prog Tryz.f93 _ Exit.ret _ W) (g2:=gm+1) ?_ a5.out;intro WZ s b0 b4;have y0:=s.cell (k:=0) rfl;have y1:=s.cell (k:=1) rfl;have y2:=s.cell (k:=2) rfl;have y3:=s.cell (k:=3) rfl;have y4:=s.cell (k:=4) rfl;have y5:=s.cell (k:=5) rfl;have y6:=s.cell (k:=6) rfl;have y7:=s.cell (k:=7) rfl;have y8:=s.cell (k:=8) rfl;refine FK (v:=stv m (.slice Af m.free.length cf) (.slice Au m.up.length cu) (.slice At m.tasks.length ct) (.slice A8 n8 cc8) (.slice Ap9 (zv m (ch++[n])).length cp9) (AD m (ch++[n]))) (by simp [results,Tryz.results93,go_sem,y0,y1,y2,y3,y4,y5,y6,y7,y8,stv]) rfl ⟨_,_,rfl,?_,?_⟩
 ·exact Below.trans (G.out.trans (Below.mono a3 (EN _))) (b0.mono (by have:=Q.out;omega))
 ·exact (c6.out.keep (fun b hb b5=>b4 b b5 hb.2)).weaken (fun b hb=>hb.1)
end
section
open Go.RowKit
attribute [local go_sem ↓] Go.wp_at_zero Go.wp_at_succ
theorem Tryz.infoProof:(Tryz.prog.info? 37).map (fun i=>(i.zero,i.size,i.bytes))=some (some (.agg #[.int .i64 0,.slice none 0 0,.slice none 0 0]),3,56):=by kernel_rfl
theorem eProof:ElemI 35 37 (.agg #[.int .i64 0,.slice none 0 0,.slice none 0 0]) 3 56:=⟨Tryz.underlying35,Tryz.infoProof,rfl,by decide⟩
inductive En (w:World) (ok:Nat->Prop):Value->PT->Prop
 | mk {t:Int} {side:List Int} {kids:List PT} {vs vk:Value} {cs:List Value} (hs:zi w ok vs side) (hk:zV w ok 3 vk kids.length cs)
  (he:∀(i:Nat) (hi:i<kids.length),En w ok (.agg #[cs.getD (i*3) undef,cs.getD (i*3+1) undef,cs.getD (i*3+2) undef]) kids[i]):En w ok (.agg #[.int .i64 t,vs,vk]) (.node t side kids)
theorem En.keepW {w w':World} {ok':Nat->Prop} {v:Value} {p:PT} (h:En w ok v p) (o:Ao ok w w') (s:∀b,ok b->ok' b):En w' ok' v p:=by
 induction h with
 | mk h1 h2 _ ih=>exact .mk ((h1.keep o).weaken s) ((h2.keep o).weaken s) ih
theorem En.ext {w w':World} {v:Value} {p:PT} (h:En w ok v p) (o:zb w w'):En w' ok v p:=h.keepW (Ao.of_below o) (fun _ h=>h)
theorem En.zero (w:World) (ok:Nat->Prop):En w ok (.agg #[.int .i64 0,.slice none 0 0,.slice none 0 0]) PT.zero:=
 .mk (cs:=[]) (zi.nil _ _) ⟨none,0,rfl,EN _,zN.nil _ _ _ _⟩ (fun i o=>absurd o (by simp))
theorem En.form {w:World} {v:Value} {p:PT} (h:En w ok v p):∃As cs Ak ck,v=.agg #[.int .i64 p.task,.slice As p.side.length cs,.slice Ak p.kids.length ck]/\zi w ok (.slice As p.side.length cs) p.side:=by
 cases h with
 | mk h1 h2 _=>
  have o:=h1;obtain ⟨As,cs,rfl,-,-⟩:=h1;obtain ⟨Ak,ck,rfl,-,-⟩:=h2;exact ⟨As,cs,Ak,ck,rfl,o⟩
theorem prove1_calls {gs gt:Nat} {At:Option Addr} {ct tk:Nat} (x:Int) (w:World) (M:w.cell? ⟨gs,5,none⟩=some (.slice At m.tasks.length ct)) (O:w.cell? ⟨gt,0,none⟩=some (.int .i64 tk)) (z:BX w ok (.slice At m.tasks.length ct) m.tasks) (E:Lens m) (o:tk<m.tasks.length):
  Calls Tryz.prog 125 #[.int .i64 x,.pointer (some ⟨gs,0,none⟩),.pointer (some ⟨gt,0,none⟩)] w fun e w'=>e=.returned (.bool (decide (x∈(m.tasks.getD tk ([],[])).2)))/\w=w':=by
 obtain ⟨bt,offt,sn,u1,u2,rfl,-,-,-,I,-,s⟩:=AO z o;have J:=(E.tl _ (EO o)).2;have D:(m.tasks.getD tk ([],[])).2=(m.tasks[tk]).2:=by rw [zgd o]
 rw [D];have G:=zh s;obtain ⟨Au,cu,rfl,-,-⟩:=s;have k0:(0:Int)<=(tk:Int):=by omega
 have k1:(tk:Int)<(m.tasks.length:Int):=by omega
 clear E z D
 go_enter Tryz.func125,Tryz.ntmps125
 go_wp2_with fail
 refine (zE x w G.out (by omega)).mono ?_;rintro e w9 ⟨rfl,rfl⟩
 go_wp2_with fail
 go_ret;exact ⟨rfl,rfl⟩
end
section
open Go.RowKit
theorem find_at {p:Nat->Bool} {c:Nat} (D:i<n) (hp:p (c+i)=true) (s:∀j,j<i->p (c+j)=false):((List.range n).map (c+·)).find? p=some (c+i):=by
 have h:List.range n=List.range i++([i]++(List.range (n - i - 1)).map (i+1+·)):=by
  have h1:n=(i+1)+(n - i - 1):=by omega
  conv=>lhs;rw [h1,List.range_add,List.range_succ,List.append_assoc]
 rw [h,FG,List.find?_append]
 have h0:((List.range i).map (c+·)).find? p=none:=by
  rw [List.find?_eq_none];intro x z;obtain ⟨j,o,rfl⟩:=zac.1 z;rw [s j (zad.1 o)];simp
 rw [h0];simp [hp]
theorem find_no {p:Nat->Bool} {c:Nat} (s:∀j,j<n->p (c+j)=false):((List.range n).map (c+·)).find? p=none:=by
 rw [List.find?_eq_none];intro x z;obtain ⟨j,o,rfl⟩:=zac.1 z;rw [s j (zad.1 o)];simp
theorem cutT_at (h0:AD m ch<=t) (h1:t<m.tasks.length) (hp:offB m ch t=true) (o:∀j,AD m ch<=j->j<t->offB m ch j=false):cutT m ch=some t:=by
 unfold cutT;have:=find_at (p:=offB m ch) (c:=AD m ch) (n:=m.tasks.length - AD m ch) (i:=t - AD m ch) (by omega) (by rw [show AD m ch+(t - AD m ch)=t from by omega];exact hp) (fun j s=>o _ (by omega) (by omega));rw [this,show AD m ch+(t - AD m ch)=t from by omega]
theorem cutT_no (o:∀j,AD m ch<=j->j<m.tasks.length->offB m ch j=false):cutT m ch=none:=by
 unfold cutT;exact find_no fun j s=>o _ (by omega) (by omega)
theorem proveP_end {f k:Nat} (h:m.tasks.length<=AD m ch):zG m (f+1) ch k=(51,.zero,k):=by
 conv=>lhs;unfold zG
 rw [if_pos h]
theorem proveP_many {f k:Nat} (h:¬ m.tasks.length<=AD m ch) (o:3000<k+1):zG m (f+1) ch k=(53,.zero,k+1):=by
 conv=>lhs;unfold zG
 rw [if_neg h,if_pos o]
theorem proveP_cut {f k:Nat} (h:¬ m.tasks.length<=AD m ch) (s:¬ 3000<k+1) (o:cutT m ch=some t):zG m (f+1) ch k=(0,.node t (Dl m ch t) [],k+1):=by
 conv=>lhs;unfold zG
 rw [if_neg h,if_neg s,o]
theorem proveP_kids {f k:Nat} (h:¬ m.tasks.length<=AD m ch) (s:¬ 3000<k+1) (o:cutT m ch=none):zG m (f+1) ch k=if (AJ (fun n k=>zG m f (ch++[n]) k) (AK m ch) (k+1) []).1=0 then (0,.node (AD m ch) [] (AJ (fun n k=>zG m f (ch++[n]) k) (AK m ch) (k+1) []).2.1,(AJ (fun n k=>zG m f (ch++[n]) k) (AK m ch) (k+1) []).2.2) else ((AJ (fun n k=>zG m f (ch++[n]) k) (AK m ch) (k+1) []).1,.zero,(AJ (fun n k=>zG m f (ch++[n]) k) (AK m ch) (k+1) []).2.2):=by
 conv=>lhs;unfold zG
 rw [if_neg h,if_neg s,o]
theorem Eg {f:Int->Nat->Int×PT×Nat} {n:Int} {k:Nat} {acc:List PT} (h:(f n k).1=0):AJ f (n :: l) k acc=AJ f l (f n k).2.2 (acc++[(f n k).2.1]):=by
 conv=>lhs;unfold AJ
 rw [if_pos h]
theorem kidsR_stop {f:Int->Nat->Int×PT×Nat} {n:Int} {k:Nat} {acc:List PT} (h:(f n k).1≠0):AJ f (n :: l) k acc=((f n k).1,[],(f n k).2.2):=by
 conv=>lhs;unfold AJ
 rw [if_neg h]
theorem En.bound {w:World} {ok:Nat->Prop} {v:Value} {p:PT} (h:En w ok v p):En w (fun b=>ok b/\b<w.heap.size) v p:=by
 induction h with
 | mk h1 h2 _ ih=>exact .mk h1.bound (h2.bound (by decide)) ih
theorem own_chg {W W':World} {X:Nat->Prop} {B sz:Nat} {e:TypeId} {v:Value} {xs:List Value} (h:W.ownsRow B e sz v n xs) (s:zu X W W') (z:∀b,B<=b->¬ X b):W'.ownsRow B e sz v n xs:=by
 refine ⟨h.1,?_⟩;rcases h.2 with h | ⟨g,cap,cur,h1,h2,h3,o⟩
 ·exact .inl h
 ·exact .inr ⟨g,cap,cur,h1,h2,(s.block g (zd h3) (z g h2)).trans h3,o⟩
structure Cd (W:World) (B:Nat) (v:Value) (acc:List PT) (cs:List Value):Prop where
 own:W.ownsRow B 37 3 v acc.length cs
 each:∀(i:Nat) (hi:i<acc.length),En W (fun b=>B<=b/\v.ownBlock≠some b) (.agg #[cs.getD (i*3) undef,cs.getD (i*3+1) undef,cs.getD (i*3+2) undef]) acc[i]
section
variable {W W':World} {B lo:Nat} {v v':Value} {acc:List PT} {cs:List Value} {p:PT} {a b c:Value} {X:Nat->Prop}
theorem Cd.nil (W:World) (B:Nat):Cd W B (.slice none 0 0) [] []:=⟨World.ownsRow_nil _ _ _ _,fun i o=>absurd o (by simp)⟩
theorem Cd.chg (h:Cd W B v acc cs) (s:zu X W W') (z:∀b,B<=b->¬ X b):Cd W' B v acc cs:=
 ⟨own_chg h.own s z,fun i E=>(h.each i E).keepW (fun b D o=>s.block b o (z b D.1)) (fun _ h=>h)⟩
theorem Cd.lt (h:Cd W B v acc cs) {k:Nat} (o:v.ownBlock=some k):B<=k/\k<W.heap.size:=by
 rcases h.own.2 with ⟨rfl,-⟩ | ⟨g,cap,cur,rfl,h1,h2,-⟩
 ·cases o
 ·have:g=k:=by simpa [Value.ownBlock] using o
  subst this;exact ⟨h1,zd h2⟩
theorem getD_left {l l2:List Value} (h:i<l.length):(l++l2).getD i undef=l.getD i undef:=by
 rw [EM,EM,ES h]
theorem Cd.app (h:Cd W B v acc cs) (hp:En W (fun b=>lo<=b) (.agg #[a,b,c]) p) (D:∀k,v.ownBlock=some k->k<lo) (U:B<=lo) (O:W'.ownsRow B 37 3 v' (acc.length+1) (cs++[a,b,c])) (I:W.grownBy W' v.ownBlock)
  (Q:v'.ownBlock=v.ownBlock\/v'.ownBlock=some W.heap.size):Cd W' B v' (acc++[p]) (cs++[a,b,c]):=by
 have s:cs.length=acc.length*3:=h.own.1
 have E:∀k,k<W.heap.size->v.ownBlock≠some k->v'.ownBlock≠some k:=fun k o h1=>by
  rcases Q with h2 | h2
  ·rw [h2];exact h1
  ·rw [h2];intro e;injection e with e;omega
 refine ⟨by rw [EV];exact O,fun i J=>?_⟩;by_cases M:i<acc.length
 ·rw [getD_left (by omega),getD_left (by omega),getD_left (by omega),List.getElem_append_left M];exact (h.each i M).bound.keepW (fun k o z=>I.block k z (fun e=>o.1.2 e.symm)) (fun k o=>⟨o.1.1,E k o.2 o.1.2⟩)
 ·have G:i=acc.length:=by rw [EV,Fo] at J;omega
  subst G;have e0:(cs++[a,b,c]).getD (acc.length*3) undef=a:=by rw [EM,ET (by omega),s,Nat.sub_self];rfl
  have e1:(cs++[a,b,c]).getD (acc.length*3+1) undef=b:=by rw [EM,ET (by omega),s,Nat.add_sub_cancel_left];rfl
  have e2:(cs++[a,b,c]).getD (acc.length*3+2) undef=c:=by rw [EM,ET (by omega),s,Nat.add_sub_cancel_left];rfl
  rw [e0,e1,e2];have:(acc++[p])[acc.length]'J=p:=by simp
  rw [this];exact hp.bound.keepW (fun k o z=>I.block k z (fun e=>by have:=D k e.symm;omega)) (fun k o=>⟨by omega,E k o.2 (fun e=>by have:=D k e;omega)⟩)
theorem Cd.kids (h:Cd W B v acc cs) (t:Int):En W (fun b=>B<=b) (.agg #[.int .i64 t,.slice none 0 0,v]) (.node t [] acc):=
 .mk (cs:=cs) (zi.nil _ _) (zV.of_own h.own) (fun i o=>(h.each i o).keepW (fun _ _ _=>rfl) (fun _ h=>h.1))
end
theorem zu.wide {X X':Nat->Prop} {a b:World} (h:zu X a b) (o:∀k,X k->X' k):zu X' a b:=⟨h.os,h.tape,h.output,h.size,fun b s z=>h.block b s fun e=>z (o b e)⟩
theorem zu.set {X:Nat->Prop} {a b:World} (h:zu X a b) (g k:Nat) (v:Value) (s:X g):zu X a (b.setCell ⟨g,k,none⟩ v):=
 ⟨h.os,h.tape,h.output,by simpa using h.size,fun i z o=>(EW b ⟨g,k,none⟩ v i (fun e=>o (by rw [e];exact s))).trans (h.block i z o)⟩
theorem zu.grown {X:Nat->Prop} {a b c:World} {r:Option Nat} (h:zu X a b) (o:b.grownBy c r) (D:∀k,r=some k->k<a.heap.size->X k):zu X a c:=
 ⟨o.os.trans h.os,o.tape.trans h.tape,o.output.trans h.output,EP h.size o.size,fun i s z=>(o.block i (Fq s h.size) (fun e=>z (D i e.symm s))).trans (h.block i s z)⟩
theorem zu.blk {X:Nat->Prop} {a b:World} {g:Nat} {t:TypeId} {cs:Array Value} (h:zu X a b) (o:zg a g t cs) (s:¬ X g):zg b g t cs:=(h.block g (zd o) s).trans o
theorem zu.cellk {X:Nat->Prop} {a b:World} {p:Addr} {v:Value} (h:zu X a b) (o:a.cell? p=some v) (s:¬ X p.block):b.cell? p=some v:=(CZ (h.block _ (zp o) s)).trans o
theorem zb.cellB {w W:World} {g:Nat} {t:TypeId} {cs:Array Value} (o:zb w W) (h:zg w g t cs):zg W g t cs:=h.ext o
theorem prove_err {F:Int->Nat->Int×PT×Nat} {n:Int} {L:List Int} {k k0:Nat} {acc:List PT} (h:(F n k).1≠0) (o:AJ F L k0 []=AJ F (n :: l) k acc) {a:Int×PT×Nat} {b:PT×Nat}:(if (AJ F L k0 []).1=0 then a else ((AJ F L k0 []).1,b)).1=(F n k).1:=by
 rw [o,kidsR_stop h,if_neg h]
theorem prv_row1 {W:World} {g:Nat} {a b c:Value} (o:zg W g 37 #[a,b,c]):zV W (fun _=>True) 3 (.slice (some ⟨g,0,none⟩) 1 1) 1 [a,b,c]:=
 ⟨_,1,rfl,EN _,by simp,fun _=>⟨g,0,rfl,trivial,fun j u s=>by rw [Nat.zero_add];exact o.cell (by simpa using s)⟩⟩
end
section
open Go.RowKit
attribute [local go_sem ↓] Go.wp_at_zero Go.wp_at_succ
def dF (F:List (Int×Int)) (i:Nat):Value:=.int .i64 ((F.lookup (i:Int)).getD (-1))
def dK (k:Nat) (F:List (Int×Int)) (i:Nat):Value:=if i<k then dF F i else .int .i64 0
def toK (m:MZ) (t k:Nat):List Int:=((List.range k).map Int.ofNat).filter fun x=>decide (x∈(m.tasks.getD t ([],[])).2)
theorem toK_t {k:Nat} (h:(k:Int)∈(m.tasks.getD t ([],[])).2):toK m t (k+1)=toK m t k++[(k:Int)]:=by
 unfold toK;rw [List.range_succ,FG,FC];congr 1;rw [List.map_cons,List.map_nil,FJ (by simpa using h)];rfl
theorem toK_f {k:Nat} (h:(k:Int)∉(m.tasks.getD t ([],[])).2):toK m t (k+1)=toK m t k:=by
 unfold toK;rw [List.range_succ,FG,FC,List.map_cons,List.map_nil,Fw (by simpa using h)];simp
theorem addAll_snoc (fr:Int->Bool) (d:Int) (l:List Int) (x:Int) (F:List (Int×Int)):zw fr d (l++[x]) F=addS fr d (zw fr d l F) x:=by
 rw [De,De,List.foldl_append];rfl
theorem toK_lt {k:Nat} {fr:Int->Bool}:∀p∈zw fr d (toK m t k) [],p.1<(k:Int):=fun p hp=>by
 obtain ⟨G,h1,h2,-,-⟩:=zR fr d (toK m t k) [];rw [h1,List.nil_append] at hp;have:=(h2 p hp).2.1;unfold toK at this;obtain ⟨i,o,e⟩:=zac.1 (zab.1 this).1;have:=zad.1 o;rw [<-e];show (i:Int)<k;omega
structure DI (w1 wr:World) (go N k:Nat) (F:List (Int×Int)) (T:List Int) (v:Value):Prop where
 ext:zb w1 wr
 lo:w1.heap.size<=go
 row:wr.rowIs go 3 N (dK k F)
 own:zA wr (go+1) v T
theorem lookup_snoc {F:List (Int×Int)} {y:Int}:(F++[(x,d)]).lookup y=match F.lookup y with | some e=>some e | none=>if y=x then some d else none:=by
 induction F with
 | nil=>
  rw [List.nil_append,List.lookup_cons];by_cases h:y=x
  ·rw [if_pos h,beq_iff_eq.2 h];rfl
  ·rw [if_neg h,Fa.2 h];rfl
 | cons a F ih=>
  obtain ⟨z,e⟩:=a;rw [List.cons_append,List.lookup_cons,List.lookup_cons];by_cases h:y=z
  ·rw [beq_iff_eq.2 h]
  ·rw [Fa.2 h];exact ih
section
variable {w1 wr w':World} {go N k:Nat} {F:List (Int×Int)} {T:List Int} {v:Value}
theorem DI.more (h:DI w1 wr go N k F T v) (o:zb wr w'):DI w1 w' go N k F T v:=⟨h.ext.trans o,h.lo,h.row.of_block (o.block _ h.row.lt),h.own.ext o⟩
theorem DI.lay (h:DI w1 wr go N k F T v) (s:F.lookup (k:Int)=none):DI w1 (wr.setCell ⟨go,k,none⟩ (.int .i64 (-1))) go N (k+1) F T v:=
 ⟨h.ext.setCell (p:=⟨go,k,none⟩) h.lo _,h.lo,(h.row.set k (.int .i64 (-1))).congr fun j _=>by
  by_cases o:j=k
  ·subst o;unfold dK dF;rw [if_pos rfl,if_pos (by omega),s];rfl
  ·unfold dK;rw [if_neg o];by_cases h1:j<k
   ·rw [if_pos h1,if_pos (by omega)]
   ·rw [if_neg h1,if_neg (by omega)],ownsRow_setCell_below h.own (by show go<go+1;omega) _⟩
theorem DI.put (h:DI w1 wr go N k F T v) (h0:0<=x) (h1:x<k) (s:F.lookup x=none):DI w1 (wr.setCell ⟨go,x.toNat,none⟩ (.int .i64 d)) go N k (F++[(x,d)]) T v:=
 ⟨h.ext.setCell (p:=⟨go,x.toNat,none⟩) h.lo _,h.lo,(h.row.set x.toNat (.int .i64 d)).congr fun j _=>by
  by_cases o:j=x.toNat
  ·subst o;unfold dK dF;rw [if_pos rfl,if_pos (by omega),lookup_snoc,Int.toNat_of_nonneg h0,s];simp
  ·unfold dK dF;rw [if_neg o,lookup_snoc]
   split
   ·cases z:F.lookup (j:Int) with
    | some e=>rfl
    | none=>simp only [];rw [if_neg (by omega)]
   ·rfl,ownsRow_setCell_below h.own (by show go<go+1;omega) _⟩
theorem DI.app {v':Value} {T':List Int} (h:DI w1 wr go N k F T v) (z:zA w' (go+1) v' T') (o:Hid (wr.grownBy w' v.ownBlock)):DI w1 w' go N k F T' v':=
 ⟨Ae h.ext o h.ext.size (fun b s=>by have:=Bq h.own s;have:=h.lo;omega),h.lo,h.row.of_block (o.out.block _ h.row.lt (fun e=>by have:=Bq h.own e.symm;omega)),z⟩
theorem DI.cell (h:DI w1 wr go N k F T v) {j:Nat} (o:j<N):wr.cell? ⟨go,j,none⟩=some (dK k F j)/\wr.frozen? ⟨go,j,none⟩=false:=⟨h.row.cell o,h.row.frozen _⟩
theorem DI.bound (h:DI w1 wr go N k F T v):go+1<=wr.heap.size:=h.row.lt
end
theorem zb.cell_other {w W:World} {g j:Nat} {v:Value} (h:zb w W) (s:w.cell? ⟨g,i,none⟩=some v) (o:i≠j):(W.setCell ⟨g,j,none⟩ u).cell? ⟨g,i,none⟩=some v:=by
 refine (World.cell?_setCell_other _ _ _ _ ?_).trans (h.cell s);intro e;injection e with _ e2;exact o e2.symm
theorem nextO_in (o:AY m=0) (h0:0<=x) (h1:x<m.n):BC m x=zm m x:=by
 unfold BC;rw [if_pos ⟨o,h0,h1⟩]
theorem distances_calls {v:Value} {gu:Nat} (t:Nat) (w:World) (hm:zt w ok v m) (hl:Lens m) (hc:AY m=0) (ht:t<m.tasks.length) (hu:w.rowIs gu 4 m.n.toNat (memF fixed.flatten)):
  Calls Tryz.prog 51 #[v,.int .i64 t,.slice (some ⟨gu,0,none⟩) m.n.toNat m.n.toNat] w fun e w'=>∃go,e=.returned (.slice (some ⟨go,0,none⟩) m.n.toNat m.n.toNat)/\zb w w'/\w.heap.size<=go/\w'.rowIs go 3 m.n.toNat (dF (farQ m t fixed)):=by
 have HM:=zh hm;have HL:=zh hl;have HC:=zh hc;have G:=zh (zI.of hc);have HU:=zh hu;obtain ⟨Af,cf,Au,cu,At,ct,rfl,a7,-,m5⟩:=hm.parts;have j5:=zh a7;obtain ⟨bt,offt,sn,u1,u2,rfl,-,-,-,f4,-,h9⟩:=AO m5 ht;have r6:=(hl.tl _ (EO ht)).2;have g5:Hid ((m.tasks.getD t ([],[])).2=(m.tasks[t]).2):=by (show _=_);rw [EM,EL ht];rfl
 obtain ⟨tg,m4⟩:=zak ((m.tasks[t]).2);rw [<-m4] at h9 r6 g5;have o4:=zh h9;obtain ⟨Atg,ctg,rfl,-,-⟩:=h9;have q9:t<m.free.length:=by rw [G.out.fl];exact ht
 have k6:=zh q9;have t8:(t:Int)<(m.tasks.length:Int):=by omega
 have s3:(0:Int)<=(t:Int):=by omega
 have s4:(t:Int)<(m.free.length:Int):=by omega
 obtain ⟨p9,q4⟩:=G.out.dim.layer;obtain ⟨dw1,dw2,p6,p7,ll1,ll2,n1,-⟩:=G.out.dim;clear hm a7 m5 m4 hl hc hu;obtain ⟨N,hN⟩:∃N:Nat,N=m.n.toNat:=⟨_,rfl⟩;have HN:Hid (m.n=(N:Int)):=by (show _=_);rw [hN];unfold MZ.n;omega
 have t4:N<=300:=by rw [hN];unfold MZ.n;omega
 have g4:=zh hN;rw [<-hN] at HU⊢;clear hN dw1 dw2 p6 p7 ll1 ll2 n1 p9 q4
 have q7:∀W:World,(Instr.makeSlice 23 (.int .i64 (N:Nat)) (.int .i64 (N:Nat))).run Tryz.prog W=.ok (.slice (some ⟨W.heap.size,0,none⟩) N N) (W.alloc (.cells (madeCells #[.int .i64 0] N) 3)):=fun W=>
  run_make_row' 23 3 (.int .i64 0) 8 Tryz.underlying23 Tryz.infoInt rfl .i64 .i64 N (by omega) (by omega) W
 go_enter Tryz.func51,Tryz.ntmps51
 go_upto_region 1 with fail;obtain ⟨e8,r0,r1,r2,r3,r4,r5⟩:=CG w (.int .i64 m.w) (.int .i64 m.h) (.int .i64 m.l) (.slice Af m.free.length cf) (.slice Au m.up.length cu) (.slice (some ⟨bt,offt,none⟩) m.tasks.length ct);generalize w.alloc _=w1 at e8 r0 r1 r2 r3 r4 r5⊢;obtain ⟨gm,m0⟩:=zak w.heap.size;rw [<-m0] at r0 r1 r2 r3 r4 r5⊢;have z:=zh e8;have rtg:=zb.rule (e8.cell f4);clear m0 e8 f4;have s:zb w1 w1:=zb.refl w1
 go_wp2_with fail
 have Q:Hid (DI w1 (w1.alloc (.cells (madeCells #[.int .i64 0] N) 3)) w1.heap.size N 0 (zw (DJ m t fixed) 0 (toK m t 0) []) ((zw (DJ m t fixed) 0 (toK m t 0) []).map Prod.fst) (.slice none 0 0)):=
  ⟨(zb.refl w1).alloc _,EN _,(World.rowIs_made w1 (.int .i64 0) N 3).congr fun j _=>by unfold dK;rw [if_neg (by omega)],World.ownsRow_nil _ _ _ _⟩
 generalize w1.alloc _=w2 at Q⊢;obtain ⟨go,h8⟩:=zak w1.heap.size;rw [<-h8] at Q⊢;have n5:Hid (go=w1.heap.size):=h8;clear h8 q7 s;obtain ⟨fr,a7⟩:=zak (DJ m t fixed);rw [<-a7] at Q;have j2:Hid (∀x,fr x=(zl m t x && !decide (x∈fixed.flatten))):=fun x=>by rw [a7];rfl
 have j6:=zh a7;clear a7;go_loopw [8,9] (fun v i wr=>∃k:Nat,k<=N/\i=.int .i64 k/\Hid (DI w1 wr go N k (zw fr 0 (toK m t k) []) ((zw fr 0 (toK m t k) []).map Prod.fst) v)) (fun _ i _=>N - (intOf i).toNat)
 case atStart=>exact ⟨0,Fb _,rfl,Q.out⟩
 clear Q
 case round=>
  obtain ⟨k,hk,rfl,hD⟩:=hrel;obtain ⟨wk,rfl⟩:∃wk:World,wk=wr:=⟨_,rfl⟩;have s:zb w1 wk:=hD.out.ext;by_cases Z:k<N
  ·have f6:(k:Int)<(N:Int):=by omega
   have kk0:(0:Int)<=(k:Int):=by omega
   have b8:(zw fr 0 (toK m t k) []).length<=300:=by
    refine start_len G.out (tg:=toK m t k) (fun x s=>?_) (toK m t k).length |> fun h=>by rwa [EY] at h
    unfold toK at s;obtain ⟨i,hi,e⟩:=zac.1 (zab.1 s).1;have:=zad.1 hi;rw [<-e,HN.out];show (0:Int)<=(i:Int)/\(i:Int)<N;omega
   have O:(zw fr 0 (toK m t k) []).lookup (k:Int)=none:=Ex.2 fun p hp=>by have:=toK_lt p hp;omega
   have b6:Hid ((k:Int)∈tg->zw fr 0 (toK m t (k+1)) []=addS fr 0 (zw fr 0 (toK m t k) []) k):=fun h=>by rw [toK_t (by rw [g5.out];exact h),addAll_snoc]
   have k7:Hid ((k:Int)∉tg->zw fr 0 (toK m t (k+1)) []=zw fr 0 (toK m t k) []):=fun h=>by rw [toK_f (by rw [g5.out];exact h)]
   obtain ⟨F,hF⟩:=zak (zw fr 0 (toK m t k) []);rw [<-hF] at hD b8 O b6 k7;clear hF;obtain ⟨bf,off,b',off',l,c',rfl,c4,hl,q5,p5,b0⟩:=Dq j5.out G.out.fn k6.out kk0 (by rw [HN.out];exact f6);rw [FF] at b0;have q1:=zb.rule (z.out.cell c4);have q2:=zb.rule (z.out.cell b0);have c6:w.cell? ⟨gu,k,none⟩=some (.bool (decide ((k:Int)∈fixed.flatten))):=HU.out.cell Z;have q3:=zb.rule (z.out.cell c6);have I:Hid (fr (k:Int)=(zl m t (k:Int) && !decide ((k:Int)∈fixed.flatten))):=j2.out _;obtain ⟨fv,c8⟩:=zak (zl m t (k:Int));obtain ⟨uv,d4⟩:=zak (decide ((k:Int)∈fixed.flatten));rw [<-c8] at q2 I;rw [<-d4] at q3 I;clear c8 d4 c4 b0 c6;obtain ⟨h5,h6⟩:=hD.out.cell Z;have b3:=zh (hD.out.lay O);go_upto_region 7 with fail;generalize wk.setCell ⟨go,k,none⟩ (.int .i64 (-1))=w3 at b3⊢;clear h5 h6 s;have s:zb w1 w3:=b3.out.ext;have k2:=zh O;obtain ⟨bd,c0⟩:∃bd:Bool,bd=(decide ((k:Int)∈tg) && (fv && !uv)):=⟨_,rfl⟩;have E:=zh c0;clear c0 hD O;go_cut [49] (fun v wx=>v=.bool bd/\w3=wx)
   case first=>
    go_wp2_with fail
    refine (zL (k:Int) w3 (o4.out.below (z.out.trans s)) (by omega)).mono ?_;rintro e w4 ⟨rfl,rfl⟩;by_cases V:(k:Int)∈tg
    ·have hd:decide ((k:Int)∈tg)=true:=EQ V;rw [hd];have HB:Hid (bd=(fv && !uv)):=by (show _=_);rw [E.out,hd,Bool.true_and]
     clear hd V
     cases fv with
     | false=>
      go_wp2_with fail
      go_meet;exact ⟨by rw [HB.out];rfl,rfl⟩
     | true=>
      go_wp2_with fail
      go_meet;exact ⟨by rw [HB.out];simp,rfl⟩
    ·have hd:decide ((k:Int)∈tg)=false:=ER V;rw [hd];have HB:Hid (bd=false):=by (show _=_);rw [E.out,hd];rfl
     clear hd V
     go_wp2_with fail
     go_meet;exact ⟨by rw [HB.out],rfl⟩
   case rest=>
    obtain ⟨rfl,rfl⟩:=hcut;clear q1 q2 q3
    cases bd with
    | true=>
     have U:=E.out;rw [eq_comm,EZ,EX] at U
     have f8:Hid (zw fr 0 (toK m t (k+1)) []=F++[((k:Int),0)]):=by
      (show _=_)
      rw [b6.out U.1];exact addS_new k2.out (by rw [I.out];exact U.2)
     clear U;obtain ⟨h5,h6⟩:=b3.out.cell Z;have o:=zh (b3.out.put (x:=(k:Int)) (d:=0) kk0 (by omega) k2.out);rw [FF] at o;obtain ⟨L,hL⟩:∃L:List Int,L=F.map Prod.fst:=⟨_,rfl⟩;rw [<-hL] at o;have n6:=zh hL;have o7:L.length<=300:=by rw [hL,Fy];exact b8
     have l9:=o.out.bound;clear hL
     go_wp2_with (at_builtin;refine AP rfl _ _ rfl _ L k (go+1) w3.heap.size 1 _ rfl rfl (o.out.own.alloc _) ?d1 ?d2 ?d3 ?_)
     (try case d1=>exact zr _ _ _ (by simp))
     (try case d2=>(first | (simp;done) | (simp at l9⊢;omega) | omega))
     (try case d3=>omega)
     intro v' wb c9 D M;have f7:=zh ((o.out.more ((zb.refl _).alloc _)).app c9 D);clear c9 D M h5 h6 s;go_wp2;go_roundw
     case rel=>exact ⟨k+1,by omega,by go_num,by rw [f8.out,FG,<-n6.out];exact f7⟩
     case measure=>simp [intOf];omega
    | false=>
     have f8:Hid (zw fr 0 (toK m t (k+1)) []=F):=by
      (show _=_)
      have U:=E.out;by_cases V:(k:Int)∈tg
      ·rw [EQ V,Bool.true_and] at U;rw [b6.out V];exact addS_not (by rw [I.out];exact U.symm)
      ·exact k7.out V
     go_wp2_with fail
     go_roundw
     case rel=>exact ⟨k+1,by omega,by go_num,by rw [f8.out];exact b3⟩
     case measure=>simp [intOf];omega
  ·obtain rfl:k=N:=by omega
   obtain ⟨F0,e5⟩:=zak (zw fr 0 (toK m t k) []);rw [<-e5] at hD;have e0:Hid (toK m t k=toL m t):=by (show _=_);rw [g4.out];rfl
   have f1:Hid (DY m fr (toL m t) 0 F0):=by
    (show DY _ _ _ _ _)
    rw [e5,e0.out];refine DY.start fun x s=>?_
    unfold toL at s;obtain ⟨i,hi,e⟩:=zac.1 (zab.1 s).1;have:=zad.1 hi;rw [<-e];show (0:Int)<=(i:Int)/\(i:Int)<m.n;omega
   have j4:Hid (farQ m t fixed=bfs m fr (k+1) 0 F0):=by (show _=_);unfold farQ;rw [e5,e0.out,j6.out,g4.out]
   have i8:=zh hD.out;clear e5 hD hk s Z e0
   go_wp2_with fail
   go_loopw [8,10] (fun v i wr=>∃(j:Nat) (F:List (Int×Int)),i=.int .i64 j/\j<=F.length/\Hid (DY m fr (toL m t) j F)/\Hid (DI w1 wr go k k F (F.map Prod.fst) v)/\Hid (farQ m t fixed=bfs m fr (k+1 - j) j F)) (fun _ i _=>k+1 - (intOf i).toNat)
   case atStart=>exact ⟨0,F0,rfl,Fb _,f1.out,i8.out,j4.out⟩
   clear f1 i8 j4
   case round=>
    obtain ⟨q,F,rfl,hq,a5,hD,l7⟩:=hrel;obtain ⟨wk,rfl⟩:∃wk:World,wk=wr:=⟨_,rfl⟩;have s:zb w1 wk:=hD.out.ext;have t3:F.length<=k:=by have:=a5.out.len;rw [<-g4.out] at this;exact this
    obtain ⟨T,hT⟩:∃T:List Int,T=F.map Prod.fst:=⟨_,rfl⟩;rw [<-hT] at hD;have g8:T.length=F.length:=by rw [hT,Fy]
    have e0:=zh g8;have t5:T.length<=300:=by omega
    obtain ⟨Av,cv,hv,-⟩:=Bk hD.out.own;by_cases Z:q<T.length
    ·have m1:q<F.length:=by omega
     clear g8;have f6:(q:Int)<(T.length:Int):=by omega
     have kk0:(0:Int)<=(q:Int):=by omega
     obtain ⟨p,hp⟩:∃p,F[q]?=some p:=⟨_,EL m1⟩;obtain ⟨x,d⟩:=p
     have l4:T[q]=x:=by
      have:T[q]?=some x:=by rw [hT,Fx,hp];rfl
      rw [EL Z] at this;injection this
     have i0:=List.mem_of_getElem? hp;obtain ⟨⟨i3,i4⟩,-,-⟩:=a5.out.rg _ i0;have i5:F.lookup x=some d:=Db a5.out.nd i0;obtain ⟨l5,l6⟩:=a5.out.dist G.out i5;simp only at i3 i4;have k4:=zh hD.out.own;rw [hv] at k4;obtain ⟨bv,ebv,-,e9⟩:=own_at k4.out Z;rw [l4] at e9;subst ebv;have o6:=zh i5;have HP:=zh hp;have t2:=zh hv;subst hv;have J:Hid (0<=x/\x<m.n):=⟨i3,i4⟩;have Q:Hid (0<=d/\d<300):=⟨l5,l6⟩;have rv:=zb.rule e9;have f5:=zh e9;have a0:zb wk wk:=zb.refl wk;have b6:=zh hT;clear l4 i0 i5 hp e9 i3 i4 l5 l6 hT;go_upto_region 13 with fail
     go_region_held3 (fun w'=>zb w1 w'/\zb wk w')
      (first | (exact ⟨s.drew,a0.drew⟩) | (exact ⟨s.drew.trans e7.ext,a0.drew.trans e7.ext⟩))
      ((go_at_call 53;refine (EA x _ (HM.out.below (z.out.trans s.drew)) HL.out).mono ?_;rintro e wn ⟨v9,rfl,e7⟩))
     rename_i hS
     have o8:zb w1 wn:=hS.1;have g0:Hid (zi wn (fun b=>wk.heap.size<=b/\b<wn.heap.size) v9 (BC m x)):=e7.ints.bound;have n4:Hid (BC m x=zm m x):=nextO_in HC.out J.out.1 J.out.2;rw [n4.out] at g0;have q8:=Ba m x;have k3:Hid (∀y∈zm m x,0<=y/\y<m.n):=fun y hy=>AG G.out.dim J.out.1 J.out.2 hy
     have b4:Hid (∀j,(zw fr (d+1) ((zm m x).take j) F).length<=300):=fun j=>a5.out.part G.out HP.out j
     have b5:Hid (DY m fr (toL m t) (q+1) (zw fr (d+1) (zm m x) F)):=a5.out.step G.out.dim HP.out
     have i7:Hid (bfs m fr (k+1 - q) q F=bfs m fr (k+1 - (q+1)) (q+1) (zw fr (d+1) (zm m x) F)):=by
      (show _=_)
      rw [show k+1 - q=(k+1 - (q+1))+1 from by omega];exact bfs_next HP.out
     obtain ⟨L,hL⟩:=zak (zm m x);rw [<-hL] at g0 q8 k3 b4 b5 i7;obtain ⟨AL,cL,rfl,-,m3⟩:=g0.out;have o0:=zh m3;have n3:=zh (hD.out.more hS.2);have t1:=zh hS.2;have f9:Hid (go<wk.heap.size):=hD.out.bound;obtain ⟨vT,i2⟩:=zak (Value.slice (some ⟨bv,0,none⟩) T.length cv)
     have j9:Hid (NL wk wn wn (.slice (some ⟨bv,0,none⟩) T.length cv)):=NL.start (fun b U=>by
      have:bv=b:=by simpa [Value.ownBlock] using U
      rw [<-this];exact zp f5.out)
     clear e7 hS s a0 rv f5 m3 hL i2;have s:zb w1 wn:=o8
     go_wp2_with fail
     clear s;go_loopw [8,12] (fun v i wr=>∃j:Nat,j<=L.length/\i=.int .i64 j/\Hid (DI w1 wr go k k (zw fr (d+1) (L.take j) F) ((zw fr (d+1) (L.take j) F).map Prod.fst) v)/\Hid (NL wk wn wr v)) (fun _ i _=>L.length - (intOf i).toNat)
     case atStart=>exact ⟨0,Fb _,rfl,by (show DI _ _ _ _ _ _ _ _);rw [List.take_zero];(show DI w1 wn go k k F (F.map Prod.fst) _);rw [<-b6.out];exact n3.out,j9.out⟩
     case round=>
      obtain ⟨j,hj,rfl,a4,l2⟩:=hrel;obtain ⟨wi,rfl⟩:∃wi:World,wi=wr:=⟨_,rfl⟩;have s:zb w1 wi:=a4.out.ext;by_cases a9:j<L.length
      ·have q6:(j:Int)<(L.length:Int):=by omega
       have kk1:(0:Int)<=(j:Int):=by omega
       obtain ⟨bl,offl,rfl,M,c5⟩:=zy o0.out a9 a9;obtain ⟨d5,m6⟩:=k3.out _ (EO a9);have a8:=zh (Er (fr:=fr) (d:=d+1) (F:=F) a9);obtain ⟨y,m7⟩:=zak (L[j]);rw [<-m7] at c5 d5 m6 a8;have i6:Hid (wk.heap.size<=bl/\bl<wn.heap.size):=M;have h4:wi.cell? ⟨bl,offl+j,none⟩=some (.int .i64 y):=(CZ (l2.out.same bl M M.2)).trans c5;have j1:Hid ((zw fr (d+1) (L.take j) F).length<=300):=b4.out j;have e3:Hid ((zw fr (d+1) (L.take j) F).lookup x=some d):=addAll_lookup o6.out;obtain ⟨Fj,e6⟩:=zak (zw fr (d+1) (L.take j) F);rw [<-e6] at a4 j1 e3 a8;obtain ⟨bf,off,b',off',l,c',rfl,c4,hl,q5,p5,b0⟩:=Dq j5.out G.out.fn k6.out d5 m6;have q1:=zb.rule (z.out.cell c4);have q2:=zb.rule (z.out.cell b0);have b7:Hid (y.toNat<k):=by (show _<_);have:=HN.out;omega
       have l0:Hid (y<(k:Int)):=by (show _<_);have:=HN.out;omega
       have c6:w.cell? ⟨gu,y.toNat,none⟩=some (.bool (decide (y∈fixed.flatten))):=by
        have:=HU.out.cell b7.out;rw [this];unfold memF;rw [Int.toNat_of_nonneg d5]
       have q3:=zb.rule (z.out.cell c6);have I:Hid (fr y=(zl m t y && !decide (y∈fixed.flatten))):=j2.out _;obtain ⟨fv,c8⟩:=zak (zl m t y);obtain ⟨uv,d4⟩:=zak (decide (y∈fixed.flatten));rw [<-c8] at q2 I;rw [<-d4] at q3 I;have v5:y<(k:Int):=l0.out
       have b1:wi.cell? ⟨go,y.toNat,none⟩=some (.int .i64 ((Fj.lookup y).getD (-1))):=by
        have:=(a4.out.cell b7.out).1;rw [this];unfold dK dF;rw [if_pos b7.out,Int.toNat_of_nonneg d5]
       obtain ⟨ov,f0⟩:=zak ((Fj.lookup y).getD (-1));rw [<-f0] at b1;have t0:=zh f0
       have f2:Hid (ov<0↔Fj.lookup y=none):=by
        (show _↔_)
        rw [f0]
        cases hl:Fj.lookup y with
        | none=>simp
        | some e=>
         have hm:=AE hl;rw [e6] at hm;obtain ⟨G',h1,h2,-,-⟩:=zR fr (d+1) (L.take j) F;rw [h1] at hm
         have:0<=e:=by
          rcases FE.1 hm with hm | hm
          ·exact (a5.out.rg _ hm).2.2
          ·have:=(h2 _ hm).1;simp only at this;have:=Q.out;omega
         simp only [Ft];constructor
         ·intro h;omega
         ·intro h;cases h
       obtain ⟨bd,c0⟩:∃bd:Bool,bd=(decide (ov<0) && (fv && !uv)):=⟨_,rfl⟩;have E:=zh c0;have j3:=zh e6;have a0:zb wi wi:=zb.refl wi;clear c8 d4 c4 b0 c6 c5 M m7 f0 c0 e6;go_upto_region 17 with fail;go_cut [105] (fun v wx=>v=.bool bd/\zb wi wx)
       case first=>
        by_cases ho:ov<0
        ·have hd:decide (ov<0)=true:=EQ ho;have HB:Hid (bd=(fv && !uv)):=by (show _=_);rw [E.out,hd,Bool.true_and]
         cases fv with
         | false=>
          go_quiet (fail)
          go_wp2_with fail
          go_meet;exact ⟨by rw [HB.out];rfl,a0.drewN _⟩
         | true=>
          go_quiet (fail)
          go_wp2_with fail
          go_meet;exact ⟨by rw [HB.out,Bool.true_and],a0.drewN _⟩
        ·have hd:decide (ov<0)=false:=ER ho;have HB:Hid (bd=false):=by (show _=_);rw [E.out,hd];rfl
         go_quiet (fail)
         go_wp2_with fail
         go_meet;exact ⟨by rw [HB.out],a0.drewN _⟩
       case rest=>
        obtain ⟨rfl,e4⟩:=hcut;have a3:=zh (a4.out.more e4);have d9:=zh (l2.out.more e4);clear b1 q1 q2 q3
        cases bd with
        | false=>
         have b2:Hid (addS fr (d+1) Fj y=Fj):=by
          (show _=_)
          have U:=E.out
          cases hl:Fj.lookup y with
          | some e=>exact addS_old hl
          | none=>
           rw [EQ (f2.out.2 hl),Bool.true_and] at U;exact addS_not (by rw [I.out];exact U.symm)
         clear h4
         go_wp2_with fail
         go_roundw
         case rel=>exact ⟨j+1,by omega,by go_num,by rw [a8.out,b2.out];exact a3,d9⟩
         case measure=>simp [intOf];omega
        | true=>
         have U:=E.out;rw [eq_comm,EZ,EX] at U;have g6:Hid (Fj.lookup y=none):=f2.out.1 U.1;have b2:Hid (addS fr (d+1) Fj y=Fj++[(y,d+1)]):=addS_new g6.out (by rw [I.out];exact U.2);have o1:Hid (zw fr (d+1) (L.take (j+1)) F=addS fr (d+1) Fj y):=a8.out;have d8:=zh h4
         have k9:Hid (wi.cell? ⟨go,x.toNat,none⟩=some (.int .i64 d)):=by
          (show _=_)
          have:=(a4.out.cell (j:=x.toNat) (by have:=J.out;have:=HN.out;omega)).1;rw [this];unfold dK dF;rw [if_pos (by have:=J.out;have:=HN.out;omega),Int.toNat_of_nonneg J.out.1,e3.out];rfl
         have k8:Hid (wc.cell? ⟨go,x.toNat,none⟩=some (.int .i64 d)):=e4.cell k9.out;have d8:Hid (wc.cell? ⟨bl,offl+j,none⟩=some (.int .i64 y)):=e4.cell d8.out;obtain ⟨AT,cT,i2,-⟩:=Bk a3.out.own;subst i2
         have i1:q<(Fj.map Prod.fst).length:=by
          obtain ⟨G',h1,-,-,-⟩:=zR fr (d+1) (L.take j) F;rw [j3.out,h1,FG,EV,Fy];omega
         have l3:(Fj.map Prod.fst)[q]=x:=by
          obtain ⟨G',h1,-,-,-⟩:=zR fr (d+1) (L.take j) F
          have h2:(Fj.map Prod.fst)[q]?=some x:=by
           rw [Fx,j3.out,h1,ES m1,HP.out];rfl
          rw [EL i1] at h2;injection h2
         obtain ⟨bT,ebT,p3,g9⟩:=own_at a3.out.own i1;rw [l3] at g9;subst ebT;obtain ⟨TL,f3⟩:=zak ((Fj.map Prod.fst).length);have s2:(q:Int)<(TL:Int):=by omega
         rw [<-f3] at a3 d9⊢;have r7:=f9.out;have rT:∀W,zu (fun b=>b=go) wc W->W.cell? ⟨bT,q,none⟩=some (.int .i64 x):=fun W h=>h.cellk g9 (by show ¬ (bT=go);omega)
         have rL:∀W,zu (fun b=>b=go) wc W->W.cell? ⟨bl,offl+j,none⟩=some (.int .i64 y):=fun W h=>h.cellk d8.out (by have:=i6.out;show ¬ (bl=go);omega)
         have v3:x<(k:Int):=by have:=J.out;have:=HN.out;omega
         have s6:(0:Int)<=x:=J.out.1;have t9:IntKind.i64.wrap (d+1)=d+1:=by rw [Fi];have:=Q.out;omega
         have n8:Hid (x.toNat≠y.toNat):=fun e=>by
          have:x=y:=by omega
          rw [this,g6.out] at e3
          cases e3.out
         clear h4 p3 g9 l3 i1 f3 U a0;go_upto_region 18 with fail;refine Fd (S:=(fun W=>W.cell? ⟨go,x.toNat,none⟩=some (.int .i64 d)/\zu (fun b=>b=go) wc W)) zU (⟨(zb.refl wc).drew.cell k8.out,zu.of_ext (zb.refl wc).drew⟩) fun zH=>?_;have a6:zb wc wc.drew:=(zb.refl wc).drew;generalize wc.drew=wd at zH a6⊢;refine ze 0 zH ?_;refine ze 1 zH ?_;simp only [za,EK];refine ze 2 zH ?_;refine ze 3 zH ?_;simp only [za,EK];refine ze 4 zH ?_;refine ze 5 zH ?_;simp only [za,EK];refine ze 6 zH ?_;refine ze 7 zH ?_;simp only [za,EK];refine ze 8 zH ?_;refine ze 9 zH ?_;simp only [za,EK];refine ze 10 zH ?_;refine ze 11 zH ?_;simp only [za,EK];refine ze 12 zH ?_;refine ze 13 zH ?_;simp only [za,EK];refine zx 14 fun K hK=>?_;obtain ⟨b1,h7⟩:=(a3.out.more a6).cell b7.out;go_simp;clear b1 h7;refine zal hK (⟨a6.cell_other k8.out n8.out,zu.set (zu.of_ext (X:=fun b=>b=go) a6) go y.toNat (.int .i64 (d+1)) rfl⟩) fun zH=>?_;clear hK K;try simp only [za,EK]
         refine Fs (by kernel_rfl) ?_ _;have i9:=zh (a3.out.more a6);have n9:=zh (d9.out.more a6);clear a3 d9;obtain ⟨b1,h7⟩:=i9.out.cell b7.out;have o:=zh (i9.out.put (x:=y) (d:=d+1) d5 (by have:=l0.out;omega) g6.out);have j8:=zh (n9.out.put (BZ wd go y.toNat (.int .i64 (d+1))) f9.out);have rl2:(wd.setCell ⟨go,y.toNat,none⟩ (.int .i64 (d+1))).cell? ⟨bl,offl+j,none⟩=some (.int .i64 y):=(zu.set (zu.of_ext (X:=fun b=>b=go) a6) go y.toNat (.int .i64 (d+1)) rfl).cellk d8.out (by have:=i6.out;have:=f9.out;show ¬ (bl=go);omega);generalize wd.setCell ⟨go,y.toNat,none⟩ (.int .i64 (d+1))=w5 at o j8 rl2⊢;obtain ⟨T,hT⟩:∃T:List Int,T=Fj.map Prod.fst:=⟨_,rfl⟩;rw [<-hT] at o;have o3:=zh hT;have o9:T.length<=300:=by rw [hT,Fy];exact j1.out
         have l9:=o.out.bound;clear hT b1 h7
         go_wp2_with (at_builtin;refine AP rfl _ _ rfl _ T y (go+1) w5.heap.size 1 _ rfl rfl (o.out.own.alloc _) ?d1 ?d2 ?d3 ?_)
         (try case d1=>exact zr _ _ _ (by simp))
         (try case d2=>(first | (simp;done) | (simp;omega) | omega))
         (try case d3=>omega)
         intro v' wb c9 D M;have f7:=zh ((o.out.more ((zb.refl _).alloc _)).app c9 D);have n7:=zh ((j8.out.more ((zb.refl w5).alloc (.cells #[.int .i64 y] 3))).app D (by (show _\/_);rw [World.size_alloc];exact M.out));clear c9 D M rl2;go_wp2;go_roundw
         case rel=>exact ⟨j+1,by omega,by go_num,by rw [o1.out,b2.out,FG,<-o3.out];exact f7,n7⟩
         case measure=>simp [intOf];omega
      ·obtain rfl:j=L.length:=by omega
       rw [EY] at a4;have l8:Hid (farQ m t fixed=bfs m fr (k+1 - (q+1)) (q+1) (zw fr (d+1) L F)):=by (show _=_);rw [l7.out,i7.out]
       have j7:Hid (q+1<=(zw fr (d+1) L F).length):=by
        (show _<=_)
        obtain ⟨G',h1,-,-,-⟩:=zR fr (d+1) L F;rw [h1,EV];omega
       clear s
       go_wp2_with fail
       go_roundw
       case rel=>exact ⟨q+1,_,by go_num,j7.out,b5.out,a4.out,l8.out⟩
       case measure=>simp [intOf];omega
    ·have m2:q=F.length:=by omega
     have j0:Hid (farQ m t fixed=F):=by (show _=_);rw [l7.out,m2];exact bfs_end _
     have k5:Hid (wk.rowIs go 3 k (dF F)):=hD.out.row.congr fun j hj=>by unfold dK;rw [if_pos hj]
     have t6:¬ ((q:Int)<(T.length:Int)):=by omega
     have r9:decide (q<T.length)=false:=ER Z;subst hv;clear m2 g8 hT
     go_wp2_with fail
     go_ret;refine ⟨go,rfl,z.out.trans s,by rw [n5.out];exact z.out.size,?_⟩;rw [j0.out];exact k5.out
theorem qpath_calls {okf:Nat->Prop} {v vf:Value} (t:Int) (w:World) (hm:zt w okm v m) (hl:Lens m) (hf:zq w okf vf fixed) (n0:fixed.length<=20000000000000) (n2:∀x∈fixed,x.length<=20000000000000):
  Calls Tryz.prog 19 #[v,.int .i64 t,vf] w fun e w'=>∃v',e=.returned (.tuple #[v',.bool (Br m t fixed).isSome])/\Mk w w' v' ((Br m t fixed).getD []):=by
 have HM:=zh hm;have HL:=zh hl;have HF:=zh hf;obtain ⟨Af,cf,Au,cu,At,ct,rfl,-,-,k4⟩:=hm.parts;have m1:=zh k4;clear k4;obtain ⟨_,⟨A,c,rfl,-,-⟩,-⟩:=hf;have s3:=hl.ts;clear hm hl;obtain ⟨R,hR⟩:=zak (Br m t fixed);rw [<-hR];have HR:=zh hR;clear hR
 go_enter Tryz.func19,Tryz.ntmps19
 go_upto_region 1 with fail;obtain ⟨a7,r0,r1,r2,r3,r4,r5⟩:=CG w (.int .i64 m.w) (.int .i64 m.h) (.int .i64 m.l) (.slice Af m.free.length cf) (.slice Au m.up.length cu) (.slice At m.tasks.length ct);generalize w.alloc _=w1 at a7 r0 r1 r2 r3 r4 r5⊢;obtain ⟨gm,j5⟩:=zak w.heap.size;rw [<-j5] at r0 r1 r2 r3 r4 r5⊢;have s:=zh a7;clear j5 a7;have J:zb w1 w1:=zb.refl w1
 go_wp2_with fail
 refine (Cm w1 (HM.out.below s.out) HL.out).mono ?_;rintro e w2 ⟨rfl,i6⟩;clear J;have J:zb w1 w2:=i6;clear i6;obtain ⟨ck,D⟩:=zak (AY m);rw [<-D];have g5:=zh D;clear D;by_cases h0:ck=0
 ·subst h0;have HC:Hid (AY m=0):=g5.out.symm;by_cases s1:0<=t
  ·by_cases o3:t<(m.tasks.length:Int)
   ·obtain ⟨tn,rfl⟩:∃tn:Nat,t=tn:=⟨t.toNat,by omega⟩;have HT:Hid (tn<m.tasks.length):=by (show _<_);omega
    have G:=zh (zI.of HC.out);obtain ⟨N,hN⟩:∃N:Nat,N=m.n.toNat:=⟨_,rfl⟩
    have HN:Hid (m.n=(N:Int)):=by
     (show _=_)
     have h1:=G.out.n1;rw [hN];unfold MZ.n;omega
    have q6:N<=300:=by have h1:=G.out.dim.n1;rw [hN];unfold MZ.n;omega
    have e6:=zh (fun W (hW:zb w W)=>taken_calls (fixed:=fixed) W (HM.out.below hW) G.out HL.out (HF.out.below hW) n0 n2);have d8:=zh (fun (gu:Nat) W (hW:zb w W) (hu:W.rowIs gu 4 m.n.toNat (memF fixed.flatten))=>distances_calls tn W (HM.out.below hW) HL.out HC.out HT.out hu);rw [<-hN] at e6 d8;clear hN;obtain ⟨bt,offt,sn,u1,u2,rfl,-,-,d6,-,f2,-⟩:=AO m1.out HT.out;have j2:=(HL.out.tl _ (EO HT.out)).1;have g7:Hid ((m.tasks.getD tn ([],[])).1=(m.tasks[tn]'HT.out).1):=by (show _=_);rw [EM,EL HT.out];rfl
    have i3:Hid (∀x∈(m.tasks[tn]'HT.out).1,0<=x/\x<m.n):=fun x J=>G.out.tn _ (EO HT.out) x (.inl J)
    obtain ⟨fm,j3⟩:=zak ((m.tasks[tn]'HT.out).1);rw [<-j3] at f2 j2 g7 i3;have l5:=zh f2;obtain ⟨Afm,cfm,rfl,-,-⟩:=f2;have rfm:=zb.rule (s.out.cell d6);clear j3 d6;have e5:Hid (R=CV m (farQ m tn fixed) fm):=by (show _=_);rw [HR.out,pathP_far HC.out HT.out,g7.out]
    have o:zb w2 w2:=zb.refl w2;go_upto_region 3 with fail;go_cut [8] (fun v wx=>∃go,v=.slice (some ⟨go,0,none⟩) N N/\zb w2 wx/\wx.rowIs go 3 N (dF (farQ m tn fixed)))
    case first=>
     refine Fd (S:=(fun W=>zb w1 W/\zb w2 W)) zU (⟨J.drew,o.drew⟩) fun zH=>?_;have U:zb w1 w2.drew/\zb w2 w2.drew:=zH;generalize w2.drew=wd at zH U⊢;refine ze 0 zH ?_;refine ze 1 zH ?_;simp only [za,EK];refine ze 2 zH ?_;refine ze 3 zH ?_;simp only [za,EK];refine zx 4 fun K hK=>?_;go_simp;go_at_call 52;refine (e6.out _ (s.out.trans zH.1)).mono ?_;rintro e w3 ⟨gt,rfl,V⟩;go_simp;refine zal hK (⟨U.1.trans V.ext,U.2.trans V.ext⟩) fun zH=>?_;clear hK K;try simp only [za,EK]
     refine zx 5 fun K hK=>?_;go_simp;go_at_call 51;refine (d8.out gt w3 (V.ext |> fun h=>(s.out.trans U.1).trans h) V.tak).mono ?_;rintro e w4 ⟨go,rfl,a1,q8,o1⟩;go_simp;refine zal hK (⟨(U.1.trans V.ext).trans a1,(U.2.trans V.ext).trans a1⟩) fun zH=>?_;clear hK K;try simp only [za,EK]
     refine ze 6 zH ?_;simp only [za,EK];refine Fs (by kernel_rfl) ?_ _;go_wp2;go_meet;exact ⟨go,rfl,(U.2.trans V.ext).trans a1,o1⟩
    case rest=>
     obtain ⟨go,rfl,a1,b3⟩:=hcut;obtain ⟨w4,rfl⟩:∃w4:World,w4=wc:=⟨_,rfl⟩;obtain ⟨F,hF⟩:=zak (farQ m tn fixed);rw [<-hF] at b3 e5;have b5:Hid (DY m (DJ m tn fixed) (toL m tn) F.length F):=by (show DY _ _ _ _ _);rw [hF];exact farQ_fi G.out HT.out
     have a5:=zh b3;have e7:Hid (zb w1 w4):=J.trans a1;have i4:=zh (zb.refl w4);clear J o a1 hF b3 e6 d8
     go_wp2_with fail
     go_loopw [9,10] (fun b i wr=>∃(k:Nat) (bo:Option Int),k<=N/\i=.int .i64 k/\b=.int .i64 (bo.getD (-1))/\Hid (Cb F fm k bo)/\Hid (zb w4 wr)) (fun _ i _=>N - (intOf i).toNat)
     case atStart=>exact ⟨0,none,Fb _,rfl,rfl,Cb.zero _ _,i4.out⟩
     case round=>
      obtain ⟨k,bo,hk,rfl,rfl,hB,M⟩:=hrel;obtain ⟨wk,rfl⟩:∃wk:World,wk=wr:=⟨_,rfl⟩;have J:zb w1 wk:=e7.out.trans M.out;by_cases n5:k<N
      ·have o9:(k:Int)<(N:Int):=by omega
       have kk0:(0:Int)<=(k:Int):=by omega
       have D:wk.cell? ⟨go,k,none⟩=some (.int .i64 ((F.lookup (k:Int)).getD (-1))):=M.out.cell (a5.out.cell n5);have o:zb wk wk:=zb.refl wk;have HH:Hid (∀n,Calls Tryz.prog 12 #[.slice Afm fm.length cfm,.int .i64 (k:Int)] (wk.drewN n) fun e w'=>e=.returned (.bool (decide ((k:Int)∈fm)))/\(wk.drewN n)=w'):=fun n=>zL _ _ (l5.out.below (s.out.trans (J.drewN n))) (by omega)
       have s2:(tn:Int)<(m.tasks.length:Int):=o3;have p4:(0:Int)<=(tn:Int):=by omega
       go_upto_region 8 with fail;go_cut [70] (fun v wx=>∃bu,v=.bool bu/\zb wk wx/\Hid (if bu then Cb F fm (k+1) (some (k:Int)) else Cb F fm (k+1) bo))
       case first=>
        cases hl:F.lookup (k:Int) with
        | none=>
         rw [hl] at D;have D:wk.cell? ⟨go,k,none⟩=some (.int .i64 (-1)):=D;have HS:Hid (Cb F fm (k+1) bo):=hB.out.skip (.inr hl);clear hl;go_quiet (fail)
         go_wp2_with fail
         go_meet;exact ⟨false,rfl,o.drewN _,HS.out⟩
        | some e=>
         rw [hl] at D;have D:wk.cell? ⟨go,k,none⟩=some (.int .i64 e):=D;obtain ⟨e0,-⟩:=b5.out.dist G.out hl;have e3:=zh hl;clear hl;by_cases I:(k:Int)∈fm
         ·have hd:decide ((k:Int)∈fm)=true:=EQ I;rw [hd] at HH;have b6:=zh I;clear hd I
          cases bo with
          | none=>
           have HS:Hid (Cb F fm (k+1) (some (k:Int))):=hB.out.new b6.out e3.out (fun r d hr=>by cases hr);go_quiet ((go_at_call 12;refine (HH.out _).mono ?_;rintro e9 w9 ⟨rfl,rfl⟩;exact ⟨rfl,⟨_,rfl⟩⟩))
           go_wp2_with fail
           go_meet;exact ⟨true,rfl,o.drewN _,HS.out⟩
          | some r=>
           obtain ⟨h1,n9,o0,d,f6,-⟩:=hB.out;have c9:=zh f6
           have i9:wk.cell? ⟨go,r.toNat,none⟩=some (.int .i64 d):=by
            have h2:=M.out.cell (a5.out.cell (show r.toNat<N by omega));rw [h2];unfold dF;rw [Int.toNat_of_nonneg n9,f6];rfl
           have s0:r<(N:Int):=by omega
           clear h1 f6 o0;by_cases o8:e<d
           ·have HS:Hid (Cb F fm (k+1) (some (k:Int))):=hB.out.new b6.out e3.out (fun r' d' f5 f0=>by injection f5 with f5;subst f5;rw [c9.out] at f0;injection f0 with f0;omega);go_quiet ((go_at_call 12;refine (HH.out _).mono ?_;rintro e9 w9 ⟨rfl,rfl⟩;exact ⟨rfl,⟨_,rfl⟩⟩))
            go_wp2_with fail
            go_meet;exact ⟨true,by simp;try omega,o.drewN _,HS.out⟩
           ·have HS:Hid (Cb F fm (k+1) (some r)):=hB.out.old c9.out e3.out (by omega);go_quiet ((go_at_call 12;refine (HH.out _).mono ?_;rintro e9 w9 ⟨rfl,rfl⟩;exact ⟨rfl,⟨_,rfl⟩⟩))
            go_wp2_with fail
            go_meet;exact ⟨false,by simp;try omega,o.drewN _,HS.out⟩
         ·have hd:decide ((k:Int)∈fm)=false:=ER I;rw [hd] at HH;have HS:Hid (Cb F fm (k+1) bo):=hB.out.skip (.inl I);clear hd I;go_quiet ((go_at_call 12;refine (HH.out _).mono ?_;rintro e9 w9 ⟨rfl,rfl⟩;exact ⟨rfl,⟨_,rfl⟩⟩))
          go_wp2_with fail
          go_meet;exact ⟨false,rfl,o.drewN _,HS.out⟩
       case rest=>
        obtain ⟨bu,rfl,m3,hS⟩:=hcut;have a4:zb w4 wc:=M.out.trans m3
        cases bu with
        | true=>
         have e8:Hid (Cb F fm (k+1) (some (k:Int))):=hS.out
         go_wp2_with fail
         go_roundw
         case rel=>exact ⟨k+1,some (k:Int),by omega,by go_num,by simp,e8,a4⟩
         case measure=>simp [intOf];omega
        | false=>
         have e8:Hid (Cb F fm (k+1) bo):=hS.out
         go_wp2_with fail
         go_roundw
         case rel=>exact ⟨k+1,bo,by omega,by go_num,rfl,e8,a4⟩
         case measure=>simp [intOf];omega
      ·have n4:k=N:=by omega
       have g4:Hid (BN F fm none=bo):=hB.out.all (fun n hn=>by have:=i3.out n hn;have:=HN.out;omega)
       have l2:Hid (∀r,bo=some r->0<=r/\r<(N:Int)/\∃d:Nat,F.lookup r=some (d:Int)/\d<300):=fun r hr=>by
        have h:=hB.out;rw [hr] at h;obtain ⟨-,h1,h2,d,h3,-⟩:=h;obtain ⟨h4,h5⟩:=b5.out.dist G.out h3;exact ⟨h1,by omega,d.toNat,by rw [h3,Int.toNat_of_nonneg h4],by omega⟩
       clear n4
       cases bo with
       | none=>
        have E:Hid (R=none):=by (show _=_);rw [e5.out];unfold CV;rw [g4.out];rfl
        go_wp2_with fail
        go_ret2
        rw [E.out];exact ⟨_,rfl,Mk.nil' (s.out.trans J)⟩
       | some b=>
        obtain ⟨a7,m6,d0,i8,j1⟩:=l2.out b rfl
        have E:Hid (R=some (CH m F d0 b)):=by
         (show _=_)
         rw [e5.out];unfold CV;rw [g4.out,Option.map_some,i8];simp
        have o6:¬ (b<0):=by omega
        have q4:=zh M.out
        have b8:Hid (∀x,0<=x->x<(N:Int)->∀W,zb w4 W->W.cell? ⟨go,x.toNat,none⟩=some (.int .i64 ((F.lookup x).getD (-1)))):=fun x h0 h1 W hW=>by
         have h2:=hW.cell (a5.out.cell (show x.toNat<N by omega));rw [h2];unfold dF;rw [Int.toNat_of_nonneg h0]
        have c7:Hid (Mk w4 (wk.alloc (.cells #[.int .i64 b] 3)) (.slice (some ⟨wk.heap.size,0,none⟩) 1 1) ([]++[b])):=⟨ownOne wk w4.heap.size 3 (.int .i64 b) M.out.size,M.out.alloc _⟩;clear J M
        go_wp2_with fail
        go_loopw [9,11] (fun c v wr=>∃(pre:List Int) (cur:Int) (r:Nat),c=.int .i64 cur/\Hid (0<=cur/\cur<(N:Int))/\Hid (Mk w4 wr v (pre++[cur]))/\Hid (F.lookup cur=some (r:Int))/\Hid (CH m F d0 b=pre++CH m F r cur)/\Hid (pre.length+r=d0)) (fun c _ wr=>match wr.cell? ⟨go,(intOf c).toNat,none⟩ with | some (.int _ i)=>i.toNat | _=>0)
        case atStart=>exact ⟨[],b,d0,rfl,⟨a7,m6⟩,c7.out,i8,rfl,by simp [Hid]⟩
        clear c7
        case round=>
         obtain ⟨pre,cur,r,rfl,i9,hM,j6,f1,j9⟩:=hrel;obtain ⟨wq,rfl⟩:∃wq:World,wq=wr:=⟨_,rfl⟩;obtain ⟨c0,c4⟩:=i9.out;have J:zb w1 wq:=e7.out.trans hM.out.ext
         have O:wq.cell? ⟨go,cur.toNat,none⟩=some (.int .i64 (r:Int)):=by
          rw [b8.out cur c0 c4 wq hM.out.ext,j6.out];rfl
         cases r with
         | zero=>
          have O:wq.cell? ⟨go,cur.toNat,none⟩=some (.int .i64 0):=O;have g6:Hid (CH m F d0 b=pre++[cur]):=f1.out
          go_wp2_with fail
          go_ret2
          rw [E.out];refine ⟨_,rfl,?_⟩
          (show Mk _ _ _ (CH m F d0 b))
          rw [g6.out];exact (s.out.trans e7.out).mono_mk hM.out
         | succ r=>
          have r9:(0:Int)<((r+1:Nat):Int):=by omega
          have b2:F.lookup cur=some ((r:Int)+1):=by have h:=j6.out;rw [h];congr 1
          obtain ⟨i0,c5,a3,I⟩:=downN_at G.out.dim b5.out b2;obtain ⟨a9,d7⟩:=downN_ok G.out.dim b5.out b2
          have d9:Hid (CH m F d0 b=(pre++[cur])++CH m F r (Dg m F cur)):=by
           (show _=_)
           rw [f1.out,List.append_assoc];rfl
          have Q:Hid (0<=Dg m F cur/\Dg m F cur<(N:Int)):=by
           have h:=AG G.out.dim c0 (by rw [HN.out];exact c4) d7;exact ⟨h.1,by have:=HN.out;omega⟩
          have n7:=Ba m cur
          have c8:Hid (∀y∈zm m cur,0<=y/\y<(N:Int)):=fun y hy=>by
           have h:=AG G.out.dim c0 (by rw [HN.out];exact c4) hy;exact ⟨h.1,by have:=HN.out;omega⟩
          have i1:Hid (BC m cur=zm m cur):=nextO_in HC.out c0 (by rw [HN.out];exact c4);have m9:d0<300:=j1;have k2:(pre++[cur]).length<=400:=by have:=j9.out;rw [EV,Fo];omega
          obtain ⟨dnx,b0⟩:=zak (Dg m F cur);obtain ⟨L,hL⟩:=zak (zm m cur);have b6:Hid (∀j (hj:j<i0) (f3:j<L.length),F.lookup L[j]≠some (r:Int)):=by subst hL;exact fun j hj f3=>I j hj
          have l6:Hid (∃hi:i0<L.length,L[i0]=dnx):=by subst hL;subst b0;exact ⟨c5,a3⟩
          rw [<-b0] at a9 d9 Q;rw [<-hL] at n7 c8 i1;have Z:Hid (F.lookup dnx=some (r:Int)):=a9;have b7:=zh j9.out;clear b0 hL b2 c5 a3 I a9 d7 f1 j1;obtain ⟨P,hP⟩:=zak (pre++[cur]);have l9:Hid (P.length=pre.length+1):=by (show _=_);rw [hP];simp
          rw [<-hP] at hM d9 k2;clear hP
          go_wp2_with fail
          refine (EA cur wq (HM.out.below (s.out.trans J)) HL.out).mono ?_;rw [i1.out];rintro e w5 ⟨vl,rfl,a6⟩;have l7:=zh a6.ints;have h8:=zh (hM.out.more a6.ext);obtain ⟨AL,cL,rfl,-,k3⟩:=l7.out;have m0:=zh k3;have d5:w5.cell? ⟨go,cur.toNat,none⟩=some (.int .i64 ((r+1:Nat):Int)):=a6.ext.cell O;have c6:=zh d5;have q3:Hid (zb w1 w5):=J.trans a6.ext;have i5:=zh (zb.refl w5);have l4:=zh O;clear J O a6 k3 hM d5;have o4:IntKind.i64.wrap (((r+1:Nat):Int) - 1)=(r:Int):=by rw [Fi];have:=b7.out;omega
          go_wp2_with fail
          go_loopw [13,14] (fun nx i wr=>∃j:Nat,j<=L.length/\i=.int .i64 j/\nx=.int .i64 (if j<=i0 then -1 else dnx)/\Hid (zb w5 wr)) (fun _ i _=>L.length - (intOf i).toNat)
          case atStart=>exact ⟨0,Fb _,rfl,by rw [if_pos (Fb _)],i5.out⟩
          case round=>
           obtain ⟨j,hj,rfl,rfl,M⟩:=hrel;obtain ⟨wi,rfl⟩:∃wi:World,wi=wr:=⟨_,rfl⟩;obtain ⟨c5,a3⟩:=l6.out;by_cases a0:j<L.length
           ·have n6:(j:Int)<(L.length:Int):=by omega
            have kk1:(0:Int)<=(j:Int):=by omega
            obtain ⟨bl,offl,rfl,-,a8⟩:=zy m0.out a0 a0;obtain ⟨k5,k6⟩:=c8.out _ (EO a0);have g9:=zh (b6.out j);have g8:Hid (j=i0->L[j]=dnx):=fun h=>by subst h;exact a3
            obtain ⟨y,f8⟩:=zak (L[j]);rw [<-f8] at a8 k5 k6 g8;have h6:Hid (j<i0->F.lookup y≠some (r:Int)):=fun h=>by rw [f8];exact g9.out h a0
            have q7:wi.cell? ⟨bl,offl+j,none⟩=some (.int .i64 y):=M.out.cell a8;have m8:wi.cell? ⟨go,y.toNat,none⟩=some (.int .i64 ((F.lookup y).getD (-1))):=b8.out y k5 k6 wi (h8.out.ext.trans M.out);have O:wi.cell? ⟨go,cur.toNat,none⟩=some (.int .i64 ((r+1:Nat):Int)):=M.out.cell c6.out;obtain ⟨oy,f4⟩:=zak ((F.lookup y).getD (-1));rw [<-f4] at m8
            have i2:Hid (oy=(r:Int)↔F.lookup y=some (r:Int)):=by
             (show _↔_)
             rw [f4]
             cases F.lookup y with
             | none=>simp
             | some z=>simp
            have o:zb wi wi:=zb.refl wi;have O:wi.cell? ⟨go,cur.toNat,none⟩=some (.int .i64 ((r:Int)+1)):=by rw [O];congr 1
            have p5:IntKind.i64.wrap ((r:Int)+1 - 1)=(r:Int):=by rw [Fi];have:=b7.out;omega
            have p6:IntKind.i64.wrap (r:Int)=(r:Int):=by rw [Fi];have:=b7.out;omega
            clear f8 f4 a8 g9 o4;rcases Nat.lt_trichotomy j i0 with hji | hji | hji
            ·have j7:(oy==(r:Int))=false:=by rw [Fa];exact fun h=>h6.out hji (i2.out.1 h)
             have p3:¬ (oy=(r:Int)):=by rw [Fa] at j7;exact j7
             rw [if_pos (show j<=i0 by omega)];go_upto_region 19 with fail;go_quiet (fail)
             go_wp2_with fail
             go_roundw
             case rel=>exact ⟨j+1,by omega,by go_num,by rw [if_pos (show j+1<=i0 by omega)],M.out.trans (o.drewN _)⟩
             case measure=>simp [intOf];omega
            ·have f7:=g8.out hji;have heq:(oy==(r:Int))=true:=by rw [beq_iff_eq];exact i2.out.2 (by rw [f7];exact Z.out)
             have m2:=zh f7;have l8:=zh hji;rw [if_pos (show j<=i0 by omega)];clear f7 hji a3;go_upto_region 19 with fail;go_quiet (fail)
             go_wp2_with fail
             go_roundw
             case rel=>exact ⟨j+1,by omega,by go_num,by rw [if_neg (show ¬ (j+1<=i0) by have:=l8.out;omega),<-m2.out],M.out.trans (o.drewN _)⟩
             case measure=>simp [intOf];omega
            ·rw [if_neg (show ¬ (j<=i0) by omega)];have r6:¬ (dnx<0):=by have:=Q.out;omega
             go_upto_region 19 with fail;go_quiet (fail)
             go_wp2_with fail
             go_roundw
             case rel=>exact ⟨j+1,by omega,by go_num,by rw [if_neg (show ¬ (j+1<=i0) by omega)],M.out.trans (o.drewN _)⟩
             case measure=>simp [intOf];omega
           ·have f3:¬ (j<=i0):=by omega
            rw [if_neg f3];have e4:=zh (h8.out.more M.out);have a4:=e4.out.ext
            have p8:Hid (wi.cell? ⟨go,dnx.toNat,none⟩=some (.int .i64 (r:Int))):=by
             (show _=_)
             rw [b8.out dnx Q.out.1 Q.out.2 wi a4,Z.out];rfl
            have p7:=zh (M.out.cell c6.out);clear a3 c5
            go_wp2_with (at_builtin;refine AP rfl _ _ rfl _ P dnx w4.heap.size wi.heap.size 1 _ rfl rfl (e4.out.own.alloc _) ?d1 ?d2 ?d3 ?_)
            (try case d1=>exact zr _ _ _ (by simp))
            (try case d2=>(first | (simp;done) | (have:=a4.size;simp;omega) | (have:=a4.size;omega)))
            (try case d3=>omega)
            intro v' wb j8 j4 m7;have h9:=zh ((e4.out.alloc (.cells #[.int .i64 dnx] 3)).app j8 j4);clear j8 j4 m7
            have l3:Hid (wb.cell? ⟨go,dnx.toNat,none⟩=some (.int .i64 (r:Int))):=by
             (show _=_)
             rw [b8.out dnx Q.out.1 Q.out.2 wb h9.out.ext,Z.out];rfl
            go_wp2;go_roundw
            case rel=>exact ⟨P,dnx,r,rfl,Q.out,h9.out,Z.out,d9.out,by (show _=_);have h1:=l9.out;have h2:=b7.out;omega⟩
            case measure=>
             simp only [intOf,l3.out,l4.out];omega
   ·have E:Hid (R=none):=by (show _=_);rw [HR.out];unfold Br;rw [if_neg (fun h=>by have:=(Be.1 h).2;omega)]
    go_wp2_with fail
    go_ret2
    rw [E.out];exact ⟨_,rfl,Mk.nil' (s.out.trans J)⟩
  ·have E:Hid (R=none):=by (show _=_);rw [HR.out];unfold Br;rw [if_neg (fun h=>by have:=(Be.1 h).2;omega)]
   go_wp2_with fail
   go_ret2
   rw [E.out];exact ⟨_,rfl,Mk.nil' (s.out.trans J)⟩
 ·have r7:(ck==0)=false:=by rw [Fa];exact h0
  have r8:(ck != 0)=true:=by rw [bne_iff_ne];exact h0
  have E:Hid (R=none):=by (show _=_);rw [HR.out];unfold Br;rw [if_neg (fun h=>h0 (by rw [g5.out];exact (Be.1 h).1))]
  clear h0
  go_wp2_with fail
  go_ret2
  rw [E.out];exact ⟨_,rfl,Mk.nil' (s.out.trans J)⟩
theorem laid_empty (z:AY m=0):AV m (List.replicate m.tasks.length [])=true:=by
 have o:∀k,(List.replicate m.tasks.length ([]:List Int)).getD k []=[]:=fun k=>by
  rw [EM,List.getElem?_replicate]
  split <;> rfl
 exact AS.2 ⟨z,by simp,fun k _ h=>absurd (o k) h,⟨fun i=>by rw [o];exact List.nodup_nil,fun i j x s=>by rw [o] at s;cases s⟩⟩
theorem laid_set {ps:List (List Int)} {p:List Int} (h:AV m ps=true) (I:t<ps.length) (hp:Br m t ps=some p):AV m (ps.set t p)=true:=by
 obtain ⟨h0,h1,h2,h3⟩:=AS.1 h;obtain ⟨-,-,hI⟩:=pathP_ok hp;rw [FF] at hI;refine AS.2 ⟨h0,by rw [List.length_set];exact h1,fun k D s=>?_,h3.set hI.nd fun x E i G=>?_⟩
 ·rw [List.length_set] at D;rw [DQ] at s⊢;by_cases o:t=k/\k<ps.length
  ·rw [if_pos o];rw [<-o.1];exact hI.pathT
  ·rw [if_neg o] at s⊢;exact h2 k D s
 ·exact fun z=>(hI.fr x E).2 (BS.2 ⟨i,z⟩)
structure CPL (w wr:World) (g L:Nat) (ps:List (List Int)):Prop where
 ext:zb w wr
 lo:L<=g
 row:∃vs:List Value,zg wr g 23 vs.toArray/\vs.length=ps.length/\∀(i:Nat) x,ps[i]?=some x->∃u,vs[i]?=some u/\zi wr (fun b=>b≠g/\L<=b) u x
section
variable {w wr w':World} {g L:Nat} {ps:List (List Int)}
theorem CPL.lt (h:CPL w wr g L ps):g<wr.heap.size:=by obtain ⟨vs,o,-⟩:=h.row;exact zd o
theorem CPL.keep {X:Nat->Prop} (h:CPL w wr g L ps) (z:zu X wr w') (D:∀b,L<=b->¬ X b) (E:zb w w'):CPL w w' g L ps:=by
 obtain ⟨vs,o,I,he⟩:=h.row;exact ⟨E,h.lo,vs,z.blk o (D g h.lo),I,fun i x M=>by obtain ⟨u,J,G⟩:=he i x M;exact ⟨u,J,G.keep fun b o s=>z.block b s (D b o.2)⟩⟩
theorem CPL.more (h:CPL w wr g L ps) (o:zb wr w'):CPL w w' g L ps:=h.keep (zu.of_ext (X:=fun _=>False) o) (fun _ _ h=>h) (h.ext.trans o)
theorem CPL.at_ (h:CPL w wr g L ps) {k:Nat} (z:k<ps.length):∃u,wr.cell? ⟨g,k,none⟩=some u/\wr.frozen? ⟨g,k,none⟩=false/\zi wr (fun b=>b≠g/\L<=b) u ps[k]:=by
 obtain ⟨vs,o,E,he⟩:=h.row;obtain ⟨u,D,s⟩:=he k _ (EL z);exact ⟨u,o.cell (by simpa using D),o.frozen k,s⟩
theorem CPL.intss (h:CPL w wr g L ps) (c:Nat) (z:ps.length<=c):zq wr (fun b=>L<=b) (.slice (some ⟨g,0,none⟩) ps.length c) ps:=by
 obtain ⟨vs,s,G,he⟩:=h.row;refine ⟨vs,⟨_,c,rfl,z,by omega,fun _=>⟨g,0,rfl,h.lo,fun j u o=>?_⟩⟩,fun i x E=>by obtain ⟨u,o,D⟩:=he i x E;exact ⟨u,o,D.weaken fun _ h=>h.2⟩⟩;rw [Nat.zero_add];exact s.cell (by simpa using o)
theorem CPL.set (h:CPL w wr g L ps) (k:Nat) {u:Value} {x:List Int} (G:w.heap.size<=g) (M:zi wr (fun b=>b≠g/\L<=b) u x):CPL w (wr.setCell ⟨g,k,none⟩ u) g L (ps.set k x):=by
 obtain ⟨vs,z,I,he⟩:=h.row;have E:∀{v:Value} {l:List Int},zi wr (fun b=>b≠g/\L<=b) v l->zi (wr.setCell ⟨g,k,none⟩ u) (fun b=>b≠g/\L<=b) v l:=fun s=>s.keep fun b z _=>EW wr ⟨g,k,none⟩ u b z.1
 refine ⟨h.ext.setCell (p:=⟨g,k,none⟩) G _,h.lo,vs.set k u,?_,by simp [I],fun i y o=>?_⟩
 ·have:=z.set (k:=k) u
  rwa [List.setIfInBounds_toArray] at this
 ·rw [List.getElem?_set] at o⊢;by_cases s:k=i
  ·subst s;rw [if_pos rfl] at o⊢
   split at o
   ·rename_i J
    rw [if_pos (by omega)];injection o with o;subst o;exact ⟨u,rfl,E M⟩
   ·cases o
  ·rw [if_neg s] at o⊢;obtain ⟨v,O,D⟩:=he i y o;exact ⟨v,O,E D⟩
theorem CP.cpl (h:CP w wr g ps) (z:zb w' wr) {L:Nat} (s:L<=w.heap.size):CPL w' wr g L ps:=by
 obtain ⟨vs,o,E,he⟩:=h.row;exact ⟨z,EP s h.lo,vs,o,E,fun i x I=>by obtain ⟨u,G,D⟩:=he i x I;exact ⟨u,G,D.weaken fun b o=>⟨o.1,EP s o.2⟩⟩⟩
end
theorem laid_lens0 {ps:List (List Int)} (h:AV m ps=true):∀x∈ps,x.length<=300:=by
 obtain ⟨h0,h1,h2,h3⟩:=AS.1 h;intro x G;obtain ⟨k,z,rfl⟩:=Fu G;have o:ps.getD k []=ps[k]:=zgd z
 by_cases D:ps[k]=[]
 ·rw [D];simp
 ·have hp:=h2 k z (by rw [o];exact D);rw [o] at hp
  have s:(ps[k]).Nodup:=by
   have:=h3.1 k
   rwa [o] at this
  have E:=Bz s m.n hp.rg;have I:=(zI.of h0).dim.n1;unfold MZ.n at E;omega
theorem rem_idx {k:Nat} (z:0<n) (G:0<=x) (E:(k:Int)+x<=1000000):∃tq:Nat,tq<n/\((k:Int)+x).tmod (n:Int)=(tq:Int)/\IntKind.i64.wrap (((k:Int)+x).tmod (n:Int))=(tq:Int):=by
 obtain ⟨y,D⟩:∃y:Nat,(k:Int)+x=(y:Int):=⟨((k:Int)+x).toNat,by omega⟩;have hm:((k:Int)+x).tmod (n:Int)=((y % n:Nat):Int):=by rw [D];rfl
 have o:=Nat.mod_lt y z;have s:y % n<=y:=Nat.mod_le y n;refine ⟨y % n,o,hm,?_⟩;rw [hm,Fi];omega
theorem made31_calls {okl:Nat->Prop} {v vl:Value} (wo:Int) (w:World) (hm:zt w okm v m) (hl:Lens m) (hc:AY m=0) (ht:0<m.tasks.length) (e6:zi w okl vl l) (h6:l.length<=9223372036854775807):
  Calls Tryz.prog 36 #[v,vl,.int .i64 wo] w fun e w'=>∃go ps,e=.returned (.slice (some ⟨go,0,none⟩) m.tasks.length m.tasks.length)/\CPL w w' go w.heap.size ps/\AV m ps=true/\∀t:Nat,(t:Int)=wo->ps.getD t []=[]:=by
 have HM:=zh hm;have HL:=zh hl;have HC:=zh hc;have f8:=zh e6;have G:=zh (zI.of hc);obtain ⟨Af,cf,Au,cu,At,ct,rfl,-,-,-⟩:=hm.parts;obtain ⟨A,c,rfl,j5,-⟩:=e6;have k3:=G.out.tk;clear hm hl hc
 have h7:∀W:World,(Instr.makeSlice 22 (.int .i64 (m.tasks.length:Nat)) (.int .i64 (m.tasks.length:Nat))).run Tryz.prog W=.ok (.slice (some ⟨W.heap.size,0,none⟩) m.tasks.length m.tasks.length) (W.alloc (.cells (madeCells #[.slice none 0 0] m.tasks.length) 23)):=fun W=>
  run_make_row' 22 23 (.slice none 0 0) 24 Tryz.underlying22 Tryz.infoInts rfl .i64 .i64 m.tasks.length (by omega) (by omega) W
 go_enter Tryz.func36,Tryz.ntmps36
 go_upto_region 1 with fail;obtain ⟨b8,r0,r1,r2,r3,r4,r5⟩:=CG w (.int .i64 m.w) (.int .i64 m.h) (.int .i64 m.l) (.slice Af m.free.length cf) (.slice Au m.up.length cu) (.slice At m.tasks.length ct);have a5:(w.alloc (.cells #[.int .i64 m.w,.int .i64 m.h,.int .i64 m.l,.slice Af m.free.length cf,.slice Au m.up.length cu,.slice At m.tasks.length ct] 32)).heap.size=w.heap.size+1:=by simp
 generalize w.alloc _=w1 at b8 r0 r1 r2 r3 r4 r5 a5⊢;obtain ⟨gm,c0⟩:=zak w.heap.size;rw [<-c0] at r0 r1 r2 r3 r4 r5 a5⊢;have E:Hid (gm=w.heap.size):=c0;have d6:=zh b8;have hx:zb w1 w1:=zb.refl w1;have i1:=Ah w1;clear c0 b8;go_upto_region 2 with fail;have J:=zg.new w1 #[.slice A l.length c,.int .i64 0] 108 (g:=w1.heap.size) rfl;have a0:zb w1 (w1.alloc (.cells #[.slice A l.length c,.int .i64 0] 108)):=(zb.refl w1).alloc _;have U:(w1.alloc (.cells #[.slice A l.length c,.int .i64 0] 108)).heap.size=w1.heap.size+1:=by simp
 generalize w1.alloc _=w2 at J a0 U⊢;rw [a5] at J U;obtain ⟨gd,b9⟩:=zak (gm+1);rw [<-b9] at J U⊢;have f6:Hid (zZ w.heap.size w2 gd):=⟨by have:=E.out;omega,_,0,l,J,(f8.out.bound.weaken fun b M=>M.2).below (d6.out.trans a0),h6,by omega⟩;have f4:zb w1 w2:=a0;have s:Hid (gd=gm+1/\w2.heap.size=gd+1):=⟨b9,U⟩;clear hx i1 J a5 U b9 a0
 go_wp2_with fail
 have I:=zh (CP.new w2 m.tasks.length);have a1:zb w2 (w2.alloc (.cells (madeCells #[.slice none 0 0] m.tasks.length) 23)):=(zb.refl w2).alloc _;generalize w2.alloc _=w3 at I a1⊢;obtain ⟨go,e4⟩:=zak w2.heap.size;rw [<-e4] at I⊢;have V:Hid (go=gd+1):=by (show _=_);have:=s.out;omega
 have d7:Hid (zb w1 w3):=f4.trans a1;have c7:Hid (CPL w w3 go (gd+1) (List.replicate m.tasks.length [])):=I.out.cpl (d6.out.trans d7.out) (by have:=s.out;omega);have a9:=zh (f6.out.ext a1 (by have h1:=s.out;have h2:=E.out;omega));have b1:=zh (laid_empty HC.out);have rul:∀{i:Nat} {v:Value},(∀W,zb w1 W->W.cell? ⟨gm,i,none⟩=some v)->∀W,zu (fun b=>b=gd\/b=go) w3 W->W.cell? ⟨gm,i,none⟩=some v:=fun h W hW=>hW.cellk (h w3 d7.out) (by have h1:=s.out;have h2:=V.out;show ¬ (gm=gd\/gm=go);omega)
 have r0:=rul r0;have r1:=rul r1;have r2:=rul r2;have r3:=rul r3;have r4:=rul r4;have r5:=rul r5;have a7:Hid (zu (fun b=>b=gd\/b=go) w3 w3):=zu.refl _ _
 have d4:Hid (∀t:Nat,(t:Int)=wo->(List.replicate m.tasks.length ([]:List Int)).getD t []=[]):=fun t _=>by
  rw [EM,List.getElem?_replicate]
  split <;> rfl
 clear rul e4 a1 f4 h7;go_loopw [9] (fun i wr=>∃(k:Nat) (ps:List (List Int)),i=.int .i64 k/\k<=m.tasks.length/\Hid (CPL w wr go (gd+1) ps)/\Hid (AV m ps=true)/\Hid (∀t:Nat,(t:Int)=wo->ps.getD t []=[])/\Hid (zZ w.heap.size wr gd)/\Hid (zu (fun b=>b=gd\/b=go) w3 wr)) (fun i _=>m.tasks.length - (intOf i).toNat)
 case atStart=>exact ⟨0,_,rfl,Fb _,c7.out,b1.out,d4.out,a9.out,a7.out⟩
 clear c7 b1 d4 a9 a7
 case round=>
  obtain ⟨k,ps,rfl,hk,hC,hL,hW,g7,O⟩:=hrel;obtain ⟨wk,rfl⟩:∃wk:World,wk=wr:=⟨_,rfl⟩;have e0:zu (fun b=>b=gd\/b=go) w3 wk:=O.out;have Z:Hid (ps.length=m.tasks.length):=(AS.1 hL.out).2.1;by_cases j9:k<m.tasks.length
  ·have i6:(k:Int)<(m.tasks.length:Int):=by omega
   have g6:Hid (w.heap.size<=wk.heap.size):=hC.out.ext.size;have j8:k<=6:=by omega
   have k2:¬ (m.tasks=[]):=by intro h;rw [h] at ht;simp at ht
   have i7:m.tasks.length≠0:=by omega
   go_upto_region 6 with fail;clear e0;go_cut [10] (fun v wx=>∃tq:Nat,v=.int .i64 tq/\tq<m.tasks.length/\Hid (zZ w.heap.size wx gd)/\Hid (zu (fun b=>b=gd) wk wx))
   case first=>
    refine Fd (S:=(fun W=>zu (fun b=>b=gd\/b=go) w3 W)) zU (O.out.trans (zu.of_ext (X:=fun b=>b=gd\/b=go) (zb.refl wk).drew) (fun _ _ h=>h)) fun zH=>?_;refine ze 0 zH ?_;refine ze 1 zH ?_;simp only [za,EK];refine ze 4 zH ?_;refine ze 5 zH ?_;simp only [za,EK];refine ze 6 zH ?_;simp only [za,EK];refine zx 2 fun K hK=>?_;go_simp;go_at_call 68;refine (zW 3 (g7.out.ext ((zb.refl wk).drew) g6.out) (by omega) (by omega)).mono ?_;rintro e w5 ⟨x,rfl,k6,k7,z,e3⟩;go_simp;refine zal hK ((O.out.trans (zu.of_ext (X:=fun b=>b=gd\/b=go) (zb.refl wk).drew) (fun _ _ h=>h)).grown e3 (fun b M _=>.inl (Option.some.inj M).symm)) fun zH=>?_;clear hK K;try simp only [za,EK]
    have k5:IntKind.i64.wrap ((k:Int)+x)=(k:Int)+x:=by rw [Fi];omega
    obtain ⟨tq,f0,i9,e9⟩:∃tq:Nat,tq<m.tasks.length/\((k:Int)+x).tmod (m.tasks.length:Int)=(tq:Int)/\IntKind.i64.wrap (((k:Int)+x).tmod (m.tasks.length:Int))=(tq:Int):=rem_idx ht (by omega) (by omega);refine ze 3 zH ?_;refine ze 7 zH ?_;simp only [za,EK];refine ze 8 zH ?_;simp only [za,EK];refine Fs (by kernel_rfl) ?_ _;go_wp2;go_meet;exact ⟨tq,rfl,f0,z,(zu.of_ext (X:=fun b=>b=gd) (zb.refl wk).drew).grown e3 (fun b M _=>(Option.some.inj M).symm)⟩
   case rest=>
    obtain ⟨tq,rfl,e9,z,a4⟩:=hcut;obtain ⟨w5,rfl⟩:∃w5:World,w5=wc:=⟨_,rfl⟩;have d9:zu (fun b=>b=gd\/b=go) w3 w5:=O.out.trans (a4.out.wide (X':=fun b=>b=gd\/b=go) (fun _ h=>.inl h)) (fun _ _ h=>h);have o:Hid (CPL w w5 go (gd+1) ps):=hC.out.keep a4.out (fun b h1 h2=>by omega) (((zu.of_ext (X:=fun b=>w.heap.size<=b) hC.out.ext).trans a4.out (fun b _ M=>by have h1:=s.out;have h2:=E.out;show w.heap.size<=b;omega)).below (EN _) (fun _ h=>h));have a6:tq<ps.length:=by rw [Z.out];exact e9
    obtain ⟨uq,g9,h4,e5⟩:=o.out.at_ a6;have c5:ps.getD tq []=ps[tq]:=zgd a6
    have g5:=zh (laid_lens0 hL.out);obtain ⟨q,hq⟩:=zak (ps[tq]);rw [<-hq] at e5 c5;have j4:=zh c5;obtain ⟨Aq,cq,rfl,-,-⟩:=e5;have j0:(tq:Int)<(m.tasks.length:Int):=by omega
    have i0:(0:Int)<=(tq:Int):=by omega
    have D:=zh d9;clear hC O a4 c5 hq;have h8:Hid (∀W,W=w5->zu (fun b=>b=gd\/b=go) w3 W):=fun W h=>by rw [h];exact D.out
    by_cases hw:(tq:Int)=wo
    ·have hd:((tq:Int)==wo)=true:=by rw [beq_iff_eq];exact hw
     clear hw
     go_wp2_with fail
     go_roundw
     case rel=>exact ⟨k+1,ps,by go_num,by omega,o.out,hL.out,hW.out,z.out,D.out⟩
     case measure=>simp [intOf];omega
    ·have hd:((tq:Int)==wo)=false:=by rw [Fa];exact hw
     have f9:=zh hw;clear hw;by_cases Q:q=[]
     ·have e7:¬ ((0:Int)<(q.length:Int)):=by rw [Q];simp
      have e8:q.length=0:=by rw [Q];rfl
      have HP:=zh (qpath_calls (fixed:=ps) (tq:Int) w5 (HM.out.below o.out.ext) HL.out (by have h:=o.out.intss m.tasks.length (by rw [Z.out];exact EN _);exact h) (by have:=Z.out;omega) (fun x hx=>by have:=g5.out x hx;omega));have d5:=Z.out;rw [d5] at HP;clear e7 Q d5
      go_wp2_with fail
      refine HP.out.mono ?_;rintro e w6 ⟨v6,rfl,a3⟩;have b5:=zh a3.ints;have b6:Hid (zb w5 w6):=a3.ext;obtain ⟨A6,c6,rfl,-⟩:=a3.slice;have b3:=zh (o.out.more b6.out);have b0:=zh (z.out.ext b6.out o.out.ext.size);have a8:Hid (zu (fun b=>b=gd\/b=go) w3 w6):=D.out.trans (zu.of_ext (X:=fun b=>b=gd\/b=go) b6.out) (fun _ _ h=>h);obtain ⟨po,c4⟩:=zak (Br m (tq:Int) ps);rw [<-c4] at b5⊢;have g3:=zh c4;clear a3 c4 HP g9 h4
      cases po with
      | none=>
       simp only [Option.isSome_none,Option.getD_none,zaj]
       go_wp2_with fail
       go_roundw
       case rel=>exact ⟨k+1,ps,by go_num,by omega,b3.out,hL.out,hW.out,b0.out,a8.out⟩
       case measure=>simp [intOf];omega
      | some p=>
       simp only [Option.isSome_some,Ft] at b5⊢;have f7:=zh (laid_set hL.out a6 g3.out.symm);obtain ⟨uo,i3,i4,-⟩:=b3.out.at_ a6;have b2:w.heap.size<=go:=by have h1:=V.out;have h2:=s.out;have h3:=E.out;omega
       have f5:Hid (CPL w (w6.setCell ⟨go,tq,none⟩ (.slice A6 p.length c6)) go (gd+1) (ps.set tq p)):=b3.out.set tq b2 (b5.out.weaken fun b M=>by have h1:=o.out.lt;have h2:=V.out;omega)
       have g4:Hid (∀t:Nat,(t:Int)=wo->(ps.set tq p).getD t []=[]):=fun t f1=>by
        rw [DQ,if_neg (by rintro ⟨h1,-⟩;exact f9.out (by rw [h1];exact f1))];exact hW.out t f1
       have c9:Hid (zZ w.heap.size (w6.setCell ⟨go,tq,none⟩ (.slice A6 p.length c6)) gd):=b0.out.keep ((Below.refl _ w6).setCell (p:=⟨go,tq,none⟩) b2 _) (EW w6 ⟨go,tq,none⟩ _ gd (by have h2:=V.out;show gd≠go;omega));have c8:Hid (zu (fun b=>b=gd\/b=go) w3 (w6.setCell ⟨go,tq,none⟩ (.slice A6 p.length c6))):=a8.out.set go tq _ (.inr rfl)
       go_wp2_with fail
       go_roundw
       case rel=>exact ⟨k+1,ps.set tq p,by go_num,by omega,f5.out,f7.out,g4.out,c9.out,c8.out⟩
       case measure=>simp [intOf];omega
     ·have e7:(0:Int)<(q.length:Int):=by
       have:q.length≠0:=fun h=>Q (Fe h)
       omega
      have e8:0<q.length:=by omega
      clear Q
      go_wp2_with fail
      go_roundw
      case rel=>exact ⟨k+1,ps,by go_num,by omega,o.out,hL.out,hW.out,z.out,D.out⟩
      case measure=>simp [intOf];omega
  ·obtain rfl:k=m.tasks.length:=by omega
   have b4:=zh hC.out
   go_wp2_with fail
   go_ret;refine ⟨go,ps,rfl,⟨b4.out.ext,?_,?_⟩,hL.out,hW.out⟩
   ·have h1:=b4.out.lo;have h2:=s.out;have h3:=E.out;omega
   ·obtain ⟨vs,M,h5,he⟩:=b4.out.row;exact ⟨vs,M,h5,fun i x hx=>by obtain ⟨u,hu,hi⟩:=he i x hx;exact ⟨u,hu,hi.weaken fun b M=>⟨M.1,by have h2:=s.out;have h3:=E.out;omega⟩⟩⟩
end
end Go.Proofs.YthbjngbhbbkkgaaGreat
