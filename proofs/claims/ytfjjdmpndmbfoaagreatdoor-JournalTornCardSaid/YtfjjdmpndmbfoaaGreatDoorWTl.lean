import Derived.Test.YtfjjdmpndmbfoaaGreatDoorWTk
set_option linter.unusedVariables false
set_option linter.unusedSimpArgs false
set_option maxRecDepth 100000
set_option maxHeartbeats 16000000
namespace Go.Proofs.YtfjjdmpndmbfoaaGreatDoor
variable {ch l:List Int} {m:MZ} {g i k n t:Nat} {ok:Nat->Prop} {s:Rd} {f ts u vc vp:Value} {w w':World}
section
open Go.RowKit
attribute [local go_sem ↓] Go.wp_at_zero Go.wp_at_succ
theorem box9 (w:World) (a0 a1 a2 a3 a4 a5 a6 a7 a8:Value):zc w (w.alloc (.cells #[a0,a1,a2,a3,a4,a5,a6,a7,a8] 128))/\
  (∀W,zc (w.alloc (.cells #[a0,a1,a2,a3,a4,a5,a6,a7,a8] 128)) W->W.cell? ⟨w.heap.size,0,none⟩=some a0)/\(∀W,zc (w.alloc (.cells #[a0,a1,a2,a3,a4,a5,a6,a7,a8] 128)) W->W.cell? ⟨w.heap.size,1,none⟩=some a1)/\(∀W,zc (w.alloc (.cells #[a0,a1,a2,a3,a4,a5,a6,a7,a8] 128)) W->W.cell? ⟨w.heap.size,2,none⟩=some a2)/\(∀W,zc (w.alloc (.cells #[a0,a1,a2,a3,a4,a5,a6,a7,a8] 128)) W->W.cell? ⟨w.heap.size,3,none⟩=some a3)/\(∀W,zc (w.alloc (.cells #[a0,a1,a2,a3,a4,a5,a6,a7,a8] 128)) W->W.cell? ⟨w.heap.size,4,none⟩=some a4)/\(∀W,zc (w.alloc (.cells #[a0,a1,a2,a3,a4,a5,a6,a7,a8] 128)) W->W.cell? ⟨w.heap.size,5,none⟩=some a5)/\(∀W,zc (w.alloc (.cells #[a0,a1,a2,a3,a4,a5,a6,a7,a8] 128)) W->W.cell? ⟨w.heap.size,6,none⟩=some a6)/\(∀W,zc (w.alloc (.cells #[a0,a1,a2,a3,a4,a5,a6,a7,a8] 128)) W->W.cell? ⟨w.heap.size,7,none⟩=some a7)/\(∀W,zc (w.alloc (.cells #[a0,a1,a2,a3,a4,a5,a6,a7,a8] 128)) W->W.cell? ⟨w.heap.size,8,none⟩=some a8):=by
 have d:=zg.new w #[a0,a1,a2,a3,a4,a5,a6,a7,a8] 128 rfl;exact ⟨(zc.refl w).alloc _,zc.rule (d.cell (k:=0) rfl),zc.rule (d.cell (k:=1) rfl),zc.rule (d.cell (k:=2) rfl),zc.rule (d.cell (k:=3) rfl),zc.rule (d.cell (k:=4) rfl),zc.rule (d.cell (k:=5) rfl),zc.rule (d.cell (k:=6) rfl),zc.rule (d.cell (k:=7) rfl),zc.rule (d.cell (k:=8) rfl)⟩
theorem PSt.parts {w:World} {ok:Nat->Prop} {m:MZ} {f u ts vc vp:Value} {ch:List Int} (h:PSt w ok m f u ts vc vp ch):∃Af cf Au cu At ct Ac cc Ap cp,f=.slice Af m.free.length cf/\u=.slice Au m.up.length cu/\ts=.slice At m.tasks.length ct/\vc=.slice Ac ch.length cc/\vp=.slice Ap (zr m ch).length cp/\
  AX w ok (.slice Af m.free.length cf) m.free/\Bo w ok (.slice At m.tasks.length ct) m.tasks:=by
 obtain ⟨Af,cf,Au,cu,At,ct,e,hf,-,d⟩:=h.maze.parts;injection e with e;injection e with e;simp only [List.cons.injEq,and_true,true_and] at e;obtain ⟨rfl,rfl,rfl⟩:=e;obtain ⟨Ac,cc,rfl,-,-⟩:=h.chs;obtain ⟨_,⟨Ap,cp,rfl,-,-⟩,-⟩:=h.ps;exact ⟨Af,cf,Au,cu,At,ct,Ac,cc,Ap,cp,rfl,rfl,rfl,rfl,rfl,hf,d⟩
theorem pcomplete_calls (t:Int) (w:World) (h:PSt w ok m f u ts vc vp ch):
  Calls Tryz.prog 105 #[stv m f u ts vc vp t] w fun e w'=>e=.returned (.bool (decide ((m.tasks.length:Int)<=t)))/\zc w w':=by
 obtain ⟨Af,cf,Au,cu,At,ct,Ac,cc,Ap,cp,rfl,rfl,rfl,rfl,rfl,-,-⟩:=h.parts;clear h;unfold stv
 go_enter Tryz.func105,Tryz.ntmps105
 go_wp2_with fail
 obtain ⟨d,r0,r1,r2,r3,r4,r5,r6,r7,r8⟩:=box9 w (.int .i64 m.w) (.int .i64 m.h) (.int .i64 m.l) (.slice Af m.free.length cf) (.slice Au m.up.length cu) (.slice At m.tasks.length ct) (.slice Ac ch.length cc) (.slice Ap (zr m ch).length cp) (.int .i64 t);generalize w.alloc _=w1 at d r0 r1 r2 r3 r4 r5 r6 r7 r8⊢;obtain ⟨gm,o⟩:=EH w.heap.size;rw [<-o] at r0 r1 r2 r3 r4 r5 r6 r7 r8⊢;clear o;have E:zc w1 w1:=zc.refl w1;have D:=zh d;clear d
 go_wp2_with fail
 go_ret;exact ⟨rfl,D.out⟩
theorem popen_calls (t:Int) (tk:Nat) (n:Int) (w:World) (h:PSt w ok m f u ts vc vp ch) (g:zX m) (K:ch.length<=20000000000000) (M:tk<m.free.length) (h0:0<=n) (h1:n<m.n):
  Calls Tryz.prog 135 #[stv m f u ts vc vp t,.int .i64 tk,.int .i64 n] w fun e w'=>e=.returned (.bool (zm m tk n && !decide (n∈ch)))/\zc w w':=by
 have H:=zh h;obtain ⟨Af,cf,Au,cu,At,ct,Ac,cc,Ap,cp,rfl,rfl,rfl,rfl,rfl,hf,-⟩:=h.parts;obtain ⟨b,off,b',off',l,c',rfl,E,hl,U,Q,D⟩:=freeCells hf g.fn M h0 h1;have O:=zh h.chs;clear h hf g;obtain ⟨fv,G⟩:=EH (zm m tk n);rw [<-G] at D⊢;clear G;have k0:(0:Int)<=(tk:Int):=by omega
 have k1:(tk:Int)<(m.free.length:Int):=by omega
 have V:off'+n.toNat=off'+n.toNat:=rfl;unfold stv
 go_enter Tryz.func135,Tryz.ntmps135
 go_upto_region 1 with fail;obtain ⟨o,r0,r1,r2,r3,r4,r5,r6,r7,r8⟩:=box9 w (.int .i64 m.w) (.int .i64 m.h) (.int .i64 m.l) (.slice (some ⟨b,off,none⟩) m.free.length cf) (.slice Au m.up.length cu) (.slice At m.tasks.length ct) (.slice Ac ch.length cc) (.slice Ap (zr m ch).length cp) (.int .i64 t);generalize w.alloc _=w1 at o r0 r1 r2 r3 r4 r5 r6 r7 r8⊢;obtain ⟨gm,I⟩:=EH w.heap.size;rw [<-I] at r0 r1 r2 r3 r4 r5 r6 r7 r8⊢;clear I;have hx:zc w1 w1:=zc.refl w1;have d:=zh o;clear o;have q1:=zc.rule (d.out.cell E);have q2:=zc.rule (d.out.cell D);have J:=zh (O.out.below d.out);clear E D
 cases fv with
 | false=>
  go_wp2_with fail
  go_ret;exact ⟨rfl,d.out⟩
 | true=>
  go_wp2_with fail
  refine (Ay n w1 J.out K).mono ?_;rintro e w9 ⟨rfl,rfl⟩
  go_wp2_with fail
  go_ret;exact ⟨rfl,d.out⟩
theorem phead_calls (t:Int) (tk:Nat) (w:World) (h:PSt w ok m f u ts vc vp ch) (hl:Lens m) (hc:BS m=0) (hi:zG m ch) (O:tk<m.tasks.length):
  Calls Tryz.prog 107 #[stv m f u ts vc vp t,.int .i64 tk] w fun e w'=>∃v',e=.returned v'/\zc w w'/\zl w' (fun _=>True) v' (headP m ch tk):=by
 have H:=zh h;have a1:=CG hc hi;have G:=zh (zX.of hc);have HL:=zh hl;have e8:=zh G.out.fl;obtain ⟨_,g4,_⟩:=h.ps;have b4:=‹∀(i:Nat) x,(zr m ch)[i]?=some x->_›;obtain ⟨Af,cf,Au,cu,At,ct,Ac,cc,Ap,cp,rfl,rfl,rfl,rfl,rfl,hf,c8⟩:=h.parts;obtain ⟨_,_,e,-,c6⟩:=g4;injection e with e1 e2 e3;subst e1 e3;have f4:=zh c8;have a9:=zh c6;have e7:=zh b4;obtain ⟨PL,hP⟩:=EH ((zr m ch).length);rw [<-hP] at a9 H;clear h hf c8 c6 b4 hl hc;unfold stv;rw [<-hP];by_cases g1:tk<PL
 ·obtain ⟨h4,g8,-,b9⟩:=a1;have M:tk<(zr m ch).length:=by omega
  obtain ⟨bp,offp,up,rfl,-,a2,c9⟩:=Bt a9.out e7.out g1 M;obtain ⟨V,a0⟩:=b9 _ (DF M)
  have E:Hid (headP m ch tk=((zr m ch)[tk]).getLast?.toList):=by
   show _=_;unfold headP;rw [if_pos M,DD,DC M];rfl
  obtain ⟨P,b2⟩:=EH ((zr m ch)[tk]);rw [<-b2] at c9 V a0 E;clear b2 b9 hi;obtain ⟨q,x,rfl⟩:∃q x,P=q++[x]:=⟨P.dropLast,P.getLast V,(List.dropLast_concat_getLast V).symm⟩;obtain ⟨Aq,cq,rfl,a3,c7⟩:=c9;obtain ⟨bq,offq,e,-,U⟩:=AI c7 (k:=q.length) (by simp) (by simp);have U:w.cell? ⟨bq,offq+q.length,none⟩=some (.int .i64 x):=by rw [U];simp
  subst e;obtain ⟨N,hN⟩:=EH ((q++[x]).length);obtain ⟨n,hn⟩:=EH q.length;have b1:N=n+1:=by rw [hN,hn];simp
  rw [<-hN] at a2 a0 a3;rw [<-hn] at U
  have e9:Hid (headP m ch tk=[x]):=by
   show _=_;rw [E.out,List.getLast?_append];rfl
  clear c7 hN hn E V hP;have k0:(0:Int)<=(tk:Int):=by omega
  have k1:(tk:Int)<(PL:Int):=by omega
  have h9:IntKind.i64.wrap ((N:Int) - 1)=(n:Int):=by rw [DZ];omega
  have h5:(0:Int)<=(n:Int):=by omega
  have h6:(n:Int)<=(N:Int):=by omega
  have h7:N - n=1:=by omega
  have h8:(N:Int)<=(cq:Int):=by omega
  have HQ:=zh b1;have e6:=zh a3
  go_enter Tryz.func107,Tryz.ntmps107
  go_upto_region 1 with fail;obtain ⟨D,r0,r1,r2,r3,r4,r5,r6,r7,r8⟩:=box9 w (.int .i64 m.w) (.int .i64 m.h) (.int .i64 m.l) (.slice Af m.free.length cf) (.slice Au m.up.length cu) (.slice At m.tasks.length ct) (.slice Ac ch.length cc) (.slice (some ⟨bp,offp,none⟩) PL cp) (.int .i64 t);generalize w.alloc _=w1 at D r0 r1 r2 r3 r4 r5 r6 r7 r8⊢;obtain ⟨gm,K⟩:=EH w.heap.size;rw [<-K] at r0 r1 r2 r3 r4 r5 r6 r7 r8⊢;clear K;have hx:zc w1 w1:=zc.refl w1;have o:=zh D;clear D;have qp:=zc.rule (o.out.cell a2);clear a2 b1 a3 M
  go_wp2_with fail
  go_ret;refine ⟨_,rfl,o.out,?_⟩;rw [e9.out];refine ⟨_,_,rfl,by have:=HQ.out;have:=e6.out;show 1<=_;omega,rfl,fun _=>⟨bq,offq+n,rfl,trivial,fun j u hu=>?_⟩⟩
  match j,hu with
  | 0,hu=>
   have:u=.int .i64 x:=by simpa using hu.symm
   rw [this];exact o.out.cell U
 ·obtain ⟨bt,offt,sn,u1,u2,rfl,-,-,b3,-,a4,-⟩:=Cj f4.out O;have a6:=fun x hx=>G.out.tn _ (DF O) x (.inl hx)
  have b5:=(HL.out.tl _ (DF O)).1
  have E:Hid (headP m ch tk=((m.tasks[tk]).1).filter fun n=>zm m tk n && !decide (n∈ch)):=by
   show _=_;unfold headP;rw [if_neg (by omega),DD,DC O];rfl
  obtain ⟨L,hL⟩:=EH ((m.tasks[tk]).1);rw [<-hL] at a4 a6 b5 E;clear hL;have f3:=zh a6;have e5:Hid (ch.length<=300):=a1.2.2.1;have f2:Hid (tk<m.free.length):=by show _<_;rw [e8.out];exact O
  have k0:(0:Int)<=(tk:Int):=by omega
  have k1:(tk:Int)<(m.tasks.length:Int):=by omega
  have k2:¬ ((tk:Int)<(PL:Int)):=by omega
  clear a6 a1 hi hP;obtain ⟨p,a5⟩:∃p:Int->Bool,p=fun n=>zm m tk n && !decide (n∈ch):=⟨_,rfl⟩
  rw [<-a5] at E;have f1:=zh a5;clear a5
  go_enter Tryz.func107,Tryz.ntmps107
  go_upto_region 1 with fail;obtain ⟨D,r0,r1,r2,r3,r4,r5,r6,r7,r8⟩:=box9 w (.int .i64 m.w) (.int .i64 m.h) (.int .i64 m.l) (.slice Af m.free.length cf) (.slice Au m.up.length cu) (.slice (some ⟨bt,offt,none⟩) m.tasks.length ct) (.slice Ac ch.length cc) (.slice Ap PL cp) (.int .i64 t);generalize w.alloc _=w1 at D r0 r1 r2 r3 r4 r5 r6 r7 r8⊢;obtain ⟨gm,K⟩:=EH w.heap.size;rw [<-K] at r0 r1 r2 r3 r4 r5 r6 r7 r8⊢;clear K;have hx:zc w1 w1:=zc.refl w1;have o:=zh D;clear D;have qt:=zc.rule (o.out.cell b3);have f0:=zh (a4.below o.out);obtain ⟨Al,cl,rfl,h3,-⟩:=a4;clear b3
  go_wp2_with fail
  have a8:=zh (Mk.nil w1);go_loopw [4,31] (fun v i wr=>∃k:Nat,k<=L.length/\i=.int .i64 (k:Nat)/\Hid (Mk w1 wr v ((L.take k).filter p))) (fun _ i _=>L.length - (intOf i).toNat)
  case atStart=>exact ⟨0,DS _,rfl,a8⟩
  clear a8
  case round=>
   obtain ⟨k,hk,rfl,hM⟩:=hrel;have hx:zc w1 wr:=hM.out.ext;obtain ⟨wk,rfl⟩:∃wk:World,wk=wr:=⟨_,rfl⟩;by_cases I:k<L.length
   ·obtain ⟨A',c',e,-,c0⟩:=f0.out;injection e with e1 e2 e3;subst e1 e3;obtain ⟨bl,offl,rfl,-,d⟩:=AI c0 I I;clear c0;obtain ⟨d4,d5⟩:=f3.out _ (DF I);have Q:=DL I;obtain ⟨x,d7⟩:=EH (L[k]);rw [<-d7] at d d4 d5 Q;clear d7;have HT:=zh Q;have d:wk.cell? ⟨bl,offl+k,none⟩=some (.int .i64 x):=hx.cell d;clear Q;have kk0:(0:Int)<=(k:Int):=by omega
    have kk1:(k:Int)<(L.length:Int):=by omega
    go_wp2_with fail
    refine (popen_calls t tk x wk ((H.out.more o.out).more hx) G.out (by have:=e5.out;omega) f2.out d4 d5).mono ?_;rintro e w9 ⟨rfl,b0⟩;have J:=zh (hM.out.more b0);have d6:=J.out.ext;have hp:p x=(zm m tk x && !decide (x∈ch)):=by rw [f1.out]
    rw [<-hp];clear hp d b0;have g0:((L.take k).filter p).length<=L.length:=DG (Eg _ _) (by simp;omega)
    cases hb:p x with
    | true=>
     have HS:Hid ((L.take (k+1)).filter p=(L.take k).filter p++[x]):=by show _=_;rw [HT.out,List.filter_append,List.filter_cons_of_pos hb];rfl
     clear hb;obtain ⟨l,b7⟩:=EH ((L.take k).filter p);rw [<-b7] at J g0 HS;clear b7
     go_wp2_with (at_builtin;refine Dj rfl _ _ rfl _ l x w1.heap.size w9.heap.size 1 _ rfl rfl (J.out.own.alloc _) ?d1 ?d2 ?d3 ?_)
     (try case d1=>exact zQ _ _ _ (by simp))
     case d2=>(first | (simp;done) | (have:=d6.size;simp;omega) | (have:=d6.size;omega))
     case d3=>omega
     intro v' wb b8 b6 f7;have f5:=zh ((J.out.alloc _).app b8 b6);clear b8 b6 f7;go_wp2;go_roundw
     case rel=>exact ⟨k+1,by omega,by go_num,by rw [HS.out];exact f5⟩
     case measure=>simp [intOf];omega
    | false=>
     have HS:Hid ((L.take (k+1)).filter p=(L.take k).filter p):=by show _=_;rw [HT.out,List.filter_append,List.filter_cons_of_neg (by rw [hb];simp),List.filter_nil,List.append_nil]
     clear hb;go_wp2;go_roundw
     case rel=>exact ⟨k+1,by omega,by go_num,by rw [HS.out];exact J⟩
     case measure=>simp [intOf];omega
   ·obtain rfl:k=L.length:=by omega
    go_wp2;go_ret;refine ⟨_,rfl,o.out.trans hM.out.ext,?_⟩;rw [E.out];have:=hM.out;rw [DP] at this;exact this.ints.weaken (fun _ _=>trivial)
end
section
open Go.RowKit
attribute [local go_sem ↓] Go.wp_at_zero Go.wp_at_succ
attribute [local go_sem] Oper.semAt_some
theorem PSt.weaken {w:World} {ok ok':Nat->Prop} {m:MZ} {f u ts vc vp:Value} {ch:List Int} (h:PSt w ok m f u ts vc vp ch) (d:∀b,ok b->ok' b):PSt w ok' m f u ts vc vp ch:=⟨h.maze.weaken d,h.chs.weaken d,h.ps.weaken d⟩
theorem PSt.keep {w w':World} {ok:Nat->Prop} {m:MZ} {f u ts vc vp:Value} {ch:List Int} (h:PSt w ok m f u ts vc vp ch) (d:zZ ok w w'):PSt w' ok m f u ts vc vp ch:=⟨h.maze.keep d,h.chs.keep d,h.ps.keep d⟩
theorem pnext_calls (t n:Int) (w:World) (h:PSt w ok m f u ts vc vp ch) (hl:Lens m) (hc:BS m=0) (hi:zG m (ch++[n])) (g0:ch.length<=300):
  Calls Tryz.prog 110 #[stv m f u ts vc vp t,.int .i64 n] w fun e w'=>∃vc' vp',e=.returned (stv m f u ts vc' vp' (AB m (ch++[n])))/\zc w w'/\PSt w' (fun b=>ok b\/w.heap.size<=b) m f u ts vc' vp' (ch++[n]):=by
 have H:=zh h;have HL:=zh hl;have HC:=zh hc;have HI:=zh hi;obtain ⟨Af,cf,Au,cu,At,ct,Ac,cc,Ap,cp,rfl,rfl,rfl,rfl,rfl,-,-⟩:=h.parts;obtain ⟨PL,hP⟩:=EH ((zr m ch).length);rw [<-hP] at H⊢;clear h hl hc hi hP;unfold stv
 go_enter Tryz.func110,Tryz.ntmps110
 go_upto_region 1 with fail;have V:=zg.new w #[.int .i64 m.w,.int .i64 m.h,.int .i64 m.l,.slice Af m.free.length cf,.slice Au m.up.length cu,.slice At m.tasks.length ct,.slice Ac ch.length cc,.slice Ap PL cp,.int .i64 t] 128 (g:=w.heap.size) rfl;have b3:zc w (w.alloc (.cells #[.int .i64 m.w,.int .i64 m.h,.int .i64 m.l,.slice Af m.free.length cf,.slice Au m.up.length cu,.slice At m.tasks.length ct,.slice Ac ch.length cc,.slice Ap PL cp,.int .i64 t] 128)):=(zc.refl w).alloc _;have b9:(w.alloc (.cells #[.int .i64 m.w,.int .i64 m.h,.int .i64 m.l,.slice Af m.free.length cf,.slice Au m.up.length cu,.slice At m.tasks.length ct,.slice Ac ch.length cc,.slice Ap PL cp,.int .i64 t] 128)).heap.size=w.heap.size+1:=by simp
 generalize w.alloc _=w1 at V b3 b9⊢;have d:=zg.new w1 #[.int .i64 0,.int .i64 0,.int .i64 0,.slice none 0 0,.slice none 0 0,.slice none 0 0,.slice none 0 0,.slice none 0 0,.int .i64 0] 128 (g:=w1.heap.size) rfl;have a5:zc w1 (w1.alloc (.cells #[.int .i64 0,.int .i64 0,.int .i64 0,.slice none 0 0,.slice none 0 0,.slice none 0 0,.slice none 0 0,.slice none 0 0,.int .i64 0] 128)):=(zc.refl w1).alloc _;generalize w1.alloc _=w2 at d a5⊢;rw [b9] at d;obtain ⟨gm,b4⟩:=EH w.heap.size;rw [<-b4] at V d⊢;have U:Hid (gm=w.heap.size):=b4;have HZ:=zh d;have J:zg w2 gm 128 _:=V.ext a5;have rul:∀{j:Nat} {v:Value},w2.cell? ⟨gm,j,none⟩=some v->∀W,Below (gm+1) w2 W->W.cell? ⟨gm,j,none⟩=some v:=fun h W hW=>(hW.cell (p:=⟨gm,_,none⟩) (Nat.lt_succ_self gm)).trans h
 have r0:=rul (J.cell (k:=0) rfl);have r1:=rul (J.cell (k:=1) rfl);have r2:=rul (J.cell (k:=2) rfl);have r3:=rul (J.cell (k:=3) rfl);have r4:=rul (J.cell (k:=4) rfl);have r5:=rul (J.cell (k:=5) rfl);have r6:=rul (J.cell (k:=6) rfl);have e3:=zh (b3.trans a5);have e2:Hid (gm+1<w2.heap.size):=za d;clear V b3 b9 d a5 J rul b4;refine DU (S:=(fun W=>Below (gm+1) w2 W)) AC ((Below.refl (gm+1) w2).drew) fun zH=>?_;have G:Below (gm+1) w2 w2.drew:=(Below.refl (gm+1) w2).drew;have HD:Hid (zc w2 w2.drew):=(zc.refl w2).drew;generalize w2.drew=wd at zH G HD⊢;have I:Hid (zc w wd):=e3.out.trans HD.out;have E:Hid (gm+1<wd.heap.size):=Ef e2.out HD.out.size;refine zA 0 zH ?_;refine zA 1 zH ?_;simp only [zd,DB];refine zA 2 zH ?_;refine zA 3 zH ?_;simp only [zd,DB];refine zA 5 zH ?_;simp only [zd,DB];refine rdA [4,6] ?_;refine Ee rfl (fun K D=>?_) ?_
 ·go_simp;go_at_call 39;refine (Bj wd ((H.out.chs.below I.out).below (zc.refl wd)) (by omega)).mono ?_;rintro e w1 ⟨v1,rfl,b2⟩;have b0:zc wd w1:=b2.ext;have c6:Hid (zY w1 wd.heap.size v1 ch):=b2.own.mono ((zc.refl wd)).size;obtain ⟨A1,n1,c1,rfl⟩:=Dd c6.out;clear b2;refine D.out _ _ (Below.trans G (Below.mono b0 (by have:=E.out;omega))) fun zH=>?_;clear D K;try simp only [zd,DB]
  refine Ae 6 fun K D=>?_;go_simp;have hA2:zc w1 (w1.alloc (.cells #[.int .i64 n] 3)):=(zc.refl w1).alloc _;have a7:Hid ((w1.alloc (.cells #[.int .i64 n] 3)).cell? ⟨w1.heap.size,0,none⟩=some (.int .i64 n)):=zQ _ _ _ rfl;generalize w1.heap.size=g2 at a7⊢;generalize w1.alloc _=w2 at hA2 a7⊢;have c8:=zh (c6.out.ext hA2);have a0:zc wd w2:=Below.trans b0 (hA2.mono (b0).size);refine D.out _ _ (Below.trans G (Below.mono a0 (by have:=E.out;omega))) fun zH=>?_;clear D K;try simp only [zd,DB]
  refine Ae 7 fun K D=>?_;refine CU (ok:=fun _=>True) (by rfl) _ _ _ (by rfl) wd.heap.size ch [n] _ _ (by rfl) (by rfl) c8.out (ints_one a7.out) (a0).size (by simp;omega) ?_;intro v3 w3 b7 d7 d5;have M:zc wd w3:=AU a0 d7 (a0).size (fun k hk=>CT c8.out hk);have e0:=zh b7;obtain ⟨A3,n3,cc3,rfl⟩:=Dd b7;clear b7 d7 d5;refine D.out _ _ (Below.trans G (Below.mono M (by have:=E.out;omega))) fun zH=>?_;clear D K;try simp only [zd,DB]
  refine Ae 8 fun K D=>?_;go_simp;go_at_call 66;refine (of_calls (ok:=fun b=>(ok b/\b<w.heap.size)\/wd.heap.size<=b) w3 (((H.out.maze.bound.below I.out).below M).weaken (fun b hb=>.inl hb)) HL.out HC.out ((Mk.ints ⟨e0.out,M⟩).weaken (fun b hb=>.inr hb)) HI.out).mono ?_;rintro e w4 ⟨vp4,rfl,e4,e6⟩;have a3:zc wd w4:=Below.trans M (e4.mono (M).size);have c9:Hid (PSt w4 (fun b=>(ok b\/w.heap.size<=b)/\b≠gm+1) m (.slice Af m.free.length cf) (.slice Au m.up.length cu) (.slice At m.tasks.length ct) (.slice A3 n3 cc3) vp4 (ch++[n])):=e6.weaken (fun b hb=>by have h1:=E.out;have h2:=U.out;have h3:=I.out.size;have h4:=(M).size;rcases hb with (hb | hb) | hb;exact ⟨.inl hb.1,by omega⟩;exact ⟨.inr (by omega),by omega⟩;exact ⟨.inr (by omega),by omega⟩);obtain ⟨_,_,_,_,_,_,_,_,Ap4,cp4,-,-,-,-,rfl,-,-⟩:=c9.out.parts;unfold stv;refine D.out _ _ (Below.trans G (Below.mono a3 (by have:=E.out;omega))) fun zH=>?_;clear D K;try simp only [zd,DB]
  refine Ae 9 fun K D=>?_;have d:zg w4 (gm+1) 128 _:=(HZ.out.ext HD.out).ext a3;have z0:=d.cell (k:=0) rfl;have z1:=d.cell (k:=1) rfl;have z2:=d.cell (k:=2) rfl;have z3:=d.cell (k:=3) rfl;have z4:=d.cell (k:=4) rfl;have z5:=d.cell (k:=5) rfl;have z6:=d.cell (k:=6) rfl;have z7:=d.cell (k:=7) rfl;have z8:=d.cell (k:=8) rfl;have hfz:∀j,w4.frozen? ⟨gm+1,j,none⟩=false:=fun j=>d.frozen j
  have a6:=zh d;clear d;go_simp;refine D.out _ _ (Below.trans (Below.trans G (Below.mono a3 (by have:=E.out;omega))) (CA (gm+1) [.int .i64 m.w,.int .i64 m.h,.int .i64 m.l,.slice Af m.free.length cf,.slice Au m.up.length cu,.slice At m.tasks.length ct,.slice A3 n3 cc3,.slice Ap4 (zr m (ch++[n])).length cp4,.int .i64 (AB m (ch++[n]))] 0 w4)) fun zH=>?_;clear D K;try simp only [zd,DB]
  refine Eh (by kernel_rfl) ?_ _;go_wp2;refine case_fin9 (P:=fun W=>bodyPost Tryz.prog Tryz.f110 _ Exit.ret _ W) (g2:=gm+1) ?_ a6.out;intro WZ o b1 b5;have y0:=o.cell (k:=0) rfl;have y1:=o.cell (k:=1) rfl;have y2:=o.cell (k:=2) rfl;have y3:=o.cell (k:=3) rfl;have y4:=o.cell (k:=4) rfl;have y5:=o.cell (k:=5) rfl;have y6:=o.cell (k:=6) rfl;have y7:=o.cell (k:=7) rfl;have y8:=o.cell (k:=8) rfl;refine Ev (v:=stv m (.slice Af m.free.length cf) (.slice Au m.up.length cu) (.slice At m.tasks.length ct) (.slice A3 n3 cc3) (.slice Ap4 (zr m (ch++[n])).length cp4) (AB m (ch++[n]))) (by simp [results,Tryz.results110,go_sem,y0,y1,y2,y3,y4,y5,y6,y7,y8,stv]) rfl ⟨_,_,rfl,?_,?_⟩
  ·exact Below.trans (I.out.trans (Below.mono a3 (DE _))) (b1.mono (by have:=U.out;omega))
  ·exact (c9.out.keep (fun b hb b6=>b5 b b6 hb.2)).weaken (fun b hb=>hb.1)
 refine Ee rfl (fun K D=>?_) .nil;go_simp;have hA6:zc wd (wd.alloc (.cells #[.int .i64 n] 3)):=(zc.refl wd).alloc _;have a8:Hid ((wd.alloc (.cells #[.int .i64 n] 3)).cell? ⟨wd.heap.size,0,none⟩=some (.int .i64 n)):=zQ _ _ _ rfl;generalize wd.heap.size=g6 at a8⊢;generalize wd.alloc _=w6 at hA6 a8⊢;have Q:zc wd w6:=Below.trans (zc.refl wd) (hA6.mono ((zc.refl wd)).size);refine D.out _ _ (Below.trans G (Below.mono Q (by have:=E.out;omega))) fun zH=>?_;clear D K;try simp only [zd,DB]
 refine Ae 4 fun K D=>?_;go_simp;go_at_call 39;refine (Bj w6 ((H.out.chs.below I.out).below Q) (by omega)).mono ?_;rintro e w7 ⟨v7,rfl,a2⟩;have a1:zc wd w7:=Below.trans Q (a2.ext.mono (Q).size);have a9:Hid (zY w7 wd.heap.size v7 ch):=a2.own.mono (Q).size;have d9:Hid (w7.cell? ⟨g6,0,none⟩=some (.int .i64 n)):=zc.cell a8.out a2.ext;obtain ⟨A7,n7,c7,rfl⟩:=Dd a9.out;clear a2;refine D.out _ _ (Below.trans G (Below.mono a1 (by have:=E.out;omega))) fun zH=>?_;clear D K;try simp only [zd,DB]
 refine Ae 7 fun K D=>?_;refine CU (ok:=fun _=>True) (by rfl) _ _ _ (by rfl) wd.heap.size ch [n] _ _ (by rfl) (by rfl) a9.out (ints_one d9.out) (a1).size (by simp;omega) ?_;intro v8 w8 b8 d8 d6;have O:zc wd w8:=AU a1 d8 (a1).size (fun k hk=>CT a9.out hk);have e1:=zh b8;obtain ⟨A8,n8,cc8,rfl⟩:=Dd b8;clear b8 d8 d6;refine D.out _ _ (Below.trans G (Below.mono O (by have:=E.out;omega))) fun zH=>?_;clear D K;try simp only [zd,DB]
 refine Ae 8 fun K D=>?_;go_simp;go_at_call 66;refine (of_calls (ok:=fun b=>(ok b/\b<w.heap.size)\/wd.heap.size<=b) w8 (((H.out.maze.bound.below I.out).below O).weaken (fun b hb=>.inl hb)) HL.out HC.out ((Mk.ints ⟨e1.out,O⟩).weaken (fun b hb=>.inr hb)) HI.out).mono ?_;rintro e w9 ⟨vp9,rfl,e5,e7⟩;have a4:zc wd w9:=Below.trans O (e5.mono (O).size);have d4:Hid (PSt w9 (fun b=>(ok b\/w.heap.size<=b)/\b≠gm+1) m (.slice Af m.free.length cf) (.slice Au m.up.length cu) (.slice At m.tasks.length ct) (.slice A8 n8 cc8) vp9 (ch++[n])):=e7.weaken (fun b hb=>by have h1:=E.out;have h2:=U.out;have h3:=I.out.size;have h4:=(O).size;rcases hb with (hb | hb) | hb;exact ⟨.inl hb.1,by omega⟩;exact ⟨.inr (by omega),by omega⟩;exact ⟨.inr (by omega),by omega⟩);obtain ⟨_,_,_,_,_,_,_,_,Ap9,cp9,-,-,-,-,rfl,-,-⟩:=d4.out.parts;unfold stv;refine D.out _ _ (Below.trans G (Below.mono a4 (by have:=E.out;omega))) fun zH=>?_;clear D K;try simp only [zd,DB]
 refine Ae 9 fun K D=>?_;have d:zg w9 (gm+1) 128 _:=(HZ.out.ext HD.out).ext a4;have z0:=d.cell (k:=0) rfl;have z1:=d.cell (k:=1) rfl;have z2:=d.cell (k:=2) rfl;have z3:=d.cell (k:=3) rfl;have z4:=d.cell (k:=4) rfl;have z5:=d.cell (k:=5) rfl;have z6:=d.cell (k:=6) rfl;have z7:=d.cell (k:=7) rfl;have z8:=d.cell (k:=8) rfl;have hfz:∀j,w9.frozen? ⟨gm+1,j,none⟩=false:=fun j=>d.frozen j
 have a6:=zh d;clear d;go_simp;refine D.out _ _ (Below.trans (Below.trans G (Below.mono a4 (by have:=E.out;omega))) (CA (gm+1) [.int .i64 m.w,.int .i64 m.h,.int .i64 m.l,.slice Af m.free.length cf,.slice Au m.up.length cu,.slice At m.tasks.length ct,.slice A8 n8 cc8,.slice Ap9 (zr m (ch++[n])).length cp9,.int .i64 (AB m (ch++[n]))] 0 w9)) fun zH=>?_;clear D K;try simp only [zd,DB]
 refine Eh (by kernel_rfl) ?_ _;go_wp2;refine case_fin9 (P:=fun W=>bodyPost Tryz.prog Tryz.f110 _ Exit.ret _ W) (g2:=gm+1) ?_ a6.out;intro WZ o b1 b5;have y0:=o.cell (k:=0) rfl;have y1:=o.cell (k:=1) rfl;have y2:=o.cell (k:=2) rfl;have y3:=o.cell (k:=3) rfl;have y4:=o.cell (k:=4) rfl;have y5:=o.cell (k:=5) rfl;have y6:=o.cell (k:=6) rfl;have y7:=o.cell (k:=7) rfl;have y8:=o.cell (k:=8) rfl;refine Ev (v:=stv m (.slice Af m.free.length cf) (.slice Au m.up.length cu) (.slice At m.tasks.length ct) (.slice A8 n8 cc8) (.slice Ap9 (zr m (ch++[n])).length cp9) (AB m (ch++[n]))) (by simp [results,Tryz.results110,go_sem,y0,y1,y2,y3,y4,y5,y6,y7,y8,stv]) rfl ⟨_,_,rfl,?_,?_⟩
 ·exact Below.trans (I.out.trans (Below.mono a4 (DE _))) (b1.mono (by have:=U.out;omega))
 ·exact (d4.out.keep (fun b hb b6=>b5 b b6 hb.2)).weaken (fun b hb=>hb.1)
end
section
open Go.RowKit
attribute [local go_sem ↓] Go.wp_at_zero Go.wp_at_succ
theorem Tryz.infoProof:(Tryz.prog.info? 42).map (fun i=>(i.zero,i.size,i.bytes))=some (some (.agg #[.int .i64 0,.slice none 0 0,.slice none 0 0]),3,56):=by kernel_rfl
theorem eProof:ElemI 40 42 (.agg #[.int .i64 0,.slice none 0 0,.slice none 0 0]) 3 56:=⟨Tryz.underlying40,Tryz.infoProof,rfl,by decide⟩
inductive Ck (w:World) (ok:Nat->Prop):Value->PT->Prop
 | mk {t:Int} {side:List Int} {kids:List PT} {vs vk:Value} {cs:List Value} (hs:zl w ok vs side) (hk:Bc w ok 3 vk kids.length cs)
  (he:∀(i:Nat) (hi:i<kids.length),Ck w ok (.agg #[cs.getD (i*3) undef,cs.getD (i*3+1) undef,cs.getD (i*3+2) undef]) kids[i]):Ck w ok (.agg #[.int .i64 t,vs,vk]) (.node t side kids)
theorem Ck.keepW {ok':Nat->Prop} {v:Value} {p:PT} (h:Ck w ok v p) (d:zZ ok w w') (o:∀b,ok b->ok' b):Ck w' ok' v p:=by
 induction h with
 | mk h1 D _ ih=>exact .mk ((h1.keep d).weaken o) ((D.keep d).weaken o) ih
theorem Ck.ext {v:Value} {p:PT} (h:Ck w ok v p) (d:zc w w'):Ck w' ok v p:=h.keepW (zZ.of_below d) (fun _ h=>h)
theorem Ck.zero (w:World) (ok:Nat->Prop):Ck w ok (.agg #[.int .i64 0,.slice none 0 0,.slice none 0 0]) PT.zero:=
 .mk (cs:=[]) (zl.nil _ _) ⟨none,0,rfl,DE _,AD.nil _ _ _ _⟩ (fun i d=>absurd d (by simp))
theorem Ck.form {v:Value} {p:PT} (h:Ck w ok v p):∃As cs Ak ck,v=.agg #[.int .i64 p.task,.slice As p.side.length cs,.slice Ak p.kids.length ck]/\zl w ok (.slice As p.side.length cs) p.side:=by
 cases h with
 | mk h1 o _=>
  have d:=h1;obtain ⟨As,cs,rfl,-,-⟩:=h1;obtain ⟨Ak,ck,rfl,-,-⟩:=o;exact ⟨As,cs,Ak,ck,rfl,d⟩
theorem prove1_calls {gs gt:Nat} {At:Option Addr} {ct tk:Nat} (x:Int) (w:World) (M:w.cell? ⟨gs,5,none⟩=some (.slice At m.tasks.length ct)) (ht:w.cell? ⟨gt,0,none⟩=some (.int .i64 tk)) (D:Bo w ok (.slice At m.tasks.length ct) m.tasks) (G:Lens m) (d:tk<m.tasks.length):
  Calls Tryz.prog 108 #[.int .i64 x,.pointer (some ⟨gs,0,none⟩),.pointer (some ⟨gt,0,none⟩)] w fun e w'=>e=.returned (.bool (decide (x∈(m.tasks.getD tk ([],[])).2)))/\w=w':=by
 obtain ⟨bt,offt,sn,u1,u2,rfl,-,-,-,J,-,o⟩:=Cj D d;have K:=(G.tl _ (DF d)).2;have E:(m.tasks.getD tk ([],[])).2=(m.tasks[tk]).2:=by rw [zgd d]
 rw [E];have I:=zh o;obtain ⟨Au,cu,rfl,-,-⟩:=o;have k0:(0:Int)<=(tk:Int):=by omega
 have k1:(tk:Int)<(m.tasks.length:Int):=by omega
 clear G D E
 go_enter Tryz.func108,Tryz.ntmps108
 go_wp2_with fail
 refine (Ay x w I.out (by omega)).mono ?_;rintro e w9 ⟨rfl,rfl⟩
 go_wp2_with fail
 go_ret;exact ⟨rfl,rfl⟩
theorem box3 (w:World) (a0 a1 a2:Value):zc w (w.alloc (.cells #[a0,a1,a2] 42))/\
  (∀W,zc (w.alloc (.cells #[a0,a1,a2] 42)) W->W.cell? ⟨w.heap.size,0,none⟩=some a0)/\(∀W,zc (w.alloc (.cells #[a0,a1,a2] 42)) W->W.cell? ⟨w.heap.size,1,none⟩=some a1)/\(∀W,zc (w.alloc (.cells #[a0,a1,a2] 42)) W->W.cell? ⟨w.heap.size,2,none⟩=some a2):=by
 have d:=zg.new w #[a0,a1,a2] 42 rfl;exact ⟨(zc.refl w).alloc _,zc.rule (d.cell (k:=0) rfl),zc.rule (d.cell (k:=1) rfl),zc.rule (d.cell (k:=2) rfl)⟩
end
section
open Go.RowKit
attribute [local go_sem ↓] Go.wp_at_zero Go.wp_at_succ
attribute [local go_sem] Oper.semAt_some
mutual
def PT.Lens:PT->Prop
 | .node _ s ks=>s.length<=20000000000000/\ks.length<=20000000000000/\PT.LensL ks
def PT.LensL:List PT->Prop
 | []=>True
 | k :: ks=>k.Lens/\PT.LensL ks
end
theorem lensL_mem:∀{ks:List PT},PT.LensL ks->∀k∈ks,k.Lens
 | [],_,k,hk=>by cases hk
 | a :: ks,h,k,hk=>by
  unfold PT.LensL at h;rcases Er.1 hk with rfl | hk
  ·exact h.1
  ·exact lensL_mem h.2 k hk
theorem size_mem:∀{ks:List PT},∀k∈ks,k.size<=PT.sizeL ks
 | [],k,hk=>by cases hk
 | a :: ks,k,hk=>by
  unfold PT.sizeL;rcases Er.1 hk with rfl | hk
  ·omega
  ·have:=size_mem k hk;omega
theorem kidsAt {A:Option Addr} {cs:List Value} (h:AD w ok 3 A n cs) (E:k<n):∃b off,A=some ⟨b,off,none⟩/\w.cell? ⟨b,off+k*3,none⟩=some (cs.getD (k*3) undef)/\w.cell? ⟨b,off+k*3+1,none⟩=some (cs.getD (k*3+1) undef)/\w.cell? ⟨b,off+k*3+2,none⟩=some (cs.getD (k*3+2) undef):=by
 obtain ⟨G,d⟩:=h;obtain ⟨b,off,rfl,-,d⟩:=d (by omega);have o:∀j,j<cs.length->cs[j]?=some (cs.getD j undef):=fun j D=>by rw [DC D,DD,DC D];rfl
 exact ⟨b,off,rfl,d _ _ (o _ (by omega)),by rw [Nat.add_assoc];exact d _ _ (o _ (by omega)),by rw [Nat.add_assoc];exact d _ _ (o _ (by omega))⟩
end
section
open Go.RowKit
theorem find_at {p:Nat->Bool} {c:Nat} (E:i<n) (hp:p (c+i)=true) (o:∀j,j<i->p (c+j)=false):((List.range n).map (c+·)).find? p=some (c+i):=by
 have h:List.range n=List.range i++([i]++(List.range (n - i - 1)).map (i+1+·)):=by
  have h1:n=(i+1)+(n - i - 1):=by omega
  conv=>lhs;rw [h1,List.range_add,List.range_succ,List.append_assoc]
 rw [h,Et,List.find?_append]
 have h0:((List.range i).map (c+·)).find? p=none:=by
  rw [List.find?_eq_none];intro x D;obtain ⟨j,d,rfl⟩:=EA.1 D;rw [o j (EB.1 d)];simp
 rw [h0];simp [hp]
theorem find_no {p:Nat->Bool} {c:Nat} (o:∀j,j<n->p (c+j)=false):((List.range n).map (c+·)).find? p=none:=by
 rw [List.find?_eq_none];intro x D;obtain ⟨j,d,rfl⟩:=EA.1 D;rw [o j (EB.1 d)];simp
theorem cutT_at (h0:AB m ch<=t) (h1:t<m.tasks.length) (hp:offB m ch t=true) (d:∀j,AB m ch<=j->j<t->offB m ch j=false):cutT m ch=some t:=by
 unfold cutT;have:=find_at (p:=offB m ch) (c:=AB m ch) (n:=m.tasks.length - AB m ch) (i:=t - AB m ch) (by omega) (by rw [show AB m ch+(t - AB m ch)=t from by omega];exact hp) (fun j o=>d _ (by omega) (by omega));rw [this,show AB m ch+(t - AB m ch)=t from by omega]
theorem cutT_no (d:∀j,AB m ch<=j->j<m.tasks.length->offB m ch j=false):cutT m ch=none:=by
 unfold cutT;exact find_no fun j o=>d _ (by omega) (by omega)
theorem proveP_end {f:Nat} (h:m.tasks.length<=AB m ch):zu m (f+1) ch k=(51,.zero,k):=by
 conv=>lhs;unfold zu
 rw [if_pos h]
theorem proveP_many {f:Nat} (h:¬ m.tasks.length<=AB m ch) (d:3000<k+1):zu m (f+1) ch k=(53,.zero,k+1):=by
 conv=>lhs;unfold zu
 rw [if_neg h,if_pos d]
theorem proveP_cut {f:Nat} (h:¬ m.tasks.length<=AB m ch) (o:¬ 3000<k+1) (d:cutT m ch=some t):zu m (f+1) ch k=(0,.node t (Ce m ch t) [],k+1):=by
 conv=>lhs;unfold zu
 rw [if_neg h,if_neg o,d]
theorem proveP_kids {f:Nat} (h:¬ m.tasks.length<=AB m ch) (o:¬ 3000<k+1) (d:cutT m ch=none):zu m (f+1) ch k=if (zR (fun n k=>zu m f (ch++[n]) k) (AE m ch) (k+1) []).1=0 then (0,.node (AB m ch) [] (zR (fun n k=>zu m f (ch++[n]) k) (AE m ch) (k+1) []).2.1,(zR (fun n k=>zu m f (ch++[n]) k) (AE m ch) (k+1) []).2.2) else ((zR (fun n k=>zu m f (ch++[n]) k) (AE m ch) (k+1) []).1,.zero,(zR (fun n k=>zu m f (ch++[n]) k) (AE m ch) (k+1) []).2.2):=by
 conv=>lhs;unfold zu
 rw [if_neg h,if_neg o,d]
theorem Db {f:Int->Nat->Int×PT×Nat} {n:Int} {acc:List PT} (h:(f n k).1=0):zR f (n :: l) k acc=zR f l (f n k).2.2 (acc++[(f n k).2.1]):=by
 conv=>lhs;unfold zR
 rw [if_pos h]
theorem kidsR_stop {f:Int->Nat->Int×PT×Nat} {n:Int} {acc:List PT} (h:(f n k).1≠0):zR f (n :: l) k acc=((f n k).1,[],(f n k).2.2):=by
 conv=>lhs;unfold zR
 rw [if_neg h]
theorem Ck.bound {w:World} {ok:Nat->Prop} {v:Value} {p:PT} (h:Ck w ok v p):Ck w (fun b=>ok b/\b<w.heap.size) v p:=by
 induction h with
 | mk h1 d _ ih=>exact .mk h1.bound (d.bound (by decide)) ih
theorem own_chg {W W':World} {X:Nat->Prop} {B sz:Nat} {e:TypeId} {v:Value} {xs:List Value} (h:W.ownsRow B e sz v n xs) (E:zk X W W') (G:∀b,B<=b->¬ X b):W'.ownsRow B e sz v n xs:=by
 refine ⟨h.1,?_⟩;rcases h.2 with h | ⟨g,cap,cur,h1,d,o,D⟩
 ·exact .inl h
 ·exact .inr ⟨g,cap,cur,h1,d,(E.block g (za o) (G g d)).trans o,D⟩
structure Ba (W:World) (B:Nat) (v:Value) (acc:List PT) (cs:List Value):Prop where
 own:W.ownsRow B 42 3 v acc.length cs
 each:∀(i:Nat) (hi:i<acc.length),Ck W (fun b=>B<=b/\v.ownBlock≠some b) (.agg #[cs.getD (i*3) undef,cs.getD (i*3+1) undef,cs.getD (i*3+2) undef]) acc[i]
section
variable {W W':World} {B lo:Nat} {v v':Value} {acc:List PT} {cs:List Value} {p:PT} {a b c:Value} {X:Nat->Prop}
theorem Ba.nil (W:World) (B:Nat):Ba W B (.slice none 0 0) [] []:=⟨World.ownsRow_nil _ _ _ _,fun i d=>absurd d (by simp)⟩
theorem Ba.chg (h:Ba W B v acc cs) (o:zk X W W') (D:∀b,B<=b->¬ X b):Ba W' B v acc cs:=
 ⟨own_chg h.own o D,fun i G=>(h.each i G).keepW (fun b E d=>o.block b d (D b E.1)) (fun _ h=>h)⟩
theorem Ba.lt (h:Ba W B v acc cs) (d:v.ownBlock=some k):B<=k/\k<W.heap.size:=by
 rcases h.own.2 with ⟨rfl,-⟩ | ⟨g,cap,cur,rfl,h1,o,-⟩
 ·cases d
 ·have:g=k:=by simpa [Value.ownBlock] using d
  subst this;exact ⟨h1,za o⟩
theorem getD_left {l l2:List Value} (h:i<l.length):(l++l2).getD i undef=l.getD i undef:=by
 rw [DD,DD,DJ h]
theorem Ba.app (h:Ba W B v acc cs) (hp:Ck W (fun b=>lo<=b) (.agg #[a,b,c]) p) (E:∀k,v.ownBlock=some k->k<lo) (U:B<=lo) (O:W'.ownsRow B 42 3 v' (acc.length+1) (cs++[a,b,c])) (J:W.grownBy W' v.ownBlock)
  (Q:v'.ownBlock=v.ownBlock\/v'.ownBlock=some W.heap.size):Ba W' B v' (acc++[p]) (cs++[a,b,c]):=by
 have o:cs.length=acc.length*3:=h.own.1
 have G:∀k,k<W.heap.size->v.ownBlock≠some k->v'.ownBlock≠some k:=fun k d h1=>by
  rcases Q with h2 | h2
  ·rw [h2];exact h1
  ·rw [h2];intro e;injection e with e;omega
 refine ⟨by rw [DM];exact O,fun i K=>?_⟩;by_cases M:i<acc.length
 ·rw [getD_left (by omega),getD_left (by omega),getD_left (by omega),List.getElem_append_left M];exact (h.each i M).bound.keepW (fun k d D=>J.block k D (fun e=>d.1.2 e.symm)) (fun k d=>⟨d.1.1,G k d.2 d.1.2⟩)
 ·have I:i=acc.length:=by rw [DM,Ed] at K;omega
  subst I;have e0:(cs++[a,b,c]).getD (acc.length*3) undef=a:=by rw [DD,DK (by omega),o,Nat.sub_self];rfl
  have e1:(cs++[a,b,c]).getD (acc.length*3+1) undef=b:=by rw [DD,DK (by omega),o,Nat.add_sub_cancel_left];rfl
  have e2:(cs++[a,b,c]).getD (acc.length*3+2) undef=c:=by rw [DD,DK (by omega),o,Nat.add_sub_cancel_left];rfl
  rw [e0,e1,e2];have:(acc++[p])[acc.length]'K=p:=by simp
  rw [this];exact hp.bound.keepW (fun k d D=>J.block k D (fun e=>by have:=E k e.symm;omega)) (fun k d=>⟨by omega,G k d.2 (fun e=>by have:=E k e;omega)⟩)
theorem Ba.kids (h:Ba W B v acc cs) (t:Int):Ck W (fun b=>B<=b) (.agg #[.int .i64 t,.slice none 0 0,v]) (.node t [] acc):=
 .mk (cs:=cs) (zl.nil _ _) (Bc.of_own h.own) (fun i d=>(h.each i d).keepW (fun _ _ _=>rfl) (fun _ h=>h.1))
end
theorem zk.wide {X X':Nat->Prop} {a b:World} (h:zk X a b) (d:∀k,X k->X' k):zk X' a b:=⟨h.os,h.tape,h.output,h.size,fun b o D=>h.block b o fun e=>D (d b e)⟩
theorem zk.set {X:Nat->Prop} {a b:World} (h:zk X a b) (g k:Nat) (v:Value) (o:X g):zk X a (b.setCell ⟨g,k,none⟩ v):=
 ⟨h.os,h.tape,h.output,by simpa using h.size,fun i D d=>(DN b ⟨g,k,none⟩ v i (fun e=>d (by rw [e];exact o))).trans (h.block i D d)⟩
theorem zk.grown {X:Nat->Prop} {a b c:World} {r:Option Nat} (h:zk X a b) (d:b.grownBy c r) (E:∀k,r=some k->k<a.heap.size->X k):zk X a c:=
 ⟨d.os.trans h.os,d.tape.trans h.tape,d.output.trans h.output,DG h.size d.size,fun i o D=>(d.block i (Ef o h.size) (fun e=>D (E i e.symm o))).trans (h.block i o D)⟩
theorem zk.blk {X:Nat->Prop} {a b:World} {t:TypeId} {cs:Array Value} (h:zk X a b) (d:zg a g t cs) (o:¬ X g):zg b g t cs:=(h.block g (za d) o).trans d
theorem zk.cellk {X:Nat->Prop} {a b:World} {p:Addr} {v:Value} (h:zk X a b) (d:a.cell? p=some v) (o:¬ X p.block):b.cell? p=some v:=(CP (h.block _ (zn d) o)).trans d
theorem zc.cellB {W:World} {t:TypeId} {cs:Array Value} (d:zc w W) (h:zg w g t cs):zg W g t cs:=h.ext d
theorem prove_err {F:Int->Nat->Int×PT×Nat} {n:Int} {L:List Int} {k0:Nat} {acc:List PT} (h:(F n k).1≠0) (d:zR F L k0 []=zR F (n :: l) k acc) {a:Int×PT×Nat} {b:PT×Nat}:(if (zR F L k0 []).1=0 then a else ((zR F L k0 []).1,b)).1=(F n k).1:=by
 rw [d,kidsR_stop h,if_neg h]
theorem prv_row1 {W:World} {a b c:Value} (d:zg W g 42 #[a,b,c]):Bc W (fun _=>True) 3 (.slice (some ⟨g,0,none⟩) 1 1) 1 [a,b,c]:=
 ⟨_,1,rfl,DE _,by simp,fun _=>⟨g,0,rfl,trivial,fun j u o=>by rw [Nat.zero_add];exact d.cell (by simpa using o)⟩⟩
end
section
open Go.RowKit Go.Shelf
attribute [local go_sem ↓] Go.wp_at_zero Go.wp_at_succ
theorem elsF_len:∀(f:Nat) (s:Rd) (l:List Int),(AY f s l).2.1.length<=s.1.length
 | 0,s,l=>DE _
 | f+1,s,l=>by
  unfold AY
  split
  ·exact DE _
  ·exact DG (elsF_len f _ _) (intF_len s).1
theorem intsF_len (s:Rd):(AN s).2.1.length<=s.1.length:=by
 unfold AN
 split
 ·simp
 ·have h:=elsF_len s.1.tail.length (s.1.tail,false) [];unfold intsE
  split
  ·simp
  ·simp only [List.length_tail] at h⊢;omega
def lv (s:Rd):Nat:=if s.2=true then 0 else s.1.length+1
theorem lv_ok (h:s.2=false):lv s=s.1.length+1:=by unfold lv;rw [h];rfl
theorem lv_dec {t:Rd} (h:t.2=false->t.1.length<s.1.length) (o:s.2=false):lv t<lv s:=by
 rw [lv_ok o];unfold lv
 split
 ·omega
 ·rename_i d
  have:=h (by simpa using d);omega
theorem var_new (h:zq w) {b:Nat} (d:w.heap.size<=b):¬ isVar b:=by
 rintro ⟨n,D,o⟩
 have f:∀cs,w.var? Tryz.prog n=some cs->False:=fun cs h=>by
  unfold World.var? at h;rw [o,Option.bind_some,Array.getElem?_eq_none d] at h;cases h
 rcases D with rfl | rfl | rfl
 ·exact f _ h.tab
 ·obtain ⟨tp,p,h⟩:=h.syn;exact f _ h
 ·obtain ⟨tp,p,h⟩:=h.rng;exact f _ h
mutual
def PT.wt:PT->Nat
 | .node _ s ks=>1+s.length+PT.wtL ks
def PT.wtL:List PT->Nat
 | []=>0
 | k :: ks=>k.wt+PT.wtL ks
end
theorem intF_lv (s:Rd):lv (AZ s).2<=lv s - 1:=by
 cases d:s.2 with
 | true=>rw [intF_bad d];simp [lv]
 | false=>have:=lv_dec (intF_len s).2 d;omega
theorem elsF_lv:∀(f:Nat) (s:Rd) (l:List Int),(AY f s l).1.length+lv (AY f s l).2<=l.length+lv s/\((∀x∈l,Cp x)->∀x∈(AY f s l).1,Cp x)
 | 0,s,l=>⟨DE _,fun h=>h⟩
 | f+1,s,l=>by
  unfold AY
  split
  ·exact ⟨DE _,fun h=>h⟩
  ·rename_i o
   have D:s.2=false:=by
    cases h:s.2 with
    | false=>rfl
    | true=>exact absurd (.inl (by unfold AF;rw [h];rfl)) o
   obtain ⟨h1,d⟩:=elsF_lv f (AZ s).2 (l++[(AZ s).1]);have E:=intF_lv s;have G:=lv_ok D;refine ⟨by rw [DM,Ed] at h1;omega,fun h=>d fun x hx=>?_⟩;rcases Es.1 hx with hx | hx
   ·exact h x hx
   ·rw [Ek.1 hx];exact intF_bound s
theorem intsF_lv (s:Rd):(AN s).1.length+lv (AN s).2<=lv s/\∀x∈(AN s).1,Cp x:=by
 unfold AN
 split
 ·exact ⟨by simp [lv],fun x d=>by cases d⟩
 ·rename_i G
  have I:s.2=false:=by
   cases h:s.2 with
   | false=>rfl
   | true=>exact absurd (.inl (by unfold AF;rw [h];rfl)) G
  obtain ⟨h1,o⟩:=elsF_lv s.1.tail.length (s.1.tail,false) [];have h0:lv (s.1.tail,false)<=lv s:=by rw [lv_ok I];simp [lv]
  unfold intsE
  split
  ·exact ⟨by simp [lv],fun x d=>by cases d⟩
  ·rename_i E
   have D:(AY s.1.tail.length (s.1.tail,false) []).2.2=false:=by
    cases h:(AY s.1.tail.length (s.1.tail,false) []).2.2 with
    | false=>rfl
    | true=>exact absurd (by unfold AF;rw [h];rfl) E
   have J:lv ((AY s.1.tail.length (s.1.tail,false) []).2.1.tail,false)<=lv (AY s.1.tail.length (s.1.tail,false) []).2:=by rw [lv_ok D];simp [lv]
   refine ⟨?_,o fun x d=>by cases d⟩;simp only [EG,Nat.zero_add] at h1;show (AY s.1.tail.length (s.1.tail,false) []).1.length+lv ((AY s.1.tail.length (s.1.tail,false) []).2.1.tail,false)<=_;omega
end
end Go.Proofs.YtfjjdmpndmbfoaaGreatDoor
