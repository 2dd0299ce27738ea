import Derived.Test.YtcnaogdgjkpkmaaGreatDoorWCg
import Derived.Lib.Strings
import Derived.Lib.Walk
import Derived.Lib.BufferWrite
import Derived.Lib.UnsafeStr
import Derived.Lib.Hide
import Derived.Laws.MakeOwn
import Derived.Laws.IdiomStrings
import Derived.WalkKit
import Derived.ProofKit
import Derived.OpenShut
import Derived.ShutString
import Derived.WalkLawsBesides
import Derived.WalkSpells
set_option linter.unusedVariables false
set_option linter.unusedSimpArgs false
set_option maxRecDepth 100000
set_option maxHeartbeats 16000000
namespace Go.Proofs.YtcnaogdgjkpkmaaGreatDoor
variable {n:Int} {ch s:List Int} {m:MZ} {k:Nat} {ok:Nat->Prop} {f ts u v vc vp:Value} {w w':World}
section
open Go.RowKit
attribute [local go_sem ↓] Go.wp_at_zero Go.wp_at_succ
theorem box9 (w:World) (a0 a1 a2 a3 a4 a5 a6 a7 a8:Value):za w (w.alloc (.cells #[a0,a1,a2,a3,a4,a5,a6,a7,a8] 70))/\
  (∀W,za (w.alloc (.cells #[a0,a1,a2,a3,a4,a5,a6,a7,a8] 70)) W->W.cell? ⟨w.heap.size,0,none⟩=some a0)/\(∀W,za (w.alloc (.cells #[a0,a1,a2,a3,a4,a5,a6,a7,a8] 70)) W->W.cell? ⟨w.heap.size,1,none⟩=some a1)/\(∀W,za (w.alloc (.cells #[a0,a1,a2,a3,a4,a5,a6,a7,a8] 70)) W->W.cell? ⟨w.heap.size,2,none⟩=some a2)/\(∀W,za (w.alloc (.cells #[a0,a1,a2,a3,a4,a5,a6,a7,a8] 70)) W->W.cell? ⟨w.heap.size,3,none⟩=some a3)/\(∀W,za (w.alloc (.cells #[a0,a1,a2,a3,a4,a5,a6,a7,a8] 70)) W->W.cell? ⟨w.heap.size,4,none⟩=some a4)/\(∀W,za (w.alloc (.cells #[a0,a1,a2,a3,a4,a5,a6,a7,a8] 70)) W->W.cell? ⟨w.heap.size,5,none⟩=some a5)/\(∀W,za (w.alloc (.cells #[a0,a1,a2,a3,a4,a5,a6,a7,a8] 70)) W->W.cell? ⟨w.heap.size,6,none⟩=some a6)/\(∀W,za (w.alloc (.cells #[a0,a1,a2,a3,a4,a5,a6,a7,a8] 70)) W->W.cell? ⟨w.heap.size,7,none⟩=some a7)/\(∀W,za (w.alloc (.cells #[a0,a1,a2,a3,a4,a5,a6,a7,a8] 70)) W->W.cell? ⟨w.heap.size,8,none⟩=some a8):=by
 have d:=ze.new w #[a0,a1,a2,a3,a4,a5,a6,a7,a8] 70 rfl;exact ⟨(za.refl w).alloc _,za.rule (d.cell (k:=0) rfl),za.rule (d.cell (k:=1) rfl),za.rule (d.cell (k:=2) rfl),za.rule (d.cell (k:=3) rfl),za.rule (d.cell (k:=4) rfl),za.rule (d.cell (k:=5) rfl),za.rule (d.cell (k:=6) rfl),za.rule (d.cell (k:=7) rfl),za.rule (d.cell (k:=8) rfl)⟩
theorem PSt.parts {w:World} {ok:Nat->Prop} {m:MZ} {f u ts vc vp:Value} {ch:List Int} (h:PSt w ok m f u ts vc vp ch):∃Af cf Au cu At ct Ac cc Ap cp,f=.slice Af m.free.length cf/\u=.slice Au m.up.length cu/\ts=.slice At m.tasks.length ct/\vc=.slice Ac ch.length cc/\vp=.slice Ap (zl m ch).length cp/\
  AE w ok (.slice Af m.free.length cf) m.free/\Bd w ok (.slice At m.tasks.length ct) m.tasks:=by
 obtain ⟨Af,cf,Au,cu,At,ct,e,hf,-,d⟩:=h.maze.parts;injection e with e;injection e with e;simp only [List.cons.injEq,and_true,true_and] at e;obtain ⟨rfl,rfl,rfl⟩:=e;obtain ⟨Ac,cc,rfl,-,-⟩:=h.chs;obtain ⟨_,⟨Ap,cp,rfl,-,-⟩,-⟩:=h.ps;exact ⟨Af,cf,Au,cu,At,ct,Ac,cc,Ap,cp,rfl,rfl,rfl,rfl,rfl,hf,d⟩
theorem CD (t:Int) (w:World) (h:PSt w ok m f u ts vc vp ch):
  Calls Tryz.prog 75 #[CT m f u ts vc vp t] w fun e w'=>e=.returned (.bool (decide ((m.tasks.length:Int)<=t)))/\za w w':=by
 obtain ⟨Af,cf,Au,cu,At,ct,Ac,cc,Ap,cp,rfl,rfl,rfl,rfl,rfl,-,-⟩:=h.parts;clear h;unfold CT
 go_enter Tryz.func75,Tryz.ntmps75
 go_wp2_with fail
 obtain ⟨d,r0,r1,r2,r3,r4,r5,r6,r7,r8⟩:=box9 w (.int .i64 m.w) (.int .i64 m.h) (.int .i64 m.l) (.slice Af m.free.length cf) (.slice Au m.up.length cu) (.slice At m.tasks.length ct) (.slice Ac ch.length cc) (.slice Ap (zl m ch).length cp) (.int .i64 t);generalize w.alloc _=w1 at d r0 r1 r2 r3 r4 r5 r6 r7 r8⊢;obtain ⟨gm,o⟩:=DX w.heap.size;rw [<-o] at r0 r1 r2 r3 r4 r5 r6 r7 r8⊢;clear o;have z:za w1 w1:=za.refl w1;have r:=zh d;clear d
 go_wp2_with fail
 go_ret;exact ⟨rfl,r.out⟩
theorem popen_calls (t:Int) (tk:Nat) (n:Int) (w:World) (h:PSt w ok m f u ts vc vp ch) (g:AF m) (G:ch.length<=20000000000000) (I:tk<m.free.length) (h0:0<=n) (h1:n<m.n):
  Calls Tryz.prog 113 #[CT m f u ts vc vp t,.int .i64 tk,.int .i64 n] w fun e w'=>e=.returned (.bool (zg m tk n && !decide (n∈ch)))/\za w w':=by
 have H:=zh h;obtain ⟨Af,cf,Au,cu,At,ct,Ac,cc,Ap,cp,rfl,rfl,rfl,rfl,rfl,hf,-⟩:=h.parts;obtain ⟨b,off,b',off',l,c',rfl,z,O,L,K,r⟩:=freeCells hf g.fn I h0 h1;have J:=zh h.chs;clear h hf g;obtain ⟨fv,B⟩:=DX (zg m tk n);rw [<-B] at r⊢;clear B;have k0:(0:Int)<=(tk:Int):=by omega
 have k1:(tk:Int)<(m.free.length:Int):=by omega
 have M:off'+n.toNat=off'+n.toNat:=rfl;unfold CT
 go_enter Tryz.func113,Tryz.ntmps113
 go_upto_region 1 with fail;obtain ⟨o,r0,r1,r2,r3,r4,r5,r6,r7,r8⟩:=box9 w (.int .i64 m.w) (.int .i64 m.h) (.int .i64 m.l) (.slice (some ⟨b,off,none⟩) m.free.length cf) (.slice Au m.up.length cu) (.slice At m.tasks.length ct) (.slice Ac ch.length cc) (.slice Ap (zl m ch).length cp) (.int .i64 t);generalize w.alloc _=w1 at o r0 r1 r2 r3 r4 r5 r6 r7 r8⊢;obtain ⟨gm,D⟩:=DX w.heap.size;rw [<-D] at r0 r1 r2 r3 r4 r5 r6 r7 r8⊢;clear D;have Q:za w1 w1:=za.refl w1;have d:=zh o;clear o;have q1:=za.rule (d.out.cell z);have q2:=za.rule (d.out.cell r);have E:=zh (J.out.below d.out);clear z r
 cases fv with
 | false=>
  go_wp2_with fail
  go_ret;exact ⟨rfl,d.out⟩
 | true=>
  go_wp2_with fail
  refine (zS n w1 E.out G).mono ?_;rintro e w9 ⟨rfl,rfl⟩
  go_wp2_with fail
  go_ret;exact ⟨rfl,d.out⟩
theorem phead_calls (t:Int) (tk:Nat) (w:World) (h:PSt w ok m f u ts vc vp ch) (hl:Lens m) (hc:Cc m=0) (hi:zG m ch) (J:tk<m.tasks.length):
  Calls Tryz.prog 88 #[CT m f u ts vc vp t,.int .i64 tk] w fun e w'=>∃v',e=.returned v'/\za w w'/\zk w' (fun _=>True) v' (AC m ch tk):=by
 have H:=zh h;have U:=Ar hc hi;have G:=zh (AF.of hc);have HL:=zh hl;have e5:=zh G.out.fl;obtain ⟨_,g0,_⟩:=h.ps;have b1:=‹∀(i:Nat) x,(zl m ch)[i]?=some x->_›;obtain ⟨Af,cf,Au,cu,At,ct,Ac,cc,Ap,cp,rfl,rfl,rfl,rfl,rfl,hf,c0⟩:=h.parts;obtain ⟨_,_,e,-,b8⟩:=g0;injection e with e1 e2 e3;subst e1 e3;have f1:=zh c0;have a6:=zh b8;have e4:=zh b1;obtain ⟨PL,hP⟩:=DX ((zl m ch).length);rw [<-hP] at a6 H;clear h hf c0 b8 b1 hl hc;unfold CT;rw [<-hP];by_cases f8:tk<PL
 ·obtain ⟨g9,g5,-,b6⟩:=U;have I:tk<(zl m ch).length:=by omega
  obtain ⟨bp,offp,up,rfl,-,V,c6⟩:=eachAt a6.out e4.out f8 I;obtain ⟨O,Q⟩:=b6 _ (CZ I)
  have z:Hid (AC m ch tk=((zl m ch)[tk]).getLast?.toList):=by
   show _=_;unfold AC;rw [if_pos I,CX,CW I];rfl
  obtain ⟨P,a9⟩:=DX ((zl m ch)[tk]);rw [<-a9] at c6 O Q z;clear a9 b6 hi;obtain ⟨q,x,rfl⟩:∃q x,P=q++[x]:=⟨P.dropLast,P.getLast O,(List.dropLast_concat_getLast O).symm⟩;obtain ⟨Aq,cq,rfl,a0,b9⟩:=c6;obtain ⟨bq,offq,e,-,M⟩:=Am b9 (k:=q.length) (by simp) (by simp);have M:w.cell? ⟨bq,offq+q.length,none⟩=some (.int .i64 x):=by rw [M];simp
  subst e;obtain ⟨N,hN⟩:=DX ((q++[x]).length);obtain ⟨n,hn⟩:=DX q.length;have a8:N=n+1:=by rw [hN,hn];simp
  rw [<-hN] at V Q a0;rw [<-hn] at M
  have e6:Hid (AC m ch tk=[x]):=by
   show _=_;rw [z.out,List.getLast?_append];rfl
  clear b9 hN hn z O hP;have k0:(0:Int)<=(tk:Int):=by omega
  have k1:(tk:Int)<(PL:Int):=by omega
  have h7:IntKind.i64.wrap ((N:Int) - 1)=(n:Int):=by rw [Du];omega
  have h3:(0:Int)<=(n:Int):=by omega
  have h4:(n:Int)<=(N:Int):=by omega
  have h5:N - n=1:=by omega
  have h6:(N:Int)<=(cq:Int):=by omega
  have HQ:=zh a8;have e0:=zh a0
  go_enter Tryz.func88,Tryz.ntmps88
  go_upto_region 1 with fail;obtain ⟨r,r0,r1,r2,r3,r4,r5,r6,r7,r8⟩:=box9 w (.int .i64 m.w) (.int .i64 m.h) (.int .i64 m.l) (.slice Af m.free.length cf) (.slice Au m.up.length cu) (.slice At m.tasks.length ct) (.slice Ac ch.length cc) (.slice (some ⟨bp,offp,none⟩) PL cp) (.int .i64 t);generalize w.alloc _=w1 at r r0 r1 r2 r3 r4 r5 r6 r7 r8⊢;obtain ⟨gm,E⟩:=DX w.heap.size;rw [<-E] at r0 r1 r2 r3 r4 r5 r6 r7 r8⊢;clear E;have hx:za w1 w1:=za.refl w1;have o:=zh r;clear r;have qp:=za.rule (o.out.cell V);clear V a8 a0 I
  go_wp2_with fail
  go_ret;refine ⟨_,rfl,o.out,?_⟩;rw [e6.out];refine ⟨_,_,rfl,by have:=HQ.out;have:=e0.out;show 1<=_;omega,rfl,fun _=>⟨bq,offq+n,rfl,trivial,fun j u hu=>?_⟩⟩
  match j,hu with
  | 0,hu=>
   have:u=.int .i64 x:=by simpa using hu.symm
   rw [this];exact o.out.cell M
 ·obtain ⟨bt,offt,sn,u1,u2,rfl,-,-,b0,-,a1,-⟩:=CC f1.out J;have a3:=fun x hx=>G.out.tn _ (CZ J) x (.inl hx)
  have b2:=(HL.out.tl _ (CZ J)).1
  have z:Hid (AC m ch tk=((m.tasks[tk]).1).filter fun n=>zg m tk n && !decide (n∈ch)):=by
   show _=_;unfold AC;rw [if_neg (by omega),CX,CW J];rfl
  obtain ⟨L,hL⟩:=DX ((m.tasks[tk]).1);rw [<-hL] at a1 a3 b2 z;clear hL;have f0:=zh a3;have d9:Hid (ch.length<=300):=U.2.2.1;have e9:Hid (tk<m.free.length):=by show _<_;rw [e5.out];exact J
  have k0:(0:Int)<=(tk:Int):=by omega
  have k1:(tk:Int)<(m.tasks.length:Int):=by omega
  have k2:¬ ((tk:Int)<(PL:Int)):=by omega
  clear a3 U hi hP;obtain ⟨p,a2⟩:∃p:Int->Bool,p=fun n=>zg m tk n && !decide (n∈ch):=⟨_,rfl⟩
  rw [<-a2] at z;have e8:=zh a2;clear a2
  go_enter Tryz.func88,Tryz.ntmps88
  go_upto_region 1 with fail;obtain ⟨r,r0,r1,r2,r3,r4,r5,r6,r7,r8⟩:=box9 w (.int .i64 m.w) (.int .i64 m.h) (.int .i64 m.l) (.slice Af m.free.length cf) (.slice Au m.up.length cu) (.slice (some ⟨bt,offt,none⟩) m.tasks.length ct) (.slice Ac ch.length cc) (.slice Ap PL cp) (.int .i64 t);generalize w.alloc _=w1 at r r0 r1 r2 r3 r4 r5 r6 r7 r8⊢;obtain ⟨gm,E⟩:=DX w.heap.size;rw [<-E] at r0 r1 r2 r3 r4 r5 r6 r7 r8⊢;clear E;have hx:za w1 w1:=za.refl w1;have o:=zh r;clear r;have qt:=za.rule (o.out.cell b0);have e7:=zh (a1.below o.out);obtain ⟨Al,cl,rfl,g8,-⟩:=a1;clear b0
  go_wp2_with fail
  have a5:=zh (Mk.nil w1);go_loopw [4,31] (fun v i wr=>∃k:Nat,k<=L.length/\i=.int .i64 (k:Nat)/\Hid (Mk w1 wr v ((L.take k).filter p))) (fun _ i _=>L.length - (intOf i).toNat)
  case atStart=>exact ⟨0,Do _,rfl,a5⟩
  clear a5
  case round=>
   obtain ⟨k,hk,rfl,hM⟩:=hrel;have hx:za w1 wr:=hM.out.ext;obtain ⟨wk,rfl⟩:∃wk:World,wk=wr:=⟨_,rfl⟩;by_cases B:k<L.length
   ·obtain ⟨A',c',e,-,b7⟩:=e7.out;injection e with e1 e2 e3;subst e1 e3;obtain ⟨bl,offl,rfl,-,d⟩:=Am b7 B B;clear b7;obtain ⟨c7,c8⟩:=f0.out _ (CZ B);have K:=Dg B;obtain ⟨x,d4⟩:=DX (L[k]);rw [<-d4] at d c7 c8 K;clear d4;have HT:=zh K;have d:wk.cell? ⟨bl,offl+k,none⟩=some (.int .i64 x):=hx.cell d;clear K;have kk0:(0:Int)<=(k:Int):=by omega
    have kk1:(k:Int)<(L.length:Int):=by omega
    go_wp2_with fail
    refine (popen_calls t tk x wk ((H.out.more o.out).more hx) G.out (by have:=d9.out;omega) e9.out c7 c8).mono ?_;rintro e w9 ⟨rfl,a7⟩;have D:=zh (hM.out.more a7);have c9:=D.out.ext;have hp:p x=(zg m tk x && !decide (x∈ch)):=by rw [e8.out]
    rw [<-hp];clear hp d a7;have f7:((L.take k).filter p).length<=L.length:=Da (DA _ _) (by simp;omega)
    cases hb:p x with
    | true=>
     have HS:Hid ((L.take (k+1)).filter p=(L.take k).filter p++[x]):=by show _=_;rw [HT.out,List.filter_append,List.filter_cons_of_pos hb];rfl
     clear hb;obtain ⟨l,b4⟩:=DX ((L.take k).filter p);rw [<-b4] at D f7 HS;clear b4
     go_wp2_with (at_builtin;refine Cf rfl _ _ rfl _ l x w1.heap.size w9.heap.size 1 _ rfl rfl (D.out.own.alloc _) ?d1 ?d2 ?d3 ?_)
     (try case d1=>exact zU _ _ _ (by simp))
     case d2=>(first | (simp;done) | (have:=c9.size;simp;omega) | (have:=c9.size;omega))
     case d3=>omega
     intro v' wb b5 b3 f4;have f2:=zh ((D.out.alloc _).app b5 b3);clear b5 b3 f4;go_wp2;go_roundw
     case rel=>exact ⟨k+1,by omega,by go_num,by rw [HS.out];exact f2⟩
     case measure=>simp [intOf];omega
    | false=>
     have HS:Hid ((L.take (k+1)).filter p=(L.take k).filter p):=by show _=_;rw [HT.out,List.filter_append,List.filter_cons_of_neg (by rw [hb];simp),List.filter_nil,List.append_nil]
     clear hb;go_wp2;go_roundw
     case rel=>exact ⟨k+1,by omega,by go_num,by rw [HS.out];exact D⟩
     case measure=>simp [intOf];omega
   ·obtain rfl:k=L.length:=by omega
    go_wp2;go_ret;refine ⟨_,rfl,o.out.trans hM.out.ext,?_⟩;rw [z.out];have:=hM.out;rw [Dl] at this;exact this.ints.weaken (fun _ _=>trivial)
end
section
open Go.RowKit
attribute [local go_sem ↓] Go.wp_at_zero Go.wp_at_succ
attribute [local go_sem] Oper.semAt_some
theorem PSt.weaken {w:World} {ok ok':Nat->Prop} {m:MZ} {f u ts vc vp:Value} {ch:List Int} (h:PSt w ok m f u ts vc vp ch) (d:∀b,ok b->ok' b):PSt w ok' m f u ts vc vp ch:=⟨h.maze.weaken d,h.chs.weaken d,h.ps.weaken d⟩
theorem PSt.keep {w w':World} {ok:Nat->Prop} {m:MZ} {f u ts vc vp:Value} {ch:List Int} (h:PSt w ok m f u ts vc vp ch) (d:zK ok w w'):PSt w' ok m f u ts vc vp ch:=⟨h.maze.keep d,h.chs.keep d,h.ps.keep d⟩
theorem CO (t n:Int) (w:World) (h:PSt w ok m f u ts vc vp ch) (hl:Lens m) (hc:Cc m=0) (hi:zG m (ch++[n])) (f5:ch.length<=300):
  Calls Tryz.prog 78 #[CT m f u ts vc vp t,.int .i64 n] w fun e w'=>∃vc' vp',e=.returned (CT m f u ts vc' vp' (zD m (ch++[n])))/\za w w'/\PSt w' (fun b=>ok b\/w.heap.size<=b) m f u ts vc' vp' (ch++[n]):=by
 have H:=zh h;have HL:=zh hl;have HC:=zh hc;have HI:=zh hi;obtain ⟨Af,cf,Au,cu,At,ct,Ac,cc,Ap,cp,rfl,rfl,rfl,rfl,rfl,-,-⟩:=h.parts;obtain ⟨PL,hP⟩:=DX ((zl m ch).length);rw [<-hP] at H⊢;clear h hl hc hi hP;unfold CT
 go_enter Tryz.func78,Tryz.ntmps78
 go_upto_region 1 with fail;have M:=ze.new w #[.int .i64 m.w,.int .i64 m.h,.int .i64 m.l,.slice Af m.free.length cf,.slice Au m.up.length cu,.slice At m.tasks.length ct,.slice Ac ch.length cc,.slice Ap PL cp,.int .i64 t] 70 (g:=w.heap.size) rfl;have a9:za w (w.alloc (.cells #[.int .i64 m.w,.int .i64 m.h,.int .i64 m.l,.slice Af m.free.length cf,.slice Au m.up.length cu,.slice At m.tasks.length ct,.slice Ac ch.length cc,.slice Ap PL cp,.int .i64 t] 70)):=(za.refl w).alloc _;have b5:(w.alloc (.cells #[.int .i64 m.w,.int .i64 m.h,.int .i64 m.l,.slice Af m.free.length cf,.slice Au m.up.length cu,.slice At m.tasks.length ct,.slice Ac ch.length cc,.slice Ap PL cp,.int .i64 t] 70)).heap.size=w.heap.size+1:=by simp
 generalize w.alloc _=w1 at M a9 b5⊢;have d:=ze.new w1 #[.int .i64 0,.int .i64 0,.int .i64 0,.slice none 0 0,.slice none 0 0,.slice none 0 0,.slice none 0 0,.slice none 0 0,.int .i64 0] 70 (g:=w1.heap.size) rfl;have a1:za w1 (w1.alloc (.cells #[.int .i64 0,.int .i64 0,.int .i64 0,.slice none 0 0,.slice none 0 0,.slice none 0 0,.slice none 0 0,.slice none 0 0,.int .i64 0] 70)):=(za.refl w1).alloc _;generalize w1.alloc _=w2 at d a1⊢;rw [b5] at d;obtain ⟨gm,b0⟩:=DX w.heap.size;rw [<-b0] at M d⊢;have L:Hid (gm=w.heap.size):=b0;have HZ:=zh d;have E:ze w2 gm 70 _:=M.ext a1;have rul:∀{j:Nat} {v:Value},w2.cell? ⟨gm,j,none⟩=some v->∀W,Below (gm+1) w2 W->W.cell? ⟨gm,j,none⟩=some v:=fun h W hW=>(hW.cell (p:=⟨gm,_,none⟩) (Nat.lt_succ_self gm)).trans h
 have r0:=rul (E.cell (k:=0) rfl);have r1:=rul (E.cell (k:=1) rfl);have r2:=rul (E.cell (k:=2) rfl);have r3:=rul (E.cell (k:=3) rfl);have r4:=rul (E.cell (k:=4) rfl);have r5:=rul (E.cell (k:=5) rfl);have r6:=rul (E.cell (k:=6) rfl);have d9:=zh (a9.trans a1);have d8:Hid (gm+1<w2.heap.size):=zb d;clear M a9 b5 d a1 E rul b0;refine Dp (S:=(fun W=>Below (gm+1) w2 W)) An ((Below.refl (gm+1) w2).drew) fun zH=>?_;have B:Below (gm+1) w2 w2.drew:=(Below.refl (gm+1) w2).drew;have HD:Hid (za w2 w2.drew):=(za.refl w2).drew;generalize w2.drew=wd at zH B HD⊢;have D:Hid (za w wd):=d9.out.trans HD.out;have z:Hid (gm+1<wd.heap.size):=Dz d8.out HD.out.size;refine zj 0 zH ?_;refine zj 1 zH ?_;simp only [zc,CV];refine zj 2 zH ?_;refine zj 3 zH ?_;simp only [zc,CV];refine zj 5 zH ?_;simp only [zc,CV];refine rdA [4,6] ?_;refine Dy rfl (fun K r=>?_) ?_
 ·go_simp;go_at_call 55;refine (cloneJ_calls wd ((H.out.chs.below D.out).below (za.refl wd)) (by omega)).mono ?_;rintro e w1 ⟨v1,rfl,a8⟩;have a6:za wd w1:=a8.ext;have b7:Hid (zT w1 wd.heap.size v1 ch):=a8.own.mono ((za.refl wd)).size;obtain ⟨A1,n1,c1,rfl⟩:=Cz b7.out;clear a8;refine r.out _ _ (Below.trans B (Below.mono a6 (by have:=z.out;omega))) fun zH=>?_;clear r K;try simp only [zc,CV]
  refine Aa 6 fun K r=>?_;go_simp;have hA2:za w1 (w1.alloc (.cells #[.int .i64 n] 3)):=(za.refl w1).alloc _;have a3:Hid ((w1.alloc (.cells #[.int .i64 n] 3)).cell? ⟨w1.heap.size,0,none⟩=some (.int .i64 n)):=zU _ _ _ rfl;generalize w1.heap.size=g2 at a3⊢;generalize w1.alloc _=w2 at hA2 a3⊢;have b8:=zh (b7.out.ext hA2);have O:za wd w2:=Below.trans a6 (hA2.mono (a6).size);refine r.out _ _ (Below.trans B (Below.mono O (by have:=z.out;omega))) fun zH=>?_;clear r K;try simp only [zc,CV]
  refine Aa 7 fun K r=>?_;refine Co (ok:=fun _=>True) (by rfl) _ _ _ (by rfl) wd.heap.size ch [n] _ _ (by rfl) (by rfl) b8.out (ints_one a3.out) (O).size (by simp;omega) ?_;intro v3 w3 b3 c9 c6;have G:za wd w3:=AM O c9 (O).size (fun k hk=>Cm b8.out hk);have d6:=zh b3;obtain ⟨A3,n3,cc3,rfl⟩:=Cz b3;clear b3 c9 c6;refine r.out _ _ (Below.trans B (Below.mono G (by have:=z.out;omega))) fun zH=>?_;clear r K;try simp only [zc,CV]
  refine Aa 8 fun K r=>?_;go_simp;go_at_call 32;refine (of_calls (ok:=fun b=>(ok b/\b<w.heap.size)\/wd.heap.size<=b) w3 (((H.out.maze.bound.below D.out).below G).weaken (fun b hb=>.inl hb)) HL.out HC.out ((Mk.ints ⟨d6.out,G⟩).weaken (fun b hb=>.inr hb)) HI.out).mono ?_;rintro e w4 ⟨vp4,rfl,e0,e2⟩;have V:za wd w4:=Below.trans G (e0.mono (G).size);have b9:Hid (PSt w4 (fun b=>(ok b\/w.heap.size<=b)/\b≠gm+1) m (.slice Af m.free.length cf) (.slice Au m.up.length cu) (.slice At m.tasks.length ct) (.slice A3 n3 cc3) vp4 (ch++[n])):=e2.weaken (fun b hb=>by have h1:=z.out;have h2:=L.out;have h3:=D.out.size;have h4:=(G).size;rcases hb with (hb | hb) | hb;exact ⟨.inl hb.1,by omega⟩;exact ⟨.inr (by omega),by omega⟩;exact ⟨.inr (by omega),by omega⟩);obtain ⟨_,_,_,_,_,_,_,_,Ap4,cp4,-,-,-,-,rfl,-,-⟩:=b9.out.parts;unfold CT;refine r.out _ _ (Below.trans B (Below.mono V (by have:=z.out;omega))) fun zH=>?_;clear r K;try simp only [zc,CV]
  refine Aa 9 fun K r=>?_;have d:ze w4 (gm+1) 70 _:=(HZ.out.ext HD.out).ext V;have z0:=d.cell (k:=0) rfl;have z1:=d.cell (k:=1) rfl;have z2:=d.cell (k:=2) rfl;have z3:=d.cell (k:=3) rfl;have z4:=d.cell (k:=4) rfl;have z5:=d.cell (k:=5) rfl;have z6:=d.cell (k:=6) rfl;have z7:=d.cell (k:=7) rfl;have z8:=d.cell (k:=8) rfl;have hfz:∀j,w4.frozen? ⟨gm+1,j,none⟩=false:=fun j=>d.frozen j
  have a2:=zh d;clear d;go_simp;refine r.out _ _ (Below.trans (Below.trans B (Below.mono V (by have:=z.out;omega))) (Bp (gm+1) [.int .i64 m.w,.int .i64 m.h,.int .i64 m.l,.slice Af m.free.length cf,.slice Au m.up.length cu,.slice At m.tasks.length ct,.slice A3 n3 cc3,.slice Ap4 (zl m (ch++[n])).length cp4,.int .i64 (zD m (ch++[n]))] 0 w4)) fun zH=>?_;clear r K;try simp only [zc,CV]
  refine DB (by kernel_rfl) ?_ _;go_wp2;refine case_fin9 (P:=fun W=>bodyPost Tryz.prog Tryz.f78 _ Exit.ret _ W) (g2:=gm+1) ?_ a2.out;intro WZ o a7 b1;have y0:=o.cell (k:=0) rfl;have y1:=o.cell (k:=1) rfl;have y2:=o.cell (k:=2) rfl;have y3:=o.cell (k:=3) rfl;have y4:=o.cell (k:=4) rfl;have y5:=o.cell (k:=5) rfl;have y6:=o.cell (k:=6) rfl;have y7:=o.cell (k:=7) rfl;have y8:=o.cell (k:=8) rfl;refine DM (v:=CT m (.slice Af m.free.length cf) (.slice Au m.up.length cu) (.slice At m.tasks.length ct) (.slice A3 n3 cc3) (.slice Ap4 (zl m (ch++[n])).length cp4) (zD m (ch++[n]))) (by simp [results,Tryz.results78,go_sem,y0,y1,y2,y3,y4,y5,y6,y7,y8,CT]) rfl ⟨_,_,rfl,?_,?_⟩
  ·exact Below.trans (D.out.trans (Below.mono V (CY _))) (a7.mono (by have:=L.out;omega))
  ·exact (b9.out.keep (fun b hb b2=>b1 b b2 hb.2)).weaken (fun b hb=>hb.1)
 refine Dy rfl (fun K r=>?_) .nil;go_simp;have hA6:za wd (wd.alloc (.cells #[.int .i64 n] 3)):=(za.refl wd).alloc _;have a4:Hid ((wd.alloc (.cells #[.int .i64 n] 3)).cell? ⟨wd.heap.size,0,none⟩=some (.int .i64 n)):=zU _ _ _ rfl;generalize wd.heap.size=g6 at a4⊢;generalize wd.alloc _=w6 at hA6 a4⊢;have J:za wd w6:=Below.trans (za.refl wd) (hA6.mono ((za.refl wd)).size);refine r.out _ _ (Below.trans B (Below.mono J (by have:=z.out;omega))) fun zH=>?_;clear r K;try simp only [zc,CV]
 refine Aa 4 fun K r=>?_;go_simp;go_at_call 55;refine (cloneJ_calls w6 ((H.out.chs.below D.out).below J) (by omega)).mono ?_;rintro e w7 ⟨v7,rfl,U⟩;have Q:za wd w7:=Below.trans J (U.ext.mono (J).size);have a5:Hid (zT w7 wd.heap.size v7 ch):=U.own.mono (J).size;have d5:Hid (w7.cell? ⟨g6,0,none⟩=some (.int .i64 n)):=za.cell a4.out U.ext;obtain ⟨A7,n7,c7,rfl⟩:=Cz a5.out;clear U;refine r.out _ _ (Below.trans B (Below.mono Q (by have:=z.out;omega))) fun zH=>?_;clear r K;try simp only [zc,CV]
 refine Aa 7 fun K r=>?_;refine Co (ok:=fun _=>True) (by rfl) _ _ _ (by rfl) wd.heap.size ch [n] _ _ (by rfl) (by rfl) a5.out (ints_one d5.out) (Q).size (by simp;omega) ?_;intro v8 w8 b4 d4 c8;have I:za wd w8:=AM Q d4 (Q).size (fun k hk=>Cm a5.out hk);have d7:=zh b4;obtain ⟨A8,n8,cc8,rfl⟩:=Cz b4;clear b4 d4 c8;refine r.out _ _ (Below.trans B (Below.mono I (by have:=z.out;omega))) fun zH=>?_;clear r K;try simp only [zc,CV]
 refine Aa 8 fun K r=>?_;go_simp;go_at_call 32;refine (of_calls (ok:=fun b=>(ok b/\b<w.heap.size)\/wd.heap.size<=b) w8 (((H.out.maze.bound.below D.out).below I).weaken (fun b hb=>.inl hb)) HL.out HC.out ((Mk.ints ⟨d7.out,I⟩).weaken (fun b hb=>.inr hb)) HI.out).mono ?_;rintro e w9 ⟨vp9,rfl,e1,e3⟩;have a0:za wd w9:=Below.trans I (e1.mono (I).size);have c0:Hid (PSt w9 (fun b=>(ok b\/w.heap.size<=b)/\b≠gm+1) m (.slice Af m.free.length cf) (.slice Au m.up.length cu) (.slice At m.tasks.length ct) (.slice A8 n8 cc8) vp9 (ch++[n])):=e3.weaken (fun b hb=>by have h1:=z.out;have h2:=L.out;have h3:=D.out.size;have h4:=(I).size;rcases hb with (hb | hb) | hb;exact ⟨.inl hb.1,by omega⟩;exact ⟨.inr (by omega),by omega⟩;exact ⟨.inr (by omega),by omega⟩);obtain ⟨_,_,_,_,_,_,_,_,Ap9,cp9,-,-,-,-,rfl,-,-⟩:=c0.out.parts;unfold CT;refine r.out _ _ (Below.trans B (Below.mono a0 (by have:=z.out;omega))) fun zH=>?_;clear r K;try simp only [zc,CV]
 refine Aa 9 fun K r=>?_;have d:ze w9 (gm+1) 70 _:=(HZ.out.ext HD.out).ext a0;have z0:=d.cell (k:=0) rfl;have z1:=d.cell (k:=1) rfl;have z2:=d.cell (k:=2) rfl;have z3:=d.cell (k:=3) rfl;have z4:=d.cell (k:=4) rfl;have z5:=d.cell (k:=5) rfl;have z6:=d.cell (k:=6) rfl;have z7:=d.cell (k:=7) rfl;have z8:=d.cell (k:=8) rfl;have hfz:∀j,w9.frozen? ⟨gm+1,j,none⟩=false:=fun j=>d.frozen j
 have a2:=zh d;clear d;go_simp;refine r.out _ _ (Below.trans (Below.trans B (Below.mono a0 (by have:=z.out;omega))) (Bp (gm+1) [.int .i64 m.w,.int .i64 m.h,.int .i64 m.l,.slice Af m.free.length cf,.slice Au m.up.length cu,.slice At m.tasks.length ct,.slice A8 n8 cc8,.slice Ap9 (zl m (ch++[n])).length cp9,.int .i64 (zD m (ch++[n]))] 0 w9)) fun zH=>?_;clear r K;try simp only [zc,CV]
 refine DB (by kernel_rfl) ?_ _;go_wp2;refine case_fin9 (P:=fun W=>bodyPost Tryz.prog Tryz.f78 _ Exit.ret _ W) (g2:=gm+1) ?_ a2.out;intro WZ o a7 b1;have y0:=o.cell (k:=0) rfl;have y1:=o.cell (k:=1) rfl;have y2:=o.cell (k:=2) rfl;have y3:=o.cell (k:=3) rfl;have y4:=o.cell (k:=4) rfl;have y5:=o.cell (k:=5) rfl;have y6:=o.cell (k:=6) rfl;have y7:=o.cell (k:=7) rfl;have y8:=o.cell (k:=8) rfl;refine DM (v:=CT m (.slice Af m.free.length cf) (.slice Au m.up.length cu) (.slice At m.tasks.length ct) (.slice A8 n8 cc8) (.slice Ap9 (zl m (ch++[n])).length cp9) (zD m (ch++[n]))) (by simp [results,Tryz.results78,go_sem,y0,y1,y2,y3,y4,y5,y6,y7,y8,CT]) rfl ⟨_,_,rfl,?_,?_⟩
 ·exact Below.trans (D.out.trans (Below.mono a0 (CY _))) (a7.mono (by have:=L.out;omega))
 ·exact (c0.out.keep (fun b hb b2=>b1 b b2 hb.2)).weaken (fun b hb=>hb.1)
end
section
open Go.RowKit
attribute [local go_sem ↓] Go.wp_at_zero Go.wp_at_succ
theorem Tryz.infoProof:(Tryz.prog.info? 27).map (fun i=>(i.zero,i.size,i.bytes))=some (some (.agg #[.int .i64 0,.slice none 0 0,.slice none 0 0]),3,56):=by kernel_rfl
theorem BQ:ElemI 25 27 (.agg #[.int .i64 0,.slice none 0 0,.slice none 0 0]) 3 56:=⟨Tryz.underlying25,Tryz.infoProof,rfl,by decide⟩
inductive zV (w:World) (ok:Nat->Prop):Value->PT->Prop
 | mk {t:Int} {side:List Int} {kids:List PT} {vs vk:Value} {cs:List Value} (hs:zk w ok vs side) (hk:Ay w ok 3 vk kids.length cs)
  (he:∀(i:Nat) (hi:i<kids.length),zV w ok (.agg #[cs.getD (i*3) undef,cs.getD (i*3+1) undef,cs.getD (i*3+2) undef]) kids[i]):zV w ok (.agg #[.int .i64 t,vs,vk]) (.node t side kids)
theorem zV.keepW {ok':Nat->Prop} {p:PT} (h:zV w ok v p) (d:zK ok w w') (o:∀b,ok b->ok' b):zV w' ok' v p:=by
 induction h with
 | mk h1 h2 _ ih=>exact .mk ((h1.keep d).weaken o) ((h2.keep d).weaken o) ih
theorem zV.ext {p:PT} (h:zV w ok v p) (d:za w w'):zV w' ok v p:=h.keepW (zK.of_below d) (fun _ h=>h)
theorem zV.zero (w:World) (ok:Nat->Prop):zV w ok (.agg #[.int .i64 0,.slice none 0 0,.slice none 0 0]) PT.zero:=
 .mk (cs:=[]) (zk.nil _ _) ⟨none,0,rfl,CY _,Aj.nil _ _ _ _⟩ (fun i d=>absurd d (by simp))
theorem zV.form {p:PT} (h:zV w ok v p):∃As cs Ak ck,v=.agg #[.int .i64 p.task,.slice As p.side.length cs,.slice Ak p.kids.length ck]/\zk w ok (.slice As p.side.length cs) p.side:=by
 cases h with
 | mk h1 h2 _=>
  have d:=h1;obtain ⟨As,cs,rfl,-,-⟩:=h1;obtain ⟨Ak,ck,rfl,-,-⟩:=h2;exact ⟨As,cs,Ak,ck,rfl,d⟩
theorem prove1_calls {gs gt:Nat} {At:Option Addr} {ct tk:Nat} (x:Int) (w:World) (I:w.cell? ⟨gs,5,none⟩=some (.slice At m.tasks.length ct)) (ht:w.cell? ⟨gt,0,none⟩=some (.int .i64 tk)) (r:Bd w ok (.slice At m.tasks.length ct) m.tasks) (B:Lens m) (d:tk<m.tasks.length):
  Calls Tryz.prog 89 #[.int .i64 x,.pointer (some ⟨gs,0,none⟩),.pointer (some ⟨gt,0,none⟩)] w fun e w'=>e=.returned (.bool (decide (x∈(m.tasks.getD tk ([],[])).2)))/\w=w':=by
 obtain ⟨bt,offt,sn,u1,u2,rfl,-,-,-,E,-,o⟩:=CC r d;have G:=(B.tl _ (CZ d)).2;have z:(m.tasks.getD tk ([],[])).2=(m.tasks[tk]).2:=by rw [zgd d]
 rw [z];have D:=zh o;obtain ⟨Au,cu,rfl,-,-⟩:=o;have k0:(0:Int)<=(tk:Int):=by omega
 have k1:(tk:Int)<(m.tasks.length:Int):=by omega
 clear B r z
 go_enter Tryz.func89,Tryz.ntmps89
 go_wp2_with fail
 refine (zS x w D.out (by omega)).mono ?_;rintro e w9 ⟨rfl,rfl⟩
 go_wp2_with fail
 go_ret;exact ⟨rfl,rfl⟩
theorem box3 (w:World) (a0 a1 a2:Value):za w (w.alloc (.cells #[a0,a1,a2] 27))/\
  (∀W,za (w.alloc (.cells #[a0,a1,a2] 27)) W->W.cell? ⟨w.heap.size,0,none⟩=some a0)/\(∀W,za (w.alloc (.cells #[a0,a1,a2] 27)) W->W.cell? ⟨w.heap.size,1,none⟩=some a1)/\(∀W,za (w.alloc (.cells #[a0,a1,a2] 27)) W->W.cell? ⟨w.heap.size,2,none⟩=some a2):=by
 have d:=ze.new w #[a0,a1,a2] 27 rfl;exact ⟨(za.refl w).alloc _,za.rule (d.cell (k:=0) rfl),za.rule (d.cell (k:=1) rfl),za.rule (d.cell (k:=2) rfl)⟩
def Cg (N:Int) (tg s:List Int) (i:Nat):Prop:=0<=s.getD i 0/\s.getD i 0<N/\(0<i->s.getD (i - 1) 0<s.getD i 0)/\s.getD i 0∉tg
theorem incB_iff {N:Int}:∀{l:List Int} {b:Int},incB N b l=true↔∀i,i<l.length->(b :: l).getD i 0<l.getD i 0/\l.getD i 0<N
 | [],b=>by simp [incB]
 | x :: l,b=>by
  unfold incB;rw [Dm,Dm,Dj,Dj,incB_iff];constructor
  ·rintro ⟨h1,h2,o⟩ i d
   cases i with
   | zero=>exact ⟨by simpa using h1,by simpa using h2⟩
   | succ i=>simpa using o i (by simpa using d)
  ·intro h;refine ⟨by simpa using (h 0 (by simp)).1,by simpa using (h 0 (by simp)).2,fun i d=>?_⟩;simpa using h (i+1) (by simpa using d)
theorem side_iff {N:Int} {tg:List Int}:(incB N (-1) s && !(s.any fun n=>decide (n∈tg)))=true↔∀i,i<s.length->Cg N tg s i:=by
 rw [Dm,incB_iff,Bool.not_eq_true',<-Bool.not_eq_true,DS];constructor
 ·rintro ⟨h1,h2⟩ i d;have o:s.getD i 0∈s:=by rw [CX,CW d];exact CZ d
  have r:∀j,j<s.length->0<=s.getD j 0:=by
   intro j
   induction j with
   | zero=>intro z;have:=(h1 0 z).1;simp at this⊢;omega
   | succ j ih=>intro z;have:=(h1 (j+1) z).1;have E:=ih (by omega);rw [List.getD_cons_succ] at this;omega
  refine ⟨r i d,(h1 i d).2,fun h0=>?_,fun h=>h2 ⟨_,o,by simpa using h⟩⟩;have:=(h1 i d).1;obtain ⟨j,rfl⟩:∃j,i=j+1:=⟨i - 1,by omega⟩;rw [List.getD_cons_succ] at this;simpa using this
 ·intro h;refine ⟨fun i d=>⟨?_,(h i d).2.1⟩,?_⟩
  ·cases i with
   | zero=>have:=(h 0 d).1;simp at this⊢;omega
   | succ j=>have:=(h (j+1) d).2.2.1 (by omega);rw [List.getD_cons_succ];simpa using this
  ·rintro ⟨x,D,B⟩;obtain ⟨i,d,rfl⟩:=DC D;refine (h i d).2.2.2 ?_;rw [CX,CW d];simpa using B
theorem nextO_len (m:MZ) (x:Int):(Bz m x).length<=6:=by
 unfold Bz
 split
 ·exact Cl m x
 ·simp
theorem nextO_rng (g:AF m) {x y:Int} (h:y∈Bz m x):0<=y/\y<m.n:=by
 unfold Bz at h
 split at h
 ·next h1=>exact Bc g.dim h1.2.1 h1.2.2 h
 ·cases h
theorem headP_le {t:Nat} (d:Lens m) (ht:t<m.tasks.length):(AC m ch t).length<=20000000000000:=by
 unfold AC
 split
 ·cases ((zl m ch).getD t []).getLast? <;> simp
 ·refine Da (DA _ _) ?_;rw [CX,CW ht];have:=(d.tl _ (CZ ht)).1;show (m.tasks[t]).1.length<=_;omega
end
section
open Go.RowKit
attribute [local go_sem ↓] Go.wp_at_zero Go.wp_at_succ
attribute [local go_sem] Oper.semAt_some
mutual
def PT.Lens:PT->Prop
 | .node _ s ks=>s.length<=20000000000000/\ks.length<=20000000000000/\PT.LensL ks
def PT.LensL:List PT->Prop
 | []=>True
 | k :: ks=>k.Lens/\PT.LensL ks
end
theorem lensL_mem:∀{ks:List PT},PT.LensL ks->∀k∈ks,k.Lens
 | [],_,k,hk=>by cases hk
 | a :: ks,h,k,hk=>by
  unfold PT.LensL at h;rcases DJ.1 hk with rfl | hk
  ·exact h.1
  ·exact lensL_mem h.2 k hk
theorem size_mem:∀{ks:List PT},∀k∈ks,k.size<=PT.sizeL ks
 | [],k,hk=>by cases hk
 | a :: ks,k,hk=>by
  unfold PT.sizeL;rcases DJ.1 hk with rfl | hk
  ·omega
  ·have:=size_mem k hk;omega
theorem kidsAt {A:Option Addr} {n:Nat} {cs:List Value} (h:Aj w ok 3 A n cs) (z:k<n):∃b off,A=some ⟨b,off,none⟩/\w.cell? ⟨b,off+k*3,none⟩=some (cs.getD (k*3) undef)/\w.cell? ⟨b,off+k*3+1,none⟩=some (cs.getD (k*3+1) undef)/\w.cell? ⟨b,off+k*3+2,none⟩=some (cs.getD (k*3+2) undef):=by
 obtain ⟨B,d⟩:=h;obtain ⟨b,off,rfl,-,d⟩:=d (by omega);have o:∀j,j<cs.length->cs[j]?=some (cs.getD j undef):=fun j r=>by rw [CW r,CX,CW r];rfl
 exact ⟨b,off,rfl,d _ _ (o _ (by omega)),by rw [Nat.add_assoc];exact d _ _ (o _ (by omega)),by rw [Nat.add_assoc];exact d _ _ (o _ (by omega))⟩
theorem holdsT_node {t:Int} {ks:List PT} (h:¬ m.tasks.length<=zD m ch):AB m (.node t s ks) ch=if t≠zD m ch\/s≠[] then cutB m ch t s ks.length else AA m ks ch (zP m ch):=by
 unfold AB;rw [if_neg h]
theorem holdsL_len {m:MZ} {ch:List Int}:∀{ks:List PT} {l:List Int},ks.length≠l.length->AA m ks ch l=false
 | [],[],h=>absurd rfl h
 | k :: ks,n :: l,h=>by
  unfold AA;rw [holdsL_len (by simpa using h),Bool.and_false]
 | [],_ :: _,_=>by unfold AA;rfl
 | _ :: _,[],_=>by unfold AA;rfl
theorem holdsL_drop {ks:List PT} {l:List Int} (h1:k<ks.length) (h2:k<l.length):AA m (ks.drop k) ch (l.drop k)=(AB m ks[k] (ch++[l[k]]) && AA m (ks.drop (k+1)) ch (l.drop (k+1))):=by
 rw [List.drop_eq_getElem_cons h1,List.drop_eq_getElem_cons h2]
 conv=>lhs;unfold AA
theorem holdsT_done {p:PT} (h:m.tasks.length<=zD m ch):AB m p ch=false:=by
 cases p
 unfold AB;rw [if_pos h]
end
section
open Go.RowKit Go.Shelf
attribute [local go_sem ↓] Go.wp_at_zero Go.wp_at_succ
attribute [local go_sem] Oper.semAt_some
mutual
def zI:PT->List UInt8
 | .node t s ks=>(wI t++wL s)++wI (ks.length:Nat)++zC ks
def zC:List PT->List UInt8
 | []=>[]
 | k :: ks=>zI k++zC ks
end
mutual
def PT.Ok:PT->Prop
 | .node t s ks=>Cp t/\(∀x∈s,Cp x)/\s.length<=1000000000000/\ks.length<=1000000000000/\PT.OkL ks
def PT.OkL:List PT->Prop
 | []=>True
 | k :: ks=>k.Ok/\PT.OkL ks
end
theorem okL_mem:∀{ks:List PT},PT.OkL ks->∀k∈ks,k.Ok
 | [],_,k,hk=>by cases hk
 | a :: ks,h,k,hk=>by
  unfold PT.OkL at h;rcases DJ.1 hk with rfl | hk
  ·exact h.1
  ·exact okL_mem h.2 k hk
theorem BR:∀{ks:List PT} {k:Nat} (d:k<ks.length),zC (ks.take (k+1))=zC (ks.take k)++zI ks[k]
 | a :: ks,0,_=>by simp [zC]
 | a :: ks,k+1,d=>by
  have h:=BR (ks:=ks) (k:=k) (by simpa using d);simp only [List.take_succ_cons,zC,List.getElem_cons_succ,h,List.append_assoc]
theorem encPs_le:∀(ks:List PT) (k:Nat),(zC (ks.take k)).length<=(zC ks).length
 | [],k=>by simp
 | a :: ks,0=>by simp [zC]
 | a :: ks,k+1=>by
  have h:=encPs_le ks k;simp only [List.take_succ_cons,zC,Dh];omega
theorem encP_mem:∀{ks:List PT},∀k∈ks,(zI k).length<=(zC ks).length/\k.size<=PT.sizeL ks
 | [],k,hk=>by cases hk
 | a :: ks,k,hk=>by
  simp only [zC,PT.sizeL,Dh];rcases DJ.1 hk with rfl | hk
  ·omega
  ·have:=encP_mem k hk;omega
theorem Cj:∀(N:Nat) {ok:Nat->Prop} {v:Value} {p:PT} (w:World),z9 w->zV w ok v p->p.size<=N->p.Ok->(zI p).length<=9223372036854775000->
  Calls Tryz.prog 14 #[v] w fun e w'=>e=.returned (.string ⟨(zI p).toArray⟩)/\za w w'
 | 0,ok,v,.node t s ks,w,_,h,hN,_,_=>by unfold PT.size at hN;omega
 | N+1,ok,v,.node t s ks,w,hv,h,hN,hl,hL=>by
  have IH:Hid (∀(ok:Nat->Prop) (v:Value) (p:PT) (w:World),z9 w->zV w ok v p->p.size<=N->p.Ok->(zI p).length<=9223372036854775000->Calls Tryz.prog 14 #[v] w fun e w'=>e=.returned (.string ⟨(zI p).toArray⟩)/\za w w'):=fun ok v p w=>Cj N w
  cases h with
  | mk hs hk he=>
   rename_i vs vk cs
   have HS:=zh hs;obtain ⟨As,cs',rfl,-,-⟩:=hs;obtain ⟨Ak,ck,rfl,f1,b2⟩:=hk;have b9:=zh b2;have b6:=zh he;have HV:=zh hv;unfold PT.Ok at hl;obtain ⟨a6,a7,a8,f2,a9⟩:=hl;have b8:=zh (okL_mem a9);have c0:Hid (∀k∈ks,(zI k).length<=(zC ks).length/\k.size<=PT.sizeL ks):=encP_mem;unfold PT.size at hN;unfold zI at hL⊢;obtain ⟨x1,L⟩:∃x,x=wI t:=⟨_,rfl⟩;obtain ⟨x2,M⟩:∃x,x=wL s:=⟨_,rfl⟩;obtain ⟨x3,O⟩:∃x,x=wI (ks.length:Nat):=⟨_,rfl⟩;rw [<-L,<-M,<-O] at hL⊢;have H1:Hid (∀W,za w W->Calls Tryz.prog 36 #[.int .i64 t] W fun e w'=>e=.returned (.string ⟨x1.toArray⟩)/\za W w'):=fun W hW=>by rw [L];exact wInt_calls W (HV.out.ext hW) a6
   have H2:Hid (∀W,za w W->Calls Tryz.prog 37 #[.slice As s.length cs'] W fun e w'=>e=.returned (.string ⟨x2.toArray⟩)/\za W w'):=fun W hW=>by rw [M];exact wireInts_calls W (HV.out.ext hW) (HS.out.below hW) a7 a8
   have H3:Hid (∀W,za w W->Calls Tryz.prog 36 #[.int .i64 (ks.length:Nat)] W fun e w'=>e=.returned (.string ⟨x3.toArray⟩)/\za W w'):=fun W hW=>by rw [O];exact wInt_calls W (HV.out.ext hW) ⟨by omega,by omega⟩
   obtain ⟨xs,z⟩:=DX (x1++(x2++x3));rw [List.append_assoc x1 x2 x3,<-z] at hL⊢;have d7:xs.length=x1.length+(x2.length+x3.length):=by rw [z];simp
   simp only [Dh] at hL;have a1:∀w,(Op.stringOp .add ⟨x1.toArray⟩ ⟨x2.toArray⟩).run Tryz.prog w=.ok (.string ⟨(x1++x2).toArray⟩) w:=fun w=>Ab (by omega)
   have a2:∀w,(Op.stringOp .add ⟨(x1++x2).toArray⟩ ⟨x3.toArray⟩).run Tryz.prog w=.ok (.string ⟨xs.toArray⟩) w:=fun w=>by rw [z,<-List.append_assoc];exact Ab (by simp;omega)
   have HL:Hid (xs.length+(zC ks).length<=9223372036854775000):=hL;clear b2 he a9 hv L M O a6 a7 a8 hL z d7
   go_enter Tryz.func14,Tryz.ntmps14
   go_upto_region 1 with fail;obtain ⟨D,p0,p1,p2⟩:=box3 w (.int .i64 t) (.slice As s.length cs') (.slice Ak ks.length ck);generalize w.alloc _=w1 at D p0 p1 p2⊢;obtain ⟨gp,a5⟩:=DX w.heap.size;rw [<-a5] at p0 p1 p2⊢;have d:=zh D;have J:za w1 w1:=za.refl w1;clear D a5;refine Dp (S:=(fun W=>za w1 W)) An (J.drew) fun zH=>?_;have a4:za w1 w1.drew:=zH;generalize w1.drew=wd at zH a4⊢;refine zj 0 zH ?_;refine zj 1 zH ?_;simp only [zc,CV];refine zj 3 zH ?_;refine zj 4 zH ?_;simp only [zc,CV];refine zj 7 zH ?_;refine zj 8 zH ?_;simp only [zc,CV];refine zj 9 zH ?_;simp only [zc,CV];refine Aa 2 fun K B=>?_;go_simp;go_at_call 36;refine (H1.out _ (d.out.trans zH)).mono ?_;rintro e w2 ⟨rfl,c8⟩;go_simp;refine DY B (zH.trans c8) fun zH=>?_;clear B K;try simp only [zc,CV]
   refine Aa 5 fun K B=>?_;go_simp;go_at_call 37;refine (H2.out _ (d.out.trans zH)).mono ?_;rintro e w3 ⟨rfl,c9⟩;go_simp;refine DY B (zH.trans c9) fun zH=>?_;clear B K;try simp only [zc,CV]
   refine zj 6 zH ?_;simp only [zc,CV];refine Aa 10 fun K B=>?_;go_simp;go_at_call 36;refine (H3.out _ (d.out.trans zH)).mono ?_;rintro e w4 ⟨rfl,d4⟩;go_simp;refine DY B (zH.trans d4) fun zH=>?_;clear B K;try simp only [zc,CV]
   refine zj 11 zH ?_;refine zj 12 zH ?_;simp only [zc,CV];refine DB (by kernel_rfl) ?_ _;have a0:=zh zH;clear a1 a2 H1 H2 H3
   go_wp2_with fail
   clear zH a4 J;go_loopw [3,21] (fun n i wr=>∃k:Nat,k<=ks.length/\i=.int .i64 k/\n=.string ⟨(xs++zC (ks.take k)).toArray⟩/\Hid (za w1 wr)) (fun _ i _=>ks.length - (intOf i).toNat)
   case atStart=>exact ⟨0,Do _,rfl,by simp [zC],a0.out⟩
   clear a0
   case round=>
    obtain ⟨k,hk,rfl,rfl,hE⟩:=hrel;obtain ⟨wk,rfl⟩:∃wk:World,wk=wr:=⟨_,rfl⟩;have J:za w1 wk:=hE.out;by_cases o:k<ks.length
    ·have e7:(k:Int)<(ks.length:Int):=by omega
     have kk0:(0:Int)<=(k:Int):=by omega
     obtain ⟨b,off,rfl,h0,h1,h2⟩:=kidsAt b9.out o;have q0:=za.rule (d.out.cell h0);have q1:=za.rule (d.out.cell h1);have q2:=za.rule (d.out.cell h2);have r:=b6.out k o;obtain ⟨A1,c1,A2,c2,e,-⟩:=r.form;obtain ⟨v0,E⟩:∃v,v=cs.getD (k*3) undef:=⟨_,rfl⟩;obtain ⟨v1,G⟩:∃v,v=cs.getD (k*3+1) undef:=⟨_,rfl⟩;obtain ⟨v2,I⟩:∃v,v=cs.getD (k*3+2) undef:=⟨_,rfl⟩;rw [<-E,<-G,<-I] at r e;rw [<-E] at q0;rw [<-G] at q1;rw [<-I] at q2;injection e with e;have e0:=congrArg (fun a:Array Value=>a[0]?) e;have e1:=congrArg (fun a:Array Value=>a[1]?) e;have e2:=congrArg (fun a:Array Value=>a[2]?) e;simp at e0 e1 e2;subst e0 e1 e2;have b1:=c0.out _ (CZ o);have HK:Hid (∀W,za w W->Calls Tryz.prog 14 #[_] W fun e w'=>e=.returned (.string ⟨(zI ks[k]).toArray⟩)/\za W w'):=fun W hW=>IH.out _ _ _ W (HV.out.ext hW) (r.ext hW) (by omega) (b8.out _ (CZ o)) (by have:=HL.out;omega)
     have V:Hid (xs++zC (ks.take (k+1))=(xs++zC (ks.take k))++zI ks[k]):=by (show _=_);rw [BR o,List.append_assoc]
     have b0:=encPs_le ks (k+1);rw [BR o,Dh] at b0;have d5:=HL.out;obtain ⟨y1,Q⟩:∃y,y=xs++zC (ks.take k):=⟨_,rfl⟩;obtain ⟨y2,U⟩:∃y,y=zI ks[k]:=⟨_,rfl⟩;have ha:∀w,(Op.stringOp .add ⟨y1.toArray⟩ ⟨y2.toArray⟩).run Tryz.prog w=.ok (.string ⟨(y1++y2).toArray⟩) w:=fun w=>Ab (by rw [Q,U,Dh];omega)
     rw [<-Q] at V⊢;rw [<-U] at V HK;have c6:Hid (za w wk):=d.out.trans J;clear Q U d5 b0 b1 r e E G I h0 h1 h2
     go_wp2_with fail
     refine (HK.out _ (c6.out.alloc _)).mono ?_;rintro e w5 ⟨rfl,a3⟩;have b4:Hid (za w1 w5):=(J.alloc _).trans a3;clear a3 J HK q0 q1 q2
     go_wp2_with fail
     go_roundw
     case rel=>exact ⟨k+1,by omega,by go_num,by rw [V.out],b4⟩
     case measure=>simp [intOf];omega
    ·obtain rfl:k=ks.length:=by omega
     have b5:Hid (za w wk):=d.out.trans hE.out;have V:Hid (xs++zC (ks.take ks.length)=xs++zC ks):=by (show _=_);rw [Dl]
     rw [V.out];clear V hE J
     go_wp2_with fail
     go_ret;exact ⟨rfl,b5.out⟩
end
section
open Go.RowKit
def dgB (u:Nat):UInt8:=UInt8.ofNat (48+u)
theorem Cd {u:Nat} (h:u<10):(dgB u).toNat=48+u:=by
 unfold dgB;rw [UInt8.toNat_ofNat'];omega
theorem Bn {u:Nat} (h:u<10):Lib.decDigits u=[dgB u]:=by rw [Lib.decDigits,dif_pos h];rfl
theorem dec_big {u:Nat} (h:¬ u<10):Lib.decDigits u=Lib.decDigits (u / 10)++[dgB (u % 10)]:=by
 conv=>lhs;rw [Lib.decDigits,dif_neg h]
 rfl
theorem AX (h:0<=n):Lib.itoa n=Lib.decDigits n.toNat:=by unfold Lib.itoa;rw [if_neg (by omega)]
theorem BU (h:n<0):Lib.itoa n=45 :: Lib.decDigits n.natAbs:=by unfold Lib.itoa;rw [if_pos h]
theorem itoa_one (h0:0<=n) (h1:n<10):Lib.itoa n=[dgB n.toNat]:=by rw [AX h0,Bn (by omega)]
theorem itoa_sign (h0:n<0) (h1:n.tdiv 10=0):Lib.itoa n=45 :: Lib.itoa (-(n.tmod 10)):=by
 obtain ⟨k,rfl⟩:∃k:Nat,n=-(k:Int):=⟨n.natAbs,by omega⟩;have e1:(-(k:Int)).tdiv 10=-((k / 10:Nat):Int):=by rw [Int.neg_tdiv];rfl
 have e2:(-(k:Int)).tmod 10=-((k % 10:Nat):Int):=by rw [Int.neg_tmod];rfl
 rw [e1] at h1;rw [e2,Int.neg_neg,BU h0,AX (by omega)];have:(-(k:Int)).natAbs=k:=by omega
 rw [this,DL,Nat.mod_eq_of_lt (by omega)]
theorem itoa_more (h0:n<0) (h1:n.tdiv 10≠0):Lib.itoa n=Lib.itoa (n.tdiv 10)++Lib.itoa (-(n.tmod 10)):=by
 obtain ⟨k,rfl⟩:∃k:Nat,n=-(k:Int):=⟨n.natAbs,by omega⟩;have e1:(-(k:Int)).tdiv 10=-((k / 10:Nat):Int):=by rw [Int.neg_tdiv];rfl
 have e2:(-(k:Int)).tmod 10=-((k % 10:Nat):Int):=by rw [Int.neg_tmod];rfl
 rw [e1] at h1⊢;rw [e2,Int.neg_neg,BU h0,BU (by omega),AX (by omega)];have a1:(-(k:Int)).natAbs=k:=by omega
 have a2:(-((k / 10:Nat):Int)).natAbs=k / 10:=by omega
 rw [a1,a2,DL,dec_big (by omega),Bn (Nat.mod_lt _ (by decide))];rfl
theorem itoa_plus (h0:0<=n) (h1:¬ n<10):Lib.itoa n=Lib.itoa (n.tdiv 10)++Lib.itoa (n.tmod 10):=by
 obtain ⟨k,rfl⟩:∃k:Nat,n=(k:Int):=⟨n.toNat,by omega⟩;have e1:((k:Int)).tdiv 10=((k / 10:Nat):Int):=rfl;have e2:((k:Int)).tmod 10=((k % 10:Nat):Int):=rfl;rw [e1,e2,AX h0,AX (by omega),AX (by omega),DL,DL,DL,dec_big (by omega),Bn (u:=k % 10) (Nat.mod_lt _ (by decide))]
def zz:List UInt8->Int->Option Int
 | [],n=>some n
 | c :: l,n=>if (c.toNat:Int) - 48<0\/9<(c.toNat:Int) - 48\/n< -922337203685477580\/(n=-922337203685477580/\8<(c.toNat:Int) - 48) then none else zz l (10*n - ((c.toNat:Int) - 48))
theorem refDig_app:∀(a b:List UInt8) (n:Int),zz (a++b) n=(zz a n).bind (zz b)
 | [],b,n=>rfl
 | c :: a,b,n=>by
  simp only [List.cons_append,zz]
  split
  ·rfl
  ·exact refDig_app a b _
theorem refDig_dec (u:Nat) (h:u<=9223372036854775808):zz (Lib.decDigits u) 0=some (-(u:Int)):=by
 induction u using Nat.strongRecOn with
 | ind u ih=>
  by_cases d:u<10
  ·rw [Bn d];have:=Cd d;simp only [zz,this];rw [if_neg (by omega)];congr 1;omega
  ·rw [dec_big d,refDig_app,ih (u / 10) (by omega) (by omega)];have:=Cd (Nat.mod_lt u (show 0<10 by decide));simp only [Option.bind_some,zz,this];rw [if_neg (by omega)];congr 1;omega
theorem CA:∀(l:List UInt8) (n v:Int),n<=0->-9223372036854775808<=n->zz l n=some v->v<=0/\-9223372036854775808<=v
 | [],n,v,h0,h1,h=>by
  injection h with h;omega
 | c :: l,n,v,h0,h1,h=>by
  simp only [zz] at h
  split at h
  ·cases h
  ·exact CA l _ v (by omega) (by omega) h
def Aw (a:List UInt8):Option Int:=
 if a.head?=some 45 then (zz a.tail 0).bind fun n=>if Lib.itoa n=a then some n else none
 else (zz a 0).bind fun n=>if n=-9223372036854775808 then none else if Lib.itoa (-n)=a then some (-n) else none
theorem dec_head (u:Nat):∃k,k<10/\∃l,Lib.decDigits u=dgB k :: l:=by
 induction u using Nat.strongRecOn with
 | ind u ih=>
  by_cases d:u<10
  ·exact ⟨u,d,[],Bn d⟩
  ·obtain ⟨k,o,l,h⟩:=ih (u / 10) (by omega);exact ⟨k,o,l++[dgB (u % 10)],by rw [dec_big d,h];rfl⟩
theorem refNum_of {v:Int} (h:Cp v):Aw (Lib.itoa v)=some v:=by
 obtain ⟨h0,h1⟩:=h;unfold Aw;by_cases r:v<0
 ·have e:=BU r;rw [if_pos (by rw [e];rfl)];have e2:(Lib.itoa v).tail=Lib.decDigits v.natAbs:=by rw [e];rfl
  rw [e2,refDig_dec _ (by omega),Option.bind_some];have e3:-((v.natAbs:Nat):Int)=v:=by omega
  rw [e3,if_pos rfl]
 ·have e:=AX (n:=v) (by omega);obtain ⟨k,o,l,d⟩:=dec_head v.toNat
  rw [if_neg (by
   rw [e,d];intro hh;injection hh with hh;have:=Cd o;rw [hh] at this;simp at this;omega)]
  have e2:zz (Lib.itoa v) 0=some (-(v.toNat:Int)):=by rw [e];exact refDig_dec _ (by omega)
  rw [e2,Option.bind_some,if_neg (by omega)];have e3:-(-(v.toNat:Int))=v:=by omega
  rw [e3,if_pos rfl]
theorem refNum_some {a:List UInt8} {v:Int} (h:Aw a=some v):Cp v/\Lib.itoa v=a:=by
 unfold Aw at h
 split at h
 ·cases d:zz a.tail 0 with
  | none=>rw [d] at h;cases h
  | some n=>
   rw [d,Option.bind_some] at h;have:=CA _ _ _ (by omega) (by omega) d
   split at h
   ·rename_i he
    injection h with h;subst h;exact ⟨⟨by omega,by omega⟩,he⟩
   ·cases h
 ·cases d:zz a 0 with
  | none=>rw [d] at h;cases h
  | some n=>
   rw [d,Option.bind_some] at h;have:=CA _ _ _ (by omega) (by omega) d
   split at h
   ·cases h
   ·split at h
    ·rename_i o he
     injection h with h;subst h;exact ⟨⟨by omega,by omega⟩,he⟩
    ·cases h
theorem parse_dec (u:Nat) (h:u<=9223372036854775808):Lib.parseUint10 0 (Lib.decDigits u)=.ok u:=by
 have app:∀(a b:List UInt8) (n m:Nat),Lib.parseUint10 n a=.ok m->Lib.parseUint10 n (a++b)=Lib.parseUint10 m b:=by
  intro a
  induction a with
  | nil=>intro b n m h;simp only [Lib.parseUint10] at h;injection h with h;subst h;rfl
  | cons c a ih=>
   intro b n m h;simp only [List.cons_append,Lib.parseUint10] at h⊢
   split at h
   ·rename_i h1
    rw [if_pos h1]
    split at h
    ·cases h
    ·rename_i h2
     rw [if_neg h2]
     split at h
     ·cases h
     ·rename_i o
      rw [if_neg o];exact ih b _ _ h
   ·cases h
 induction u using Nat.strongRecOn with
 | ind u ih=>
  by_cases d:u<10
  ·rw [Bn d];have:=Cd d;simp only [Lib.parseUint10,this];rw [if_pos (by omega),if_neg (by omega),if_neg (by omega)];congr 1;omega
  ·rw [dec_big d,app _ _ _ _ (ih (u / 10) (by omega) (by omega))];have:=Cd (Nat.mod_lt u (show 0<10 by decide));simp only [Lib.parseUint10,this];rw [if_pos (by omega),if_neg (by omega),if_neg (by omega)];congr 1;omega
theorem atoi_itoa {v:Int} (h:Cp v):Lib.atoiAll (Lib.itoa v)=.ok v:=by
 obtain ⟨h0,h1⟩:=h;by_cases D:v<0
 ·have hp:=parse_dec v.natAbs (by omega);have r:Lib.decDigits v.natAbs≠[]:=by obtain ⟨k,-,l,o⟩:=dec_head v.natAbs;rw [o];simp
  have d:Lib.parseMag (Lib.decDigits v.natAbs)=.ok v.natAbs:=by unfold Lib.parseMag;rw [if_neg r];exact hp
  rw [BU D];unfold Lib.atoiAll;have e:(45:UInt8).toNat=45:=rfl;simp only [e];rw [if_pos (Or.inr trivial),d];simp only [true_and,not_true,false_and,if_false,if_true];rw [if_neg (by omega)];congr 1;omega
 ·have hp:=parse_dec v.toNat (by omega);obtain ⟨k,z,l,o⟩:=dec_head v.toNat;have B:=Cd z;have d:Lib.parseMag (dgB k :: l)=.ok v.toNat:=by unfold Lib.parseMag;rw [if_neg (by simp),<-o];exact hp
  have n43:(dgB k).toNat≠43:=by omega
  have n45:(dgB k).toNat≠45:=by omega
  rw [AX (by omega),o];unfold Lib.atoiAll;simp only [n43,n45,or_self,if_false,not_false_eq_true,true_and,false_and];rw [d];simp only;rw [if_neg (by omega)];congr 1;omega
theorem numP_ref (c:UInt8) (l:List UInt8):numP c l=(AP c l).bind fun p=>(Aw p.1).map fun v=>(v,p.2):=by
 unfold numP
 cases AP c l with
 | none=>rfl
 | some p=>
  obtain ⟨a,b⟩:=p;simp only [Option.bind_some]
  cases d:Aw a with
  | some v=>
   obtain ⟨h1,h2⟩:=refNum_some d;have:=atoi_itoa h1;rw [h2] at this;rw [this];simp only;rw [if_pos h2];rfl
  | none=>
   rcases o:Lib.atoiAll a with v | _ | _
   ·simp only;rw [if_neg]
    ·rfl
    ·intro he;have:=Lib.atoiAll_bounds o;have:=refNum_of (v:=v) ⟨this.1,this.2⟩;rw [he,d] at this;cases this
   ·rfl
   ·rfl
end
section
open Go.RowKit
attribute [local go_sem ↓] Go.wp_at_zero Go.wp_at_succ
def dmk (l:List UInt8):ByteArray:=⟨l.toArray⟩
def strI (ns:List Int):ByteArray:=ns.foldl (fun r n=>r.push (UInt8.ofNat n.toNat)) ByteArray.empty
theorem strI_eq (ns:List Int):strI ns=dmk (ns.map fun n=>UInt8.ofNat n.toNat):=by
 have h:∀(ns:List Int) (r:ByteArray),ns.foldl (fun r n=>r.push (UInt8.ofNat n.toNat)) r=⟨r.data++(ns.map fun n=>UInt8.ofNat n.toNat).toArray⟩:=by
  intro ns
  induction ns with
  | nil=>intro r;simp
  | cons n ns ih=>intro r;simp only [List.foldl_cons];rw [ih];simp [ByteArray.push]
 unfold strI dmk;rw [h];simp [ByteArray.empty,ByteArray.emptyWithCapacity];rfl
theorem dconv_raw (w:World) (b:Nat) (ns:List Int) (t:TypeId) (fz:Nat×Nat) (c:Nat) (hh:w.heap[b]?=some (.cells (ns.map (Value.int .u8)).toArray t fz)):
  (convert 145 9 (.slice (some ⟨b,0,none⟩) ns.length c)).run Tryz.prog w=.ok (.string (strI ns)) w:=by
 rw [run_convert_bytes_string w 145 9 5 (some ⟨b,0,none⟩) ns.length c Tryz.underlying145 Tryz.underlying5 Tryz.underlying9]
 have d:=run_loadCells_list (P:=Tryz.prog) w ⟨b,0,none⟩ (ns.map (Value.int .u8)) (fun j v o=>by
  have:(⟨b,0,none⟩:Addr).add j=⟨b,j,none⟩:=by unfold Addr.add;split <;> simp_all
  rw [this];unfold World.cell?;simp only [hh];simpa using o)
 rw [DF] at d;exact run_bytesToString w ⟨b,0,none⟩ ns.length c ns d
theorem dconv1 (w:World) (a0:Int):
  (convert 145 9 (.slice (some ⟨w.heap.size,0,none⟩) 1 1)).run Tryz.prog (w.alloc (.cells #[.int .u8 a0] 5))=
   .ok (.string (strI [a0])) (w.alloc (.cells #[.int .u8 a0] 5)):=
 dconv_raw _ _ [a0] 5 (0,0) 1 (DI _ _)
theorem dret_str {a b:ByteArray} (h:a=b):Ending.returned (.string a)=.returned (.string b):=by rw [h]
end
end Go.Proofs.YtcnaogdgjkpkmaaGreatDoor
