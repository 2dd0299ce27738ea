import Derived.Test.YtjomnbdjajjgfaaGreatDoorWKm
set_option linter.unusedVariables false
set_option linter.unusedSimpArgs false
set_option maxRecDepth 100000
set_option maxHeartbeats 16000000
namespace Go.Proofs.YtjomnbdjajjgfaaGreatDoor
variable {ch s:List Int} {m:MZ} {k:Nat} {ok okc okp:Nat->Prop} {v vc vp:Value}
section
open Go.RowKit
attribute [local go_sem ↓] Go.wp_at_zero Go.wp_at_succ
theorem vhead_calls (tk:Nat) (w:World) (hm:zt w ok v m) (hl:Lens m) (hc:Bq m=0) (b8:zk w okc vc ch) (hi:zy m ch) (hp:zR w okp vp (zm m ch)) (a0:tk<m.tasks.length):
  Calls Tryz.prog 121 #[v,vc,vp,.int .i64 tk] w fun e w'=>∃v',e=.returned v'/\za w w'/\zk w' (fun b=>w.heap.size<=b) v' (Aj m ch tk):=by
 have a7:=zU hc hi;have G:=zh (AN.of hc);have HL:=zh hl;have f2:=zh G.out.fl;have e9:=zh b8;obtain ⟨Af,cf,Au,cu,At,ct,rfl,hf,-,d9⟩:=hm.parts;have HF:=zh hf;obtain ⟨Ac,cc,rfl,-,-⟩:=b8;obtain ⟨vps,⟨Ap,cp,rfl,Q,d7⟩,c0⟩:=hp;have f7:=zh d9;have b3:=zh d7;have f1:=zh c0;obtain ⟨PL,hP⟩:=EY ((zm m ch).length);rw [<-hP] at b3⊢;clear hf d9 d7 c0 hl hc hm Q;by_cases g9:tk<PL
 ·obtain ⟨i7,h9,-,d5⟩:=a7;have V:tk<(zm m ch).length:=by omega
  obtain ⟨bp,offp,up,rfl,-,Q,e0⟩:=Br b3.out f1.out g9 V;obtain ⟨a2,a4⟩:=d5 _ (DS V)
  have E:Hid (Aj m ch tk=((zm m ch)[tk]).getLast?.toList):=by
   show _=_;unfold Aj;rw [if_pos V,DP,DO V];rfl
  obtain ⟨P,b6⟩:=EY ((zm m ch)[tk]);rw [<-b6] at e0 a2 a4 E;clear b6 d5 hi;obtain ⟨q,x,rfl⟩:∃q x,P=q++[x]:=⟨P.dropLast,P.getLast a2,(List.dropLast_concat_getLast a2).symm⟩;obtain ⟨Aq,cq,rfl,b9,d8⟩:=e0;obtain ⟨bq,offq,e,-,U⟩:=zE d8 (k:=q.length) (by simp) (by simp);have U:w.cell? ⟨bq,offq+q.length,none⟩=some (.int .i64 x):=by rw [U];simp
  subst e;obtain ⟨N,hN⟩:=EY ((q++[x]).length);obtain ⟨n,hn⟩:=EY q.length;have g1:N=n+1:=by rw [hN,hn];simp
  rw [<-hN] at Q a4 b9;rw [<-hn] at U
  have f3:Hid (Aj m ch tk=[x]):=by
   show _=_;rw [E.out,List.getLast?_append];rfl
  clear d8 hN hn E a2 hP;have k0:(0:Int)<=(tk:Int):=by omega
  have k1:(tk:Int)<(PL:Int):=by omega
  have j1:IntKind.i64.wrap ((N:Int) - 1)=(n:Int):=by rw [Em];omega
  have i8:(0:Int)<=(n:Int):=by omega
  have i9:(n:Int)<(N:Int):=by omega
  have j0:(0:Int)<(N:Int):=by omega
  go_enter Tryz.func121,Tryz.ntmps121
  go_upto_region 1 with fail;obtain ⟨B,r0,r1,r2,r3,r4,r5⟩:=box6 w (.int .i64 m.w) (.int .i64 m.h) (.int .i64 m.l) (.slice Af m.free.length cf) (.slice Au m.up.length cu) (.slice At m.tasks.length ct);generalize w.alloc _=w1 at B r0 r1 r2 r3 r4 r5⊢;obtain ⟨gm,J⟩:=EY w.heap.size;rw [<-J] at r0 r1 r2 r3 r4 r5⊢;have i1:Hid (gm=w.heap.size):=J;clear J;have hx:za w1 w1:=za.refl w1;have o:=zh B;clear B;have qp:=za.rule (o.out.cell Q);have qx:=za.rule (o.out.cell U);clear Q g1 b9 V U
  go_wp2_with fail
  refine Eh (S:=(fun W=>za w1 W)) zI (hx.drew) fun zH=>?_;have a6:za w1 w1.drew:=zH;generalize w1.drew=wd at zH a6⊢;refine zg 0 zH ?_;refine zg 1 zH ?_;simp only [zb,DN];refine zg 2 zH ?_;refine zg 3 zH ?_;simp only [zb,DN];refine zg 4 zH ?_;refine zg 5 zH ?_;simp only [zb,DN];refine zg 6 zH ?_;refine zg 7 zH ?_;simp only [zb,DN];refine zg 8 zH ?_;refine zg 9 zH ?_;simp only [zb,DN];refine zg 10 zH ?_;refine zg 11 zH ?_;simp only [zb,DN];refine AD 12 fun K hK=>?_;go_simp;have hA:za w1 (wd.alloc (.cells #[.int .i64 x] 3)):=a6.alloc _;have hB:zd (wd.alloc (.cells #[.int .i64 x] 3)) wd.heap.size 3 #[.int .i64 x]:=zd.new _ _ _ rfl;generalize wd.alloc _=wb at hA hB⊢;refine EZ hK (hA) fun zH=>?_;clear hK K;try simp only [zb,DN]
  refine AD 13 fun K hK=>?_;go_simp;refine EZ hK (hA) fun zH=>?_;clear hK K;try simp only [zb,DN]
  refine Ev (by kernel_rfl) ?_ _;go_wp2;go_ret;refine ⟨_,rfl,o.out.trans hA,?_⟩;rw [f3.out];refine ⟨_,_,rfl,DR _,rfl,fun _=>⟨wd.heap.size,0,rfl,DT o.out.size a6.size,fun j u hu=>?_⟩⟩
  match j,hu with
  | 0,hu=>
   have:u=.int .i64 x:=by simpa using hu.symm
   rw [this];exact hB.cell (k:=0) rfl
 ·obtain ⟨bt,offt,sn,u1,u2,rfl,-,-,O,-,a8,-⟩:=Bm f7.out a0;have b0:=fun x hx=>G.out.tn _ (DS a0) x (.inl hx)
  have c6:=(HL.out.tl _ (DS a0)).1
  have E:Hid (Aj m ch tk=((m.tasks[tk]).1).filter fun n=>ze m tk n && !decide (n∈ch)):=by
   show _=_;unfold Aj;rw [if_neg (by omega),DP,DO a0];rfl
  obtain ⟨L,hL⟩:=EY ((m.tasks[tk]).1);rw [<-hL] at a8 b0 c6 E;clear hL;have f6:=zh b0;have f0:Hid (ch.length<=300):=a7.2.2.1;have b4:Hid (tk<m.free.length):=by show _<_;rw [f2.out];exact a0
  have k0:(0:Int)<=(tk:Int):=by omega
  have k1:(tk:Int)<(m.tasks.length:Int):=by omega
  have k2:¬ ((tk:Int)<(PL:Int)):=by omega
  clear b0 a7 hi hP;obtain ⟨p,a9⟩:∃p:Int->Bool,p=fun n=>ze m tk n && !decide (n∈ch):=⟨_,rfl⟩
  rw [<-a9] at E;have f5:=zh a9;clear a9
  go_enter Tryz.func121,Tryz.ntmps121
  go_upto_region 1 with fail;obtain ⟨B,r0,r1,r2,r3,r4,r5⟩:=box6 w (.int .i64 m.w) (.int .i64 m.h) (.int .i64 m.l) (.slice Af m.free.length cf) (.slice Au m.up.length cu) (.slice (some ⟨bt,offt,none⟩) m.tasks.length ct);generalize w.alloc _=w1 at B r0 r1 r2 r3 r4 r5⊢;obtain ⟨gm,J⟩:=EY w.heap.size;rw [<-J] at r0 r1 r2 r3 r4 r5⊢;clear J;have hx:za w1 w1:=za.refl w1;have o:=zh B;clear B;have qt:=za.rule (o.out.cell O);have f4:=zh (a8.below o.out);obtain ⟨Al,cl,rfl,i4,-⟩:=a8;clear O
  go_wp2_with fail
  have b2:=zh (Mk.nil w1);go_loopw [9,11] (fun v i wr=>∃k:Nat,k<=L.length/\i=.int .i64 (k:Nat)/\Hid (Mk w1 wr v ((L.take k).filter p))) (fun _ i _=>L.length - (intOf i).toNat)
  case atStart=>exact ⟨0,Ef _,rfl,b2⟩
  clear b2
  case round=>
   obtain ⟨k,hk,rfl,hM⟩:=hrel;have hx:za w1 wr:=hM.out.ext;obtain ⟨wk,rfl⟩:∃wk:World,wk=wr:=⟨_,rfl⟩;by_cases I:k<L.length
   ·obtain ⟨A',c',e,-,d6⟩:=f4.out;injection e with e1 e2 e3;subst e1 e3;obtain ⟨bl,offl,rfl,-,D⟩:=zE d6 I I;clear d6;obtain ⟨e4,e5⟩:=f6.out _ (DS I);have a1:=DY I;obtain ⟨x,e7⟩:=EY (L[k]);rw [<-e7] at D e4 e5 a1;clear e7;have HT:=zh a1;have rx:=za.rule D;clear a1 D;obtain ⟨bf,off,b',off',l,c',rfl,O,hl,i6,i5,b7⟩:=freeCells HF.out G.out.fn b4.out e4 e5;have q1:=za.rule (o.out.cell O);have q2:=za.rule (o.out.cell b7);have kk0:(0:Int)<=(k:Int):=by omega
    have kk1:(k:Int)<(L.length:Int):=by omega
    have kf1:(tk:Int)<(m.free.length:Int):=by have:=b4.out;omega
    have hp:Hid (p x=(ze m tk x && !decide (x∈ch))):=by (show _=_);rw [f5.out]
    obtain ⟨fv,c7⟩:=EY (ze m tk x);rw [<-c7] at q2 hp;clear c7 O b7;have g8:((L.take k).filter p).length<=L.length:=DT (Eu _ _) (by simp;omega);go_upto_region 8 with fail;go_cut [68] (fun v wx=>v=.bool (p x)/\za wk wx)
    case first=>
     cases fv with
     | false=>
      have a3:za wk wk:=za.refl wk;go_quiet (fail)
      go_wp2_with fail
      go_meet
      first | exact ⟨by rw [hp.out,Bool.false_and],a3.drew⟩ | exact ⟨by rw [hp.out,Bool.false_and],a3.drewN _⟩
     | true=>
      have a3:za wk wk:=za.refl wk
      go_region_held3 (fun w'=>za w1 w'/\za wk w') (first | (exact ⟨hx.drew,a3.drew⟩) | assumption) ((go_at_call 73;refine (zL x _ (e9.out.below (o.out.trans hx.drew)) (by have:=f0.out;omega)).mono ?_;rintro e w9 ⟨rfl,rfl⟩))
      rename_i hS
      go_wp2_with fail
      go_meet;exact ⟨by rw [hp.out,Bool.true_and],hS.2⟩
    case rest=>
     obtain ⟨rfl,h6⟩:=hcut;have M:=zh (hM.out.more h6);have e6:=M.out.ext
     cases hb:p x with
     | true=>
      have HS:Hid ((L.take (k+1)).filter p=(L.take k).filter p++[x]):=by show _=_;rw [HT.out,EF,EK hb];rfl
      clear hb;obtain ⟨l,c9⟩:=EY ((L.take k).filter p);rw [<-c9] at M g8 HS;clear c9
      go_wp2_with (at_builtin;refine AF rfl _ _ rfl _ l x w1.heap.size wc.heap.size 1 _ rfl rfl (M.out.own.alloc _) ?d1 ?d2 ?d3 ?_)
      (try case d1=>exact zC _ _ _ (by simp))
      case d2=>(first | (simp;done) | (have:=e6.size;simp;omega) | (have:=e6.size;omega))
      case d3=>omega
      intro v' wb d4 c8 g4;have f9:=zh ((M.out.alloc _).app d4 c8);clear d4 c8 g4;go_wp2;go_roundw
      case rel=>exact ⟨k+1,by omega,by go_num,by rw [HS.out];exact f9⟩
      case measure=>simp [intOf];omega
     | false=>
      have HS:Hid ((L.take (k+1)).filter p=(L.take k).filter p):=by show _=_;rw [HT.out,EF,Ez (by rw [hb];simp),List.filter_nil,List.append_nil]
      clear hb;go_wp2;go_roundw
      case rel=>exact ⟨k+1,by omega,by go_num,by rw [HS.out];exact M⟩
      case measure=>simp [intOf];omega
   ·obtain rfl:k=L.length:=by omega
    go_wp2;go_ret;refine ⟨_,rfl,o.out.trans hx,?_⟩;rw [E.out];have h:=hM.out.ints;rw [Ec] at h;exact h.weaken (fun b hb=>DT o.out.size hb)
theorem box3 (w:World) (a0 a1 a2:Value):za w (w.alloc (.cells #[a0,a1,a2] 41))/\
  (∀W,za (w.alloc (.cells #[a0,a1,a2] 41)) W->W.cell? ⟨w.heap.size,0,none⟩=some a0)/\(∀W,za (w.alloc (.cells #[a0,a1,a2] 41)) W->W.cell? ⟨w.heap.size,1,none⟩=some a1)/\(∀W,za (w.alloc (.cells #[a0,a1,a2] 41)) W->W.cell? ⟨w.heap.size,2,none⟩=some a2):=by
 have o:=zd.new w #[a0,a1,a2] 41 rfl;exact ⟨(za.refl w).alloc _,za.rule (o.cell (k:=0) rfl),za.rule (o.cell (k:=1) rfl),za.rule (o.cell (k:=2) rfl)⟩
def BC (N:Int) (tg s:List Int) (i:Nat):Prop:=0<=s.getD i 0/\s.getD i 0<N/\(0<i->s.getD (i - 1) 0<s.getD i 0)/\s.getD i 0∉tg
theorem incB_iff {N:Int}:∀{l:List Int} {b:Int},incB N b l=true↔∀i,i<l.length->(b :: l).getD i 0<l.getD i 0/\l.getD i 0<N
 | [],b=>by simp [incB]
 | x :: l,b=>by
  unfold incB;rw [Ed,Ed,Eb,Eb,incB_iff];constructor
  ·rintro ⟨h1,h2,h3⟩ i o
   cases i with
   | zero=>exact ⟨by simpa using h1,by simpa using h2⟩
   | succ i=>simpa using h3 i (by simpa using o)
  ·intro h;refine ⟨by simpa using (h 0 (by simp)).1,by simpa using (h 0 (by simp)).2,fun i o=>?_⟩;simpa using h (i+1) (by simpa using o)
theorem side_iff {N:Int} {tg:List Int}:(incB N (-1) s && !(s.any fun n=>decide (n∈tg)))=true↔∀i,i<s.length->BC N tg s i:=by
 rw [Ed,incB_iff,Bool.not_eq_true',<-Bool.not_eq_true,ET];constructor
 ·rintro ⟨h1,h2⟩ i o;have B:s.getD i 0∈s:=by rw [DP,DO o];exact DS o
  have D:∀j,j<s.length->0<=s.getD j 0:=by
   intro j
   induction j with
   | zero=>intro E;have:=(h1 0 E).1;simp at this⊢;omega
   | succ j ih=>intro E;have:=(h1 (j+1) E).1;have J:=ih (by omega);rw [List.getD_cons_succ] at this;omega
  refine ⟨D i o,(h1 i o).2,fun h0=>?_,fun h=>h2 ⟨_,B,by simpa using h⟩⟩;have:=(h1 i o).1;obtain ⟨j,rfl⟩:∃j,i=j+1:=⟨i - 1,by omega⟩;rw [List.getD_cons_succ] at this;simpa using this
 ·intro h;refine ⟨fun i o=>⟨?_,(h i o).2.1⟩,?_⟩
  ·cases i with
   | zero=>have:=(h 0 o).1;simp at this⊢;omega
   | succ j=>have:=(h (j+1) o).2.2.1 (by omega);rw [List.getD_cons_succ];simpa using this
  ·rintro ⟨x,I,G⟩;obtain ⟨i,o,rfl⟩:=Ex I;refine (h i o).2.2.2 ?_;rw [DP,DO o];simpa using G
theorem curT_le (o:Bq m=0) (B:zy m ch):zF m ch<=m.tasks.length:=by
 rcases cur_of o B with ⟨-,h⟩ | ⟨-,qs,a,h⟩
 ·omega
 ·have:=h.lt;have:=h.cur;omega
theorem nextO_len (m:MZ) (x:Int):(Bh m x).length<=6:=by
 unfold Bh
 split
 ·exact BZ m x
 ·simp
theorem nextO_rng (g:AN m) {x y:Int} (h:y∈Bh m x):0<=y/\y<m.n:=by
 unfold Bh at h
 split at h
 ·next h1=>exact Bg g.dim h1.2.1 h1.2.2 h
 ·cases h
theorem headP_le {t:Nat} (o:Lens m) (ht:t<m.tasks.length):(Aj m ch t).length<=20000000000000:=by
 unfold Aj
 split
 ·cases ((zm m ch).getD t []).getLast? <;> simp
 ·refine DT (Eu _ _) ?_;rw [DP,DO ht];have:=(o.tl _ (DS ht)).1;show (m.tasks[t]).1.length<=_;omega
theorem vcut_calls {p:PT} (w:World) (hm:zt w ok v m) (hl:Lens m) (hc:Bq m=0) (k3:zk w okc vc ch) (hi:zy m ch) (hp:zM w okp vp p) (o3:p.side.length<=20000000000000):
  Calls Tryz.prog 135 #[v,vc,vp] w fun e w'=>e=.returned (.bool (cutB m ch p.task p.side p.kids.length))/\za w w':=by
 have HM:=zh hm;have HL:=zh hl;have HC:=zh hc;have HI:=zh hi;have e8:=zh k3;have G:=zh (AN.of hc);have b8:=zh (zU hc hi);obtain ⟨Af,cf,Au,cu,At,ct,rfl,k4,-,l3⟩:=hm.parts;have m9:=zh l3;have m1:=zh k4;clear k4;obtain ⟨Ac,cc,rfl,-,-⟩:=k3;obtain ⟨As,cs,Ak,ck,rfl,a5⟩:=hp.form;have c6:=zh a5;have q5:=hl.ts;clear hm hl hc hi hp l3;obtain ⟨R,hR⟩:=EY (cutB m ch p.task p.side p.kids.length);rw [<-hR];have c0:=zh hR;obtain ⟨tk,h5⟩:=EY p.task;obtain ⟨s,hs⟩:=EY p.side;obtain ⟨nk,g7⟩:=EY p.kids.length;rw [<-h5,<-hs,<-g7] at c0;rw [<-hs] at c6 a5 o3;rw [<-h5,<-hs,<-g7];clear hR h5 hs g7;obtain ⟨c,j9⟩:=EY (zF m ch);have e9:=zh j9;clear j9
 go_enter Tryz.func135,Tryz.ntmps135
 go_upto_region 1 with fail;obtain ⟨f7,r0,r1,r2,r3,r4,r5⟩:=box6 w (.int .i64 m.w) (.int .i64 m.h) (.int .i64 m.l) (.slice Af m.free.length cf) (.slice Au m.up.length cu) (.slice At m.tasks.length ct);have g9:(w.alloc (.cells #[.int .i64 m.w,.int .i64 m.h,.int .i64 m.l,.slice Af m.free.length cf,.slice Au m.up.length cu,.slice At m.tasks.length ct] 32)).heap.size=w.heap.size+1:=by simp
 generalize w.alloc _=w0 at f7 r0 r1 r2 r3 r4 r5 g9⊢;obtain ⟨d5,p0,p1,p2⟩:=box3 w0 (.int .i64 tk) (.slice As s.length cs) (.slice Ak nk ck);generalize w0.alloc _=w1 at d5 p0 p1 p2⊢;rw [g9] at p0 p1 p2;obtain ⟨gm,g3⟩:=EY w.heap.size;rw [<-g3] at r0 r1 r2 r3 r4 r5 p0 p1 p2⊢;have p4:Hid (gm=w.heap.size):=g3;have a7:=zh d5;have o:=zh (f7.trans d5);have r0:=fun W h=>r0 W (a7.out.trans h)
 have r1:=fun W h=>r1 W (a7.out.trans h)
 have r2:=fun W h=>r2 W (a7.out.trans h)
 have r3:=fun W h=>r3 W (a7.out.trans h)
 have r4:=fun W h=>r4 W (a7.out.trans h)
 have r5:=fun W h=>r5 W (a7.out.trans h)
 clear g3 f7 d5 g9;have I:za w1 w1:=za.refl w1
 go_wp2_with fail
 refine (Cx w1 (HM.out.below o.out) HL.out (e8.out.below o.out) (by have:=b8.out;omega)).mono ?_;rintro e w2 ⟨vpp,rfl,f4,e5⟩;have b9:=zh e5;have o5:za w1 w2:=f4;obtain ⟨_,⟨App,cpp,rfl,-,-⟩,-⟩:=e5
 have HV:Hid (∀W,za w2 W->Calls Tryz.prog 119 #[.agg #[.int .i64 m.w,.int .i64 m.h,.int .i64 m.l,.slice Af m.free.length cf,.slice Au m.up.length cu,.slice At m.tasks.length ct],.slice App (zm m ch).length cpp] W fun e w'=>e=.returned (.int .i64 c)/\za W w'):=fun W hW=>by
  rw [e9.out];exact Ch W (HM.out.below ((o.out.trans f4).trans hW)) HL.out (b9.out.below hW) b8.out.1 (fun x I=>by have:=(b8.out.2.2.2 x I).2;omega)
 clear f4 I;obtain ⟨PL,d8⟩:=EY ((zm m ch).length);rw [<-d8] at HV b9⊢;clear d8;have hy:za w2 w2:=za.refl w2
 go_wp2_with fail
 refine (HV.out _ hy).mono ?_;rintro e w3 ⟨rfl,f5⟩;have I:za w1 w3:=za.trans ‹za w1 w2› f5;have d7:=zh (b9.out.below f5);clear HV f5 hy o5 b9;go_upto_region 3 with fail;obtain ⟨bad,d9⟩:∃bad:Bool,bad=decide (tk<c\/(m.tasks.length:Int)<=tk\/(tk=c/\s=[])\/nk≠0):=⟨_,rfl⟩;have K:=zh d9;clear d9;go_cut [54] (fun v wx=>v=.bool bad/\w3=wx)
 case first=>
  by_cases h1:tk<(c:Int)
  ·have M:Hid (bad=true):=by (show _=_);rw [K.out];exact DU (.inl h1)
   go_wp2_with fail
   go_meet;exact ⟨by rw [M.out],rfl⟩
  ·by_cases h2:(m.tasks.length:Int)<=tk
   ·have M:Hid (bad=true):=by (show _=_);rw [K.out];exact DU (.inr (.inl h2))
    go_wp2_with fail
    go_meet;exact ⟨by rw [M.out],rfl⟩
   ·by_cases h3:tk=(c:Int)
    ·have n3:(tk==(c:Int))=true:=by rw [beq_iff_eq];exact h3
     by_cases h4:s=[]
     ·have M:Hid (bad=true):=by (show _=_);rw [K.out];exact DU (.inr (.inr (.inl ⟨h3,h4⟩)))
      have n5:((s.length:Int)==0)=true:=by rw [h4];rfl
      clear h3 h4
      go_wp2_with fail
      go_meet;exact ⟨by rw [M.out],rfl⟩
     ·have M:Hid (bad=decide (0<nk)):=by
       (show _=_)
       rw [K.out,decide_eq_decide];constructor
       ·rintro (h | h | h | h)
        ·exact absurd h h1
        ·exact absurd h h2
        ·exact absurd h.2 h4
        ·omega
       ·intro h;exact .inr (.inr (.inr (by omega)))
      have n5:((s.length:Int)==0)=false:=by
       rw [Ee];intro h;exact h4 (Ei (by omega))
      clear h3 h4
      go_wp2_with fail
      go_meet;refine ⟨?_,rfl⟩;rw [M.out]
      all_goals (first | rfl | (congr 1;done) | (congr 1;rw [decide_eq_decide];omega))
    ·have n3:(tk==(c:Int))=false:=by rw [Ee];exact h3
     have M:Hid (bad=decide (0<nk)):=by
      (show _=_)
      rw [K.out,decide_eq_decide];constructor
      ·rintro (h | h | h | h)
       ·exact absurd h h1
       ·exact absurd h h2
       ·exact absurd h.1 h3
       ·omega
      ·intro h;exact .inr (.inr (.inr (by omega)))
     clear h3
     go_wp2_with fail
     go_meet;refine ⟨?_,rfl⟩;rw [M.out]
     all_goals (first | rfl | (congr 1;done) | (congr 1;rw [decide_eq_decide];omega))
 case rest=>
  obtain ⟨rfl,rfl⟩:=hcut
  cases bad with
  | true=>
   have HF:Hid (R=false):=by
    (show _=_)
    have:=EV K.out.symm;rw [e9.out] at this;rw [c0.out];unfold cutB;rw [if_pos this]
   go_wp2_with fail
   go_ret;exact ⟨zi HF.out.symm,o.out.trans I⟩
  | false=>
   have k8:=of_decide_eq_false K.out.symm
   have HF:Hid (R=(incB m.n (-1) s && (!(s.any fun n=>decide (n∈(m.tasks.getD tk.toNat ([],[])).2)) && ((Aj m ch tk.toNat).all (fun n=>decide (n∈s)) && wallB m ch tk.toNat s)))):=by
    (show _=_)
    have:=k8;rw [e9.out] at this;rw [c0.out];unfold cutB;rw [if_neg this]
   obtain ⟨t,ht⟩:∃t:Nat,tk=t:=⟨tk.toNat,by omega⟩;subst ht;rw [Int.toNat_natCast] at HF;have l2:t<m.tasks.length:=by omega
   have U:=zh l2;have k1:(t:Int)<(m.tasks.length:Int):=by omega
   have k0:(0:Int)<=(t:Int):=by omega
   clear k8 K c0;have q4:=G.out.dim.n1;have o7:=G.out.dim.layer;have o8:IntKind.i64.wrap (m.w*m.h)=m.w*m.h:=by rw [Em];omega
   have o9:IntKind.i64.wrap (m.w*m.h*m.l)=m.w*m.h*m.l:=by rw [Em];omega
   have c7:Hid ((incB m.n (-1) s && !(s.any fun n=>decide (n∈(m.tasks.getD t ([],[])).2)))=true↔∀i,i<s.length->BC m.n (m.tasks.getD t ([],[])).2 s i):=side_iff;obtain ⟨bt,offt,sn,u1,u2,rfl,-,-,-,e0,-,g6⟩:=Bm m9.out U.out;have o4:=(HL.out.tl _ (DS U.out)).2;have i6:Hid ((m.tasks.getD t ([],[])).2=(m.tasks[t]'U.out).2):=by (show _=_);rw [DP,DO U.out];rfl
   obtain ⟨tg,l1⟩:=EY ((m.tasks[t]'U.out).2);rw [<-l1] at g6 o4 i6;rw [i6.out] at c7 HF;have i7:=zh (g6.below o.out);obtain ⟨Atg,ctg,rfl,-,-⟩:=g6;have rtg:=za.rule (o.out.cell e0);have i8:=zh I;have f1:=zh (show AE w okp 1 As s.length (s.map (Value.int .i64)) from by obtain ⟨A',c',e,-,h⟩:=c6.out;injection e with e1 e2 e3;rw [e1];exact h);clear l1 e0 a5 I
   go_wp2_with fail
   go_loopw [10] (fun i wr=>∃k:Nat,k<=s.length/\i=.int .i64 k/\Hid (∀j,j<k->BC m.n tg s j)/\Hid (za w3 wr)) (fun i _=>s.length - (intOf i).toNat)
   case atStart=>exact ⟨0,Ef _,rfl,fun j hj=>by omega,za.refl _⟩
   case round=>
    obtain ⟨k,hk,rfl,a8,hE⟩:=hrel;obtain ⟨wk,rfl⟩:∃wk:World,wk=wr:=⟨_,rfl⟩;have I:za w1 wk:=i8.out.trans hE.out;by_cases J:k<s.length
    ·have e4:(k:Int)<(s.length:Int):=by omega
     have kk0:(0:Int)<=(k:Int):=by omega
     obtain ⟨bs,offs,rfl,-,a4⟩:=zE f1.out J J;have g4:s.getD k 0=s[k]:=zgd J
     obtain ⟨x,a0⟩:=EY (s[k]);rw [<-a0] at a4 g4;have rx:=za.rule (o.out.cell a4)
     obtain ⟨ob,g8⟩:∃ob:Bool,ob=true↔BC m.n tg s k:=by
      by_cases h:BC m.n tg s k
      ·exact ⟨true,by simp [h]⟩
      ·exact ⟨false,by simp [h]⟩
     have b7:Hid (ob=true↔0<=x/\x<m.n/\(0<k->s.getD (k - 1) 0<x)/\x∉tg):=by
      (show _↔_)
      rw [g8];unfold BC;rw [g4]
     have d6:=zh g8;clear a4 g4 a0 g8;have D:za wk wk:=za.refl wk;go_upto_region 8 with fail;go_cut [116] (fun v wx=>v=.bool (!ob)/\za wk wx)
     case first=>
      by_cases h1:x<0
      ·have M:Hid (ob=false):=by (show _=_);rw [<-Bool.not_eq_true,b7.out];omega
       go_quiet (fail)
       go_wp2_with fail
       go_meet;exact ⟨by rw [M.out];rfl,D.drewN _⟩
      ·by_cases h2:m.w*m.h*m.l<=x
       ·have M:Hid (ob=false):=by (show _=_);rw [<-Bool.not_eq_true,b7.out];unfold MZ.n;omega
        go_quiet (fail)
        go_wp2_with fail
        go_meet;exact ⟨by rw [M.out];rfl,D.drewN _⟩
       ·have c8:x<m.n:=by unfold MZ.n;omega
        by_cases h3:k=0
        ·have M:Hid (ob=!decide (x∈tg)):=by
          (show _=_)
          rw [Bool.eq_iff_iff,b7.out,Bool.not_eq_true',Eo];exact ⟨fun h=>h.2.2.2,fun h=>⟨by omega,c8,fun h0=>by omega,h⟩⟩
         have j3:¬ (0<k):=by omega
         have n4:¬ ((0:Int)<(k:Int)):=by omega
         clear h3 c8;go_quiet ((go_at_call 73;refine (zL x _ (i7.out.below (I.drewN _)) (by omega)).mono ?_;rintro e w9 ⟨rfl,rfl⟩;exact ⟨rfl,⟨_,rfl⟩⟩))
         go_wp2_with fail
         go_meet;exact ⟨by rw [M.out];simp,D.drewN _⟩
        ·have j3:0<k:=by omega
         have n4:(0:Int)<(k:Int):=by omega
         have a6:k - 1<s.length:=by omega
         obtain ⟨bs',offs',e,-,f8⟩:=zE f1.out a6 a6;injection e with e;injection e with e1 e2;subst e1 e2;have g5:s.getD (k - 1) 0=s[k - 1]:=zgd a6
         obtain ⟨y,b5⟩:=EY (s[k - 1]);rw [<-b5] at f8 g5;have ry:=za.rule (o.out.cell f8)
         have e6:Hid (ob=(decide (y<x) && !decide (x∈tg))):=by
          (show _=_)
          rw [Bool.eq_iff_iff,b7.out,g5,Ed,Bool.not_eq_true',Eo,Eb];exact ⟨fun h=>⟨h.2.2.1 j3,h.2.2.2⟩,fun h=>⟨by omega,c8,fun _=>h.1,h.2⟩⟩
         have o0:IntKind.i64.wrap ((k:Int) - 1)=((k - 1:Nat):Int):=by rw [Em];omega
         have k6:(0:Int)<=((k - 1:Nat):Int):=by omega
         have k7:((k - 1:Nat):Int)<(s.length:Int):=by omega
         clear h3 c8 f8 g5 b5;obtain ⟨k',k5⟩:∃k',k'=k - 1:=⟨_,rfl⟩;rw [<-k5] at ry o0 k6 k7 a6;clear k5;by_cases h4:x<=y
         ·have M:Hid (ob=false):=by (show _=_);rw [e6.out,DV (by omega)];rfl
          go_quiet (fail)
          go_wp2_with fail
          go_meet;exact ⟨by rw [M.out];rfl,D.drewN _⟩
         ·have M:Hid (ob=!decide (x∈tg)):=by (show _=_);rw [e6.out,DU (by omega)];rfl
          clear e6;go_quiet ((go_at_call 73;refine (zL x _ (i7.out.below (I.drewN _)) (by omega)).mono ?_;rintro e w9 ⟨rfl,rfl⟩;exact ⟨rfl,⟨_,rfl⟩⟩))
          go_wp2_with fail
          go_meet;exact ⟨by rw [M.out];simp,D.drewN _⟩
     case rest=>
      obtain ⟨rfl,b1⟩:=hcut;have O:za w3 wc:=hE.out.trans b1
      cases ob with
      | false=>
       have a1:Hid (R=false):=by
        (show _=_)
        have h:¬ ∀i,i<s.length->BC m.n tg s i:=fun h=>absurd (d6.out.2 (h k J)) (by simp)
        rw [HF.out,<-Bool.and_assoc,Bool.eq_false_iff.2 (fun h2=>h (c7.out.1 h2)),Bool.false_and]
       go_wp2_with fail
       go_ret;exact ⟨zi a1.out.symm,o.out.trans (i8.out.trans O)⟩
      | true=>
       have b4:Hid (∀j,j<k+1->BC m.n tg s j):=fun j hj=>by
        rcases En j k with h | h
        ·exact a8.out j h
        ·obtain rfl:j=k:=by omega
         exact d6.out.1 rfl
       go_wp2_with fail
       go_roundw
       case rel=>exact ⟨k+1,by omega,by go_num,b4,O⟩
       case measure=>simp [intOf];omega
    ·obtain rfl:k=s.length:=by omega
     have b6:Hid (R=((Aj m ch t).all (fun n=>decide (n∈s)) && wallB m ch t s)):=by
      (show _=_)
      rw [HF.out,<-Bool.and_assoc,c7.out.2 a8.out,Bool.true_and]
     clear a8 HF c7;have i1:=zh (headP_le HL.out (ch:=ch) U.out)
     go_wp2_with fail
     refine (vhead_calls t wk (HM.out.below (o.out.trans I)) HL.out HC.out (e8.out.below (o.out.trans I)) HI.out (d7.out.below hE.out) U.out).mono ?_;rintro e w5 ⟨vb,rfl,j4,f6⟩;have f2:Hid (za w1 w5):=I.trans j4;have m3:=zh f6;obtain ⟨B,hB⟩:=EY (Aj m ch t);rw [<-hB] at f6 m3 b6 i1;obtain ⟨Ab,cb,rfl,-,k9⟩:=f6;have m4:=zh k9;clear hB k9 j4 I hE d7;have I:=f2.out
     go_wp2_with fail
     have i9:=zh (za.refl w5);go_loopw [12] (fun i wr=>∃j:Nat,j<=B.length/\i=.int .i64 j/\Hid ((B.take j).all (fun n=>decide (n∈s))=true)/\Hid (za w5 wr)) (fun i _=>B.length - (intOf i).toNat)
     case atStart=>exact ⟨0,Ef _,rfl,rfl,i9.out⟩
     case round=>
      obtain ⟨j,hj,rfl,Q,hE⟩:=hrel;obtain ⟨wj,rfl⟩:∃wj:World,wj=wr:=⟨_,rfl⟩;have I:za w1 wj:=f2.out.trans hE.out;have p6:B.length<=20000000000000:=i1.out;by_cases J:j<B.length
      ·have e4:(j:Int)<(B.length:Int):=by omega
       have kk0:(0:Int)<=(j:Int):=by omega
       obtain ⟨bb,offb,rfl,-,a3⟩:=zE m4.out J J;have E:=DY J;have b0:Hid (B[j]∈B):=DS J;obtain ⟨x,a0⟩:=EY (B[j]);rw [<-a0] at a3 E b0;have HT:=zh E;have rb:∀W,za w1 W/\za wj W->W.cell? ⟨bb,offb+j,none⟩=some (.int .i64 x):=fun W h=>(hE.out.trans h.2).cell a3
       clear E a3 a0;have D:za wj wj:=za.refl wj;go_upto_region 14 with fail;have rb:∀n,(wj.drewN n).cell? ⟨bb,offb+j,none⟩=some (.int .i64 x):=fun n=>rb _ ⟨I.drewN n,D.drewN n⟩
       go_cut [136] (fun v wx=>v=.bool (!decide (x∈s))/\za wj wx)
       case first=>
        go_quiet ((go_at_call 73;refine (zL x _ (c6.out.below (o.out.trans (I.drewN _))) (by omega)).mono ?_;rintro e w9 ⟨rfl,rfl⟩;exact ⟨rfl,⟨_,rfl⟩⟩))
        go_wp2_with fail
        go_meet;exact ⟨rfl,D.drewN _⟩
       case rest=>
        obtain ⟨rfl,b1⟩:=hcut;have O:za w5 wc:=hE.out.trans b1;by_cases b3:x∈s
        ·have hd:decide (x∈s)=true:=DU b3;rw [hd];have a2:Hid ((B.take (j+1)).all (fun n=>decide (n∈s))=true):=by (show _=_);rw [HT.out,List.all_append,Q.out];simpa using b3
         clear b3 hd
         go_wp2_with fail
         go_roundw
         case rel=>exact ⟨j+1,by omega,by go_num,a2,O⟩
         case measure=>simp [intOf];omega
        ·have hd:decide (x∈s)=false:=DV b3;rw [hd]
         have a1:Hid (R=false):=by
          (show _=_)
          rw [b6.out,Bool.and_eq_false_iff]
          left
          rw [List.all_eq_false];exact ⟨x,b0.out,by rw [hd];simp⟩
         clear b3 hd
         go_wp2_with fail
         go_ret;exact ⟨zi a1.out.symm,o.out.trans (f2.out.trans O)⟩
      ·obtain rfl:j=B.length:=by omega
       have h8:Hid (R=wallB m ch t s):=by
        (show _=_)
        have h:=Q.out;rw [Ec] at h;rw [b6.out,h,Bool.true_and]
       clear Q b6;have n2:=zh I;clear I hE;have j0:=zh (za.refl wj)
       go_wp2_with fail
       go_loopw [13] (fun i wr=>∃k:Nat,k<=s.length/\i=.int .i64 k/\Hid (∀n∈s.take k,(Bh m n).all (fun k=>!(ze m t k && !decide (k∈ch)) || decide (k∈s))=true)/\Hid (za wj wr)) (fun i _=>s.length - (intOf i).toNat)
       case atStart=>exact ⟨0,Ef _,rfl,fun n hn=>by simp at hn,j0.out⟩
       case round=>
        obtain ⟨k,hk,rfl,a8,hE⟩:=hrel;obtain ⟨wk,rfl⟩:∃wk:World,wk=wr:=⟨_,rfl⟩;have I:za w1 wk:=n2.out.trans hE.out;by_cases J:k<s.length
        ·have e4:(k:Int)<(s.length:Int):=by omega
         have kk0:(0:Int)<=(k:Int):=by omega
         obtain ⟨bs,offs,rfl,-,a4⟩:=zE f1.out J J;have E:=DY J;have i4:Hid (s[k]∈s):=DS J;obtain ⟨x,a0⟩:=EY (s[k]);rw [<-a0] at a4 E i4;have rx:=za.rule (o.out.cell a4);have HT:=zh E;clear a4 E a0;go_upto_region 19 with fail;have D:za wk wk:=za.refl wk
         go_region_held3 (fun w'=>za w1 w'/\za wk w')
          (first | (exact ⟨I.drew,D.drew⟩) | (exact ⟨I.drew.trans d4.ext,D.drew.trans d4.ext⟩))
          ((go_at_call 164;refine (qNext_calls x _ (HM.out.below (o.out.trans I.drew)) HL.out).mono ?_;rintro e wn ⟨v9,rfl,d4⟩))
         rename_i hS
         have j5:za w1 wn:=hS.1;have i2:=zh d4.ints;have m6:=zh hS.2;have o2:=nextO_len m x;have i5:Hid (∀y∈Bh m x,0<=y/\y<m.n):=fun y hy=>nextO_rng G.out hy
         obtain ⟨L,hL⟩:=EY (Bh m x);rw [<-hL] at i2 o2 i5;have i3:=zh hL;obtain ⟨AL,cL,rfl,-,l0⟩:=i2.out;have m5:=zh l0;clear d4 hL l0 hS I D;have j1:=zh j5;have j2:=zh (za.refl wn);clear j5
         go_wp2_with fail
         go_loopw [15] (fun i wr=>∃j:Nat,j<=L.length/\i=.int .i64 j/\Hid ((L.take j).all (fun k=>!(ze m t k && !decide (k∈ch)) || decide (k∈s))=true)/\Hid (za wn wr)) (fun i _=>L.length - (intOf i).toNat)
         case atStart=>exact ⟨0,Ef _,rfl,rfl,j2.out⟩
         case round=>
          obtain ⟨j,hj,rfl,Q,c9⟩:=hrel;obtain ⟨wj,rfl⟩:∃wj:World,wj=wr:=⟨_,rfl⟩;have I:za w1 wj:=j1.out.trans c9.out;by_cases V:j<L.length
          ·have o1:(j:Int)<(L.length:Int):=by omega
           have kk02:(0:Int)<=(j:Int):=by omega
           obtain ⟨bl,offl,rfl,-,a3⟩:=zE m5.out V V;have E:=DY V;obtain ⟨l4,l5⟩:=i5.out _ (DS V);have b0:Hid (L[j]∈L):=DS V;obtain ⟨y,b5⟩:=EY (L[j]);rw [<-b5] at a3 E b0 l4 l5;have m8:=zh E;obtain ⟨bf,off,b',off',l,c',rfl,j7,hl,p9,p7,j8⟩:=freeCells m1.out G.out.fn (by rw [G.out.fl];exact U.out) l4 l5;have q1:=za.rule (o.out.cell j7);have q2:=za.rule (o.out.cell j8);have q3:∀n,(wj.drewN n).cell? ⟨bl,offl+j,none⟩=some (.int .i64 y):=fun n=>(c9.out.drewN n).cell a3
           have kf1:(t:Int)<(m.free.length:Int):=by have:=G.out.fl;omega
           obtain ⟨fv,g1⟩:=EY (ze m t y);rw [<-g1] at q2;have h9:=zh g1;clear g1 j7 j8 E a3 b5;have D:za wj wj:=za.refl wj;obtain ⟨bd,j6⟩:∃bd:Bool,bd=(fv && (!decide (y∈ch) && !decide (y∈s))):=⟨_,rfl⟩;have e7:=zh j6;clear j6;go_upto_region 23 with fail;go_cut [187] (fun v wx=>v=.bool bd/\za wj wx)
           case first=>
            obtain ⟨dc,f9⟩:=EY (decide (y∈ch));obtain ⟨ds,g0⟩:=EY (decide (y∈s));have i0:Hid (∀W,za wj W->Calls Tryz.prog 73 #[.slice Ac ch.length cc,.int .i64 y] W fun e w'=>e=.returned (.bool dc)/\W=w'):=fun W hW=>by rw [f9];exact zL y W (e8.out.below (o.out.trans (I.trans hW))) (by have:=b8.out;omega)
            have m2:Hid (∀W,za wj W->Calls Tryz.prog 73 #[.slice (some ⟨bs,offs,none⟩) s.length cs,.int .i64 y] W fun e w'=>e=.returned (.bool ds)/\W=w'):=fun W hW=>by rw [g0];exact zL y W (c6.out.below (o.out.trans (I.trans hW))) (by omega)
            have M:Hid (bd=(fv && (!dc && !ds))):=by (show _=_);rw [e7.out,f9,g0]
            clear f9 g0
            cases fv with
            | false=>
             go_quiet (fail)
             go_wp2_with fail
             go_meet;exact ⟨by rw [M.out];rfl,D.drewN _⟩
            | true=>
             cases dc with
             | true=>
              go_quiet ((go_at_call 73;with_reducible refine (i0.out _ (D.drewN _)).mono ?_;rintro e w8 ⟨b2,rfl⟩;exact ⟨b2,⟨_,rfl⟩⟩))
              go_wp2_with fail
              go_meet;exact ⟨by rw [M.out];rfl,D.drewN _⟩
             | false=>
              go_quiet (first | (go_at_call 73;with_reducible refine (i0.out _ (D.drewN _)).mono ?_;rintro e w8 ⟨b2,rfl⟩;exact ⟨b2,⟨_,rfl⟩⟩) | (go_at_call 73;with_reducible refine (m2.out _ (D.drewN _)).mono ?_;rintro e w8 ⟨b2,rfl⟩;exact ⟨b2,⟨_,rfl⟩⟩))
              go_wp2_with fail
              go_meet;exact ⟨by rw [M.out];cases ds <;> rfl,D.drewN _⟩
           case rest=>
            obtain ⟨rfl,b1⟩:=hcut;have O:za wn wc:=c9.out.trans b1
            cases bd with
            | true=>
             have a1:Hid (R=false):=by
              (show _=_)
              have h:=e7.out;rw [eq_comm,Ed,Ed] at h;obtain ⟨h1,h2,h3⟩:=h;rw [h8.out];unfold wallB;rw [List.all_eq_false];refine ⟨x,i4.out,?_⟩;rw [<-i3.out,Bool.not_eq_true,List.all_eq_false];exact ⟨y,b0.out,by rw [<-h9.out,h1,h2];simpa using h3⟩
             go_wp2_with fail
             go_ret;exact ⟨zi a1.out.symm,o.out.trans (j1.out.trans O)⟩
            | false=>
             have a2:Hid ((L.take (j+1)).all (fun k=>!(ze m t k && !decide (k∈ch)) || decide (k∈s))=true):=by
              (show _=_)
              rw [m8.out,List.all_append,Q.out,Bool.true_and,List.all_cons,List.all_nil,Bool.and_true,<-h9.out];have h:=e7.out
              revert h
              cases fv <;> cases decide (y∈ch) <;> cases decide (y∈s) <;> simp
             go_wp2_with fail
             go_roundw
             case rel=>exact ⟨j+1,by omega,by go_num,a2,O⟩
             case measure=>simp [intOf];omega
          ·obtain rfl:j=L.length:=by omega
           have b4:Hid (∀n∈s.take (k+1),(Bh m n).all (fun k=>!(ze m t k && !decide (k∈ch)) || decide (k∈s))=true):=fun n hn=>by
            rw [HT.out] at hn;rcases EH.1 hn with hn | hn
            ·exact a8.out n hn
            ·obtain rfl:n=x:=by simpa using hn
             rw [<-i3.out];have h:=Q.out
             rwa [Ec] at h
           have O:=zh (m6.out.trans c9.out);clear I
           go_wp2_with fail
           go_roundw
           case rel=>exact ⟨k+1,by omega,by go_num,b4,hE.out.trans O.out⟩
           case measure=>simp [intOf];omega
        ·obtain rfl:k=s.length:=by omega
         have a1:Hid (R=true):=by
          (show _=_)
          have h:=a8.out;rw [Ec] at h;rw [h8.out];unfold wallB;rw [EU];exact h
         go_wp2_with fail
         go_ret;exact ⟨zi a1.out.symm,o.out.trans I⟩
end
section
open Go.RowKit
attribute [local go_sem ↓] Go.wp_at_zero Go.wp_at_succ
attribute [local go_sem] Oper.semAt_some
mutual
def PT.Lens:PT->Prop
 | .node _ s ks=>s.length<=20000000000000/\ks.length<=20000000000000/\PT.LensL ks
def PT.LensL:List PT->Prop
 | []=>True
 | k :: ks=>k.Lens/\PT.LensL ks
end
theorem CA:∀{ks:List PT},PT.LensL ks->∀k∈ks,k.Lens
 | [],_,k,hk=>by cases hk
 | a :: ks,h,k,hk=>by
  unfold PT.LensL at h;rcases EG.1 hk with rfl | hk
  ·exact h.1
  ·exact CA h.2 k hk
theorem size_mem:∀{ks:List PT},∀k∈ks,k.size<=PT.sizeL ks
 | [],k,hk=>by cases hk
 | a :: ks,k,hk=>by
  unfold PT.sizeL;rcases EG.1 hk with rfl | hk
  ·omega
  ·have:=size_mem k hk;omega
theorem with_calls29 (n:Int) (w:World) (J:zk w okc vc ch) (hl:ch.length<=1000000000):
  Calls Tryz.prog 123 #[vc,.int .i64 n] w fun e w'=>∃v',e=.returned v'/\Mk w w' v' (ch++[n]):=by
 have O:=zh J;obtain ⟨A,c,rfl,hc,-⟩:=J
 go_enter Tryz.func123,Tryz.ntmps123
 go_upto_region 1 with fail
 go_wp2_with (at_builtin;refine Bn (ok:=okc) rfl _ _ _ rfl w.heap.size [] ch _ _ rfl rfl (CB w w.heap.size (DR _)) (O.out.below ((za.refl w).alloc _)) (by simp) (by simp;omega) ?_)
 intro v1 w1 B K G;have o:za w w1:=zS ((za.refl w).alloc _) K (by simp) (fun k U=>Ao (CB w w.heap.size (DR _)) U);have D:=zh B;obtain ⟨A1,n1,c1,rfl⟩:=BT B;have Q:=zh o;have E:Hid (w.heap.size<=w1.heap.size):=o.size;clear B K G o
 go_wp2_with (at_builtin;refine Bn (ok:=fun _=>True) rfl _ _ _ rfl w.heap.size ch [n] _ _ rfl rfl (D.out.ext ((za.refl w1).alloc (.cells #[.int .i64 n] 3))) (CM (zC w1 (.int .i64 n) 3 rfl)) (by have:=E.out;simp;omega) (by simp;omega) ?_)
 intro v2 w2 M L I;have V:Hid (Mk w w2 v2 (ch++[n])):=⟨M,zS (Q.out.alloc _) L (by have:=E.out;simp;omega) (fun k U=>Ao D.out U)⟩;clear M L I
 go_wp2_with fail
 go_ret;exact ⟨_,rfl,V.out⟩
theorem sizeL_app:∀(a b:List PT),PT.sizeL (a++b)=PT.sizeL a+PT.sizeL b
 | [],b=>by simp [PT.sizeL]
 | k :: a,b=>by
  rw [List.cons_append];simp only [PT.sizeL,sizeL_app a b];omega
theorem kidsAt {w:World} {A:Option Addr} {n:Nat} {cs:List Value} (h:AE w ok 3 A n cs) (E:k<n):∃b off,A=some ⟨b,off,none⟩/\w.cell? ⟨b,off+k*3,none⟩=some (cs.getD (k*3) undef)/\w.cell? ⟨b,off+k*3+1,none⟩=some (cs.getD (k*3+1) undef)/\w.cell? ⟨b,off+k*3+2,none⟩=some (cs.getD (k*3+2) undef):=by
 obtain ⟨G,o⟩:=h;obtain ⟨b,off,rfl,-,o⟩:=o (by omega);have B:∀j,j<cs.length->cs[j]?=some (cs.getD j undef):=fun j D=>by rw [DO D,DP,DO D];rfl
 exact ⟨b,off,rfl,o _ _ (B _ (by omega)),by rw [Nat.add_assoc];exact o _ _ (B _ (by omega)),by rw [Nat.add_assoc];exact o _ _ (B _ (by omega))⟩
theorem vsize_calls:∀(N:Nat) {ok:Nat->Prop} {v:Value} {p:PT} (w:World),zM w ok v p->p.size<=N->p.Lens->N<=4000000000000000000->
  Calls Tryz.prog 65 #[v] w fun e w'=>e=.returned (.int .i64 p.size)/\za w w'
 | 0,ok,v,.node t s ks,w,h,hN,_,_=>by unfold PT.size at hN;omega
 | N+1,ok,v,.node t s ks,w,h,hN,hl,b1=>by
  have IH:Hid (∀(ok:Nat->Prop) (v:Value) (p:PT) (w:World),zM w ok v p->p.size<=N->p.Lens->N<=4000000000000000000->Calls Tryz.prog 65 #[v] w fun e w'=>e=.returned (.int .i64 p.size)/\za w w'):=fun ok v p w=>vsize_calls N w
  cases h with
  | mk hs hk he=>
   rename_i vs vk cs
   obtain ⟨As,cs',rfl,-,-⟩:=hs;obtain ⟨Ak,ck,rfl,b2,M⟩:=hk;have U:=zh M;have O:=zh he;unfold PT.Lens at hl;obtain ⟨b3,b4,K⟩:=hl;have Q:=zh (CA K);have V:Hid (∀k∈ks,k.size<=PT.sizeL ks):=size_mem;unfold PT.size at hN⊢;clear M he K
   go_enter Tryz.func65,Tryz.ntmps65
   go_upto_region 1 with fail;obtain ⟨E,p0,p1,p2⟩:=box3 w (.int .i64 t) (.slice As s.length cs') (.slice Ak ks.length ck);generalize w.alloc _=w1 at E p0 p1 p2⊢;obtain ⟨gp,J⟩:=EY w.heap.size;rw [<-J] at p0 p1 p2⊢;have o:=zh E;have a1:=zh (za.refl w1);clear E J
   go_wp2_with fail
   go_loopw [3,4] (fun n i wr=>∃k:Nat,k<=ks.length/\i=.int .i64 k/\n=.int .i64 ((1+PT.sizeL (ks.take k):Nat):Int)/\Hid (za w1 wr)) (fun _ i _=>ks.length - (intOf i).toNat)
   case atStart=>exact ⟨0,Ef _,rfl,rfl,a1.out⟩
   case round=>
    obtain ⟨k,hk,rfl,rfl,hE⟩:=hrel;obtain ⟨wk,rfl⟩:∃wk:World,wk=wr:=⟨_,rfl⟩;have hx:za w1 wk:=hE.out;by_cases B:k<ks.length
    ·have a7:(k:Int)<(ks.length:Int):=by omega
     have kk0:(0:Int)<=(k:Int):=by omega
     obtain ⟨b,off,rfl,h0,h1,h2⟩:=kidsAt U.out B;have q0:=za.rule (o.out.cell h0);have q1:=za.rule (o.out.cell h1);have q2:=za.rule (o.out.cell h2);have L:=O.out k B
     have D:Hid (PT.sizeL (ks.take (k+1))=PT.sizeL (ks.take k)+(ks[k]).size):=by
      (show _=_)
      rw [DY B,sizeL_app];simp [PT.sizeL]
     have a0:Hid (PT.sizeL (ks.take (k+1))<=PT.sizeL ks):=by
      (show _<=_)
      conv=>rhs;rw [<-List.take_append_drop (k+1) ks,sizeL_app]
      omega
     have G:=zh (IH.out _ _ _ wk (L.ext (o.out.trans hx)) (by have:=V.out _ (DS B);omega) (Q.out _ (DS B)) (by omega));obtain ⟨z,hz⟩:=EY ((ks[k]).size);rw [<-hz] at D G;obtain ⟨y,hy⟩:=EY (PT.sizeL (ks.take k));rw [<-hy] at D⊢;have hb:1+y+z<=4000000000000000000:=by have h1:=D.out;have h2:=a0.out;omega
     clear h0 h1 h2 L hz hy
     go_wp2_with fail
     refine G.out.mono ?_;rintro e w9 ⟨rfl,I⟩;have a2:=zh (hx.trans I);clear I;have b6:IntKind.i64.wrap (((1+y:Nat):Int)+(z:Int))=((1+y:Nat):Int)+(z:Int):=by rw [Em];omega
     go_wp2_with fail
     go_roundw
     case rel=>exact ⟨k+1,by omega,by go_num,by rw [D.out];congr 1;omega,a2.out⟩
     case measure=>simp [intOf];omega
    ·obtain rfl:k=ks.length:=by omega
     go_wp2_with fail
     go_ret;exact ⟨by rw [Ec];rfl,o.out.trans hx⟩
theorem holdsT_node {t:Int} {ks:List PT} (h:¬ m.tasks.length<=zF m ch):AU m (.node t s ks) ch=if t≠zF m ch\/s≠[] then cutB m ch t s ks.length else AT m ks ch (zu m ch):=by
 unfold AU;rw [if_neg h]
theorem holdsL_len {m:MZ} {ch:List Int}:∀{ks:List PT} {l:List Int},ks.length≠l.length->AT m ks ch l=false
 | [],[],h=>absurd rfl h
 | k :: ks,n :: l,h=>by
  unfold AT;rw [holdsL_len (by simpa using h),Bool.and_false]
 | [],_ :: _,_=>by unfold AT;rfl
 | _ :: _,[],_=>by unfold AT;rfl
theorem holdsL_drop {ks:List PT} {l:List Int} (h1:k<ks.length) (h2:k<l.length):AT m (ks.drop k) ch (l.drop k)=(AU m ks[k] (ch++[l[k]]) && AT m (ks.drop (k+1)) ch (l.drop (k+1))):=by
 rw [List.drop_eq_getElem_cons h1,List.drop_eq_getElem_cons h2]
 conv=>lhs;unfold AT
theorem holdsT_done {p:PT} (h:m.tasks.length<=zF m ch):AU m p ch=false:=by
 cases p
 unfold AU;rw [if_pos h]
theorem vholds_calls {m:MZ} (hl:Lens m) (hc:Bq m=0):∀(N:Nat) (ok okc okp:Nat->Prop) (v vc vp:Value) (ch:List Int) (p:PT) (w:World),zt w ok v m->zk w okc vc ch->zy m ch->¬ m.tasks.length<=zF m ch->zM w okp vp p->p.size<=N->p.Lens->
  Calls Tryz.prog 66 #[v,vc,vp] w fun e w'=>e=.returned (.bool (AU m p ch))/\za w w'
 | 0,ok,okc,okp,v,vc,vp,ch,.node t s ks,w,_,_,_,_,_,hN,_=>by unfold PT.size at hN;omega
 | N+1,ok,okc,okp,v,vc,vp,ch,.node tk s ks,w,hm,f4,hi,d5,hp,hN,d6=>by
  have IH:=zh (vholds_calls hl hc N);have HM:=zh hm;have HL:=zh hl;have HC:=zh hc;have HI:=zh hi;have a6:=zh f4;have HP:=zh hp;have V:=zh (zU hc hi);have j7:=zh d5;have j6:=zh (curT_le hc hi);obtain ⟨Af,cf,Au,cu,At,ct,rfl,-,-,-⟩:=hm.parts;obtain ⟨Ac,cc,rfl,-,-⟩:=f4;have k5:=hl.ts;obtain ⟨R,hR⟩:=EY (AU m (.node tk s ks) ch);rw [<-hR];rw [holdsT_node d5] at hR;have b9:=zh hR;have j4:=zh d6;unfold PT.Lens at d6;obtain ⟨j0,k3,f9⟩:=d6;have i0:=zh (CA f9);have i3:Hid (∀k∈ks,k.size<=PT.sizeL ks):=size_mem;unfold PT.size at hN
  cases hp with
  | mk hs hk he=>
   rename_i vs vk cs
   obtain ⟨As,cs',rfl,-,-⟩:=hs;obtain ⟨Ak,ck,rfl,j8,g0⟩:=hk;have i1:=zh g0;have h7:=zh he;clear hm hl hc hi d5 hR f9 g0 he;obtain ⟨c,d4⟩:=EY (zF m ch);have h5:=zh d4;rw [<-d4] at b9;clear d4
   go_enter Tryz.func66,Tryz.ntmps66
   go_upto_region 1 with fail;obtain ⟨c9,r0,r1,r2,r3,r4,r5⟩:=box6 w (.int .i64 m.w) (.int .i64 m.h) (.int .i64 m.l) (.slice Af m.free.length cf) (.slice Au m.up.length cu) (.slice At m.tasks.length ct);have d7:(w.alloc (.cells #[.int .i64 m.w,.int .i64 m.h,.int .i64 m.l,.slice Af m.free.length cf,.slice Au m.up.length cu,.slice At m.tasks.length ct] 32)).heap.size=w.heap.size+1:=by simp
   generalize w.alloc _=w0 at c9 r0 r1 r2 r3 r4 r5 d7⊢;obtain ⟨a8,p0,p1,p2⟩:=box3 w0 (.int .i64 tk) (.slice As s.length cs') (.slice Ak ks.length ck);generalize w0.alloc _=w1 at a8 p0 p1 p2⊢;rw [d7] at p0 p1 p2;obtain ⟨gm,f6⟩:=EY w.heap.size;rw [<-f6] at r0 r1 r2 r3 r4 r5 p0 p1 p2⊢;have M:=zh a8;have B:=zh (c9.trans a8);have r0:=fun W h=>r0 W (M.out.trans h)
   have r1:=fun W h=>r1 W (M.out.trans h)
   have r2:=fun W h=>r2 W (M.out.trans h)
   have r3:=fun W h=>r3 W (M.out.trans h)
   have r4:=fun W h=>r4 W (M.out.trans h)
   have r5:=fun W h=>r5 W (M.out.trans h)
   clear f6 c9 a8 d7;have G:za w1 w1:=za.refl w1
   go_wp2_with fail
   refine (Cx w1 (HM.out.below B.out) HL.out (a6.out.below B.out) (by have:=V.out;omega)).mono ?_;rintro e w2 ⟨vpp,rfl,c7,b4⟩;have e7:=zh b4;have b1:za w1 w2:=c7;obtain ⟨_,⟨App,cpp,rfl,-,-⟩,-⟩:=b4
   have HV:Hid (∀W,za w2 W->Calls Tryz.prog 119 #[.agg #[.int .i64 m.w,.int .i64 m.h,.int .i64 m.l,.slice Af m.free.length cf,.slice Au m.up.length cu,.slice At m.tasks.length ct],.slice App (zm m ch).length cpp] W fun e w'=>e=.returned (.int .i64 c)/\za W w'):=fun W hW=>by
    rw [h5.out];exact Ch W (HM.out.below ((B.out.trans c7).trans hW)) HL.out (e7.out.below hW) V.out.1 (fun x G=>by have:=(V.out.2.2.2 x G).2;omega)
   clear c7 G;obtain ⟨PL,b2⟩:=EY ((zm m ch).length);rw [<-b2] at HV e7⊢;clear b2;have hy:za w2 w2:=za.refl w2;go_upto_region 2 with fail;obtain ⟨bq,f1⟩:∃bq:Bool,bq=decide (tk≠(c:Int)\/s≠[]):=⟨_,rfl⟩;have I:=zh f1;clear f1;go_cut [29] (fun v wx=>v=.bool bq/\za w2 wx)
   case first=>
    by_cases O:tk=(c:Int)
    ·have hd:(tk != (c:Int))=false:=by rw [O];simp
     have b5:Hid (bq=decide (0<s.length)):=by
      (show _=_)
      rw [I.out,decide_eq_decide];constructor
      ·rintro (h | h)
       ·exact absurd O h
       ·exact List.length_pos_iff.2 h
      ·intro h;exact .inr (List.length_pos_iff.1 h)
     clear O;refine Eh (S:=(fun W=>za w1 W/\za w2 W)) zI (⟨b1.drew,hy.drew⟩) fun zH=>?_;have D:za w1 w2.drew/\za w2 w2.drew:=zH;generalize w2.drew=wd at zH D⊢;refine zg 0 zH ?_;refine zg 1 zH ?_;simp only [zb,DN];refine zg 2 zH ?_;refine zg 3 zH ?_;simp only [zb,DN];refine AD 4 fun K J=>?_;go_simp;go_at_call 119;refine (HV.out _ zH.2).mono ?_;rintro e w9 ⟨rfl,o⟩;go_simp;refine EZ J (⟨zH.1.trans o,zH.2.trans o⟩) fun zH=>?_;clear J K;try simp only [zb,DN]
     refine zg 5 zH ?_;refine zg 6 zH ?_;simp only [zb,DN];refine zg 7 zH ?_;refine zg 8 zH ?_;simp only [zb,DN];refine zg 9 zH ?_;refine zg 10 zH ?_;simp only [zb,DN];refine zg 11 zH ?_;simp only [zb,DN];refine Ev (by kernel_rfl) ?_ _;go_wp2;go_meet;exact ⟨by rw [b5.out],D.2.trans o⟩
    ·have hd:(tk != (c:Int))=true:=by rw [bne_iff_ne];exact O
     have b5:Hid (bq=true):=by (show _=_);rw [I.out];exact DU (.inl O)
     clear O;refine Eh (S:=(fun W=>za w1 W/\za w2 W)) zI (⟨b1.drew,hy.drew⟩) fun zH=>?_;have D:za w1 w2.drew/\za w2 w2.drew:=zH;generalize w2.drew=wd at zH D⊢;refine zg 0 zH ?_;refine zg 1 zH ?_;simp only [zb,DN];refine zg 2 zH ?_;refine zg 3 zH ?_;simp only [zb,DN];refine AD 4 fun K J=>?_;go_simp;go_at_call 119;refine (HV.out _ zH.2).mono ?_;rintro e w9 ⟨rfl,o⟩;go_simp;refine EZ J (⟨zH.1.trans o,zH.2.trans o⟩) fun zH=>?_;clear J K;try simp only [zb,DN]
     refine zg 5 zH ?_;refine zg 6 zH ?_;simp only [zb,DN];refine Cp 7 zH ?_;refine Cp 8 zH ?_;simp only [zb,DN];refine Cp 9 zH ?_;refine Cp 10 zH ?_;simp only [zb,DN];refine zg 11 zH ?_;simp only [zb,DN];refine Ev (by kernel_rfl) ?_ _;go_wp2;go_meet;exact ⟨by rw [b5.out],D.2.trans o⟩
   case rest=>
    obtain ⟨rfl,o⟩:=hcut;obtain ⟨wq,rfl⟩:∃wq:World,wq=wc:=⟨_,rfl⟩;have G:za w1 wq:=b1.trans o;clear b1 hy o HV
    cases bq with
    | true=>
     have hb:=EV I.out.symm;have HF:Hid (R=cutB m ch tk s ks.length):=by (show _=_);rw [b9.out,if_pos hb]
     clear hb
     go_wp2_with fail
     refine (vcut_calls wq (HM.out.below (B.out.trans G)) HL.out HC.out (a6.out.below (B.out.trans G)) HI.out (HP.out.ext (B.out.trans G)) j0).mono ?_;rintro e w4 ⟨rfl,i5⟩
     go_wp2_with fail
     go_ret;exact ⟨zi HF.out.symm,(B.out.trans G).trans i5⟩
    | false=>
     have hb:=of_decide_eq_false I.out.symm;have HF:Hid (R=AT m ks ch (zu m ch)):=by (show _=_);rw [b9.out,if_neg hb]
     clear hb
     go_wp2_with fail
     refine (CT wq (HM.out.below (B.out.trans G)) HL.out (a6.out.below (B.out.trans G)) (by have:=V.out;omega)).mono ?_;rintro e w4 ⟨vl,rfl,c8⟩;have e2:=zh c8.ints;have d8:za w1 w4:=G.trans c8.ext;have b6:Hid (zu m ch=BK m ch):=by (show _=_);unfold zu;rw [if_pos (okC_of HC.out HI.out)]
     have e4:Hid (∀n∈zu m ch,zy m (ch++[n])):=fun n hn=>by
      rw [b6.out] at hn;exact .snoc HI.out hn
     have i6:(zu m ch).length<=400000000000:=by rw [b6.out];exact CE HL.out ch
     obtain ⟨L,hL⟩:=EY (zu m ch);rw [<-hL] at e2 HF e4 i6;obtain ⟨AL,cL,rfl,-,g1⟩:=e2.out;have i2:=zh g1;have e8:=zh d8;clear c8 G hL g1 b6;by_cases a4:L.length=ks.length
     ·have hd:((L.length:Int) != (ks.length:Int))=false:=by rw [a4];simp
      have e5:=zh a4;clear a4;have e9:=zh (za.refl w4)
      go_wp2_with fail
      clear d8;go_loopw [10] (fun i wr=>∃j:Nat,j<=L.length/\i=.int .i64 j/\Hid (R=AT m (ks.drop j) ch (L.drop j))/\Hid (za w4 wr)) (fun i _=>L.length - (intOf i).toNat)
      case atStart=>exact ⟨0,Ef _,rfl,HF.out,e9.out⟩
      case round=>
       obtain ⟨j,hj,rfl,hr,hE⟩:=hrel;obtain ⟨wj,rfl⟩:∃wj:World,wj=wr:=⟨_,rfl⟩;have G:za w1 wj:=e8.out.trans hE.out;by_cases a3:j<L.length
       ·have j5:(j:Int)<(L.length:Int):=by omega
        have kk0:(0:Int)<=(j:Int):=by omega
        have E:j<ks.length:=by rw [<-e5.out];exact a3
        have i9:(j:Int)<(ks.length:Int):=by omega
        obtain ⟨bl,offl,rfl,-,b3⟩:=zE i2.out a3 a3;have f5:wj.cell? ⟨bl,offl+j,none⟩=some (.int .i64 L[j]):=hE.out.cell b3;have b7:Hid (zy m (ch++[L[j]])):=e4.out _ (DS a3);have Q:=zh (holdsL_drop (m:=m) (ch:=ch) E a3);obtain ⟨b,off,rfl,h0,h1,h2⟩:=kidsAt i1.out E;have q0:=za.rule (B.out.cell h0);have q1:=za.rule (B.out.cell h1);have q2:=za.rule (B.out.cell h2);have e6:=zh (h7.out j E);have b8:Hid ((ks[j]).Lens/\(ks[j]).size<=N):=⟨i0.out _ (DS E),by have:=i3.out _ (DS E);omega⟩;obtain ⟨n,hn⟩:=EY (L[j]);obtain ⟨kd,f7⟩:=EY (ks[j]);rw [<-hn] at f5 b7 Q;rw [<-f7] at Q e6 b8;clear b3 h0 h1 h2 hn f7
        go_wp2_with fail
        refine (with_calls29 n wj (a6.out.below (B.out.trans G)) (by have:=V.out;omega)).mono ?_;rintro e w6 ⟨v6,rfl,a1⟩;have e3:=zh a1.ints;have a5:za w1 w6:=G.trans a1.ext;have g4:za w6 w6:=za.refl w6;have h6:Hid (za w4 w6):=hE.out.trans a1.ext;obtain ⟨A6,c6,rfl,-⟩:=a1.slice;obtain ⟨cb,a9⟩:=EY (decide (m.tasks.length<=zF m (ch++[n])))
        have c0:Hid (∀W,za w6 W->Calls Tryz.prog 117 #[.agg #[.int .i64 m.w,.int .i64 m.h,.int .i64 m.l,.slice Af m.free.length cf,.slice Au m.up.length cu,.slice At m.tasks.length ct],.slice A6 (ch++[n]).length c6] W fun e w'=>e=.returned (.bool cb)/\za W w'):=fun W hW=>by
         rw [a9];exact Dv W (HM.out.below (B.out.trans (a5.trans hW))) HL.out HC.out (e3.out.below hW) b7.out
        obtain ⟨hb,b0⟩:=EY (AU m kd (ch++[n]))
        have a7:Hid (cb=false->∀W,za w6 W->Calls Tryz.prog 66 #[.agg #[.int .i64 m.w,.int .i64 m.h,.int .i64 m.l,.slice Af m.free.length cf,.slice Au m.up.length cu,.slice At m.tasks.length ct],.slice A6 (ch++[n]).length c6,.agg #[cs.getD (j*3) undef,cs.getD (j*3+1) undef,cs.getD (j*3+2) undef]] W fun e w'=>e=.returned (.bool hb)/\za W w'):=fun f3 W hW=>by
         rw [b0];rw [a9] at f3;exact IH.out _ _ _ _ _ _ _ _ W (HM.out.below (B.out.trans (a5.trans hW))) (e3.out.below hW) b7.out (of_decide_eq_false f3) (e6.out.ext (B.out.trans (a5.trans hW))) b8.out.2 b8.out.1
        have h8:Hid (cb=true->hb=false):=fun h=>by
         rw [a9] at h;rw [b0];exact holdsT_done (EV h)
        rw [<-b0] at Q;clear a1 a9 b0 G f5;obtain ⟨N6,f0⟩:=EY ((ch++[n]).length);rw [<-f0] at c0 a7⊢;clear f0;go_upto_region 11 with fail;go_cut [68] (fun v wx=>v=.bool (!hb)/\za w6 wx)
        case first=>
         cases cb with
         | true=>
          have g9:Hid (hb=false):=h8.out rfl;refine Eh (S:=(fun W=>za w1 W/\za w6 W)) zI (⟨a5.drew,g4.drew⟩) fun zH=>?_;have D:za w1 w6.drew/\za w6 w6.drew:=zH;generalize w6.drew=wd at zH D⊢;refine zg 0 zH ?_;refine zg 1 zH ?_;simp only [zb,DN];refine AD 2 fun K J=>?_;go_simp;go_at_call 117;refine (c0.out _ zH.2).mono ?_;rintro e w9 ⟨rfl,o⟩;go_simp;refine EZ J (⟨zH.1.trans o,zH.2.trans o⟩) fun zH=>?_;clear J K;try simp only [zb,DN]
          refine zg 3 zH ?_;refine Cp 4 zH ?_;simp only [zb,DN];refine Cp 5 zH ?_;refine Cp 6 zH ?_;simp only [zb,DN];refine Cp 7 zH ?_;refine Cp 8 zH ?_;simp only [zb,DN];refine Cp 9 zH ?_;refine Cp 10 zH ?_;simp only [zb,DN];refine Cp 11 zH ?_;refine Cp 12 zH ?_;simp only [zb,DN];refine zg 13 zH ?_;simp only [zb,DN];refine Ev (by kernel_rfl) ?_ _;go_wp2;go_meet;exact ⟨by rw [g9.out];rfl,D.2.trans o⟩
         | false=>
          have a7:=zh (a7.out rfl);refine Eh (S:=(fun W=>za w1 W/\za w6 W)) zI (⟨a5.drew,g4.drew⟩) fun zH=>?_;have D:za w1 w6.drew/\za w6 w6.drew:=zH;generalize w6.drew=wd at zH D⊢;refine zg 0 zH ?_;refine zg 1 zH ?_;simp only [zb,DN];refine AD 2 fun K J=>?_;go_simp;go_at_call 117;refine (c0.out _ zH.2).mono ?_;rintro e w9 ⟨rfl,o⟩;go_simp;refine EZ J (⟨zH.1.trans o,zH.2.trans o⟩) fun zH=>?_;clear J K;try simp only [zb,DN]
          refine zg 3 zH ?_;refine zg 4 zH ?_;simp only [zb,DN];refine zg 5 zH ?_;refine zg 6 zH ?_;simp only [zb,DN];refine zg 7 zH ?_;refine zg 8 zH ?_;simp only [zb,DN];refine zg 9 zH ?_;refine zg 10 zH ?_;simp only [zb,DN];refine AD 11 fun K J=>?_;go_simp;go_at_call 66;refine (a7.out _ zH.2).mono ?_;rintro e w10 ⟨rfl,a0⟩;go_simp;refine EZ J (⟨zH.1.trans a0,zH.2.trans a0⟩) fun zH=>?_;clear J K;try simp only [zb,DN]
          refine zg 12 zH ?_;refine zg 13 zH ?_;simp only [zb,DN];refine Ev (by kernel_rfl) ?_ _;go_wp2;go_meet;exact ⟨by first | rfl | simp,(D.2.trans o).trans a0⟩
        case rest=>
         obtain ⟨rfl,o⟩:=hcut;have g3:za w4 wc:=h6.out.trans o
         cases hb with
         | false=>
          have U:Hid (R=false):=by (show _=_);rw [hr.out,Q.out,Bool.false_and]
          go_wp2_with fail
          go_ret;exact ⟨zi U.out.symm,B.out.trans (e8.out.trans g3)⟩
         | true=>
          have j2:Hid (R=AT m (ks.drop (j+1)) ch (L.drop (j+1))):=by (show _=_);rw [hr.out,Q.out,Bool.true_and]
          go_wp2_with fail
          go_roundw
          case rel=>exact ⟨j+1,by omega,by go_num,j2,g3⟩
          case measure=>simp [intOf];omega
       ·obtain rfl:j=L.length:=by omega
        have U:Hid (R=true):=by
         (show _=_)
         rw [hr.out,List.drop_length,e5.out,List.drop_length];unfold AT;rfl
        go_wp2_with fail
        go_ret;exact ⟨zi U.out.symm,B.out.trans G⟩
     ·have hd:((L.length:Int) != (ks.length:Int))=true:=by rw [bne_iff_ne];omega
      have U:Hid (R=false):=by (show _=_);rw [HF.out];exact holdsL_len (fun h=>a4 h.symm)
      clear a4
      go_wp2_with fail
      go_ret;exact ⟨zi U.out.symm,B.out.trans d8⟩
end
end Go.Proofs.YtjomnbdjajjgfaaGreatDoor
