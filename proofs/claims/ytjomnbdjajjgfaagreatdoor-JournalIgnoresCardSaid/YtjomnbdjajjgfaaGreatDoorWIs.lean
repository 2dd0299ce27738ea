import Derived.Test.YtjomnbdjajjgfaaGreatDoorWIr
import Derived.Laws.EntriesVeiled
set_option linter.unusedVariables false
set_option linter.unusedSimpArgs false
set_option maxRecDepth 100000
set_option maxHeartbeats 16000000
namespace Go.Proofs.YtjomnbdjajjgfaaGreatDoor
variable {mc:Array Value} {ns:List ByteArray} {id s x y:List UInt8} {bs:List Value} {m:MZ} {B g gi gm gs k n:Nat} {R Z ok:Nat->Prop} {v:Value} {W w:World}
section
open Go.RowKit Go.Shelf
attribute [local go_sem ↓] Go.wp_at_zero Go.wp_at_succ
attribute [local go_sem] Oper.semAt_some
def jsc (vc:Value) (x:JS):Array Value:=#[vc,.int .i64 x.steps,.int .i64 x.fin,.string ⟨x.sg.toArray⟩]
def j0 (id:List UInt8):JS:=⟨[],0,(zr id).length,id⟩
def mzc (m:MZ) (Af:Option Addr) (cf:Nat) (Au:Option Addr) (cu:Nat) (At:Option Addr) (ct:Nat):Array Value:=#[.int .i64 m.w,.int .i64 m.h,.int .i64 m.l,.slice Af m.free.length cf,.slice Au m.up.length cu,.slice At m.tasks.length ct]
structure JCtx (W:World) (gi gs gm:Nat) (id s:List UInt8) (mc:Array Value) (m:MZ) (R:Nat->Prop):Prop where
 bi:zl W gi 9 #[.string ⟨id.toArray⟩]
 bs:zl W gs 9 #[.string ⟨s.toArray⟩]
 bm:zl W gm 32 mc
 mz:zY W R (.agg mc) m
 v:zq W
theorem JCtx.ext {W W':World} {gi gs gm:Nat} {id s:List UInt8} {mc:Array Value} {m:MZ} {R:Nat->Prop} (h:JCtx W gi gs gm id s mc m R) (d:za W W'):JCtx W' gi gs gm id s mc m R:=
 ⟨h.bi.ext d,h.bs.ext d,h.bm.ext d,h.mz.below d,h.v.ext d⟩
theorem JCtx.chg {W':World} {X:Nat->Prop} (h:JCtx W gi gs gm id s mc m R) (d:zC X W W') (h1:¬ X gi) (h2:¬ X gs) (h3:¬ X gm) (o:∀b,R b->¬ X b) (D:∀g,X g->¬ isVar g):JCtx W' gi gs gm id s mc m R:=
 ⟨d.blk h.bi h1,d.blk h.bs h2,d.blk h.bm h3,h.mz.keep (d.same o),DB h.v d D⟩
structure JOut (w W:World) (l gi gs gm:Nat) (R Z:Nat->Prop):Prop where
 l1:w.heap.size<=l
 l2:l<W.heap.size
 wW:w.heap.size<=W.heap.size
 b:gi<w.heap.size/\gs<w.heap.size/\gm<w.heap.size
 z:¬ Z gi/\¬ Z gs/\¬ Z gm
 rb:∀b,R b->b<w.heap.size/\¬ Z b
 zb:∀b,Z b->b<w.heap.size/\¬ isVar b
 nv:∀b,w.heap.size<=b->¬ isVar b
structure JIt (W wr:World) (gi gs gm gx:Nat) (id s:List UInt8) (mc:Array Value) (m:MZ) (R:Nat->Prop) (y:JS) (vc:Value):Prop where
 ctx:JCtx wr gi gs gm id s mc m R
 x:zl wr gx 126 (jsc vc y)
 ch:zk wr (fun b=>W.heap.size<=b/\b≠gx) vc y.ch
 sz:W.heap.size<=wr.heap.size
theorem JIt.yield {wr w':World} {l gx:Nat} {y:JS} {vc:Value} (h:JIt W wr gi gs gm gx id s mc m R y vc) (d:JOut w W l gi gs gm R Z) (I:W.heap.size<=gx) (o:zC (fun b=>b=l\/Z b) wr w'):JIt W w' gi gs gm gx id s mc m R y vc:=by
 have h1:=d.l1;have h2:=d.l2;have h3:=d.wW;have G:=d.b;have D:=d.z;refine ⟨h.ctx.chg o ?_ ?_ ?_ ?_ ?_,o.blk h.x ?_,h.ch.keep (o.same ?_),Ea h.sz o.size⟩
 ·rintro (e | e);omega;exact D.1 e
 ·rintro (e | e);omega;exact D.2.1 e
 ·rintro (e | e);omega;exact D.2.2 e
 ·rintro b E (e | e)
  ·have:=(d.rb b E).1;omega
  ·exact (d.rb b E).2 e
 ·rintro g (e | e)
  ·exact d.nv g (by omega)
  ·exact (d.zb g e).2
 ·rintro (e | e)
  ·omega
  ·have:=(d.zb _ e).1;omega
 ·rintro b ⟨E,-⟩ (e | e)
  ·omega
  ·have:=(d.zb _ e).1;omega
theorem rec_seal {sg T:List UInt8} {ch:List Int} {st:Int} (h:RecOk ch st) (hp:zS sg ch st <+: T):(Bn (Bn (T,false)).2).1=zJ sg ch st:=by
 obtain ⟨rest,rfl⟩:=hp;obtain ⟨h1,h2,-,-⟩:=rec_read (sg:=sg) (rest:=rest) h;rw [h1,h2]
theorem elsF_cl:∀(f:Nat) (s:Rd) (l:List Int),(AJ f s l).1.length<=l.length+f
 | 0,s,l=>by simp [AJ]
 | f+1,s,l=>by
  unfold AJ
  split
  ·simp only;omega
  ·have:=elsF_cl f (AS s).2 (l++[(AS s).1]);simp only [Eg,Ey] at this;omega
theorem intsF_cl (s:Rd):(zZ s).1.length<=s.1.length:=by
 unfold zZ
 split
 ·simp
 ·have h:=elsF_cl s.1.tail.length (s.1.tail,false) [];simp only [Fc,List.length_tail] at h;unfold intsE
  split
  ·simp
  ·simp only [List.length_tail];omega
theorem z7 {a b c d:Value} (h:zl W g 126 #[a,b,c,d]):W.cell? ⟨g,0,none⟩=some a/\W.cell? ⟨g,1,none⟩=some b/\W.cell? ⟨g,2,none⟩=some c/\W.cell? ⟨g,3,none⟩=some d:=
 ⟨h.cell (k:=0) rfl,h.cell (k:=1) rfl,h.cell (k:=2) rfl,h.cell (k:=3) rfl⟩
theorem jStates_gives {cf cu ct:Nat} {Af Au At:Option Addr} (w:World) (hC:JCtx w gi gs gm id s (mzc m Af cf Au cu At ct) m R) (hl:Lens m) (hc:BM m=0) (hid:id.length=8) (hs:s.length<=40000000) (hh:(zr id).length<=s.length)
  (q4:∀b,R b->b<w.heap.size/\¬ Z b) (hZ:¬ Z gi/\¬ Z gs/\¬ Z gm) (q6:∀b,Z b->b<w.heap.size/\¬ isVar b) (n:Nat):
  GivesJ n Tryz.prog 197 #[.pointer (some ⟨gi,0,none⟩),.pointer (some ⟨gs,0,none⟩),.pointer (some ⟨gm,0,none⟩)] (fun x:Value=>#[x])
   (fun B gx k x W=>∃y vc,(allJ m s s.length (j0 id))[k]?=some y/\x=.agg (jsc vc y)/\zk W (fun b=>B<=b/\b≠gx) vc y.ch) (allJ m s s.length (j0 id)).length Z w:=by
 intro l J W hW s9 s3 hJ hY h0;refine callsIn_wide.2 ?_;obtain ⟨L,hL⟩:=Fd (allJ m s s.length (j0 id));have p8:JSb s (j0 id):=⟨hh,(show BI 0 from ⟨by decide,by decide⟩),hid,(fun n hn=>by cases hn),Em _⟩
 have p9:loadE m (j0 id).ch (j0 id).steps=0:=by
  have h:=(rinv_load (m:=m)).loadE hc;exact h
 have m5:Hid (∀(k:Nat) (y:JS),L[k]?=some y->JSb s y/\(zO m s y=none->k+1=L.length)/\∀z,zO m s y=some z->L[k+1]?=some z):=fun k y hy=>by
  rw [hL] at hy⊢;exact ⟨(allJ_b _ _ _ _ p8 p9 hy).1,allJ_next _ _ _ _ (by omega) hy⟩
 have i0:Hid (L[0]?=some (j0 id)):=by (show _=_);rw [hL];exact allJ_zero _ _ _ _
 rw [<-hL] at hY⊢;have HO:Hid (JOut w W l gi gs gm R Z):=⟨s9,s3,hW.size,⟨zc hC.bi,zc hC.bs,zc hC.bm⟩,hZ,q4,q6,fun b hb=>var_new hC.v hb⟩;have d8:=zh (hC.ext hW);have HJ:=zh hJ;have HY:=zh hY;have h9:=zh h0;have HL:=zh hl;have o0:=zh hs;have c0:=d8.out.bi.cell (k:=0) rfl;have q0:=za.rule c0;have g8:Hid (∀W',za W W'->Calls Tryz.prog 75 #[.string ⟨id.toArray⟩] W' fun e w'=>e=.returned (.string ⟨(zr id).toArray⟩)/\za W' w'):=fun W' h=>Dk W' (d8.out.v.ext h) (by omega)
 have hx:za W W:=za.refl W;clear hL p8 p9 hJ hY h0 hC hW s9 s3 q4 hZ q6 hl hc hid hs hh c0
 go_enter Tryz.func197,Tryz.ntmps197
 go_upto_region 0 with fail;go_cut [5] (fun v5 wc=>∃gx,v5=.pointer (some ⟨gx,0,none⟩)/\W.heap.size<=gx/\Hid (za W wc)/\Hid (zl wc gx 126 (jsc (.slice none 0 0) (j0 id))))
 case first=>
  clear m5 i0 HJ HY h9;refine Di (fun Q' hP e4=>?_) (fun c a a' w hd h=>by obtain ⟨t,d⟩:=a;obtain ⟨t',d'⟩:=a';cases hd;exact h);refine AA (S:=(fun W'=>za W W')) AI (hx.drew) fun zH=>?_;generalize W.drew=wd at zH⊢;refine ze (i:=0) (v:=?v1) rfl (by kernel_rfl) (by kernel_rfl) (by kernel_rfl) (by kernel_rfl) (fun _ _ _ h=>hP _ _ _ _ (by rfl) h) (Or.inl ⟨?w1,?y1⟩) zH ?r1
  case w1=>rfl
  case y1=>(intro w M;go_simp;try with_reducible rfl)
  simp only [zd,DV];refine ze (i:=3) (v:=?v2) rfl (by kernel_rfl) (by kernel_rfl) (by kernel_rfl) (by kernel_rfl) (fun _ _ _ h=>hP _ _ _ _ (by rfl) h) (Or.inl ⟨?w2,?y2⟩) zH ?r2
  case w2=>rfl
  case y2=>(intro w M;go_simp;try with_reducible rfl)
  simp only [zd,DV];refine zp (rs:=[1,5]) (by kernel_rfl) (by simp) ?_;refine zg.cons rfl (fun K E=>?_) ?_
  ·go_simp;go_at_call 75;refine (g8.out _ (zH)).mono ?_;rintro e w1 ⟨rfl,A3⟩;go_simp;refine Fe E (zH.trans A3) fun zH=>?_;clear E K;try simp only [zd,DV]
   refine ze (i:=2) (v:=?v3) rfl (by kernel_rfl) (by kernel_rfl) (by kernel_rfl) (by kernel_rfl) (fun _ _ _ h=>hP _ _ _ _ (by rfl) h) (Or.inl ⟨?w3,?y3⟩) zH ?r3
   case w3=>rfl
   case y3=>(intro w M;go_simp;try with_reducible rfl)
   simp only [zd,DV];refine ze (i:=4) (v:=?v4) rfl (by kernel_rfl) (by kernel_rfl) (by kernel_rfl) (by kernel_rfl) (fun _ _ _ h=>hP _ _ _ _ (by rfl) h) (Or.inl ⟨?w4,?y4⟩) zH ?r4
   case w4=>rfl
   case y4=>(intro w M;go_simp;try with_reducible rfl)
   simp only [zd,DV];refine zp (rs:=[5]) (by kernel_rfl) (by simp) ?_;refine zg.cons rfl (fun K E=>?_) zg.nil;go_simp;have O:=zl.new w1 #[.slice none 0 0,.int .i64 0,.int .i64 0,.string ⟨#[]⟩] 126 (g:=w1.heap.size) rfl;have hA2:za w1 (w1.alloc (.cells #[.slice none 0 0,.int .i64 0,.int .i64 0,.string ⟨#[]⟩] 126)):=(za.refl w1).alloc _;have b4:Hid (W.heap.size<=w1.heap.size):=zH.size;generalize w1.alloc _=w2 at O hA2⊢;generalize w1.heap.size=gx at O b4⊢;go_simp;refine Fe E (zH.trans hA2) fun zH=>?_;clear E K;try simp only [zd,DV]
   have B4:=O;refine zp (rs:=[6]) (by kernel_rfl) (by simp) ?_;refine zg.last rfl (by kernel_rfl) fun K E=>?_;go_simp;obtain ⟨k0,k1,k2,k3⟩:=z7 O;have fz:∀k,w2.frozen? ⟨gx,k,none⟩=false:=fun k=>O.frozen k
   go_simp;have o:Hid (za W ((((w2.setCell ⟨gx,0,none⟩ (.slice none 0 0)).setCell ⟨gx,1,none⟩ (.int .i64 0)).setCell ⟨gx,2,none⟩ (.int .i64 (zr id).length)).setCell ⟨gx,3,none⟩ (.string ⟨id.toArray⟩))):=(((Below.setCell (zH) (p:=⟨gx,0,none⟩) b4.out _).setCell (p:=⟨gx,1,none⟩) b4.out _).setCell (p:=⟨gx,2,none⟩) b4.out _).setCell (p:=⟨gx,3,none⟩) b4.out _;have g6:Hid (zl ((((w2.setCell ⟨gx,0,none⟩ (.slice none 0 0)).setCell ⟨gx,1,none⟩ (.int .i64 0)).setCell ⟨gx,2,none⟩ (.int .i64 (zr id).length)).setCell ⟨gx,3,none⟩ (.string ⟨id.toArray⟩)) gx 126 (jsc (.slice none 0 0) (j0 id))):=(((O.set (k:=0) _).set (k:=1) _).set (k:=2) _).set (k:=3) _;have g7:=b4;refine E.out _ _ ?_;clear E K;refine AV (by kernel_rfl) ?_ _;subst e4;go_wp2;go_meet;exact ⟨gx,rfl,g7.out,o,g6⟩
  refine zg.cons rfl (fun K E=>?_) ?_
  ·go_simp;have i9:=zl.new wd #[.slice none 0 0,.int .i64 0,.int .i64 0,.string ⟨#[]⟩] 126 (g:=wd.heap.size) rfl;have hA1:za wd (wd.alloc (.cells #[.slice none 0 0,.int .i64 0,.int .i64 0,.string ⟨#[]⟩] 126)):=(za.refl wd).alloc _;have b0:Hid (W.heap.size<=wd.heap.size):=zH.size;generalize wd.alloc _=w1 at i9 hA1⊢;generalize wd.heap.size=gx at i9 b0⊢;go_simp;refine Fe E (zH.trans hA1) fun zH=>?_;clear E K;try simp only [zd,DV]
   refine zp (rs:=[1]) (by kernel_rfl) (by simp) ?_;refine zg.cons rfl (fun K E=>?_) zg.nil;go_simp;go_at_call 75;refine (g8.out _ (zH)).mono ?_;rintro e w2 ⟨rfl,p7⟩;have O:=i9.ext p7;go_simp;refine Fe E (zH.trans p7) fun zH=>?_;clear E K;try simp only [zd,DV]
   refine ze (i:=2) (v:=?v5) rfl (by kernel_rfl) (by kernel_rfl) (by kernel_rfl) (by kernel_rfl) (fun _ _ _ h=>hP _ _ _ _ (by rfl) h) (Or.inl ⟨?w5,?y5⟩) zH ?r5
   case w5=>rfl
   case y5=>(intro w M;go_simp;try with_reducible rfl)
   simp only [zd,DV];refine ze (i:=4) (v:=?v6) rfl (by kernel_rfl) (by kernel_rfl) (by kernel_rfl) (by kernel_rfl) (fun _ _ _ h=>hP _ _ _ _ (by rfl) h) (Or.inl ⟨?w6,?y6⟩) zH ?r6
   case w6=>rfl
   case y6=>(intro w M;go_simp;try with_reducible rfl)
   simp only [zd,DV];refine zp (rs:=[6]) (by kernel_rfl) (by simp) ?_;refine zg.last rfl (by kernel_rfl) fun K E=>?_;go_simp;obtain ⟨k0,k1,k2,k3⟩:=z7 O;have fz:∀k,w2.frozen? ⟨gx,k,none⟩=false:=fun k=>O.frozen k
   go_simp;have o:Hid (za W ((((w2.setCell ⟨gx,0,none⟩ (.slice none 0 0)).setCell ⟨gx,1,none⟩ (.int .i64 0)).setCell ⟨gx,2,none⟩ (.int .i64 (zr id).length)).setCell ⟨gx,3,none⟩ (.string ⟨id.toArray⟩))):=(((Below.setCell (zH) (p:=⟨gx,0,none⟩) b0.out _).setCell (p:=⟨gx,1,none⟩) b0.out _).setCell (p:=⟨gx,2,none⟩) b0.out _).setCell (p:=⟨gx,3,none⟩) b0.out _;have g6:Hid (zl ((((w2.setCell ⟨gx,0,none⟩ (.slice none 0 0)).setCell ⟨gx,1,none⟩ (.int .i64 0)).setCell ⟨gx,2,none⟩ (.int .i64 (zr id).length)).setCell ⟨gx,3,none⟩ (.string ⟨id.toArray⟩)) gx 126 (jsc (.slice none 0 0) (j0 id))):=(((O.set (k:=0) _).set (k:=1) _).set (k:=2) _).set (k:=3) _;have g7:=b0;refine E.out _ _ ?_;clear E K;refine AV (by kernel_rfl) ?_ _;subst e4;go_wp2;go_meet;exact ⟨gx,rfl,g7.out,o,g6⟩
  exact zg.nil
 case rest=>
  obtain ⟨gx,rfl,k7,e0,c6⟩:=hcut;obtain ⟨wa,rfl⟩:∃wa:World,wa=wc:=⟨_,rfl⟩;have a3:Hid (JIt W wa gi gs gm gx id s (mzc m Af cf Au cu At ct) m R (j0 id) (.slice none 0 0)):=⟨d8.out.ext e0.out,c6.out,zk.nil _ _,e0.out.size⟩;have m2:Hid (J gx 0 wa):=HJ.out gx 0 W wa k7 (h9.out gx) (zC.of_ext e0.out);have b5:=zh k7;clear e0 c6 h9 hx q0 g8 d8 k7
  go_wp2_with fail
  go_loopg [] (L.length) (fun gk wr=>∃(k:Nat) (y:JS) (vc:Value),L[k]?=some y/\gk+k=L.length/\Hid (JIt W wr gi gs gm gx id s (mzc m Af cf Au cu At ct) m R y vc)/\Hid (J gx k wr))
  case atStart=>exact ⟨0,_,_,i0.out,rfl,a3,m2⟩
  clear a3 m2 i0
  case round=>
   obtain ⟨k,y,vc,d6,C7,a3,m3⟩:=hrel;obtain ⟨wk,rfl⟩:∃wk:World,wk=wr:=⟨_,rfl⟩;have A8:k<L.length:=(ES.1 d6).1;obtain ⟨t3,t5,t7⟩:=m5.out k y d6;have t6:=HY.out gx k (.agg (jsc vc y)) wk b5.out A8 m3.out ⟨y,vc,d6,rfl,a3.out.ch⟩;obtain ⟨fn,tmps,assign,body,t4,hR⟩:=yield_any t6;have HR:=zh hR;obtain ⟨k0,k1,k2,k3⟩:=z7 a3.out.x;have C2:=zh d6;have i8:=zh t3;have A1:=zh t5;have A2:=zh t7;clear t6 hR d6 t3 t5 t7;go_upto_region 1 with fail;refine (Go.wpIn_wide (n:=6)).1 ?_;simp only [jsc] at t4
   gi_wp2_with fail
   refine (HR.out _).mono ?_;rintro e w2 ⟨rfl,q9,q7⟩;have m1:=zh q9;have D:=zh (a3.out.yield HO.out b5.out q7);clear HR t4 q9 q7 a3 m3 k0 k1 k2 k3;obtain ⟨k0,k1,k2,k3⟩:=z7 D.out.x;have x0:=za.rule k0;have x1:=za.rule k1;have x2:=za.rule k2;have x3:=za.rule k3;have s0:=za.rule (D.out.ctx.bs.cell (k:=0) rfl);have l8:Hid (y.fin<=s.length/\s.length<=40000000):=⟨i8.out.fin,o0.out⟩;have f6:y.fin<=s.length:=i8.out.fin;have f7:=o0.out;have e1:ByteArray.extract ⟨s.toArray⟩ y.fin s.length=⟨(s.drop y.fin).toArray⟩:=Dm s y.fin;obtain ⟨T,hT⟩:=Fd (s.drop y.fin);have o4:Hid (T.length<=40000000):=by (show _<=_);rw [hT,EX];omega
   rw [<-hT] at e1;have HT:=zh hT;have hx:za w2 w2:=za.refl w2;clear k0 k1 k2 k3 hT
   gi_wp2_with fail
   obtain ⟨t1,e9⟩:∃t,t=Bn (T,false):=⟨_,rfl⟩;obtain ⟨t2,f0⟩:∃t,t=Bn t1.2:=⟨_,rfl⟩;obtain ⟨c,d5⟩:=Fd (zZ (t1.1,false));obtain ⟨q,hq⟩:=Fd (AS c.2)
   have a0:Hid (zO m s y=if t2.2.2=true\/q.2.2=true\/q.1<=y.steps then none else if ¬ zS y.sg c.1 q.1 <+: T then none else if loadE m c.1 q.1≠0 then none else some ⟨c.1,q.1,y.fin+(zS y.sg c.1 q.1).length,zJ y.sg c.1 q.1⟩):=by
    (show _=_);unfold zO;rw [hq,d5,f0,e9,HT.out]
   have e7:=textF_len (T,false);have k8:=textF_len t1.2;have s2:=intsF_len (t1.1,false);have e8:=(intsF_lv (t1.1,false));have l4:=Cp c.2;rw [<-e9] at e7;rw [<-f0] at k8;rw [<-d5] at s2 e8;rw [<-hq] at l4
   have b6:Hid (t1.1.length<=40000000/\t1.2.1.length<=40000000/\t2.1.length<=40000000/\c.2.1.length<=40000000/\c.1.length<=40000000/\BI q.1/\∀x∈c.1,BI x):=by
    have h0:=o4.out;have h1:=e7.1;have h2:=e7.2;have h3:=k8.1;have h4:(t1.1,false).1.length=t1.1.length:=rfl;have h5:(T,false).1.length=T.length:=rfl;have h6:=e8.1;have h7:lv (t1.1,false)=t1.1.length+1:=lv_ok rfl;refine ⟨by omega,by omega,by omega,by omega,?_,l4,e8.2⟩;have h8:c.1.length<=(t1.1,false).1.length:=by rw [d5];exact intsF_cl _
    omega
   have o2:=zh e9;have o3:=zh f0;have x4:=zh d5;have HQ:=zh hq;clear e9 f0 d5 hq e7 k8 s2 e8 l4
   go_wp2_with fail
   refine (wNew_calls T w2).mono ?_;rintro e w3 ⟨rfl,j3,j6⟩;obtain ⟨r,hr⟩:=Fd w2.heap.size;rw [<-hr] at j6⊢;have m9:=zh j6;have m6:Hid (r=w2.heap.size):=hr;have o9:Hid (za w2 w3):=j3;have o5:Hid (zq w3):=D.out.ctx.v.ext j3;clear hr j3 j6 hx e1 f6 f7
   go_wp2_with fail
   refine (rText_calls w3 o5.out m9.out (by have:=o4.out;show T.length<=_;omega)).mono ?_;rintro e w4 ⟨rfl,p5,j7⟩;rw [<-o2.out] at j7⊢;have i2:=zh j7;have i4:Hid (za w2 w4):=Below.trans o9.out (p5.below o9.out.size (fun b hb=>by rw [hb,m6.out];exact DY _));have z5:Hid (zq w4):=D.out.ctx.v.ext i4.out;clear p5 j7
   go_wp2_with fail
   refine (wNew_calls t1.1 w4).mono ?_;rintro e w5 ⟨rfl,j4,j8⟩;obtain ⟨b,hb⟩:∃r,r=w4.heap.size:=⟨_,rfl⟩;rw [<-hb] at j8⊢;have n4:=zh j8;have f1:=zh (i2.out.ext j4);have V:Hid (r<b/\w2.heap.size<=b):=⟨by have:=zc i2.out;omega,by have:=i4.out.size;omega⟩;have i5:Hid (za w2 w5):=i4.out.trans j4;have o6:Hid (zq w5):=D.out.ctx.v.ext i5.out;clear hb j4 j8 m9 i2 o5 z5
   go_wp2_with fail
   refine (rText_calls w5 o6.out f1.out (by have:=b6.out.2.1;omega)).mono ?_;rintro e w6 ⟨rfl,j1,j9⟩;rw [<-o3.out] at j9⊢;have n5:=zh j9;have l6:Hid (RdAt w6 b (t1.1,false)):=j1.blk n4.out (by have:=V.out;omega);have d9:Hid (za w2 w6):=Below.trans i5.out (j1.below i5.out.size (fun b hb=>by rw [hb,m6.out];exact DY _));have o7:Hid (zq w6):=D.out.ctx.v.ext d9.out;clear j1 j9 f1 n4
   go_wp2_with fail
   refine (rInts_calls w6 o7.out l6.out (by have:=b6.out.1;show t1.1.length<=_;omega)).mono ?_;rintro e w7 ⟨vn,rfl,j2,k4,e3⟩;rw [<-x4.out] at k4 e3;obtain ⟨An,cn,rfl,-⟩:=AL e3;have n6:Hid (RdAt w7 r t2.2):=j2.blk n5.out (by have:=V.out;omega);have i6:Hid (za w2 w7):=Below.trans d9.out (j2.below d9.out.size (fun g hg=>by have:=V.out;omega));have o8:Hid (zq w7):=D.out.ctx.v.ext i6.out;have f9:=zh k4;have m8:=zh e3;clear j2 k4 e3 n5 l6 o6
   go_wp2_with fail
   refine (rInt_calls w7 o8.out f9.out (by have:=b6.out.2.2.2.1;omega)).mono ?_;rintro e w8 ⟨rfl,e2,k5⟩;rw [<-HQ.out] at k5⊢;have n7:Hid (RdAt w8 r t2.2):=e2.blk n6.out (by have:=V.out;omega);have i7:Hid (za w2 w8):=Below.trans i6.out (e2.below i6.out.size (fun g hg=>by have:=V.out;omega));have z9:Hid (zq w8):=D.out.ctx.v.ext i7.out;have l7:=zh k5;have m0:Hid (zk w8 (fun b=>w6.heap.size<=b/\b<w8.heap.size) (.slice An c.1.length cn) c.1):=Bv.bound (Bv.of_own (Do m8.out f9.out (by decide) e2)) (by decide);clear e2 k5 n6 f9 m8 o8 o7;go_upto_region 6 with fail;have a9:=zl.new w8 #[.slice An c.1.length cn,.int .i64 q.1,.int .i64 0,.string ⟨t2.1.toArray⟩] 126 (g:=w8.heap.size) rfl;have b7:za w8 (w8.alloc (.cells #[.slice An c.1.length cn,.int .i64 q.1,.int .i64 0,.string ⟨t2.1.toArray⟩] 126)):=(za.refl w8).alloc _;generalize w8.alloc _=w9 at a9 b7⊢;obtain ⟨gn,e6⟩:∃g,g=w8.heap.size:=⟨_,rfl⟩;rw [<-e6] at a9⊢;have l9:Hid (gn=w8.heap.size/\w2.heap.size<=gn):=⟨e6,by have:=i7.out.size;omega⟩;obtain ⟨n0,n1,n2,n3⟩:=z7 a9;have z0:=za.rule n0;have z1:=za.rule n1;have z2:=za.rule n2;have z3:=za.rule n3;have a9:=zh a9;have o:Hid (za w2 w9):=i7.out.trans b7;have g9:Hid (zk w9 (fun b=>w6.heap.size<=b/\b<gn) (.slice An c.1.length cn) c.1):=by (show zk _ _ _ _);rw [e6];exact m0.out.below b7
   have a2:=zh (DC w9 (n7.out.ext b7));have a8:=zh (DC w9 (l7.out.ext b7));have x0:∀W,za w9 W->W.cell? ⟨gx,0,none⟩=some vc:=fun W h=>x0 W (o.out.trans h)
   have x1:=fun W h=>x1 W (o.out.trans h)
   have x2:=fun W h=>x2 W (o.out.trans h)
   have x3:=fun W h=>x3 W (o.out.trans h)
   have s0:=fun W h=>s0 W (o.out.trans h)
   have hx:za w9 w9:=za.refl w9
   have U:Hid (∀W',za w2 W'->zO m s y=none->(∃v:Value,Ending.returned (.tuple #[])=.returned v)/\∃gx,W.heap.size<=gx/\J gx L.length W'):=fun W' h hn=>by
    refine ⟨⟨_,rfl⟩,gx,b5.out,?_⟩;have h1:=A1.out hn;rw [<-h1];exact HJ.out _ _ _ _ b5.out m1.out (zC.of_ext h)
   clear b7 e6 n0 n1 n2 n3 n7 l7 m0 z9;by_cases b1:t2.2.2=true
   ·have Q:Hid (zO m s y=none):=by (show _=_);rw [a0.out,if_pos (.inl b1)]
    rw [b1] at a2;clear a0 b1
    go_wp2_with fail
    refine a2.out.mono ?_;rintro e wb ⟨rfl,rfl⟩
    go_wp2_with fail
    exact ER (results_none rfl _ _ _) rfl (U.out _ o.out Q.out)
   ·have b1f:t2.2.2=false:=by simpa using b1
    rw [b1f] at a2;by_cases b2:q.2.2=true
    ·have Q:Hid (zO m s y=none):=by (show _=_);rw [a0.out,if_pos (.inr (.inl b2))]
     rw [b2] at a8;clear a0 b1 b1f b2
     go_wp2_with fail
     refine a2.out.mono ?_;rintro e wb ⟨rfl,rfl⟩
     go_wp2_with fail
     refine a8.out.mono ?_;rintro e wb ⟨rfl,rfl⟩
     go_wp2_with fail
     exact ER (results_none rfl _ _ _) rfl (U.out _ o.out Q.out)
    ·have b2f:q.2.2=false:=by simpa using b2
     rw [b2f] at a8;by_cases b3:q.1<=y.steps
     ·have Q:Hid (zO m s y=none):=by (show _=_);rw [a0.out,if_pos (.inr (.inr b3))]
      clear a0 b1 b1f b2 b2f
      go_wp2_with fail
      refine a2.out.mono ?_;rintro e wb ⟨rfl,rfl⟩
      go_wp2_with fail
      refine a8.out.mono ?_;rintro e wb ⟨rfl,rfl⟩
      go_wp2_with fail
      exact ER (results_none rfl _ _ _) rfl (U.out _ o.out Q.out)
     ·obtain ⟨rec,a7⟩:∃x,x=zS y.sg c.1 q.1:=⟨_,rfl⟩
      have a6:Hid (zO m s y=if ¬ rec <+: T then none else if loadE m c.1 q.1≠0 then none else some ⟨c.1,q.1,y.fin+rec.length,zJ y.sg c.1 q.1⟩):=by
       (show _=_)
       rw [a0.out,if_neg (fun h=>h.elim b1 fun h=>h.elim b2 b3),a7]
      have s6:y.sg.length<=1000:=by rw [i8.out.sg];omega
      have i3:Hid (∀W,Calls Tryz.prog 82 #[.string ⟨y.sg.toArray⟩] W fun e w'=>e=.returned (.func (.func 153) #[] #[.pointer (some ⟨W.heap.size,0,none⟩)])/\za W w'/\Dj w' W.heap.size y.sg):=fun W=>jSealer_calls y.sg W
      have c8:Hid (∀W g,za w9 W->Dj W g y.sg->Calls Tryz.prog 153 #[.slice An c.1.length cn,.int .i64 q.1,.pointer (some ⟨g,0,none⟩)] W fun e w'=>e=.returned (.string ⟨rec.toArray⟩)/\zC (·=g) W w'/\Dj w' g (zJ y.sg c.1 q.1)/\zq w'):=fun W g hW hg=>by
       rw [a7];obtain ⟨-,-,-,-,l1,l2,l3⟩:=b6.out;exact jSeal_calls W (D.out.ctx.v.ext (o.out.trans hW)) hg s6 (g9.out.below hW) l3 l1 l2
      have n8:=zh a7;clear a0 b1 b1f b2 b2f a7 s6
      go_wp2_with fail
      refine a2.out.mono ?_;rintro e wb ⟨rfl,rfl⟩
      go_wp2_with fail
      refine a8.out.mono ?_;rintro e wb ⟨rfl,rfl⟩;clear a2 a8;go_upto_region 7 with fail;go_cut [10] (fun v10 wc=>v10=.string ⟨rec.toArray⟩/\Hid (za w9 wc))
      case first=>
       refine Di (fun Q' hP e4=>?_) (fun c a a' w hd h=>by obtain ⟨t,d⟩:=a;obtain ⟨t',d'⟩:=a';cases hd;exact h);refine AA (S:=(fun W=>za w9 W)) AI (hx.drew) fun zH=>?_;generalize w9.drew=wd at zH⊢;refine ze (i:=0) (v:=?v7) rfl (by kernel_rfl) (by kernel_rfl) (by kernel_rfl) (by kernel_rfl) (fun _ _ _ h=>hP _ _ _ _ (by rfl) h) (Or.inl ⟨?w7,?y7⟩) zH ?r7
       case w7=>rfl
       case y7=>(intro w M;go_simp;try with_reducible rfl)
       simp only [zd,DV];refine ze (i:=1) (v:=?v8) rfl (by kernel_rfl) (by kernel_rfl) (by kernel_rfl) (by kernel_rfl) (fun _ _ _ h=>hP _ _ _ _ (by rfl) h) (Or.inl ⟨?w8,?y8⟩) zH ?r8
       case w8=>rfl
       case y8=>(intro w M;go_simp;try with_reducible rfl)
       simp only [zd,DV];refine ze (i:=3) (v:=?v9) rfl (by kernel_rfl) (by kernel_rfl) (by kernel_rfl) (by kernel_rfl) (fun _ _ _ h=>hP _ _ _ _ (by rfl) h) (Or.inl ⟨?w9,?y9⟩) zH ?r9
       case w9=>rfl
       case y9=>(intro w M;go_simp;try with_reducible rfl)
       simp only [zd,DV];refine ze (i:=4) (v:=?v10) rfl (by kernel_rfl) (by kernel_rfl) (by kernel_rfl) (by kernel_rfl) (fun _ _ _ h=>hP _ _ _ _ (by rfl) h) (Or.inl ⟨?w10,?y10⟩) zH ?r10
       case w10=>rfl
       case y10=>(intro w M;go_simp;try with_reducible rfl)
       simp only [zd,DV];refine ze (i:=5) (v:=?v11) rfl (by kernel_rfl) (by kernel_rfl) (by kernel_rfl) (by kernel_rfl) (fun _ _ _ h=>hP _ _ _ _ (by rfl) h) (Or.inl ⟨?w11,?y11⟩) zH ?r11
       case w11=>rfl
       case y11=>(intro w M;go_simp;try with_reducible rfl)
       simp only [zd,DV];refine ze (i:=6) (v:=?v12) rfl (by kernel_rfl) (by kernel_rfl) (by kernel_rfl) (by kernel_rfl) (fun _ _ _ h=>hP _ _ _ _ (by rfl) h) (Or.inl ⟨?w12,?y12⟩) zH ?r12
       case w12=>rfl
       case y12=>(intro w M;go_simp;try with_reducible rfl)
       simp only [zd,DV];refine zp (rs:=[2]) (by kernel_rfl) (by simp) ?_;refine zg.cons rfl (fun K E=>?_) zg.nil;go_simp;go_at_call 82;refine (i3.out _).mono ?_;rintro e w10 ⟨rfl,p6,f5⟩;have f2:Hid (w9.heap.size<=wd.heap.size):=zH.size;generalize wd.heap.size=g10 at f5 f2⊢;have n9:=zh f5;go_simp;refine Fe E (zH.trans p6) fun zH=>?_;clear E K;try simp only [zd,DV]
       refine zp (rs:=[7]) (by kernel_rfl) (by simp) ?_;refine zg.cons rfl (fun K E=>?_) zg.nil;go_simp;go_at_call 153;refine (c8.out _ _ zH n9.out).mono ?_;rintro e w11 ⟨rfl,p4,-,-⟩;have I:Hid (za w9 w11):=Below.trans zH (p4.below zH.size (fun b hb=>by have:=f2.out;omega));go_simp;refine Fe E (I.out) fun zH=>?_;clear E K;try simp only [zd,DV]
       refine zp (rs:=[8]) (by kernel_rfl) (by simp) ?_;refine zg.last rfl (by kernel_rfl) fun K E=>?_;go_simp;go_simp;refine E.out _ _ ?_;clear E K;refine AV (by kernel_rfl) ?_ _;subst e4;go_wp2;go_meet;exact ⟨rfl,I⟩
      case rest=>
       obtain ⟨rfl,c9⟩:=hcut;obtain ⟨w10,rfl⟩:∃w10:World,w10=wc:=⟨_,rfl⟩;have hx:za w9 w10:=c9.out;have f6:y.fin<=s.length:=l8.out.1;have f7:s.length<=40000000:=l8.out.2;have e1:ByteArray.extract ⟨s.toArray⟩ y.fin s.length=⟨T.toArray⟩:=by rw [HT.out];exact Dm s y.fin
       have c7:=zh (pre_calls T rec w10);by_cases hp:rec <+: T
       ·have d7:rec.isPrefixOf T=true:=List.isPrefixOf_iff_prefix.2 hp;rw [d7] at c7;have B0:=hp.length_le;have a1:Hid (zO m s y=if loadE m c.1 q.1≠0 then none else some ⟨c.1,q.1,y.fin+rec.length,zJ y.sg c.1 q.1⟩):=by (show _=_);rw [a6.out,if_neg (fun h=>h hp)]
        have s7:t2.1=zJ y.sg c.1 q.1:=by
         obtain ⟨l0,-,-,-,l1,l2,l3⟩:=b6.out;have hb:=(body_len l3 l2).1;have hr:RecOk c.1 q.1:=⟨l3,l2,by omega⟩;rw [n8.out] at hp;have:=rec_seal hr hp;rw [<-o2.out,<-o3.out] at this;exact this
        have o1:=zh s7;have A4:T.length+y.fin=s.length:=by rw [HT.out,EX];omega
        have e5:IntKind.i64.wrap ((y.fin:Int)+(rec.length:Int))=((y.fin+rec.length:Nat):Int):=by rw [Eu];omega
        have x6:=zh e5;have G:=D.out.ctx.bm;have g0:=za.rule (G.cell (k:=0) rfl);have g1:=za.rule (G.cell (k:=1) rfl);have g2:=za.rule (G.cell (k:=2) rfl);have g3:=za.rule (G.cell (k:=3) rfl);have g4:=za.rule (G.cell (k:=4) rfl);have g5:=za.rule (G.cell (k:=5) rfl);have g0:=fun W h=>g0 W (o.out.trans h)
        have g1:=fun W h=>g1 W (o.out.trans h)
        have g2:=fun W h=>g2 W (o.out.trans h)
        have g3:=fun W h=>g3 W (o.out.trans h)
        have g4:=fun W h=>g4 W (o.out.trans h)
        have g5:=fun W h=>g5 W (o.out.trans h)
        have i1:Hid (Calls Tryz.prog 80 #[.agg #[.int .i64 m.w,.int .i64 m.h,.int .i64 m.l,.slice Af m.free.length cf,.slice Au m.up.length cu,.slice At m.tasks.length ct],.slice An c.1.length cn,.int .i64 q.1] w10 fun e w'=>∃v,e=.returned (.tuple #[v,.int .i64 (loadE m c.1 q.1)])/\za w10 w'):=by
         refine (load_calls q.1 w10 ((D.out.ctx.mz.bound).below (o.out.trans hx)) HL.out (g9.out.below hx) (by have:=b6.out.2.2.2.2.1;omega) (fun b hb=>?_)).mono ?_
         ·have h1:=(o.out.trans hx).size;omega
         ·rintro e w' ⟨v,rfl,hE,-⟩;exact ⟨v,rfl,hE⟩
        obtain ⟨le,k9⟩:∃e,e=loadE m c.1 q.1:=⟨_,rfl⟩;rw [<-k9] at i1 a1;have C4:=zh k9;clear hp d7 s7 G k9 B0 i3 c8 a6 e5 A4
        go_wp2_with fail
        refine c7.out.mono ?_;rintro e wb ⟨rfl,rfl⟩
        go_wp2_with fail
        refine i1.out.mono ?_;rintro e w11 ⟨vl,rfl,f3⟩;have I:Hid (za w9 w11):=c9.out.trans f3;clear f3 hx c7 i1 g0 g1 g2 g3 g4 g5;by_cases b9:le=0
        ·have s1:(le != 0)=false:=by simp [b9]
         have x9:Hid (zO m s y=some ⟨c.1,q.1,y.fin+rec.length,zJ y.sg c.1 q.1⟩):=by (show _=_);rw [a1.out,if_neg (fun h=>h b9)]
         have hx:za w9 w11:=I.out;have e5:=x6.out;have fn0:∀j,w11.frozen? ⟨gn,j,none⟩=false:=fun j=>(a9.out.ext hx).frozen j
         have c6:=zh (D.out.x.ext (o.out.trans hx));have fx0:∀j,w11.frozen? ⟨gx,j,none⟩=false:=fun j=>c6.out.frozen j
         have s4:gx≠gn:=by have h1:=zc D.out.x;have h2:=l9.out.2;omega
         have C0:gn≠gx:=fun e=>s4 e.symm
         clear b9 a1
         go_wp2_with fail
         have q8:gx<w2.heap.size:=zc D.out.x;have f8:=l9.out.2;have s8:=d9.out.size;have t0:=D.out.sz;have f4:za w2 (w11.setCell ⟨gn,2,none⟩ (.int .i64 ((y.fin:Int)+(rec.length:Int)))):=Below.setCell (o.out.trans I.out) (p:=⟨gn,2,none⟩) f8 _;have d4:zC (fun b=>b=gx) w2 (((((w11.setCell ⟨gn,2,none⟩ (.int .i64 ((y.fin:Int)+(rec.length:Int)))).setCell ⟨gx,0,none⟩ (.slice An c.1.length cn)).setCell ⟨gx,1,none⟩ (.int .i64 q.1)).setCell ⟨gx,2,none⟩ (.int .i64 ((y.fin:Int)+(rec.length:Int)))).setCell ⟨gx,3,none⟩ (.string ⟨t2.1.toArray⟩)):=((((zC.of_ext (X:=fun b=>b=gx) f4).set gx 0 _ rfl).set gx 1 _ rfl).set gx 2 _ rfl).set gx 3 _ rfl;have k6:zl (((((w11.setCell ⟨gn,2,none⟩ (.int .i64 ((y.fin:Int)+(rec.length:Int)))).setCell ⟨gx,0,none⟩ (.slice An c.1.length cn)).setCell ⟨gx,1,none⟩ (.int .i64 q.1)).setCell ⟨gx,2,none⟩ (.int .i64 ((y.fin:Int)+(rec.length:Int)))).setCell ⟨gx,3,none⟩ (.string ⟨t2.1.toArray⟩)) gx 126 #[.slice An c.1.length cn,.int .i64 q.1,.int .i64 ((y.fin:Int)+(rec.length:Int)),.string ⟨t2.1.toArray⟩]:=((((c6.out.setOther (a:=⟨gn,2,none⟩) (by show gx≠gn;omega) _).set (k:=0) _).set (k:=1) _).set (k:=2) _).set (k:=3) _;have q5:zC (fun b=>b=gn\/b=gx) w11 (((((w11.setCell ⟨gn,2,none⟩ (.int .i64 ((y.fin:Int)+(rec.length:Int)))).setCell ⟨gx,0,none⟩ (.slice An c.1.length cn)).setCell ⟨gx,1,none⟩ (.int .i64 q.1)).setCell ⟨gx,2,none⟩ (.int .i64 ((y.fin:Int)+(rec.length:Int)))).setCell ⟨gx,3,none⟩ (.string ⟨t2.1.toArray⟩)):=(((((zC.refl (fun b=>b=gn\/b=gx) w11).set gn 2 _ (.inl rfl)).set gx 0 _ (.inr rfl)).set gx 1 _ (.inr rfl)).set gx 2 _ (.inr rfl)).set gx 3 _ (.inr rfl);have j5:zk (((((w11.setCell ⟨gn,2,none⟩ (.int .i64 ((y.fin:Int)+(rec.length:Int)))).setCell ⟨gx,0,none⟩ (.slice An c.1.length cn)).setCell ⟨gx,1,none⟩ (.int .i64 q.1)).setCell ⟨gx,2,none⟩ (.int .i64 ((y.fin:Int)+(rec.length:Int)))).setCell ⟨gx,3,none⟩ (.string ⟨t2.1.toArray⟩)) (fun b=>W.heap.size<=b/\b≠gx) (.slice An c.1.length cn) c.1:=((g9.out.below I.out).keep (q5.same fun b hb e=>by omega)).weaken fun b hb=>by omega
         generalize (((((w11.setCell ⟨gn,2,none⟩ (.int .i64 ((y.fin:Int)+(rec.length:Int)))).setCell ⟨gx,0,none⟩ (.slice An c.1.length cn)).setCell ⟨gx,1,none⟩ (.int .i64 q.1)).setCell ⟨gx,2,none⟩ (.int .i64 ((y.fin:Int)+(rec.length:Int)))).setCell ⟨gx,3,none⟩ (.string ⟨t2.1.toArray⟩))=wf at d4 k6 j5⊢
         have A0:Hid (zl wf gx 126 (jsc (.slice An c.1.length cn) ⟨c.1,q.1,y.fin+rec.length,zJ y.sg c.1 q.1⟩)):=by
          (show zl _ _ _ #[.slice An c.1.length cn,.int .i64 q.1,.int .i64 ((y.fin+rec.length:Nat):Int),.string ⟨(zJ y.sg c.1 q.1).toArray⟩])
          rw [<-o1.out,Int.natCast_add];exact k6
         have x5:Hid (JCtx wf gi gs gm id s (mzc m Af cf Au cu At ct) m R):=by
          have h1:=HO.out.wW;have h2:=HO.out.b;have h3:=b5.out;exact D.out.ctx.chg d4 (by omega) (by omega) (by omega) (fun b hb e=>by have:=(HO.out.rb b hb).1;omega) (fun g e=>HO.out.nv g (by omega))
         have x8:Hid (J gx (k+1) wf):=HJ.out _ _ _ _ b5.out m1.out d4;have x7:=zh j5;have y0:Hid (W.heap.size<=wf.heap.size):=Ea t0 d4.size;have m4:Hid (L[k+1]?=some ⟨c.1,q.1,y.fin+rec.length,zJ y.sg c.1 q.1⟩):=A2.out _ x9.out;have C8:k+1<L.length:=(ES.1 m4.out).1;clear f4 d4 k6 q5 j5 q8 f8 s8 t0 e5 fn0 fx0 hx
         go_roundg (L.length - (k+1))
         case measure=>omega
         case rel=>exact ⟨k+1,_,_,m4.out,by omega,⟨x5.out,A0.out,x7.out,y0.out⟩,x8.out⟩
        ·have s1:(le != 0)=true:=by simp [b9]
         have Q:Hid (zO m s y=none):=by (show _=_);rw [a1.out,if_pos b9]
         clear b9 a1
         go_wp2_with fail
         exact ER (results_none rfl _ _ _) rfl (U.out _ (o.out.trans I.out) Q.out)
       ·have d7:rec.isPrefixOf T=false:=by
         cases h:rec.isPrefixOf T with
         | false=>rfl
         | true=>exact absurd (List.isPrefixOf_iff_prefix.1 h) hp
        rw [d7] at c7;have Q:Hid (zO m s y=none):=by (show _=_);rw [a6.out,if_pos hp]
        clear hp d7 a6 i3 c8
        go_wp2_with fail
        refine c7.out.mono ?_;rintro e wb ⟨rfl,rfl⟩
        go_wp2_with fail
        exact ER (results_none rfl _ _ _) rfl (U.out _ (o.out.trans c9.out) Q.out)
end
section
open Go.RowKit Go.Shelf
attribute [local go_sem ↓] Go.wp_at_zero Go.wp_at_succ
theorem own_blk_neF {base:Nat} {e:TypeId} {size:Nat} {xs:List Value} {t:TypeId} {cs:Array Value} (h:w.ownsRowF base e size v n xs) (d:zl w g t cs) (o:e≠t):v.ownBlock≠some g:=by
 rcases h.2 with ⟨rfl,_⟩ | ⟨g',cap,cur,fz,rfl,_,hh,_⟩
 ·simp [Value.ownBlock]
 ·intro he;have:g'=g:=by simpa [Value.ownBlock] using he
  subst this;unfold zl at d;rw [hh] at d;injection d with d;injection d with _ ht;exact o ht
theorem cc_keep (h:DS B bs w):Calls Tryz.prog 152 #[.pointer (some ⟨B,0,none⟩)] w fun e w'=>e=.returned (.tuple #[])/\BuiU B bs w'/\Below B w w'/\∀g,g≠B->w'.heap[g]?=w.heap[g]?:=by
 rcases h with h | h
 ·refine (ccNew B w h.cell0 h.shape h.frozen0).mono ?_;rintro e w' ⟨rfl,rfl⟩;exact ⟨rfl,h.used _,(Below.refl B w).setCell (p:=⟨B,0,none⟩) (DY _) _,fun g d=>Eh w ⟨B,0,none⟩ _ g d⟩
 ·refine (ccUsed B w h.cell0).mono ?_;rintro e w' ⟨rfl,rfl⟩;exact ⟨rfl,h,Below.refl B w,fun _ _=>rfl⟩
theorem Cf (s:ByteArray) (h:DS B bs w) (hl:bs.length+s.size<=140737488355328):
  Calls Tryz.prog 81 #[.pointer (some ⟨B,0,none⟩),.string s] w fun e w'=>e=.returned (.tuple #[.int .i64 s.size,.nilIface])/\BuiU B (bs++Lib.strCells s) w'/\Below B w w'/\∀g t cs,g≠B->t≠5->zl w g t cs->zl w' g t cs:=by
 obtain ⟨i0,hi,V,a0,a1⟩:=info_parts sExt.infoByte;have H:=zh h;clear h
 go_enter Tryz.func81,Tryz.ntmps81
 go_wp2_with fail
 refine (cc_keep H.out).mono ?_;rintro e w1 ⟨rfl,⟨hB,v,G,d,Q⟩,J,M⟩;have c1:w1.cell? ⟨B,1,none⟩=some v:=by rw [Lib.cell_of_heap G];rfl
 have O:=CL G
 go_wp2_with (at_builtin;refine Lib.wpList_append_own_stringF _ rfl _ _ 76 9 rfl B 5 i0 Tryz.underlying76 Tryz.underlying9 hi V a0 a1 _ _ _ rfl d s rfl ?c3 ?c4 ?c5 ?_)
 case c3=>unfold maxLen;omega
 case c4=>omega
 case c5=>omega
 intro v' w2 o K _
 have E:w2.heap[B]?=some (.cells #[.pointer (some ⟨B,0,none⟩),v] 134 (0,0)):=by
  rw [K.block B O (fun e=>Q e.symm)];exact G
 have d1:w2.cell? ⟨B,1,none⟩=some v:=by rw [Lib.cell_of_heap E];rfl
 have f1:w2.frozen? ⟨B,1,none⟩=false:=Lib.frozen_of_heap E 1
 obtain ⟨ao,n',cap,rfl⟩:∃ao n' cap,v'=.slice ao n' cap:=by
  rcases o.2 with ⟨U,_⟩ | ⟨g,cap,cur,fz,U,_⟩
  ·exact ⟨_,_,_,U⟩
  ·exact ⟨_,_,_,U⟩
 have HK:Hid (∀g t cs,g≠B->t≠5->zl w g t cs->zl w2 g t cs):=fun g t cs D ht I=>by
  have h1:zl w1 g t cs:=(M g D).trans I;exact (K.block g (zc h1) (fun e=>own_blk_neF d h1 (Ne.symm ht) e.symm)).trans h1
 go_wp2
 go_ret2
 refine ⟨rfl,Lib.BuilderAtF.put (T:=134) (e:=5) hB E (bs':=bs++Lib.strCells s) (by simpa [Lib.strCells_length] using o) (by decide),?_,?_⟩
 ·exact (J.grown K (by omega) (fun k hk=>(d.lt k hk).1)).setCell (p:=⟨B,1,none⟩) hB _
 ·exact fun g t cs D ht I=>(HK.out g t cs D ht I).setOther (a:=⟨B,1,none⟩) D _
theorem tasksJAt {A:Option Addr} {c:Nat} {l:List (List Int×List Int)} (h:TasksN w ok (.slice A n c) l ns) (o:k<l.length) (D:k<ns.length):
  ∃b off u1 u2,A=some ⟨b,off,none⟩/\w.cell? ⟨b,off+k*3,none⟩=some (.string ns[k])/\w.cell? ⟨b,off+k*3+1,none⟩=some u1/\w.cell? ⟨b,off+k*3+2,none⟩=some u2/\zk w ok u1 l[k].1/\zk w ok u2 l[k].2:=by
 obtain ⟨-,vs,⟨A',c',E,_,I,d⟩,he⟩:=h;injection E with e1 e2 e3;subst e1;obtain ⟨b,off,rfl,G,d⟩:=d (by omega);obtain ⟨u1,u2,h0,h1,h2,i1,i2⟩:=he k _ _ (DW o) (DW D);exact ⟨b,off,u1,u2,rfl,d _ _ h0,by rw [Nat.add_assoc];exact d _ _ h1,by rw [Nat.add_assoc];exact d _ _ h2,i1,i2⟩
theorem bytes_self (s:ByteArray):(⟨s.data.toList.toArray⟩:ByteArray)=s:=by
 apply ByteArray.ext;simp
theorem nums4 (a b c d:Int) (k:Nat) (o:k<4):∃x,[a,b,c,d][k]?=some x/\(#[Value.int .i64 a,.int .i64 b,.int .i64 c,.int .i64 d]:Array Value)[k]?=some (.int .i64 x):=by
 match k,o with
 | 0,_=>exact ⟨_,rfl,rfl⟩
 | 1,_=>exact ⟨_,rfl,rfl⟩
 | 2,_=>exact ⟨_,rfl,rfl⟩
 | 3,_=>exact ⟨_,rfl,rfl⟩
theorem take_get {α:Type} {l:List α} {x:α} (h:l[k]?=some x):l.take (k+1)=l.take k++[x]:=by
 obtain ⟨d,e⟩:=ES.1 h;rw [Ef d,e]
theorem bui_app {z:List UInt8} (h:BuiU B (Lib.byteCells x++Lib.strCells ⟨y.toArray⟩) w) (e:z=x++y):DS B (Lib.byteCells z) w:=by
 rw [bui_str] at h;rw [e];exact .inr h
theorem CU (h:x.length+y.length<=140000000000000):(Lib.byteCells x).length+(ByteArray.mk y.toArray).size<=140737488355328:=by
 rw [bui_len];simp [ByteArray.size];omega
theorem DE (w:World) (hv:zq w) (hm:Bt w ok v m ns) (hs:CF m ns):
  Calls Tryz.prog 76 #[v] w fun e w'=>e=.returned (.string (dmk (BT (zw m ns))))/\za w w':=by
 have HV:=zh hv;have HS:=zh hs;obtain ⟨f,u,t,rfl,hF,hU,hT⟩:=hm;have HF:=zh hF;have HU:=zh hU;have HT:=zh hT;obtain ⟨_,⟨Af,cf,rfl,-,-⟩,-⟩:=hF;obtain ⟨Au,cu,rfl,-,-⟩:=hU;obtain ⟨-,_,⟨At,ct,rfl,-,-⟩,-⟩:=hT;have p4:=hs.tl;have o9:=hs.fl;clear hv hs
 go_enter Tryz.func76,Tryz.ntmps76
 go_upto_region 2 with fail;have M:=zl.new w #[.int .i64 m.w,.int .i64 m.h,.int .i64 m.l,.slice Af m.free.length cf,.slice Au m.up.length cu,.slice At m.tasks.length ct] 32 (g:=w.heap.size) rfl;have f5:za w (w.alloc (.cells #[.int .i64 m.w,.int .i64 m.h,.int .i64 m.l,.slice Af m.free.length cf,.slice Au m.up.length cu,.slice At m.tasks.length ct] 32)):=(za.refl w).alloc _;have b7:(w.alloc (.cells #[.int .i64 m.w,.int .i64 m.h,.int .i64 m.l,.slice Af m.free.length cf,.slice Au m.up.length cu,.slice At m.tasks.length ct] 32)).heap.size=w.heap.size+1:=by simp
 generalize w.alloc _=w1 at M f5 b7⊢;obtain ⟨gm,j2⟩:∃g,g=w.heap.size:=⟨_,rfl⟩;rw [<-j2] at M b7⊢;have b8:Hid (DS w1.heap.size (Lib.byteCells []) (w1.alloc (.cells #[.pointer none,.slice none 0 0] 134))):=DS.new w1;have g1:za w1 (w1.alloc (.cells #[.pointer none,.slice none 0 0] 134)):=(za.refl w1).alloc _;have b9:Hid ((w1.alloc (.cells #[.pointer none,.slice none 0 0] 134)).heap.size≠w1.heap.size):=by (show _≠_);simp
 generalize w1.alloc _=w2 at b8 g1 b9⊢;obtain ⟨B,hB⟩:=Fd w1.heap.size;rw [<-hB] at b8 b9 b7;rw [<-b7];have a5:=zh hB;have r0:=za.rule (M.cell (k:=0) rfl);have r1:=za.rule (M.cell (k:=1) rfl);have r2:=za.rule (M.cell (k:=2) rfl);have r3:=za.rule (M.cell (k:=3) rfl);have r4:=za.rule (M.cell (k:=4) rfl);have r5:=za.rule (M.cell (k:=5) rfl);have V:=zh f5;clear M f5 j2 hB b7;have g0:=nums4 m.w m.h m.l (m.tasks.length:Int);obtain ⟨N4,b5⟩:∃l,l=[m.w,m.h,m.l,(m.tasks.length:Int)]:=⟨_,rfl⟩;rw [<-b5] at g0;have i2:=zh b5;have i3:=zh g0
 have e7:Hid (∀x∈N4,BI x):=fun x E=>by
  have h1:=HS.out.w;have h2:=HS.out.h;have h3:=HS.out.l;rw [b5] at E;simp at E;rcases E with rfl | rfl | rfl | rfl <;> exact ⟨by omega,by omega⟩
 have e8:Hid (∀k,((N4.take k).flatMap wI).length<=88):=fun k=>by
  have h0:N4.length=4:=by rw [b5];rfl
  have:=wIs_len (l:=N4.take k) fun x E=>e7.out x (List.mem_of_mem_take E)
  have h2:=List.length_take_le k N4;have h3:(N4.take k).length<=4:=by rw [EQ];omega
  omega
 clear g0 b5
 go_wp2_with fail
 have c0:=zl.new w2 #[.int .i64 m.w,.int .i64 m.h,.int .i64 m.l,.int .i64 m.tasks.length] 3 (g:=w2.heap.size) rfl;have c6:za w2 (w2.alloc (.cells #[.int .i64 m.w,.int .i64 m.h,.int .i64 m.l,.int .i64 m.tasks.length] 3)):=(za.refl w2).alloc _;generalize w2.alloc _=w3 at c0 c6⊢;obtain ⟨ga,j1⟩:∃g,g=w2.heap.size:=⟨_,rfl⟩;rw [<-j1] at c0 b9⊢;have g8:=zh (b8.out.old c6);have i5:Hid (za w1 w3):=g1.trans c6;have g9:=zh c0;clear c6 j1 g1 c0 b8;go_loopw [21] (fun i wr=>∃k:Nat,k<=4/\i=.int .i64 k/\Hid (DS B (Lib.byteCells ((N4.take k).flatMap wI)) wr)/\Hid (za w1 wr)/\Hid (zl wr ga 3 #[.int .i64 m.w,.int .i64 m.h,.int .i64 m.l,.int .i64 m.tasks.length])) (fun i _=>4 - (intOf i).toNat)
 case atStart=>exact ⟨0,Em _,rfl,g8,i5,g9⟩
 clear g8 i5 g9
 case round=>
  obtain ⟨k,hk,rfl,HB,HX,HA⟩:=hrel;obtain ⟨wk,rfl⟩:∃wk:World,wk=wr:=⟨_,rfl⟩;by_cases O:k<4
  ·have e0:(k:Int)<4:=by omega
   obtain ⟨x,g4,k5⟩:=i3.out k O;have cx:=HA.out.cell k5;have g3:BI x:=e7.out x (List.mem_of_getElem? g4);have HC:Hid (Calls Tryz.prog 51 #[.int .i64 x] wk fun e w'=>e=.returned (.string ⟨(wI x).toArray⟩)/\za wk w'):=DD wk (HV.out.ext (V.out.trans HX.out)) g3;have m3:Hid ((N4.take (k+1)).flatMap wI=(N4.take k).flatMap wI++wI x):=by (show _=_);rw [take_get g4,List.flatMap_append];simp
   have HR:Hid ((Lib.byteCells ((N4.take k).flatMap wI)).length+(ByteArray.mk (wI x).toArray).size<=140737488355328):=CU (by have:=e8.out k;have:=Bl g3;omega);clear g4 k5 g3
   go_wp2_with fail
   refine HC.out.mono ?_;rintro e w5 ⟨rfl,o⟩;have Q:=zh (HB.out.old o);have l3:=zh (HA.out.ext o);have a3:Hid (za w1 w5):=HX.out.trans o;clear o cx
   go_wp2_with fail
   refine (Cf ⟨(wI x).toArray⟩ Q.out HR.out).mono ?_;rintro e w6 ⟨rfl,G,I,j3⟩;have U:Hid (DS B (Lib.byteCells ((N4.take (k+1)).flatMap wI)) w6):=bui_app G m3.out;have l4:=zh (j3 ga _ _ b9.out (by decide) l3.out);have J:Hid (za w1 w6):=by have h:=I;rw [a5.out] at h;exact Below.trans a3.out h
   clear G I j3
   go_wp2_with fail
   go_roundw
   case rel=>exact ⟨k+1,by omega,by go_num,U,J,l4⟩
   case measure=>simp [intOf];omega
  ·obtain rfl:k=4:=by omega
   rw [show ((4:Nat):Int)=(4:Int) from rfl];have e4:N4.take 4=N4:=by rw [i2.out];rfl
   rw [e4] at HB;have e6:Hid ((N4.flatMap wI).length<=88):=by have h:=e8.out 4;rw [e4] at h;exact h
   obtain ⟨D1,f2⟩:∃D,D=N4.flatMap wI:=⟨_,rfl⟩;rw [<-f2] at HB e6;have m1:=zh f2;have E:za w1 wk:=HX.out;clear f2 e4 i3 e7 e8 HA
   go_wp2_with fail
   clear E;go_loopw [32] (fun i wr=>∃k:Nat,k<=m.tasks.length/\i=.int .i64 k/\Hid (DS B (Lib.byteCells (D1++Al (m.tasks.take k) (ns.take k))) wr)/\Hid (za w1 wr)) (fun i _=>m.tasks.length - (intOf i).toNat)
   case atStart=>exact ⟨0,Em _,rfl,by rw [List.take_zero,List.take_zero,show D1++Al [] []=D1 from List.append_nil _];exact HB,HX⟩
   clear HB HX
   case round=>
    obtain ⟨k,hk,rfl,HB,HX⟩:=hrel;obtain ⟨wq,rfl⟩:∃wq:World,wq=wr:=⟨_,rfl⟩;have E:za w1 wq:=HX.out;by_cases O:k<m.tasks.length
    ·have e0:(k:Int)<(m.tasks.length:Int):=by omega
     have n4:(0:Int)<=(k:Int):=by omega
     have j7:k<ns.length:=by rw [HS.out.nl];exact O
     obtain ⟨bt,off,u1,u2,rfl,t0,t1,t2,c8,c9⟩:=tasksJAt (HT.out.below (V.out.trans E)) O j7;obtain ⟨z,hz⟩:=Fd (m.tasks[k]);obtain ⟨sn,d4⟩:∃s,s=ns[k]:=⟨_,rfl⟩;have d6:=HS.out.t z (by rw [hz];exact DZ _);have j9:=HS.out.n sn (by rw [d4];exact DZ _);have f6:Al (m.tasks.take (k+1)) (ns.take (k+1))=Al (m.tasks.take k) (ns.take k)++taskB z sn:=by rw [hz,d4];exact tasksB_take HS.out.nl k O
     have j4:=Cu (l:=m.tasks.take k) (ns:=ns.take k) (fun x E=>HS.out.t x (List.mem_of_mem_take E)) (fun x E=>HS.out.n x (List.mem_of_mem_take E));have f9:=taskB_len d6 j9;rw [<-hz] at c8 c9;rw [<-d4] at t0;obtain ⟨A1,c1,rfl,-,-⟩:=id c8;obtain ⟨A2,c2,rfl,-,-⟩:=id c9;have i0:=zh c8;have i1:=zh c9;have n5:sn.data.toList.length=sn.size:=by rw [Array.length_toList];rfl
     obtain ⟨y1,g5⟩:∃x,x=wT sn.data.toList:=⟨_,rfl⟩;obtain ⟨y2,g6⟩:∃x,x=wL z.1:=⟨_,rfl⟩;obtain ⟨y3,g7⟩:∃x,x=wL z.2:=⟨_,rfl⟩;have k7:taskB z sn=y1++(y2++y3):=by rw [<-List.append_assoc,g5,g6,g7];rfl
     rw [k7] at f6 f9;have n6:y1.length+y2.length+y3.length<=50000:=by have:=f9;simp only [Eg] at this;omega
     have e9:Hid (D1++Al (m.tasks.take (k+1)) (ns.take (k+1))=(D1++Al (m.tasks.take k) (ns.take k))++(y1++(y2++y3))):=by (show _=_);rw [f6,List.append_assoc]
     have b0:Hid ((Lib.byteCells (D1++Al (m.tasks.take k) (ns.take k))).length+(ByteArray.mk (y1++(y2++y3)).toArray).size<=140737488355328):=CU (by have h1:=e6.out;have h2:(m.tasks.take k).length<=1000:=(by rw [EQ];omega);simp only [Eg];omega);have f0:Hid (∀W,za wq W->zq W):=fun W hW=>HV.out.ext ((V.out.trans E).trans hW)
     have l8:Hid (∀W,za wq W->Calls Tryz.prog 139 #[.string sn] W fun e w'=>e=.returned (.string ⟨y1.toArray⟩)/\za W w'):=fun W hW=>by have h:=BZ (s:=sn.data.toList) W (f0.out W hW) (by omega);rw [bytes_self,<-g5] at h;exact h
     have h4:Hid (∀W,za wq W->Calls Tryz.prog 52 #[.slice A1 z.1.length c1] W fun e w'=>e=.returned (.string ⟨y2.toArray⟩)/\za W w'):=fun W hW=>by rw [g6];exact Dc W (f0.out W hW) (i0.out.below hW) (fun x E=>d6.2.2 x (.inl E)) (by omega)
     have h5:Hid (∀W,za wq W->Calls Tryz.prog 52 #[.slice A2 z.2.length c2] W fun e w'=>e=.returned (.string ⟨y3.toArray⟩)/\za W w'):=fun W hW=>by rw [g7];exact Dc W (f0.out W hW) (i1.out.below hW) (fun x E=>d6.2.2 x (.inr E)) (by omega)
     have a1:∀w,(Op.stringOp .add ⟨y1.toArray⟩ ⟨y2.toArray⟩).run Tryz.prog w=.ok (.string ⟨(y1++y2).toArray⟩) w:=fun w=>zx (by omega)
     have a2:∀w,(Op.stringOp .add ⟨(y1++y2).toArray⟩ ⟨y3.toArray⟩).run Tryz.prog w=.ok (.string ⟨(y1++(y2++y3)).toArray⟩) w:=fun w=>by rw [<-List.append_assoc];exact zx (by simp;omega)
     obtain ⟨n1,j5⟩:∃n,n=z.1.length:=⟨_,rfl⟩;obtain ⟨n2,j6⟩:∃n,n=z.2.length:=⟨_,rfl⟩;rw [<-j5] at t1 h4;rw [<-j6] at t2 h5;clear hz d4 d6 j9 f6 j4 f9 c8 c9 n5 g5 g6 g7 k7 n6 j7 j5 j6 i0 i1;go_upto_region 10 with fail;have a7:=zl.new wq #[.string sn,.slice A1 n1 c1,.slice A2 n2 c2] 87 (g:=wq.heap.size) rfl;have o:za wq (wq.alloc (.cells #[.string sn,.slice A1 n1 c1,.slice A2 n2 c2] 87)):=(za.refl wq).alloc _;generalize wq.alloc _=w5 at a7 o⊢;generalize wq.heap.size=gt at a7⊢;have q0:=za.rule (a7.cell (k:=0) rfl);have q1:=za.rule (a7.cell (k:=1) rfl);have q2:=za.rule (a7.cell (k:=2) rfl);have a9:=zh o;have hy:za w5 w5:=za.refl w5;clear a7 o t0 t1 t2;refine Di (fun Q' hP m9=>?_) (fun c a a' w hd h=>by obtain ⟨t,d⟩:=a;obtain ⟨t',d'⟩:=a';cases hd;exact h);refine AA (S:=(fun W=>za w5 W)) AI (hy.drew) fun zH=>?_;generalize w5.drew=wd at zH⊢;refine ze (i:=0) (v:=?v1) rfl (by kernel_rfl) (by kernel_rfl) (by kernel_rfl) (by kernel_rfl) (fun _ _ _ h=>hP _ _ _ _ (by rfl) h) (Or.inl ⟨?w1,?y1⟩) zH ?r1
     case w1=>rfl
     case y1=>(intro w a6;go_simp;try with_reducible rfl)
     simp only [zd,DV];refine ze (i:=1) (v:=?v2) rfl (by kernel_rfl) (by kernel_rfl) (by kernel_rfl) (by kernel_rfl) (fun _ _ _ h=>hP _ _ _ _ (by rfl) h) (Or.inl ⟨?w2,?y2⟩) zH ?r2
     case w2=>rfl
     case y2=>(intro w a6;go_simp;try with_reducible rfl)
     simp only [zd,DV];refine ze (i:=3) (v:=?v3) rfl (by kernel_rfl) (by kernel_rfl) (by kernel_rfl) (by kernel_rfl) (fun _ _ _ h=>hP _ _ _ _ (by rfl) h) (Or.inl ⟨?w3,?y3⟩) zH ?r3
     case w3=>rfl
     case y3=>(intro w a6;go_simp;try with_reducible rfl)
     simp only [zd,DV];refine ze (i:=4) (v:=?v4) rfl (by kernel_rfl) (by kernel_rfl) (by kernel_rfl) (by kernel_rfl) (fun _ _ _ h=>hP _ _ _ _ (by rfl) h) (Or.inl ⟨?w4,?y4⟩) zH ?r4
     case w4=>rfl
     case y4=>(intro w a6;go_simp;try with_reducible rfl)
     simp only [zd,DV];refine ze (i:=7) (v:=?v5) rfl (by kernel_rfl) (by kernel_rfl) (by kernel_rfl) (by kernel_rfl) (fun _ _ _ h=>hP _ _ _ _ (by rfl) h) (Or.inl ⟨?w5,?y5⟩) zH ?r5
     case w5=>rfl
     case y5=>(intro w a6;go_simp;try with_reducible rfl)
     simp only [zd,DV];refine ze (i:=8) (v:=?v6) rfl (by kernel_rfl) (by kernel_rfl) (by kernel_rfl) (by kernel_rfl) (fun _ _ _ h=>hP _ _ _ _ (by rfl) h) (Or.inl ⟨?w6,?y6⟩) zH ?r6
     case w6=>rfl
     case y6=>(intro w a6;go_simp;try with_reducible rfl)
     simp only [zd,DV];refine zp (rs:=[2]) (by kernel_rfl) (by simp) ?_;refine zg.cons rfl (fun K hK=>?_) zg.nil;go_simp;go_at_call 139;refine (l8.out _ (a9.out.trans zH)).mono ?_;rintro e w6 ⟨rfl,m7⟩;go_simp;refine Fe hK (zH.trans m7) fun zH=>?_;clear hK K;try simp only [zd,DV]
     refine zp (rs:=[5]) (by kernel_rfl) (by simp) ?_;refine zg.cons rfl (fun K hK=>?_) zg.nil;go_simp;go_at_call 52;refine (h4.out _ (a9.out.trans zH)).mono ?_;rintro e w7 ⟨rfl,m8⟩;go_simp;refine Fe hK (zH.trans m8) fun zH=>?_;clear hK K;try simp only [zd,DV]
     refine ze (i:=6) (v:=?v7) rfl (by kernel_rfl) (by kernel_rfl) (by kernel_rfl) (by kernel_rfl) (fun _ _ _ h=>hP _ _ _ _ (by rfl) h) (Or.inl ⟨?w7,?y7⟩) zH ?r7
     case w7=>rfl
     case y7=>(intro w a6;go_simp;try with_reducible rfl)
     simp only [zd,DV];refine zp (rs:=[9]) (by kernel_rfl) (by simp) ?_;refine zg.cons rfl (fun K hK=>?_) zg.nil;go_simp;go_at_call 52;refine (h5.out _ (a9.out.trans zH)).mono ?_;rintro e w8 ⟨rfl,c7⟩;go_simp;refine Fe hK (zH.trans c7) fun zH=>?_;clear hK K;try simp only [zd,DV]
     refine ze (i:=10) (v:=?v8) rfl (by kernel_rfl) (by kernel_rfl) (by kernel_rfl) (by kernel_rfl) (fun _ _ _ h=>hP _ _ _ _ (by rfl) h) (Or.inl ⟨?w8,?y8⟩) zH ?r8
     case w8=>rfl
     case y8=>(intro w a6;go_simp;try with_reducible rfl)
     simp only [zd,DV];refine zp (rs:=[11]) (by kernel_rfl) (by simp) ?_;refine zg.last rfl (by kernel_rfl) fun K hK=>?_;go_simp;have f1:Hid (za w1 _):=(E.trans a9.out).trans zH;have l5:=zh (HB.out.old (a9.out.trans zH));go_at_call 81;refine (Cf ⟨(y1++(y2++y3)).toArray⟩ l5.out b0.out).mono ?_;rintro e w9 ⟨rfl,i6,i9,-⟩;have l6:Hid (DS B (Lib.byteCells (D1++Al (m.tasks.take (k+1)) (ns.take (k+1)))) w9):=bui_app i6 e9.out;have m5:Hid (za w1 w9):=by have h:=i9;rw [a5.out] at h;exact Below.trans f1.out h
     clear i6 i9;go_simp;refine hK.out _ _ ?_;clear hK K;refine AV (by kernel_rfl) ?_ _;subst m9;clear hy E q0 q1 q2 a1 a2;go_wp2;go_roundw
     case rel=>exact ⟨k+1,by omega,by go_num,l6,m5⟩
     case measure=>simp [intOf];omega
    ·obtain rfl:k=m.tasks.length:=by omega
     have e4:m.tasks.take m.tasks.length=m.tasks:=Ej;have e5:ns.take m.tasks.length=ns:=by rw [<-HS.out.nl];exact Ej
     rw [e4,e5] at HB
     have f3:(D1++Al m.tasks ns).length<=50001000:=by
      have h1:=Cu HS.out.t HS.out.n;have h2:=e6.out;rw [Eg];omega
     obtain ⟨D2,b1⟩:∃D,D=D1++Al m.tasks ns:=⟨_,rfl⟩;rw [<-b1] at HB f3;have o3:=zh f3;have h8:=zh b1;have l9:Hid (Calls Tryz.prog 51 #[.int .i64 (m.free.length:Nat)] wq fun e w'=>e=.returned (.string ⟨(wI (m.free.length:Nat)).toArray⟩)/\za wq w'):=DD wq (HV.out.ext (V.out.trans E)) ⟨by omega,by omega⟩;have n3:=Bl (n:=(m.free.length:Int)) ⟨by omega,by omega⟩;have m2:Hid ((Lib.byteCells D2).length+(ByteArray.mk (wI (m.free.length:Nat)).toArray).size<=140737488355328):=CU (by omega);have f4:(D2++wI (m.free.length:Nat)).length<=50001100:=by rw [Eg];omega
     obtain ⟨D3,b2⟩:∃D,D=D2++wI (m.free.length:Nat):=⟨_,rfl⟩;have d7:=zh b2;rw [<-b2] at f4;have h7:=zh f4;clear e4 e5 f3 b1 f4 b2 n3
     go_wp2_with fail
     refine l9.out.mono ?_;rintro e w5 ⟨rfl,o⟩;have Q:=zh (HB.out.old o);have a3:Hid (za w1 w5):=HX.out.trans o;clear o E
     go_wp2_with fail
     refine (Cf ⟨(wI (m.free.length:Nat)).toArray⟩ Q.out m2.out).mono ?_;rintro e w6 ⟨rfl,G,I,-⟩;have U:Hid (DS B (Lib.byteCells D3) w6):=bui_app G d7.out;have k4:za w1 w6:=by have h:=I;rw [a5.out] at h;exact Below.trans a3.out h
     have J:=zh k4;clear G I
     go_wp2_with fail
     clear k4;go_loopw [57] (fun i wr=>∃k:Nat,k<=m.free.length/\i=.int .i64 k/\Hid (DS B (Lib.byteCells (D3++(m.free.take k).flatMap AE)) wr)/\Hid (za w1 wr)) (fun i _=>m.free.length - (intOf i).toNat)
     case atStart=>exact ⟨0,Em _,rfl,by rw [List.take_zero,show D3++([]:List (List Bool)).flatMap AE=D3 from List.append_nil _];exact U,J⟩
     clear U J Q a3
     case round=>
      obtain ⟨k,hk,rfl,HB,HX⟩:=hrel;obtain ⟨wp,rfl⟩:∃wp:World,wp=wr:=⟨_,rfl⟩;have E:za w1 wp:=HX.out;have i4:Hid (zq wp):=HV.out.ext (V.out.trans E);by_cases O:k<m.free.length
      ·have e0:(k:Int)<(m.free.length:Int):=by omega
       have n4:(0:Int)<=(k:Int):=by omega
       obtain ⟨vs,⟨A',c',e',-,hr⟩,he⟩:=HF.out.below (V.out.trans E);injection e' with e1 e2 e3;subst e1;obtain ⟨bf,off,u,rfl,-,b6,hb⟩:=AX hr he O O;obtain ⟨x,d5⟩:=Fd (m.free[k]);rw [<-d5] at hb;have k6:x.length<=1000:=HS.out.f x (by rw [d5];exact DZ _);have h6:=zh (jBits_calls wp i4.out hb (by omega));have e9:Hid (D3++(m.free.take (k+1)).flatMap AE=(D3++(m.free.take k).flatMap AE)++AE x):=by (show _=_);rw [Ef O,List.flatMap_append,List.append_assoc,d5];simp
       have f7:=CO k6;have f8:=CP (l:=m.free.take k) fun y hy=>HS.out.f y (List.mem_of_mem_take hy)
       have b0:Hid ((Lib.byteCells (D3++(m.free.take k).flatMap AE)).length+(ByteArray.mk (AE x).toArray).size<=140737488355328):=CU (by have h1:=h7.out;have h2:(m.free.take k).length<=1000:=(by rw [EQ];omega);simp only [Eg];omega);obtain ⟨Ab,cb,rfl,-,-⟩:=hb;obtain ⟨nx,j8⟩:∃n,n=x.length:=⟨_,rfl⟩;rw [<-j8] at b6 h6;clear hr he e2 e3 d5 k6 f7 f8 j8
       go_wp2_with fail
       refine h6.out.mono ?_;rintro e w5 ⟨rfl,o⟩;have Q:=zh (HB.out.old o);have a3:Hid (za w1 w5):=HX.out.trans o;clear o E b6
       go_wp2_with fail
       refine (Cf ⟨(AE x).toArray⟩ Q.out b0.out).mono ?_;rintro e w6 ⟨rfl,G,I,-⟩;have U:Hid (DS B (Lib.byteCells (D3++(m.free.take (k+1)).flatMap AE)) w6):=bui_app G e9.out;have J:Hid (za w1 w6):=by have h:=I;rw [a5.out] at h;exact Below.trans a3.out h
       clear G I;go_wp2;go_roundw
       case rel=>exact ⟨k+1,by omega,by go_num,U,J⟩
       case measure=>simp [intOf];omega
      ·obtain rfl:k=m.free.length:=by omega
       rw [Ej] at HB;have m0:=zh (jBits_calls wp i4.out (HU.out.below (V.out.trans E)) (by have:=HS.out.u;omega));have f7:=CO HS.out.u;have f8:=CP HS.out.f;have i7:(D3++m.free.flatMap AE).length<=52001100:=by have h1:=h7.out;rw [Eg];omega
       obtain ⟨D4,b3⟩:∃D,D=D3++m.free.flatMap AE:=⟨_,rfl⟩;rw [<-b3] at HB i7;have b0:Hid ((Lib.byteCells D4).length+(ByteArray.mk (AE m.up).toArray).size<=140737488355328):=CU (by omega);have h9:Hid ((D4++AE m.up).length<=1000000000):=by (show _<=_);rw [Eg];omega
       have d8:Hid (D4++AE m.up=zw m ns):=by
        (show _=_)
        rw [b3,d7.out,h8.out,m1.out,i2.out];unfold zw;simp [List.append_assoc]
       clear f7 f8 i7 b3
       go_wp2_with fail
       refine m0.out.mono ?_;rintro e w5 ⟨rfl,o⟩;have Q:=zh (HB.out.old o);have a3:Hid (za w1 w5):=HX.out.trans o;clear o E
       go_wp2_with fail
       refine (Cf ⟨(AE m.up).toArray⟩ Q.out b0.out).mono ?_;rintro e w6 ⟨rfl,G,I,-⟩;have U:Hid (DS B (Lib.byteCells (zw m ns)) w6):=bui_app G d8.out.symm;have J:Hid (za w1 w6):=by have h:=I;rw [a5.out] at h;exact Below.trans a3.out h
       clear G I;rw [d8.out] at h9;have l7:Hid (B<=w6.heap.size):=by (show _<=_);rw [a5.out];exact J.out.size
       go_wp2_with fail
       refine (Dq U.out l7.out).mono ?_;rintro e w7 ⟨rfl,i8⟩;have m4:Hid (za w1 w7):=by have h:=i8;rw [a5.out] at h;exact Below.trans J.out h
       clear i8
       go_wp2_with fail
       refine (of_l (zw m ns) w7 h9.out).mono ?_;rintro e w8 ⟨rfl,c7⟩;have f1:Hid (za w w8):=(V.out.trans m4.out).trans c7;clear c7
       go_wp2_with fail
       go_ret;exact ⟨rfl,f1.out⟩
end
end Go.Proofs.YtjomnbdjajjgfaaGreatDoor
