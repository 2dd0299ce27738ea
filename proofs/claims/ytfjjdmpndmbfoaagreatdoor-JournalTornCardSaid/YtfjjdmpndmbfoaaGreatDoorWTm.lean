import Derived.Test.YtfjjdmpndmbfoaaGreatDoorWTl
import Derived.WalkLawsBesides
set_option linter.unusedVariables false
set_option linter.unusedSimpArgs false
set_option maxRecDepth 100000
set_option maxHeartbeats 16000000
namespace Go.Proofs.YtfjjdmpndmbfoaaGreatDoor
variable {ch:List Int} {m:MZ} {gp gs gx:Nat} {WZ w w6 wr:World}
section
open Go.RowKit
attribute [local go_sem ↓] Go.wp_at_zero Go.wp_at_succ
attribute [local go_sem] Oper.semAt_some
def CN (w:World) (gx:Nat) (r:Int×PT×Nat) (e:Ending) (w':World):Prop:=
 zk (fun b=>b=gx) w w'/\((r.1=0/\∃v,e=.returned v/\Ck w' (fun b=>w.heap.size<=b) v r.2.1/\zg w' gx 125 #[.int .i64 r.2.2])\/(r.1≠0/\e=.panicked [{ v:=.iface 31 (.int .i64 r.1),recovered:=false }]))
theorem case_fin3 {P:World->Prop} {W:World} {g2:Nat} {t:TypeId} {a0 a1 a2 z0 z1 z2:Value} (h:∀WZ,zg WZ g2 t #[a0,a1,a2]->Below g2 W WZ->(∀k,k<W.heap.size->k≠g2->WZ.heap[k]?=W.heap[k]?)->P WZ) (o:zg W g2 t #[z0,z1,z2]):
  P (((W.setCell ⟨g2,0,none⟩ a0).setCell ⟨g2,1,none⟩ a1).setCell ⟨g2,2,none⟩ a2):=
 h (setL g2 0 [a0,a1,a2] W) (setL_blk [a0,a1,a2] [z0,z1,z2] [] W rfl o) (CA g2 _ 0 W) (fun k _ d=>CB g2 k d _ 0 W)
theorem prove_fin {w4 w7 wk w5:World} {S:List Int} {tn k c6:Nat} {A6:Option Addr} {zs:Array Value} (O:gs=w.heap.size) (Q:gx<gs) (I:zk (fun b=>b=gx) w w4) (B:zc w4 w7) (M:zg w4 (gs+1) 42 zs) (J:zg w4 gx 125 #[.int .i64 ((k:Int)+1)])
  (d:Below (gs+1) w7 WZ) (o:∀k,k<w7.heap.size->k≠gs+1->WZ.heap[k]?=w7.heap[k]?) (hs:wk.heap.size<=w5.heap.size) (hk:w4.heap.size<=wk.heap.size) (hI:zl w7 (fun b=>w5.heap.size<=b) (.slice A6 S.length c6) S) (K:S=Ce m ch tn):
  CN w gx (0,.node tn (Ce m ch tn) [],k+1) (.returned (.agg #[.int .i64 tn,.slice A6 S.length c6,.slice none 0 0])) WZ:=by
 have hz:=za M;have hx:=za J;have h4:=B.size;refine ⟨zk.trans I (zk.trans (zk.of_ext (X:=fun b=>b=gs+1) B) ⟨d.os,d.tape,d.output,d.size,fun b D V=>o b D V⟩ (fun _ _ h=>h)) (fun k h1 G=>by omega),.inl ⟨rfl,_,rfl,?_,?_⟩⟩
 ·rw [<-K];exact .mk (cs:=[]) ((hI.keep (fun b D E=>o b E (by omega))).weaken (fun b D=>by have:=I.size;omega)) ⟨none,0,rfl,DE _,AD.nil _ _ _ _⟩ (fun i U=>absurd U (by simp))
 ·have h1:=J.ext B;have G:zg WZ gx 125 #[.int .i64 ((k:Int)+1)]:=(o gx (za h1) (by omega)).trans h1
  rwa [show ((k:Int)+1)=((k+1:Nat):Int) from by omega] at G
theorem prove_fin2 {c kk:Nat} {vk:Value} {acc:List PT} {cs:List Value} (E:zk (fun b=>b=gx) w w6) (J:zk (fun b=>b=gx\/b=gp) w6 wr) (Q:gp<w6.heap.size/\gx<gs/\gs+1<gp) (K:gs=w.heap.size)
  (G:zg wr gx 125 #[.int .i64 kk]) (I:Ba wr w6.heap.size vk acc cs) (d:Below (gs+1) wr WZ) (o:∀k,k<wr.heap.size->k≠gs+1->WZ.heap[k]?=wr.heap[k]?):
  CN w gx (0,.node c [] acc,kk) (.returned (.agg #[.int .i64 c,.slice none 0 0,vk])) WZ:=by
 refine ⟨zk.trans (X':=fun b=>b=gx\/b=gp\/b=gs+1) E (zk.trans (J.wide (fun k h=>by omega)) (⟨d.os,d.tape,d.output,d.size,fun b B M=>o b B M⟩:zk (fun b=>b=gs+1) wr WZ) (fun k _ h=>.inr (.inr h))) (fun k h1 O=>by omega),.inl ⟨rfl,_,rfl,?_,?_⟩⟩
 ·refine (I.kids c).keepW (fun b B D=>o b D (by omega)) fun b B=>?_;have:=E.size;omega
 ·exact (o gx (za G) (by omega)).trans G
theorem prove_fin3 {w8:World} {r x:Int×PT×Nat} (B:zk (fun b=>b=gx) w w6) (D:zk (fun b=>b=gx\/b=gp) w6 wr) (I:gp<w6.heap.size/\gx<gs/\gs+1<gp) (E:gs=w.heap.size) (o:zk (fun b=>b=gx) wr w8) (d:x.1=r.1) (h:r.1≠0):
  CN w gx x (.panicked [{ v:=.iface 31 (.int .i64 r.1),recovered:=false }]) w8:=
 ⟨zk.trans B (zk.trans D (o.wide (X':=fun b=>b=gx\/b=gp) (fun k h=>.inl h)) (fun _ _ h=>h)) (fun k h1 G=>by omega),.inr ⟨by rw [d];exact h,by rw [d]⟩⟩
theorem headP_len {t:Nat} (d:Lens m) (ht:t<m.tasks.length):(headP m ch t).length<=20000000000000:=by
 unfold headP
 split
 ·cases ((zr m ch).getD t []).getLast? <;> simp
 ·refine DG (Eg _ _) ?_;rw [DD,DC ht];have:=(d.tl _ (DF ht)).1;show (m.tasks[t]).1.length<=_;omega
theorem prove_calls {m:MZ} {f u ts:Value} (hl:Lens m) (hc:BS m=0):
  ∀(fl:Nat) (ch:List Int) (k gx:Nat) (ok:Nat->Prop) (vc vp:Value) (w:World),PSt w ok m f u ts vc vp ch->zG m ch->m.n.toNat+2<=fl+ch.length->k<=3000->zg w gx 125 #[.int .i64 k]->(∀b,ok b->b≠gx)->
   Calls Tryz.prog 65 #[.pointer (some ⟨gx,0,none⟩),stv m f u ts vc vp (AB m ch)] w (CN w gx (zu m fl ch k))
 | 0,ch,k,gx,ok,vc,vp,w,_,hi,hf,_,_,_=>by
  have:=hi.len (zX.of hc);omega
 | fl+1,ch,k,gx,ok,vc,vp,w,h,hi,hf,hk,hx,A3=>by
  have H:=zh h;have HL:=zh hl;have HC:=zh hc;have HI:=zh hi;have HF:=zh hf;have HK:=zh hk;have HX:=zh hx;have j1:=zh A3;have IH:=zh (prove_calls (f:=f) (u:=u) (ts:=ts) hl hc fl);obtain ⟨Af,cf,Au,cu,At,ct,Ac,cc,Ap,cp,rfl,rfl,rfl,rfl,rfl,-,-⟩:=h.parts;obtain ⟨PL,hP⟩:=EH ((zr m ch).length);rw [<-hP] at H⊢;clear h hl hc hi hP hf hk A3;obtain ⟨c,q2⟩:=EH (AB m ch);rw [<-q2];have b2:=zh q2;clear q2 hx;unfold stv
  go_enter Tryz.func65,Tryz.ntmps65
  go_upto_region 1 with fail;have l7:=zg.new w #[.int .i64 m.w,.int .i64 m.h,.int .i64 m.l,.slice Af m.free.length cf,.slice Au m.up.length cu,.slice At m.tasks.length ct,.slice Ac ch.length cc,.slice Ap PL cp,.int .i64 c] 128 (g:=w.heap.size) rfl;have m0:zc w (w.alloc (.cells #[.int .i64 m.w,.int .i64 m.h,.int .i64 m.l,.slice Af m.free.length cf,.slice Au m.up.length cu,.slice At m.tasks.length ct,.slice Ac ch.length cc,.slice Ap PL cp,.int .i64 c] 128)):=(zc.refl w).alloc _;have l0:(w.alloc (.cells #[.int .i64 m.w,.int .i64 m.h,.int .i64 m.l,.slice Af m.free.length cf,.slice Au m.up.length cu,.slice At m.tasks.length ct,.slice Ac ch.length cc,.slice Ap PL cp,.int .i64 c] 128)).heap.size=w.heap.size+1:=by simp
  generalize w.alloc _=w1 at l7 m0 l0⊢;have D:=zg.new w1 #[.int .i64 0,.slice none 0 0,.slice none 0 0] 42 (g:=w1.heap.size) rfl;have k2:zc w1 (w1.alloc (.cells #[.int .i64 0,.slice none 0 0,.slice none 0 0] 42)):=(zc.refl w1).alloc _;generalize w1.alloc _=w2 at D k2⊢;rw [l0] at D;obtain ⟨gs,m1⟩:=EH w.heap.size;rw [<-m1] at l7 D⊢;have f1:Hid (gs=w.heap.size):=m1;have i8:Hid (gx<gs):=by show _<_;rw [m1];exact za HX.out
  have HZ:=zh D;have b0:=zh (l7.ext k2);have C6:=zh ((HX.out.ext m0).ext k2);have l6:=zh (m0.trans k2);clear l7 m0 l0 D k2 m1;have c0:=b0.out.cell (k:=0) rfl;have c1:=b0.out.cell (k:=1) rfl;have c2:=b0.out.cell (k:=2) rfl;have c3:=b0.out.cell (k:=3) rfl;have c4:=b0.out.cell (k:=4) rfl;have c5:=b0.out.cell (k:=5) rfl;have c6:=b0.out.cell (k:=6) rfl;have c7:=b0.out.cell (k:=7) rfl;have c8:=b0.out.cell (k:=8) rfl;have s5:Hid (Calls Tryz.prog 105 #[.agg #[.int .i64 m.w,.int .i64 m.h,.int .i64 m.l,.slice Af m.free.length cf,.slice Au m.up.length cu,.slice At m.tasks.length ct,.slice Ac ch.length cc,.slice Ap PL cp,.int .i64 c]] w2 fun e w'=>e=.returned (.bool (decide ((m.tasks.length:Int)<=(c:Int))))/\zc w2 w'):=pcomplete_calls c w2 (H.out.more l6.out)
  go_wp2_with fail
  refine s5.out.mono ?_;rintro e w3 ⟨rfl,x3⟩;have h9:=zh x3;clear x3 c0 c1 c2 c3 c4 c5 c6 c7 c8 s5;by_cases n8:m.tasks.length<=c
  ·have hd:decide ((m.tasks.length:Int)<=(c:Int))=true:=DH (by omega);rw [hd]
   go_wp2_with fail
   refine ⟨rfl,?_⟩;have hp:zu m (fl+1) ch k=(51,.zero,k):=proveP_end (by rw [<-b2.out];exact n8);rw [hp];exact ⟨zk.of_ext (l6.out.trans h9.out),.inr ⟨by simp,rfl⟩⟩
  ·have hd:decide ((m.tasks.length:Int)<=(c:Int))=false:=DI (by omega);rw [hd];have e0:Hid (¬ m.tasks.length<=AB m ch):=by show ¬ _;rw [<-b2.out];exact n8
   have j4:=zh (C6.out.ext h9.out);have x0:w3.cell? ⟨gx,0,none⟩=some (.int .i64 k):=j4.out.cell (k:=0) rfl;have D2:=j4.out.frozen 0;have D4:IntKind.i64.wrap ((k:Int)+1)=(k:Int)+1:=by rw [DZ];have:=HK.out;omega
   clear hd;go_upto_region 4 with fail;have p8:=j4.out.set (k:=0) (.int .i64 ((k:Int)+1));have e6:=(b0.out.ext h9.out).setOther (a:=⟨gx,0,none⟩) (by have:=i8.out;show gs≠gx;omega) (.int .i64 ((k:Int)+1));have p9:=(HZ.out.ext h9.out).setOther (a:=⟨gx,0,none⟩) (by have:=i8.out;show gs+1≠gx;omega) (.int .i64 ((k:Int)+1));have l9:zZ (fun b=>b≠gx) w3 (w3.setCell ⟨gx,0,none⟩ (.int .i64 ((k:Int)+1))):=fun b hb _=>DN w3 ⟨gx,0,none⟩ _ b hb
   have p5:zk (fun b=>b=gx) w (w3.setCell ⟨gx,0,none⟩ (.int .i64 ((k:Int)+1))):=zk.trans (zk.of_ext (X:=fun b=>b=gx) (l6.out.trans h9.out)) ⟨rfl,rfl,rfl,by simp,fun b _ hb=>DN w3 ⟨gx,0,none⟩ _ b hb⟩ (fun _ _ h=>h);generalize w3.setCell ⟨gx,0,none⟩ (.int .i64 ((k:Int)+1))=w4 at p8 e6 p9 l9 p5⊢;have f7:Hid (zg w4 gx 125 #[.int .i64 ((k:Int)+1)]):=p8;have l2:=zh e6;have i3:=zh p9;have E7:=zh l9;have V:=zh p5;have o6:Hid (PSt w4 ok m (.slice Af m.free.length cf) (.slice Au m.up.length cu) (.slice At m.tasks.length ct) (.slice Ac ch.length cc) (.slice Ap PL cp) ch):=((H.out.more l6.out).more h9.out).keep (fun b hb O=>l9 b (j1.out b hb) O);have y0:w4.cell? ⟨gx,0,none⟩=some (.int .i64 ((k:Int)+1)):=f7.out.cell (k:=0) rfl;clear p8 e6 p9 l9 p5 x0 D2;by_cases d6:3000<k+1
   ·have A1:(3000:Int)<(k:Int)+1:=by omega
    go_wp2_with fail
    refine ⟨rfl,?_⟩;rw [proveP_many e0.out d6];exact ⟨V.out,.inr ⟨by simp,rfl⟩⟩
   ·have A1:¬ ((3000:Int)<(k:Int)+1):=by omega
    have c8:=l2.out.cell (k:=8) rfl;go_upto_region 7 with fail;have o9:Hid (zg (w4.alloc (.cells #[.int .i64 c] 3)) w4.heap.size 3 #[.int .i64 c]):=zg.new _ _ _ rfl;have I:Hid (zc w4 (w4.alloc (.cells #[.int .i64 c] 3))):=(zc.refl w4).alloc _;generalize w4.alloc _=w5 at o9 I⊢;have B2:Hid (c<=m.tasks.length):=by show _<=_;have:=e0.out;have:=b2.out;omega
    have i0:Hid (m.tasks.length<=6/\ch.length<=300):=⟨(CG HC.out HI.out).2.1,(CG HC.out HI.out).2.2.1⟩;clear y0 c8 D4 A1;go_loopw [5] (fun v wr=>∃tn g5:Nat,v=.pointer (some ⟨g5,0,none⟩)/\c<=tn/\tn<=m.tasks.length/\Hid (∀j,c<=j->j<tn->offB m ch j=false)/\Hid (w4.heap.size<=g5)/\Hid (zg wr g5 3 #[.int .i64 tn])/\Hid (zc w4 wr)) (fun v wr=>match v with | .pointer (some a)=>(match wr.cell? a with | some (.int _ i)=>m.tasks.length - i.toNat | _=>0) | _=>0)
    case atStart=>exact ⟨c,w4.heap.size,rfl,DE _,B2.out,fun j h1 J=>(by omega),DE _,o9.out,I.out⟩
    clear o9 I
    case round=>
     obtain ⟨tn,g5,rfl,r9,D6,b9,g1,z4,hE⟩:=hrel;obtain ⟨wk,rfl⟩:∃wk:World,wk=wr:=⟨_,rfl⟩;have b1:=zh (l2.out.ext hE.out);have f6:=zh (o6.out.more hE.out);have ct0:wk.cell? ⟨g5,0,none⟩=some (.int .i64 tn):=z4.out.cell (k:=0) rfl;have r0:=zc.rule (b1.out.cell (k:=0) rfl);have r1:=zc.rule (b1.out.cell (k:=1) rfl);have r2:=zc.rule (b1.out.cell (k:=2) rfl);have r3:=zc.rule (b1.out.cell (k:=3) rfl);have r4:=zc.rule (b1.out.cell (k:=4) rfl);have r5:=zc.rule (b1.out.cell (k:=5) rfl);have r6:=zc.rule (b1.out.cell (k:=6) rfl);have r7:=zc.rule (b1.out.cell (k:=7) rfl);have r8:=zc.rule (b1.out.cell (k:=8) rfl);have rt:=zc.rule ct0;have F3:zc wk wk:=zc.refl wk;by_cases O:tn<m.tasks.length
     ·have n9:(tn:Int)<(m.tasks.length:Int):=by omega
      go_upto_region 9 with fail;refine DU (S:=(fun W=>zc wk W)) AC ((zc.refl wk).drew) fun zH=>?_;have p6:zc wk wk.drew:=zH;have B6:Hid ((headP m ch tn).length<=20000000000000):=headP_len HL.out O;generalize wk.drew=wd at zH p6⊢;refine zA 0 zH ?_;refine zA 1 zH ?_;simp only [zd,DB];refine zA 2 zH ?_;refine zA 3 zH ?_;simp only [zd,DB];refine zA 4 zH ?_;refine zA 6 zH ?_;simp only [zd,DB];refine zA 7 zH ?_;simp only [zd,DB];refine Ae 5 fun K d=>?_;go_simp;go_at_call 107;refine (phead_calls c tn wd (f6.out.more p6) HL.out HC.out HI.out O).mono ?_;rintro e w5 ⟨v5,rfl,f8,x4⟩;have I:Hid (zc wk w5):=p6.trans f8;have B7:=zh x4;obtain ⟨A5,c5,rfl,-,-⟩:=x4;clear f8;refine EI d (I.out) fun zH=>?_;clear d K;try simp only [zd,DB]
      refine Ae 8 fun K d=>?_;go_simp;go_at_call 106;refine (rReach_calls tn w5 (f6.out.more I.out).maze HL.out B7.out B6.out (f6.out.more I.out).chs (by have:=i0.out;omega)).mono ?_;rintro e w6 ⟨v6,rfl,f9⟩;have a0:Hid (zc wk w6):=I.out.trans f9.ext;have f2:Hid (zl w6 (fun b=>w5.heap.size<=b) v6 (Ce m ch tn)):=f9.ints;obtain ⟨A6,c6,rfl,-,-⟩:=f2.out;clear f9;refine EI d (a0.out) fun zH=>?_;clear d K;try simp only [zd,DB]
      refine Ae 9 fun K d=>?_;go_simp;refine EI d (a0.out) fun zH=>?_;clear d K;try simp only [zd,DB]
      refine Eh (by kernel_rfl) ?_ _;have m2:=a0.out;have F1:∀(fn:Fn) (first cap:Array Value) (w:World),(Instr.makeFunc fn first cap).run Tryz.prog w=.ok (.func fn first cap) w:=fun _ _ _ _=>rfl
      have v4:Hid ((Ce m ch tn).length<=20000000000000):=by show _<=_;rw [sideP_eq HC.out O];exact reachL_le _ _ _ _ (zX.of HC.out)
      obtain ⟨S,hS⟩:=EH (Ce m ch tn);rw [<-hS] at f2 v4⊢;have o8:=zh hS;clear hS
      have C5:Hid (∀x W,zc w6 W->Calls Tryz.prog 108 #[.int .i64 x,.pointer (some ⟨gs,0,none⟩),.pointer (some ⟨g5,0,none⟩)] W fun e w'=>e=.returned (.bool (decide (x∈(m.tasks.getD tn ([],[])).2)))/\W=w'):=fun x W hW=>by
       obtain ⟨_,_,_,_,_,_,_,_,_,_,_,_,e,_,_,_,D7⟩:=(f6.out.more (m2.trans hW)).parts;injection e with e1 e2 e3;subst e1 e3;exact prove1_calls x W (r5 W (m2.trans hW)) (rt W (m2.trans hW)) D7 HL.out O
      have E6:Hid (∀W,zc wk W->W.cell? ⟨g5,0,none⟩=some (.int .i64 tn)):=rt;have E5:Hid (∀W,zc wk W->W.cell? ⟨gs,8,none⟩=some (.int .i64 c)):=r8
      go_wp2_with fail
      refine (AH 108 #[.pointer (some ⟨gs,0,none⟩),.pointer (some ⟨g5,0,none⟩)] (fun x=>decide (x∈(m.tasks.getD tn ([],[])).2)) w6 f2.out v4.out (AP (P:=Tryz.prog) Tryz.func108 (by kernel_rfl) (by kernel_rfl)) (fun x _ W hW=>(C5.out x W hW.ext).mono (fun e w' ⟨h1,J⟩=>⟨h1,by rw [J];exact zB.refl _⟩))).mono ?_;rintro e w7 ⟨rfl,q4⟩;have B3:Hid (zc wk w7):=a0.out.trans q4.ext;have b6:=B3.out;have s8:=zh (f2.out.below q4.ext);obtain ⟨b,hb⟩:=EH (S.any fun x=>decide (x∈(m.tasks.getD tn ([],[])).2))
      rw [<-hb]
      have l5:Hid (offB m ch tn=(!b && (decide (S≠[]) || decide (c<tn)))):=by
       show _=_;unfold offB;rw [hb,o8.out,b2.out]
      clear hb q4 m2;have ct8:=rt w7 b6;have z8:=b6
      cases b with
      | true=>
       have d5:Hid (offB m ch tn=false):=by show _=_;rw [l5.out];rfl
       have HN:Hid (∀j,c<=j->j<tn+1->offB m ch j=false):=fun j h1 J=>by
        rcases Ea j tn with h | h
        ·exact b9.out j h1 h
        ·obtain rfl:j=tn:=by omega
         exact d5.out
       have D8:IntKind.i64.wrap ((tn:Int)+1)=(tn:Int)+1:=by rw [DZ];have:=i0.out;omega
       clear d5
       go_wp2_with fail
       have k3:zg (w7.alloc (.cells #[.int .i64 ((tn:Int)+1)] 3)) w7.heap.size 3 #[.int .i64 ((tn+1:Nat):Int)]:=by have h:=zg.new w7 #[.int .i64 ((tn:Int)+1)] 3 (g:=w7.heap.size) rfl;rwa [show ((tn:Int)+1)=((tn+1:Nat):Int) from by omega] at h⊢
       have o3:=zh k3;have i4:=zh ((hE.out.trans b6).alloc (.cells #[.int .i64 ((tn:Int)+1)] 3));have q8:Hid (w4.heap.size<=w7.heap.size):=(hE.out.trans b6).size;have q3:Hid ((w7.alloc (.cells #[.int .i64 ((tn:Int)+1)] 3)).cell? ⟨w7.heap.size,0,none⟩=some (.int .i64 ((tn:Int)+1))):=zQ _ _ _ rfl;have k4:Hid (wk.cell? ⟨g5,0,none⟩=some (.int .i64 tn)):=ct0;clear k3;go_roundw
       case rel=>exact ⟨tn+1,w7.heap.size,rfl,by omega,by omega,HN,q8,o3,i4⟩
       case measure=>
        simp only [q3.out,k4.out];omega
      | false=>
       by_cases hs:0<S.length
       ·have l0:(0:Int)<(S.length:Int):=by omega
        have d5:Hid (offB m ch tn=true):=by
         show _=_;rw [l5.out,DH (by rintro rfl;simp at hs:S≠[])];rfl
        have ct7:=ct8;have D:zg w7 (gs+1) 42 #[.int .i64 0,.slice none 0 0,.slice none 0 0]:=(i3.out.ext hE.out).ext b6;have z0:=D.cell (k:=0) rfl;have z1:=D.cell (k:=1) rfl;have z2:=D.cell (k:=2) rfl;have hfz:∀j,w7.frozen? ⟨gs+1,j,none⟩=false:=fun j=>D.frozen j
        have i6:=zh D;clear D
        go_wp2_with fail
        refine case_fin3 (P:=fun W=>bodyPost Tryz.prog Tryz.f65 _ Exit.ret _ W) (g2:=gs+1) ?_ i6.out;intro WZ a8 j7 a9;have y0:=a8.cell (k:=0) rfl;have y1:=a8.cell (k:=1) rfl;have y2:=a8.cell (k:=2) rfl;refine Ev (v:=.agg #[.int .i64 tn,.slice A6 S.length c6,.slice none 0 0]) (by simp [results,Tryz.results65,go_sem,y0,y1,y2]) rfl ?_;rw [proveP_cut e0.out d6 (cutT_at (by rw [<-b2.out];exact r9) O d5.out (fun j h1 J=>b9.out j (by rw [b2.out];exact h1) J))];exact prove_fin f1.out i8.out V.out (hE.out.trans b6) i3.out f7.out j7 a9 I.out.size hE.out.size s8.out o8.out
       ·have l0:¬ ((0:Int)<(S.length:Int)):=by omega
        have q9:S=[]:=DV (by omega);by_cases z6:c<tn
        ·have z7:(c:Int)<(tn:Int):=by omega
         have d5:Hid (offB m ch tn=true):=by
          show _=_;rw [l5.out,DH z6,Bool.or_true];rfl
         clear q9;have ct7:=ct8;have D:zg w7 (gs+1) 42 #[.int .i64 0,.slice none 0 0,.slice none 0 0]:=(i3.out.ext hE.out).ext b6;have z0:=D.cell (k:=0) rfl;have z1:=D.cell (k:=1) rfl;have z2:=D.cell (k:=2) rfl;have hfz:∀j,w7.frozen? ⟨gs+1,j,none⟩=false:=fun j=>D.frozen j
         have i6:=zh D;clear D
         go_wp2_with fail
         refine case_fin3 (P:=fun W=>bodyPost Tryz.prog Tryz.f65 _ Exit.ret _ W) (g2:=gs+1) ?_ i6.out;intro WZ a8 j7 a9;have y0:=a8.cell (k:=0) rfl;have y1:=a8.cell (k:=1) rfl;have y2:=a8.cell (k:=2) rfl;refine Ev (v:=.agg #[.int .i64 tn,.slice A6 S.length c6,.slice none 0 0]) (by simp [results,Tryz.results65,go_sem,y0,y1,y2]) rfl ?_;rw [proveP_cut e0.out d6 (cutT_at (by rw [<-b2.out];exact r9) O d5.out (fun j h1 J=>b9.out j (by rw [b2.out];exact h1) J))];exact prove_fin f1.out i8.out V.out (hE.out.trans b6) i3.out f7.out j7 a9 I.out.size hE.out.size s8.out o8.out
        ·have z7:¬ ((c:Int)<(tn:Int)):=by omega
         have d5:Hid (offB m ch tn=false):=by
          show _=_;rw [l5.out,DI (by simp [q9]),DI z6];rfl
         clear q9
         have HN:Hid (∀j,c<=j->j<tn+1->offB m ch j=false):=fun j h1 J=>by
          rcases Ea j tn with h | h
          ·exact b9.out j h1 h
          ·obtain rfl:j=tn:=by omega
           exact d5.out
         have D8:IntKind.i64.wrap ((tn:Int)+1)=(tn:Int)+1:=by rw [DZ];have:=i0.out;omega
         clear d5
         go_wp2_with fail
         have k3:zg (w7.alloc (.cells #[.int .i64 ((tn:Int)+1)] 3)) w7.heap.size 3 #[.int .i64 ((tn+1:Nat):Int)]:=by have h:=zg.new w7 #[.int .i64 ((tn:Int)+1)] 3 (g:=w7.heap.size) rfl;rwa [show ((tn:Int)+1)=((tn+1:Nat):Int) from by omega] at h⊢
         have o3:=zh k3;have i4:=zh ((hE.out.trans b6).alloc (.cells #[.int .i64 ((tn:Int)+1)] 3));have q8:Hid (w4.heap.size<=w7.heap.size):=(hE.out.trans b6).size;have q3:Hid ((w7.alloc (.cells #[.int .i64 ((tn:Int)+1)] 3)).cell? ⟨w7.heap.size,0,none⟩=some (.int .i64 ((tn:Int)+1))):=zQ _ _ _ rfl;have k4:Hid (wk.cell? ⟨g5,0,none⟩=some (.int .i64 tn)):=ct0;clear k3;go_roundw
         case rel=>exact ⟨tn+1,w7.heap.size,rfl,by omega,by omega,HN,q8,o3,i4⟩
         case measure=>
          simp only [q3.out,k4.out];omega
     ·have n9:¬ ((tn:Int)<(m.tasks.length:Int)):=by omega
      have s6:Hid (cutT m ch=none):=cutT_no (fun j h1 J=>b9.out j (by rw [b2.out];exact h1) (by omega));have l4:=zh hE.out;clear b9 g1 z4 r9 D6 O hE;go_upto_region 15 with fail;have l8:=zg.new wk #[.int .i64 c,.slice none 0 0,.slice none 0 0] 42 (g:=wk.heap.size) rfl;have f8:zc wk (wk.alloc (.cells #[.int .i64 c,.slice none 0 0,.slice none 0 0] 42)):=(zc.refl wk).alloc _;generalize wk.alloc _=w5 at l8 f8⊢;obtain ⟨gp,q5⟩:=EH wk.heap.size;rw [<-q5] at l8⊢;have D0:Hid (gs+1<gp):=by show _<_;rw [q5];exact Ef (za i3.out) l4.out.size
      have s3:=zh l8;have I:=zh f8;have D9:=f8;clear l8 q5 f8
      go_wp2_with fail
      refine (rCandidates_calls w5 (f6.out.more I.out).maze HL.out (f6.out.more I.out).chs (by have:=i0.out;omega)).mono ?_;rintro e w6 ⟨v6,rfl,f9⟩;have x5:(AE m ch).length<=400000000000:=by unfold AE;split;exact cand_len HL.out ch;simp
      have t0:Hid (∀n∈AE m ch,zG m (ch++[n])):=fun n hn=>by
       have:AE m ch=Bn m ch:=by unfold AE;rw [if_pos (okC_of HC.out HI.out)]
       rw [this] at hn;exact .snoc HI.out hn
      have f2:=zh f9.ints;have a0:=zh f9.ext;have i1:Hid (zu m (fl+1) ch k=if (zR (fun n k=>zu m fl (ch++[n]) k) (AE m ch) (k+1) []).1=0 then (0,.node (AB m ch) [] (zR (fun n k=>zu m fl (ch++[n]) k) (AE m ch) (k+1) []).2.1,(zR (fun n k=>zu m fl (ch++[n]) k) (AE m ch) (k+1) []).2.2) else ((zR (fun n k=>zu m fl (ch++[n]) k) (AE m ch) (k+1) []).1,.zero,(zR (fun n k=>zu m fl (ch++[n]) k) (AE m ch) (k+1) []).2.2)):=proveP_kids e0.out d6 s6.out;obtain ⟨L,hL⟩:=EH (AE m ch);rw [<-hL] at t0 f2 i1 x5;clear f9 hL;obtain ⟨F,hF⟩:∃F:Int->Nat->Int×PT×Nat,F=fun n k=>zu m fl (ch++[n]) k:=⟨_,rfl⟩
      rw [<-hF] at i1;have o5:=zh hF;clear hF D9 ct0 rt r0 r1 r2 r3 r4 r5 r6 r7 r8 n9;obtain ⟨AL,cL,rfl,-,A4⟩:=f2.out;have C4:=zh A4;clear A4
      have C8:Hid (zg w6 gx 125 #[.int .i64 ((k+1:Nat):Int)]):=by
       have h:=((f7.out.ext l4.out).ext I.out).ext a0.out
       rwa [show ((k:Int)+1)=((k+1:Nat):Int) from by omega] at h
      have B1:=zh ((b1.out.ext I.out).ext a0.out);have t8:=zh (s3.out.ext a0.out);have C9:=zh (((i3.out.ext l4.out).ext I.out).ext a0.out);have E8:=zh ((f6.out.more I.out).more a0.out);have i2:Hid (zk (fun b=>b=gx) w w6):=V.out.trans (zk.of_ext (X:=fun b=>b=gx) ((l4.out.trans I.out).trans a0.out)) (fun _ _ h=>h);have o:Hid (gp<w6.heap.size/\gx<gs/\gs+1<gp):=⟨za t8.out,i8.out,D0.out⟩
      go_wp2_with fail
      have x6:=x5;have B8:Hid (k+1<=3000):=by show _<=_;omega
      have B9:Hid (Ba w6 w6.heap.size (.slice none 0 0) [] []):=Ba.nil _ _;clear x6;go_loopw [73] (fun v wr=>∃(j kk:Nat) (acc:List PT) (vk:Value) (cs:List Value),v=.int .i64 j/\j<=L.length/\Hid (acc.length=j)/\Hid (kk<=3000)/\Hid (zR F L (k+1) []=zR F (L.drop j) kk acc)/\Hid (zk (fun b=>b=gx\/b=gp) w6 wr)/\Hid (zg wr gx 125 #[.int .i64 kk])/\Hid (zg wr gp 42 #[.int .i64 c,.slice none 0 0,vk])/\Hid (Ba wr w6.heap.size vk acc cs)) (fun v _=>L.length - (intOf v).toNat)
      case atStart=>exact ⟨0,k+1,[],.slice none 0 0,[],rfl,DS _,rfl,B8.out,rfl,zk.refl _ _,C8.out,t8.out,B9.out⟩
      case round=>
       obtain ⟨j,kk,acc,vk,cs,rfl,hj,G,a9,f0,B,g0,a7,E⟩:=hrel;obtain ⟨wk',rfl⟩:∃wk':World,wk'=wr:=⟨_,rfl⟩;by_cases h8:j<L.length
       ·have F0:(0:Int)<=(j:Int):=by omega
        have D3:(j:Int)<(L.length:Int):=by omega
        obtain ⟨bl,offl,rfl,z3,n7⟩:=AI C4.out h8 h8;have E3:Hid (w5.heap.size<=bl):=z3;have B5:Hid (gp<w5.heap.size):=za s3.out;have z5:wk'.cell? ⟨bl,offl+j,none⟩=some (.int .i64 L[j]):=B.out.cellk n7 (by have:=o.out;have:=B5.out;show ¬ (bl=gx\/bl=gp);omega);have b3:Hid (zG m (ch++[L[j]])):=t0.out _ (DF h8);have d9:Hid (L.drop j=L[j] :: L.drop (j+1)):=List.drop_eq_getElem_cons h8;obtain ⟨n,hn⟩:=EH (L[j]);rw [<-hn] at z5 b3 d9;have b5:=B1.out
        have v2:Hid (PSt wk' ok m (.slice Af m.free.length cf) (.slice Au m.up.length cu) (.slice At m.tasks.length ct) (.slice Ac ch.length cc) (.slice Ap PL cp) ch):=H.out.keep (fun b hb O=>by
         have h1:=j1.out b hb;have J:=o.out;have h3:=f1.out;exact (B.out.block b (Ef O i2.out.size) (by omega)).trans (i2.out.block b O h1))
        have rul:∀{i:Nat} {v:Value},w6.cell? ⟨gs,i,none⟩=some v->∀W,zk (fun b=>b=gx\/b=gp) w6 W->W.cell? ⟨gs,i,none⟩=some v:=fun h W hW=>hW.cellk h (by have:=o.out;show ¬ (gs=gx\/gs=gp);omega)
        have r0:=rul (b5.cell (k:=0) rfl);have r1:=rul (b5.cell (k:=1) rfl);have r2:=rul (b5.cell (k:=2) rfl);have r3:=rul (b5.cell (k:=3) rfl);have r4:=rul (b5.cell (k:=4) rfl);have r5:=rul (b5.cell (k:=5) rfl);have r6:=rul (b5.cell (k:=6) rfl);have r7:=rul (b5.cell (k:=7) rfl);have r8:=rul (b5.cell (k:=8) rfl);obtain ⟨wq,rfl⟩:∃wq:World,wq=wk':=⟨_,rfl⟩;clear rul b5 n7 z3 hn;go_upto_region 18 with fail;clear z5;refine DU (S:=(fun W=>zk (fun b=>b=gx\/b=gp) w6 W)) AC (zk.trans B.out (zk.of_ext (X:=fun b=>b=gx\/b=gp) (zc.refl wq).drew) (fun _ _ h=>h)) fun zH=>?_;have b4:Hid (zc wq wq.drew):=(zc.refl wq).drew;generalize wq.drew=wd at zH b4⊢;refine zA 0 zH ?_;refine zA 2 zH ?_;simp only [zd,DB];refine zA 3 zH ?_;refine zA 4 zH ?_;simp only [zd,DB];refine rdA [1,5] ?_;refine Ee rfl (fun K d=>?_) ?_
        ·have cg1:wd.cell? ⟨gp,2,none⟩=some vk:=zk.cellk (zk.of_ext (X:=fun b=>b=gx) b4.out) (a7.out.cell (k:=2) rfl) (by have:=o.out;show ¬ (gp=gx);omega);go_simp;clear cg1;refine EI d (zk.trans B.out (zk.wide (zk.of_ext (X:=fun b=>b=gx) b4.out) (X':=fun b=>b=gx\/b=gp) (fun k h=>.inl h)) (fun _ _ h=>h)) fun zH=>?_;clear d K;try simp only [zd,DB]
         refine Ae 5 fun K d=>?_;go_simp;go_at_call 110;refine (pnext_calls c n wd (v2.out.more b4.out) HL.out HC.out b3.out i0.out.2).mono ?_;rintro e w2 ⟨vc2,vp2,rfl,x2,x7⟩;have i7:Hid (zc wq w2):=b4.out.trans x2;have C2:=zh x7;clear x2 x7;refine EI d (zk.trans B.out (zk.wide (zk.of_ext (X:=fun b=>b=gx) i7.out) (X':=fun b=>b=gx\/b=gp) (fun k h=>.inl h)) (fun _ _ h=>h)) fun zH=>?_;clear d K;try simp only [zd,DB]
         refine Ae 6 fun K d=>?_;go_simp;go_at_call 65;refine (IH.out (ch++[n]) kk gx _ vc2 vp2 w2 C2.out b3.out (by have:=HF.out;rw [DM,Ed];omega) a9.out (i7.out.cellB g0.out) (fun b hb=>by have h1:=j1.out;have J:=b4.out.size;have h3:=za g0.out;rcases hb with hb | hb;exact h1 b hb;omega)).mono ?_;obtain ⟨r3,q7⟩:∃r:Int×PT×Nat,r=zu m fl (ch++[n]) kk:=⟨_,rfl⟩;rw [<-q7];have o7:=zh q7;have g8:Hid (F n kk=r3):=by (show _=_);rw [o5.out];exact o7.out.symm
         clear q7;rintro e w3 ⟨p4,(⟨h0,v3,rfl,p7,x9⟩ | ⟨h0,rfl⟩)⟩
         rotate_left
         ·go_wp2;refine ⟨rfl,?_⟩;exact prove_fin3 (x:=zu m (fl+1) ch k) i2.out B.out o.out f1.out (zk.trans (zk.of_ext (X:=fun b=>b=gx) i7.out) p4 (fun _ _ h=>h)) (by rw [i1.out];exact (prove_err (F:=F) (n:=n) (l:=L.drop (j+1)) (k:=kk) (acc:=acc) (by rw [g8.out];exact h0) (f0.out.trans (by rw [d9.out]))).trans (by rw [g8.out])) h0
         have s4:Hid (zk (fun b=>b=gx) wq w3):=zk.trans (zk.of_ext (X:=fun b=>b=gx) i7.out) p4 (fun _ _ h=>h);obtain ⟨As3,cs3,Ak3,ck3,rfl,-⟩:=p7.form;have C3:=zh p7;have j4:=zh x9;have x1:=zh h0;have m8:Hid (wq.heap.size<=w2.heap.size):=i7.out.size;clear p4 p7 x9 h0;refine EI d (zk.trans B.out (zk.wide (s4.out) (X':=fun b=>b=gx\/b=gp) (fun k h=>.inl h)) (fun _ _ h=>h)) fun zH=>?_;clear d K;try simp only [zd,DB]
         refine Ae 7 fun K d=>?_;go_simp;have e6:=zg.new w3 #[.int .i64 r3.2.1.task,.slice As3 r3.2.1.side.length cs3,.slice Ak3 r3.2.1.kids.length ck3] 42 (g:=w3.heap.size) rfl;have hA4:zc w3 (w3.alloc (.cells #[.int .i64 r3.2.1.task,.slice As3 r3.2.1.side.length cs3,.slice Ak3 r3.2.1.kids.length ck3] 42)):=(zc.refl w3).alloc _;generalize w3.alloc _=w4 at e6 hA4⊢;generalize w3.heap.size=g4 at e6⊢;have l2:=zh e6;have V:Hid (zk (fun b=>b=gx) wq w4):=zk.trans (s4.out) (zk.of_ext (X:=fun b=>b=gx) hA4) (fun _ _ h=>h);have o6:=zh (C3.out.ext hA4);have f7:=zh (j4.out.ext hA4);clear e6 hA4;refine EI d (zk.trans B.out (zk.wide (V.out) (X':=fun b=>b=gx\/b=gp) (fun k h=>.inl h)) (fun _ _ h=>h)) fun zH=>?_;clear d K;try simp only [zd,DB]
         refine Ae 8 fun K d=>?_;have s9:Hid (Ba w4 w6.heap.size vk acc cs):=E.out.chg (V.out) (fun b hb e=>by have:=o.out;omega);refine Br (ok:=fun _=>True) (by rfl) w4 _ _ eProof (by rfl) w6.heap.size acc.length 1 cs _ vk _ (by rfl) (by rfl) s9.out.own (prv_row1 l2.out) (fun u hu=>by simp at hu;rcases hu with rfl | rfl | rfl <;> rfl) (by have h1:=B.out.size;have J:=zk.size (V.out);omega) (by have:=G.out;unfold maxLen;omega) (by have:=G.out;omega) ?_;intro v5 w5 q6 g1 A7;have C1:=zh (show Ba w5 w6.heap.size _ (acc++[r3.2.1]) (cs++[.int .i64 r3.2.1.task,.slice As3 r3.2.1.side.length cs3,.slice Ak3 r3.2.1.kids.length ck3]) from s9.out.app (lo:=w2.heap.size) o6.out (fun k hk=>by have h1:=E.out.lt hk;have J:=m8.out;omega) (by have h1:=B.out.size;have J:=m8.out;omega) q6 g1 A7);have l3:Hid (zk (fun b=>b=gx\/b=gp) w6 w5):=zk.grown (zk.trans B.out (zk.wide (V.out) (X':=fun b=>b=gx\/b=gp) (fun k h=>.inl h)) (fun _ _ h=>h)) g1 (fun k hk O=>by have h1:=E.out.lt hk;omega);obtain ⟨A5,c5,e5,-,-⟩:=Bc.of_own q6;subst e5;have j2:Hid (zg w5 gp 42 #[.int .i64 c,.slice none 0 0,vk]):=(g1.block gp (by have h1:=o.out.1;have J:=B.out.size;have h3:=zk.size (V.out);omega) (fun e=>by have h1:=E.out.lt e.symm;have J:=o.out;omega)).trans (zk.blk (V.out) a7.out (by have:=o.out;omega));have C7:Hid (zg w5 gx 125 #[.int .i64 r3.2.2]):=(g1.block gx (za f7.out) (fun e=>by have h1:=E.out.lt e.symm;have J:=o.out;omega)).trans f7.out;clear q6 g1 A7;refine EI d (l3.out) fun zH=>?_;clear d K;try simp only [zd,DB]
         refine Ae 9 fun K d=>?_;go_simp;refine EI d (l3.out) fun zH=>?_;clear d K;try simp only [zd,DB]
         refine Ae 10 fun K d=>?_;have cg7:=j2.out.cell (k:=2) rfl;have fg7:=j2.out.frozen 2;go_simp;clear cg7 fg7;refine EI d (zk.set (l3.out) gp 2 (.slice A5 (acc.length+1) c5) (.inr rfl)) fun zH=>?_;clear d K;try simp only [zd,DB]
         refine Eh (by kernel_rfl) ?_ _;have a5:Hid (zk (fun b=>b=gx\/b=gp) w6 (w5.setCell ⟨gp,2,none⟩ (.slice A5 (acc.length+1) c5))):=zk.set (l3.out) gp 2 (.slice A5 (acc.length+1) c5) (.inr rfl);have M:Hid (zg (w5.setCell ⟨gp,2,none⟩ (.slice A5 (acc.length+1) c5)) gp 42 #[.int .i64 c,.slice none 0 0,(.slice A5 (acc.length+1) c5)]):=j2.out.set (k:=2) (.slice A5 (acc.length+1) c5);have a6:Hid (zg (w5.setCell ⟨gp,2,none⟩ (.slice A5 (acc.length+1) c5)) gx 125 #[.int .i64 r3.2.2]):=C7.out.setOther (a:=⟨gp,2,none⟩) (by have:=o.out;show gx≠gp;omega) (.slice A5 (acc.length+1) c5);have a4:=zh (C1.out.chg (zk.set (X:=fun b=>b=gp) (zk.refl _ w5) gp 2 (.slice A5 (acc.length+1) c5) rfl) (fun b hb e=>by have:=o.out;omega));generalize w5.setCell ⟨gp,2,none⟩ (.slice A5 (acc.length+1) c5)=wz at a5 M a6 a4⊢;have hF1:(F n kk).1=0:=by rw [g8.out];exact x1.out
         have a3:Hid (zR F L (k+1) []=zR F (L.drop (j+1)) r3.2.2 (acc++[r3.2.1])):=by (show _=_);rw [f0.out,d9.out,Db hF1,g8.out]
         have a2:Hid (r3.2.2<=3000):=by (show _<=_);have h:=(Co HC.out fl (ch++[n]) kk b3.out a9.out (by rw [<-o7.out];exact x1.out)).2.2;rw [<-o7.out] at h;exact h
         clear hF1;go_wp2;go_roundw
         case rel=>exact ⟨j+1,_,_,_,_,by go_num,by omega,by (show _=_);rw [DM,G.out];rfl,a2.out,a3.out,a5.out,a6.out,M.out,a4.out⟩
         case measure=>simp [intOf];omega
        refine Ee rfl (fun K d=>?_) .nil;go_simp;go_at_call 110;refine (pnext_calls c n wd (v2.out.more b4.out) HL.out HC.out b3.out i0.out.2).mono ?_;rintro e w8 ⟨vc8,vp8,rfl,i4,x8⟩;have a1:Hid (zc wq w8):=b4.out.trans i4;have t9:=zh x8;clear i4 x8;refine EI d (zk.trans B.out (zk.wide (zk.of_ext (X:=fun b=>b=gx) a1.out) (X':=fun b=>b=gx\/b=gp) (fun k h=>.inl h)) (fun _ _ h=>h)) fun zH=>?_;clear d K;try simp only [zd,DB]
        refine rdA [1,6] ?_;refine Ee rfl (fun K d=>?_) ?_
        ·have cg9:w8.cell? ⟨gp,2,none⟩=some vk:=zk.cellk (zk.of_ext (X:=fun b=>b=gx) a1.out) (a7.out.cell (k:=2) rfl) (by have:=o.out;show ¬ (gp=gx);omega);go_simp;clear cg9;refine EI d (zk.trans B.out (zk.wide (zk.of_ext (X:=fun b=>b=gx) a1.out) (X':=fun b=>b=gx\/b=gp) (fun k h=>.inl h)) (fun _ _ h=>h)) fun zH=>?_;clear d K;try simp only [zd,DB]
         refine Ae 6 fun K d=>?_;go_simp;go_at_call 65;refine (IH.out (ch++[n]) kk gx _ vc8 vp8 w8 t9.out b3.out (by have:=HF.out;rw [DM,Ed];omega) a9.out (a1.out.cellB g0.out) (fun b hb=>by have h1:=j1.out;have J:=b4.out.size;have h3:=za g0.out;rcases hb with hb | hb;exact h1 b hb;omega)).mono ?_;obtain ⟨r10,k8⟩:∃r:Int×PT×Nat,r=zu m fl (ch++[n]) kk:=⟨_,rfl⟩;rw [<-k8];have j3:=zh k8;have c9:Hid (F n kk=r10):=by (show _=_);rw [o5.out];exact j3.out.symm
         clear k8;rintro e w10 ⟨j5,(⟨h0,v10,rfl,j8,n5⟩ | ⟨h0,rfl⟩)⟩
         rotate_left
         ·go_wp2;refine ⟨rfl,?_⟩;exact prove_fin3 (x:=zu m (fl+1) ch k) i2.out B.out o.out f1.out (zk.trans (zk.of_ext (X:=fun b=>b=gx) a1.out) j5 (fun _ _ h=>h)) (by rw [i1.out];exact (prove_err (F:=F) (n:=n) (l:=L.drop (j+1)) (k:=kk) (acc:=acc) (by rw [c9.out];exact h0) (f0.out.trans (by rw [d9.out]))).trans (by rw [c9.out])) h0
         have m3:Hid (zk (fun b=>b=gx) wq w10):=zk.trans (zk.of_ext (X:=fun b=>b=gx) a1.out) j5 (fun _ _ h=>h);obtain ⟨As10,cs10,Ak10,ck10,rfl,-⟩:=j8.form;have t4:=zh j8;have v7:=zh n5;have n4:=zh h0;have i9:Hid (wq.heap.size<=w8.heap.size):=a1.out.size;clear j5 j8 n5 h0;refine EI d (zk.trans B.out (zk.wide (m3.out) (X':=fun b=>b=gx\/b=gp) (fun k h=>.inl h)) (fun _ _ h=>h)) fun zH=>?_;clear d K;try simp only [zd,DB]
         refine Ae 7 fun K d=>?_;go_simp;have h4:=zg.new w10 #[.int .i64 r10.2.1.task,.slice As10 r10.2.1.side.length cs10,.slice Ak10 r10.2.1.kids.length ck10] 42 (g:=w10.heap.size) rfl;have hA11:zc w10 (w10.alloc (.cells #[.int .i64 r10.2.1.task,.slice As10 r10.2.1.side.length cs10,.slice Ak10 r10.2.1.kids.length ck10] 42)):=(zc.refl w10).alloc _;generalize w10.alloc _=w11 at h4 hA11⊢;generalize w10.heap.size=g11 at h4⊢;have s0:=zh h4;have b7:Hid (zk (fun b=>b=gx) wq w11):=zk.trans (m3.out) (zk.of_ext (X:=fun b=>b=gx) hA11) (fun _ _ h=>h);have t5:=zh (t4.out.ext hA11);have n0:=zh (v7.out.ext hA11);clear h4 hA11;refine EI d (zk.trans B.out (zk.wide (b7.out) (X':=fun b=>b=gx\/b=gp) (fun k h=>.inl h)) (fun _ _ h=>h)) fun zH=>?_;clear d K;try simp only [zd,DB]
         refine Ae 8 fun K d=>?_;have m4:Hid (Ba w11 w6.heap.size vk acc cs):=E.out.chg (b7.out) (fun b hb e=>by have:=o.out;omega);refine Br (ok:=fun _=>True) (by rfl) w11 _ _ eProof (by rfl) w6.heap.size acc.length 1 cs _ vk _ (by rfl) (by rfl) m4.out.own (prv_row1 s0.out) (fun u hu=>by simp at hu;rcases hu with rfl | rfl | rfl <;> rfl) (by have h1:=B.out.size;have J:=zk.size (b7.out);omega) (by have:=G.out;unfold maxLen;omega) (by have:=G.out;omega) ?_;intro v12 w12 k5 e7 o0;have t1:=zh (show Ba w12 w6.heap.size _ (acc++[r10.2.1]) (cs++[.int .i64 r10.2.1.task,.slice As10 r10.2.1.side.length cs10,.slice Ak10 r10.2.1.kids.length ck10]) from m4.out.app (lo:=w8.heap.size) t5.out (fun k hk=>by have h1:=E.out.lt hk;have J:=i9.out;omega) (by have h1:=B.out.size;have J:=i9.out;omega) k5 e7 o0);have g3:Hid (zk (fun b=>b=gx\/b=gp) w6 w12):=zk.grown (zk.trans B.out (zk.wide (b7.out) (X':=fun b=>b=gx\/b=gp) (fun k h=>.inl h)) (fun _ _ h=>h)) e7 (fun k hk O=>by have h1:=E.out.lt hk;omega);obtain ⟨A12,c12,e12,-,-⟩:=Bc.of_own k5;subst e12;have f3:Hid (zg w12 gp 42 #[.int .i64 c,.slice none 0 0,vk]):=(e7.block gp (by have h1:=o.out.1;have J:=B.out.size;have h3:=zk.size (b7.out);omega) (fun e=>by have h1:=E.out.lt e.symm;have J:=o.out;omega)).trans (zk.blk (b7.out) a7.out (by have:=o.out;omega));have v8:Hid (zg w12 gx 125 #[.int .i64 r10.2.2]):=(e7.block gx (za n0.out) (fun e=>by have h1:=E.out.lt e.symm;have J:=o.out;omega)).trans n0.out;clear k5 e7 o0;refine EI d (g3.out) fun zH=>?_;clear d K;try simp only [zd,DB]
         refine Ae 9 fun K d=>?_;go_simp;refine EI d (g3.out) fun zH=>?_;clear d K;try simp only [zd,DB]
         refine Ae 10 fun K d=>?_;have cg14:=f3.out.cell (k:=2) rfl;have fg14:=f3.out.frozen 2;go_simp;clear cg14 fg14;refine EI d (zk.set (g3.out) gp 2 (.slice A12 (acc.length+1) c12) (.inr rfl)) fun zH=>?_;clear d K;try simp only [zd,DB]
         refine Eh (by kernel_rfl) ?_ _;have a5:Hid (zk (fun b=>b=gx\/b=gp) w6 (w12.setCell ⟨gp,2,none⟩ (.slice A12 (acc.length+1) c12))):=zk.set (g3.out) gp 2 (.slice A12 (acc.length+1) c12) (.inr rfl);have M:Hid (zg (w12.setCell ⟨gp,2,none⟩ (.slice A12 (acc.length+1) c12)) gp 42 #[.int .i64 c,.slice none 0 0,(.slice A12 (acc.length+1) c12)]):=f3.out.set (k:=2) (.slice A12 (acc.length+1) c12);have a6:Hid (zg (w12.setCell ⟨gp,2,none⟩ (.slice A12 (acc.length+1) c12)) gx 125 #[.int .i64 r10.2.2]):=v8.out.setOther (a:=⟨gp,2,none⟩) (by have:=o.out;show gx≠gp;omega) (.slice A12 (acc.length+1) c12);have a4:=zh (t1.out.chg (zk.set (X:=fun b=>b=gp) (zk.refl _ w12) gp 2 (.slice A12 (acc.length+1) c12) rfl) (fun b hb e=>by have:=o.out;omega));generalize w12.setCell ⟨gp,2,none⟩ (.slice A12 (acc.length+1) c12)=wz at a5 M a6 a4⊢;have hF1:(F n kk).1=0:=by rw [c9.out];exact n4.out
         have a3:Hid (zR F L (k+1) []=zR F (L.drop (j+1)) r10.2.2 (acc++[r10.2.1])):=by (show _=_);rw [f0.out,d9.out,Db hF1,c9.out]
         have a2:Hid (r10.2.2<=3000):=by (show _<=_);have h:=(Co HC.out fl (ch++[n]) kk b3.out a9.out (by rw [<-j3.out];exact n4.out)).2.2;rw [<-j3.out] at h;exact h
         clear hF1;go_wp2;go_roundw
         case rel=>exact ⟨j+1,_,_,_,_,by go_num,by omega,by (show _=_);rw [DM,G.out];rfl,a2.out,a3.out,a5.out,a6.out,M.out,a4.out⟩
         case measure=>simp [intOf];omega
        refine Ee rfl (fun K d=>?_) .nil;go_simp;go_at_call 65;refine (IH.out (ch++[n]) kk gx _ vc8 vp8 w8 t9.out b3.out (by have:=HF.out;rw [DM,Ed];omega) a9.out (a1.out.cellB g0.out) (fun b hb=>by have h1:=j1.out;have J:=b4.out.size;have h3:=za g0.out;rcases hb with hb | hb;exact h1 b hb;omega)).mono ?_;obtain ⟨r15,k9⟩:∃r:Int×PT×Nat,r=zu m fl (ch++[n]) kk:=⟨_,rfl⟩;rw [<-k9];have e4:=zh k9;have Q:Hid (F n kk=r15):=by (show _=_);rw [o5.out];exact e4.out.symm
        clear k9;rintro e w15 ⟨j6,(⟨h0,v15,rfl,j9,n6⟩ | ⟨h0,rfl⟩)⟩
        rotate_left
        ·go_wp2;refine ⟨rfl,?_⟩;exact prove_fin3 (x:=zu m (fl+1) ch k) i2.out B.out o.out f1.out (zk.trans (zk.of_ext (X:=fun b=>b=gx) a1.out) j6 (fun _ _ h=>h)) (by rw [i1.out];exact (prove_err (F:=F) (n:=n) (l:=L.drop (j+1)) (k:=kk) (acc:=acc) (by rw [Q.out];exact h0) (f0.out.trans (by rw [d9.out]))).trans (by rw [Q.out])) h0
        have d8:Hid (zk (fun b=>b=gx) wq w15):=zk.trans (zk.of_ext (X:=fun b=>b=gx) a1.out) j6 (fun _ _ h=>h);obtain ⟨As15,cs15,Ak15,ck15,rfl,-⟩:=j9.form;have m9:=zh j9;have n1:=zh n6;have g9:=zh h0;have d4:Hid (wq.heap.size<=w8.heap.size):=a1.out.size;clear j6 j9 n6 h0;refine EI d (zk.trans B.out (zk.wide (d8.out) (X':=fun b=>b=gx\/b=gp) (fun k h=>.inl h)) (fun _ _ h=>h)) fun zH=>?_;clear d K;try simp only [zd,DB]
        refine rdA [1,7] ?_;refine Ee rfl (fun K d=>?_) ?_
        ·have cg16:w15.cell? ⟨gp,2,none⟩=some vk:=zk.cellk (d8.out) (a7.out.cell (k:=2) rfl) (by have:=o.out;show ¬ (gp=gx);omega);go_simp;clear cg16;refine EI d (zk.trans B.out (zk.wide (d8.out) (X':=fun b=>b=gx\/b=gp) (fun k h=>.inl h)) (fun _ _ h=>h)) fun zH=>?_;clear d K;try simp only [zd,DB]
         refine Ae 7 fun K d=>?_;go_simp;have h5:=zg.new w15 #[.int .i64 r15.2.1.task,.slice As15 r15.2.1.side.length cs15,.slice Ak15 r15.2.1.kids.length ck15] 42 (g:=w15.heap.size) rfl;have hA17:zc w15 (w15.alloc (.cells #[.int .i64 r15.2.1.task,.slice As15 r15.2.1.side.length cs15,.slice Ak15 r15.2.1.kids.length ck15] 42)):=(zc.refl w15).alloc _;generalize w15.alloc _=w17 at h5 hA17⊢;generalize w15.heap.size=g17 at h5⊢;have s1:=zh h5;have b8:Hid (zk (fun b=>b=gx) wq w17):=zk.trans (d8.out) (zk.of_ext (X:=fun b=>b=gx) hA17) (fun _ _ h=>h);have t6:=zh (m9.out.ext hA17);have n2:=zh (n1.out.ext hA17);clear h5 hA17;refine EI d (zk.trans B.out (zk.wide (b8.out) (X':=fun b=>b=gx\/b=gp) (fun k h=>.inl h)) (fun _ _ h=>h)) fun zH=>?_;clear d K;try simp only [zd,DB]
         refine Ae 8 fun K d=>?_;have m5:Hid (Ba w17 w6.heap.size vk acc cs):=E.out.chg (b8.out) (fun b hb e=>by have:=o.out;omega);refine Br (ok:=fun _=>True) (by rfl) w17 _ _ eProof (by rfl) w6.heap.size acc.length 1 cs _ vk _ (by rfl) (by rfl) m5.out.own (prv_row1 s1.out) (fun u hu=>by simp at hu;rcases hu with rfl | rfl | rfl <;> rfl) (by have h1:=B.out.size;have J:=zk.size (b8.out);omega) (by have:=G.out;unfold maxLen;omega) (by have:=G.out;omega) ?_;intro v18 w18 k6 e8 o1;have t2:=zh (show Ba w18 w6.heap.size _ (acc++[r15.2.1]) (cs++[.int .i64 r15.2.1.task,.slice As15 r15.2.1.side.length cs15,.slice Ak15 r15.2.1.kids.length ck15]) from m5.out.app (lo:=w8.heap.size) t6.out (fun k hk=>by have h1:=E.out.lt hk;have J:=d4.out;omega) (by have h1:=B.out.size;have J:=d4.out;omega) k6 e8 o1);have g6:Hid (zk (fun b=>b=gx\/b=gp) w6 w18):=zk.grown (zk.trans B.out (zk.wide (b8.out) (X':=fun b=>b=gx\/b=gp) (fun k h=>.inl h)) (fun _ _ h=>h)) e8 (fun k hk O=>by have h1:=E.out.lt hk;omega);obtain ⟨A18,c18,e18,-,-⟩:=Bc.of_own k6;subst e18;have f4:Hid (zg w18 gp 42 #[.int .i64 c,.slice none 0 0,vk]):=(e8.block gp (by have h1:=o.out.1;have J:=B.out.size;have h3:=zk.size (b8.out);omega) (fun e=>by have h1:=E.out.lt e.symm;have J:=o.out;omega)).trans (zk.blk (b8.out) a7.out (by have:=o.out;omega));have v9:Hid (zg w18 gx 125 #[.int .i64 r15.2.2]):=(e8.block gx (za n2.out) (fun e=>by have h1:=E.out.lt e.symm;have J:=o.out;omega)).trans n2.out;clear k6 e8 o1;refine EI d (g6.out) fun zH=>?_;clear d K;try simp only [zd,DB]
         refine Ae 9 fun K d=>?_;go_simp;refine EI d (g6.out) fun zH=>?_;clear d K;try simp only [zd,DB]
         refine Ae 10 fun K d=>?_;have cg20:=f4.out.cell (k:=2) rfl;have fg20:=f4.out.frozen 2;go_simp;clear cg20 fg20;refine EI d (zk.set (g6.out) gp 2 (.slice A18 (acc.length+1) c18) (.inr rfl)) fun zH=>?_;clear d K;try simp only [zd,DB]
         refine Eh (by kernel_rfl) ?_ _;have a5:Hid (zk (fun b=>b=gx\/b=gp) w6 (w18.setCell ⟨gp,2,none⟩ (.slice A18 (acc.length+1) c18))):=zk.set (g6.out) gp 2 (.slice A18 (acc.length+1) c18) (.inr rfl);have M:Hid (zg (w18.setCell ⟨gp,2,none⟩ (.slice A18 (acc.length+1) c18)) gp 42 #[.int .i64 c,.slice none 0 0,(.slice A18 (acc.length+1) c18)]):=f4.out.set (k:=2) (.slice A18 (acc.length+1) c18);have a6:Hid (zg (w18.setCell ⟨gp,2,none⟩ (.slice A18 (acc.length+1) c18)) gx 125 #[.int .i64 r15.2.2]):=v9.out.setOther (a:=⟨gp,2,none⟩) (by have:=o.out;show gx≠gp;omega) (.slice A18 (acc.length+1) c18);have a4:=zh (t2.out.chg (zk.set (X:=fun b=>b=gp) (zk.refl _ w18) gp 2 (.slice A18 (acc.length+1) c18) rfl) (fun b hb e=>by have:=o.out;omega));generalize w18.setCell ⟨gp,2,none⟩ (.slice A18 (acc.length+1) c18)=wz at a5 M a6 a4⊢;have hF1:(F n kk).1=0:=by rw [Q.out];exact g9.out
         have a3:Hid (zR F L (k+1) []=zR F (L.drop (j+1)) r15.2.2 (acc++[r15.2.1])):=by (show _=_);rw [f0.out,d9.out,Db hF1,Q.out]
         have a2:Hid (r15.2.2<=3000):=by (show _<=_);have h:=(Co HC.out fl (ch++[n]) kk b3.out a9.out (by rw [<-e4.out];exact g9.out)).2.2;rw [<-e4.out] at h;exact h
         clear hF1;go_wp2;go_roundw
         case rel=>exact ⟨j+1,_,_,_,_,by go_num,by omega,by (show _=_);rw [DM,G.out];rfl,a2.out,a3.out,a5.out,a6.out,M.out,a4.out⟩
         case measure=>simp [intOf];omega
        refine Ee rfl (fun K d=>?_) .nil;go_simp;have h6:=zg.new w15 #[.int .i64 r15.2.1.task,.slice As15 r15.2.1.side.length cs15,.slice Ak15 r15.2.1.kids.length ck15] 42 (g:=w15.heap.size) rfl;have hA21:zc w15 (w15.alloc (.cells #[.int .i64 r15.2.1.task,.slice As15 r15.2.1.side.length cs15,.slice Ak15 r15.2.1.kids.length ck15] 42)):=(zc.refl w15).alloc _;generalize w15.alloc _=w21 at h6 hA21⊢;generalize w15.heap.size=g21 at h6⊢;have s2:=zh h6;have U:Hid (zk (fun b=>b=gx) wq w21):=zk.trans (d8.out) (zk.of_ext (X:=fun b=>b=gx) hA21) (fun _ _ h=>h);have t7:=zh (m9.out.ext hA21);have n3:=zh (n1.out.ext hA21);clear h6 hA21;refine EI d (zk.trans B.out (zk.wide (U.out) (X':=fun b=>b=gx\/b=gp) (fun k h=>.inl h)) (fun _ _ h=>h)) fun zH=>?_;clear d K;try simp only [zd,DB]
        refine Ae 1 fun K d=>?_;have cg22:w21.cell? ⟨gp,2,none⟩=some vk:=zk.cellk (U.out) (a7.out.cell (k:=2) rfl) (by have:=o.out;show ¬ (gp=gx);omega);go_simp;clear cg22;refine EI d (zk.trans B.out (zk.wide (U.out) (X':=fun b=>b=gx\/b=gp) (fun k h=>.inl h)) (fun _ _ h=>h)) fun zH=>?_;clear d K;try simp only [zd,DB]
        refine Ae 8 fun K d=>?_;have m6:Hid (Ba w21 w6.heap.size vk acc cs):=E.out.chg (U.out) (fun b hb e=>by have:=o.out;omega);refine Br (ok:=fun _=>True) (by rfl) w21 _ _ eProof (by rfl) w6.heap.size acc.length 1 cs _ vk _ (by rfl) (by rfl) m6.out.own (prv_row1 s2.out) (fun u hu=>by simp at hu;rcases hu with rfl | rfl | rfl <;> rfl) (by have h1:=B.out.size;have J:=zk.size (U.out);omega) (by have:=G.out;unfold maxLen;omega) (by have:=G.out;omega) ?_;intro v23 w23 k7 e9 o2;have t3:=zh (show Ba w23 w6.heap.size _ (acc++[r15.2.1]) (cs++[.int .i64 r15.2.1.task,.slice As15 r15.2.1.side.length cs15,.slice Ak15 r15.2.1.kids.length ck15]) from m6.out.app (lo:=w8.heap.size) t7.out (fun k hk=>by have h1:=E.out.lt hk;have J:=d4.out;omega) (by have h1:=B.out.size;have J:=d4.out;omega) k7 e9 o2);have g7:Hid (zk (fun b=>b=gx\/b=gp) w6 w23):=zk.grown (zk.trans B.out (zk.wide (U.out) (X':=fun b=>b=gx\/b=gp) (fun k h=>.inl h)) (fun _ _ h=>h)) e9 (fun k hk O=>by have h1:=E.out.lt hk;omega);obtain ⟨A23,c23,e23,-,-⟩:=Bc.of_own k7;subst e23;have f5:Hid (zg w23 gp 42 #[.int .i64 c,.slice none 0 0,vk]):=(e9.block gp (by have h1:=o.out.1;have J:=B.out.size;have h3:=zk.size (U.out);omega) (fun e=>by have h1:=E.out.lt e.symm;have J:=o.out;omega)).trans (zk.blk (U.out) a7.out (by have:=o.out;omega));have w0:Hid (zg w23 gx 125 #[.int .i64 r15.2.2]):=(e9.block gx (za n3.out) (fun e=>by have h1:=E.out.lt e.symm;have J:=o.out;omega)).trans n3.out;clear k7 e9 o2;refine EI d (g7.out) fun zH=>?_;clear d K;try simp only [zd,DB]
        refine Ae 9 fun K d=>?_;go_simp;refine EI d (g7.out) fun zH=>?_;clear d K;try simp only [zd,DB]
        refine Ae 10 fun K d=>?_;have cg25:=f5.out.cell (k:=2) rfl;have fg25:=f5.out.frozen 2;go_simp;clear cg25 fg25;refine EI d (zk.set (g7.out) gp 2 (.slice A23 (acc.length+1) c23) (.inr rfl)) fun zH=>?_;clear d K;try simp only [zd,DB]
        refine Eh (by kernel_rfl) ?_ _;have a5:Hid (zk (fun b=>b=gx\/b=gp) w6 (w23.setCell ⟨gp,2,none⟩ (.slice A23 (acc.length+1) c23))):=zk.set (g7.out) gp 2 (.slice A23 (acc.length+1) c23) (.inr rfl);have M:Hid (zg (w23.setCell ⟨gp,2,none⟩ (.slice A23 (acc.length+1) c23)) gp 42 #[.int .i64 c,.slice none 0 0,(.slice A23 (acc.length+1) c23)]):=f5.out.set (k:=2) (.slice A23 (acc.length+1) c23);have a6:Hid (zg (w23.setCell ⟨gp,2,none⟩ (.slice A23 (acc.length+1) c23)) gx 125 #[.int .i64 r15.2.2]):=w0.out.setOther (a:=⟨gp,2,none⟩) (by have:=o.out;show gx≠gp;omega) (.slice A23 (acc.length+1) c23);have a4:=zh (t3.out.chg (zk.set (X:=fun b=>b=gp) (zk.refl _ w23) gp 2 (.slice A23 (acc.length+1) c23) rfl) (fun b hb e=>by have:=o.out;omega));generalize w23.setCell ⟨gp,2,none⟩ (.slice A23 (acc.length+1) c23)=wz at a5 M a6 a4⊢;have hF1:(F n kk).1=0:=by rw [Q.out];exact g9.out
        have a3:Hid (zR F L (k+1) []=zR F (L.drop (j+1)) r15.2.2 (acc++[r15.2.1])):=by (show _=_);rw [f0.out,d9.out,Db hF1,Q.out]
        have a2:Hid (r15.2.2<=3000):=by (show _<=_);have h:=(Co HC.out fl (ch++[n]) kk b3.out a9.out (by rw [<-e4.out];exact g9.out)).2.2;rw [<-e4.out] at h;exact h
        clear hF1;go_wp2;go_roundw
        case rel=>exact ⟨j+1,_,_,_,_,by go_num,by omega,by (show _=_);rw [DM,G.out];rfl,a2.out,a3.out,a5.out,a6.out,M.out,a4.out⟩
        case measure=>simp [intOf];omega
       ·have z9:j=L.length:=by omega
        have D3:¬ ((j:Int)<(L.length:Int)):=by omega
        have o4:Hid (zR F L (k+1) []=(0,acc,kk)):=by
         show _=_;rw [f0.out,z9,List.drop_length];rfl
        have D:zg wk' (gs+1) 42 #[.int .i64 0,.slice none 0 0,.slice none 0 0]:=B.out.blk C9.out (by have:=o.out;omega);have z0:=D.cell (k:=0) rfl;have z1:=D.cell (k:=1) rfl;have z2:=D.cell (k:=2) rfl;have hfz:∀j,wk'.frozen? ⟨gs+1,j,none⟩=false:=fun j=>D.frozen j
        have i6:=zh D;obtain ⟨Ak,ck,evk,-,-⟩:=Bc.of_own E.out.own;subst evk;have p0:=a7.out.cell (k:=0) rfl;have p1:=a7.out.cell (k:=1) rfl;have p2:=a7.out.cell (k:=2) rfl;clear D z9
        go_wp2_with fail
        refine case_fin3 (P:=fun W=>bodyPost Tryz.prog Tryz.f65 _ Exit.ret _ W) (g2:=gs+1) ?_ i6.out;intro WZ a8 j7 A0;have y0:=a8.cell (k:=0) rfl;have y1:=a8.cell (k:=1) rfl;have y2:=a8.cell (k:=2) rfl;refine Ev (v:=.agg #[.int .i64 c,.slice none 0 0,.slice Ak acc.length ck]) (by simp [results,Tryz.results65,go_sem,y0,y1,y2]) rfl ?_;rw [i1.out,o4.out,if_pos rfl,<-b2.out];exact prove_fin2 i2.out B.out o.out f1.out g0.out E.out j7 A0
end
end Go.Proofs.YtfjjdmpndmbfoaaGreatDoor
