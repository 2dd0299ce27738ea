import Derived.Test.YthbjngbhbbkkgaaGreatHRw
import Derived.WalkLawsBesides
set_option linter.unusedVariables false
set_option linter.unusedSimpArgs false
set_option maxRecDepth 100000
set_option maxHeartbeats 16000000
namespace Go.Proofs.YthbjngbhbbkkgaaGreat
variable {ch:List Int} {m:MZ} {gp gs gx:Nat} {WZ w w6 wr:World}
section
open Go.RowKit
attribute [local go_sem ↓] Go.wp_at_zero Go.wp_at_succ
attribute [local go_sem] Oper.semAt_some
def DE (w:World) (gx:Nat) (r:Int×PT×Nat) (e:Ending) (w':World):Prop:=
 zp (fun b=>b=gx) w w'/\((r.1=0/\∃v,e=.returned v/\Dz w' (fun b=>w.heap.size<=b) v r.2.1/\zk w' gx 137 #[.int .i64 r.2.2])\/(r.1≠0/\e=.panicked [{ v:=.iface 38 (.int .i64 r.1),recovered:=false }]))
theorem CH {P:World->Prop} {W:World} {g2:Nat} {t:TypeId} {a0 a1 a2 z0 z1 z2:Value} (h:∀WZ,zk WZ g2 t #[a0,a1,a2]->Below g2 W WZ->(∀k,k<W.heap.size->k≠g2->WZ.heap[k]?=W.heap[k]?)->P WZ) (z:zk W g2 t #[z0,z1,z2]):
  P (((W.setCell ⟨g2,0,none⟩ a0).setCell ⟨g2,1,none⟩ a1).setCell ⟨g2,2,none⟩ a2):=
 h (setL g2 0 [a0,a1,a2] W) (setL_blk [a0,a1,a2] [z0,z1,z2] [] W rfl z) (Dw g2 _ 0 W) (fun k _ o=>Dx g2 k o _ 0 W)
theorem prove_fin {w4 w7 wk w5:World} {S:List Int} {tn k c6:Nat} {A6:Option Addr} {zs:Array Value} (M:gs=w.heap.size) (O:gx<gs) (G:zp (fun b=>b=gx) w w4) (B:zb w4 w7) (L:zk w4 (gs+1) 37 zs) (I:zk w4 gx 137 #[.int .i64 ((k:Int)+1)])
  (o:Below (gs+1) w7 WZ) (z:∀k,k<w7.heap.size->k≠gs+1->WZ.heap[k]?=w7.heap[k]?) (hs:wk.heap.size<=w5.heap.size) (V:w4.heap.size<=wk.heap.size) (hI:zj w7 (fun b=>w5.heap.size<=b) (.slice A6 S.length c6) S) (J:S=Cw m ch tn):
  DE w gx (0,.node tn (Cw m ch tn) [],k+1) (.returned (.agg #[.int .i64 tn,.slice A6 S.length c6,.slice none 0 0])) WZ:=by
 have hz:=zd L;have hx:=zd I;have U:=B.size;refine ⟨zp.trans G (zp.trans (zp.of_ext (X:=fun b=>b=gs+1) B) ⟨o.os,o.tape,o.output,o.size,fun b D T=>z b D T⟩ (fun _ _ h=>h)) (fun k h1 h2=>by omega),.inl ⟨rfl,_,rfl,?_,?_⟩⟩
 ·rw [<-J];exact .mk (cs:=[]) ((hI.keep (fun b D E=>z b E (by omega))).weaken (fun b D=>by have:=G.size;omega)) ⟨none,0,rfl,EG _,Ae.nil _ _ _ _⟩ (fun i Q=>absurd Q (by simp))
 ·have h1:=I.ext B;have h2:zk WZ gx 137 #[.int .i64 ((k:Int)+1)]:=(z gx (zd h1) (by omega)).trans h1
  rwa [show ((k:Int)+1)=((k+1:Nat):Int) from by omega] at h2
theorem prove_fin2 {c kk:Nat} {vk:Value} {acc:List PT} {cs:List Value} (E:zp (fun b=>b=gx) w w6) (J:zp (fun b=>b=gx\/b=gp) w6 wr) (O:gp<w6.heap.size/\gx<gs/\gs+1<gp) (L:gs=w.heap.size)
  (G:zk wr gx 137 #[.int .i64 kk]) (I:BT wr w6.heap.size vk acc cs) (o:Below (gs+1) wr WZ) (z:∀k,k<wr.heap.size->k≠gs+1->WZ.heap[k]?=wr.heap[k]?):
  DE w gx (0,.node c [] acc,kk) (.returned (.agg #[.int .i64 c,.slice none 0 0,vk])) WZ:=by
 refine ⟨zp.trans (X':=fun b=>b=gx\/b=gp\/b=gs+1) E (zp.trans (J.wide (fun k h=>by omega)) (⟨o.os,o.tape,o.output,o.size,fun b B M=>z b B M⟩:zp (fun b=>b=gs+1) wr WZ) (fun k _ h=>.inr (.inr h))) (fun k h1 h2=>by omega),.inl ⟨rfl,_,rfl,?_,?_⟩⟩
 ·refine (I.kids c).keepW (fun b B D=>z b D (by omega)) fun b B=>?_;have:=E.size;omega
 ·exact (z gx (zd G) (by omega)).trans G
theorem prove_fin3 {w8:World} {r x:Int×PT×Nat} (B:zp (fun b=>b=gx) w w6) (D:zp (fun b=>b=gx\/b=gp) w6 wr) (G:gp<w6.heap.size/\gx<gs/\gs+1<gp) (E:gs=w.heap.size) (z:zp (fun b=>b=gx) wr w8) (o:x.1=r.1) (h:r.1≠0):
  DE w gx x (.panicked [{ v:=.iface 38 (.int .i64 r.1),recovered:=false }]) w8:=
 ⟨zp.trans B (zp.trans D (z.wide (X':=fun b=>b=gx\/b=gp) (fun k h=>.inl h)) (fun _ _ h=>h)) (fun k h1 h2=>by omega),.inr ⟨by rw [o];exact h,by rw [o]⟩⟩
theorem headP_len {t:Nat} (z:Lens m) (o:t<m.tasks.length):(AE m ch t).length<=20000000000000:=by
 unfold AE
 split
 ·cases ((zq m ch).getD t []).getLast? <;> simp
 ·refine EI (Fi _ _) ?_;rw [EF,EE o];have:=(z.tl _ (EH o)).1;show (m.tasks[t]).1.length<=_;omega
theorem prove_calls {m:MZ} {f u ts:Value} (hl:Lens m) (hc:AO m=0):
  ∀(fl:Nat) (ch:List Int) (k gx:Nat) (ok:Nat->Prop) (vc vp:Value) (w:World),PSt w ok m f u ts vc vp ch->zx m ch->m.n.toNat+2<=fl+ch.length->k<=3000->zk w gx 137 #[.int .i64 k]->(∀b,ok b->b≠gx)->
   Calls Tryz.prog 101 #[.pointer (some ⟨gx,0,none⟩),Ey m f u ts vc vp (zR m ch)] w (DE w gx (zu m fl ch k))
 | 0,ch,k,gx,ok,vc,vp,w,_,hi,hf,_,_,_=>by
  have:=hi.len (zC.of hc);omega
 | fl+1,ch,k,gx,ok,vc,vp,w,h,hi,hf,hk,hx,y5=>by
  have H:=zh h;have HL:=zh hl;have HC:=zh hc;have HI:=zh hi;have HF:=zh hf;have HK:=zh hk;have HX:=zh hx;have i9:=zh y5;have IH:=zh (prove_calls (f:=f) (u:=u) (ts:=ts) hl hc fl);obtain ⟨Af,cf,Au,cu,At,ct,Ac,cc,Ap,cp,rfl,rfl,rfl,rfl,rfl,-,-⟩:=h.parts;obtain ⟨PL,hP⟩:=zad ((zq m ch).length);rw [<-hP] at H⊢;clear h hl hc hi hP hf hk y5;obtain ⟨c,p6⟩:=zad (zR m ch);rw [<-p6];have b0:=zh p6;clear p6 hx;unfold Ey
  go_enter Tryz.func101,Tryz.ntmps101
  go_upto_region 1 with fail;have l4:=zk.new w #[.int .i64 m.w,.int .i64 m.h,.int .i64 m.l,.slice Af m.free.length cf,.slice Au m.up.length cu,.slice At m.tasks.length ct,.slice Ac ch.length cc,.slice Ap PL cp,.int .i64 c] 103 (g:=w.heap.size) rfl;have l7:zb w (w.alloc (.cells #[.int .i64 m.w,.int .i64 m.h,.int .i64 m.l,.slice Af m.free.length cf,.slice Au m.up.length cu,.slice At m.tasks.length ct,.slice Ac ch.length cc,.slice Ap PL cp,.int .i64 c] 103)):=(zb.refl w).alloc _;have k7:(w.alloc (.cells #[.int .i64 m.w,.int .i64 m.h,.int .i64 m.l,.slice Af m.free.length cf,.slice Au m.up.length cu,.slice At m.tasks.length ct,.slice Ac ch.length cc,.slice Ap PL cp,.int .i64 c] 103)).heap.size=w.heap.size+1:=by simp
  generalize w.alloc _=w1 at l4 l7 k7⊢;have D:=zk.new w1 #[.int .i64 0,.slice none 0 0,.slice none 0 0] 37 (g:=w1.heap.size) rfl;have j8:zb w1 (w1.alloc (.cells #[.int .i64 0,.slice none 0 0,.slice none 0 0] 37)):=(zb.refl w1).alloc _;generalize w1.alloc _=w2 at D j8⊢;rw [k7] at D;obtain ⟨gs,l8⟩:=zad w.heap.size;rw [<-l8] at l4 D⊢;have e9:Hid (gs=w.heap.size):=l8;have i7:Hid (gx<gs):=by show _<_;rw [l8];exact zd HX.out
  have HZ:=zh D;have a8:=zh (l4.ext j8);have B2:=zh ((HX.out.ext l7).ext j8);have l3:=zh (l7.trans j8);clear l4 l7 k7 D j8 l8;have c0:=a8.out.cell (k:=0) rfl;have c1:=a8.out.cell (k:=1) rfl;have c2:=a8.out.cell (k:=2) rfl;have c3:=a8.out.cell (k:=3) rfl;have c4:=a8.out.cell (k:=4) rfl;have c5:=a8.out.cell (k:=5) rfl;have c6:=a8.out.cell (k:=6) rfl;have c7:=a8.out.cell (k:=7) rfl;have c8:=a8.out.cell (k:=8) rfl;have s0:Hid (Calls Tryz.prog 90 #[.agg #[.int .i64 m.w,.int .i64 m.h,.int .i64 m.l,.slice Af m.free.length cf,.slice Au m.up.length cu,.slice At m.tasks.length ct,.slice Ac ch.length cc,.slice Ap PL cp,.int .i64 c]] w2 fun e w'=>e=.returned (.bool (decide ((m.tasks.length:Int)<=(c:Int))))/\zb w2 w'):=Ed c w2 (H.out.more l3.out)
  go_wp2_with fail
  refine s0.out.mono ?_;rintro e w3 ⟨rfl,v7⟩;have h8:=zh v7;clear v7 c0 c1 c2 c3 c4 c5 c6 c7 c8 s0;by_cases n5:m.tasks.length<=c
  ·have hd:decide ((m.tasks.length:Int)<=(c:Int))=true:=EJ (by omega);rw [hd]
   go_wp2_with fail
   refine ⟨rfl,?_⟩;have hp:zu m (fl+1) ch k=(51,.zero,k):=proveP_end (by rw [<-b0.out];exact n5);rw [hp];exact ⟨zp.of_ext (l3.out.trans h8.out),.inr ⟨by simp,rfl⟩⟩
  ·have hd:decide ((m.tasks.length:Int)<=(c:Int))=false:=EK (by omega);rw [hd];have d8:Hid (¬ m.tasks.length<=zR m ch):=by show ¬ _;rw [<-b0.out];exact n5
   have j2:=zh (B2.out.ext h8.out);have x0:w3.cell? ⟨gx,0,none⟩=some (.int .i64 k):=j2.out.cell (k:=0) rfl;have B9:=j2.out.frozen 0;have C1:IntKind.i64.wrap ((k:Int)+1)=(k:Int)+1:=by rw [Fb];have:=HK.out;omega
   clear hd;go_upto_region 4 with fail;have p4:=j2.out.set (k:=0) (.int .i64 ((k:Int)+1));have e0:=(a8.out.ext h8.out).setOther (a:=⟨gx,0,none⟩) (by have:=i7.out;show gs≠gx;omega) (.int .i64 ((k:Int)+1));have p5:=(HZ.out.ext h8.out).setOther (a:=⟨gx,0,none⟩) (by have:=i7.out;show gs+1≠gx;omega) (.int .i64 ((k:Int)+1));have l6:zW (fun b=>b≠gx) w3 (w3.setCell ⟨gx,0,none⟩ (.int .i64 ((k:Int)+1))):=fun b hb _=>EP w3 ⟨gx,0,none⟩ _ b hb
   have o8:zp (fun b=>b=gx) w (w3.setCell ⟨gx,0,none⟩ (.int .i64 ((k:Int)+1))):=zp.trans (zp.of_ext (X:=fun b=>b=gx) (l3.out.trans h8.out)) ⟨rfl,rfl,rfl,by simp,fun b _ hb=>EP w3 ⟨gx,0,none⟩ _ b hb⟩ (fun _ _ h=>h);generalize w3.setCell ⟨gx,0,none⟩ (.int .i64 ((k:Int)+1))=w4 at p4 e0 p5 l6 o8⊢;have f5:Hid (zk w4 gx 137 #[.int .i64 ((k:Int)+1)]):=p4;have k9:=zh e0;have i2:=zh p5;have D5:=zh l6;have T:=zh o8;have o3:Hid (PSt w4 ok m (.slice Af m.free.length cf) (.slice Au m.up.length cu) (.slice At m.tasks.length ct) (.slice Ac ch.length cc) (.slice Ap PL cp) ch):=((H.out.more l3.out).more h8.out).keep (fun b hb M=>l6 b (i9.out b hb) M);have y0:w4.cell? ⟨gx,0,none⟩=some (.int .i64 ((k:Int)+1)):=f5.out.cell (k:=0) rfl;clear p4 e0 p5 l6 o8 x0 B9;by_cases d4:3000<k+1
   ·have y3:(3000:Int)<(k:Int)+1:=by omega
    go_wp2_with fail
    refine ⟨rfl,?_⟩;rw [proveP_many d8.out d4];exact ⟨T.out,.inr ⟨by simp,rfl⟩⟩
   ·have y3:¬ ((3000:Int)<(k:Int)+1):=by omega
    have c8:=k9.out.cell (k:=8) rfl;go_upto_region 7 with fail;have o6:Hid (zk (w4.alloc (.cells #[.int .i64 c] 3)) w4.heap.size 3 #[.int .i64 c]):=zk.new _ _ _ rfl;have I:Hid (zb w4 (w4.alloc (.cells #[.int .i64 c] 3))):=(zb.refl w4).alloc _;generalize w4.alloc _=w5 at o6 I⊢;have z5:Hid (c<=m.tasks.length):=by show _<=_;have:=d8.out;have:=b0.out;omega
    have h9:Hid (m.tasks.length<=6/\ch.length<=300):=⟨(AG HC.out HI.out).2.1,(AG HC.out HI.out).2.2.1⟩;clear y0 c8 C1 y3;go_loopw [5] (fun v wr=>∃tn g5:Nat,v=.pointer (some ⟨g5,0,none⟩)/\c<=tn/\tn<=m.tasks.length/\Hid (∀j,c<=j->j<tn->offB m ch j=false)/\Hid (w4.heap.size<=g5)/\Hid (zk wr g5 3 #[.int .i64 tn])/\Hid (zb w4 wr)) (fun v wr=>match v with | .pointer (some a)=>(match wr.cell? a with | some (.int _ i)=>m.tasks.length - i.toNat | _=>0) | _=>0)
    case atStart=>exact ⟨c,w4.heap.size,rfl,EG _,z5.out,fun j h1 h2=>(by omega),EG _,o6.out,I.out⟩
    clear o6 I
    case round=>
     obtain ⟨tn,g5,rfl,q5,C3,b7,f9,x4,hE⟩:=hrel;obtain ⟨wk,rfl⟩:∃wk:World,wk=wr:=⟨_,rfl⟩;have a9:=zh (k9.out.ext hE.out);have f4:=zh (o3.out.more hE.out);have ct0:wk.cell? ⟨g5,0,none⟩=some (.int .i64 tn):=x4.out.cell (k:=0) rfl;have r0:=zb.rule (a9.out.cell (k:=0) rfl);have r1:=zb.rule (a9.out.cell (k:=1) rfl);have r2:=zb.rule (a9.out.cell (k:=2) rfl);have r3:=zb.rule (a9.out.cell (k:=3) rfl);have r4:=zb.rule (a9.out.cell (k:=4) rfl);have r5:=zb.rule (a9.out.cell (k:=5) rfl);have r6:=zb.rule (a9.out.cell (k:=6) rfl);have r7:=zb.rule (a9.out.cell (k:=7) rfl);have r8:=zb.rule (a9.out.cell (k:=8) rfl);have rt:=zb.rule ct0;have E3:zb wk wk:=zb.refl wk;by_cases M:tn<m.tasks.length
     ·have n6:(tn:Int)<(m.tasks.length:Int):=by omega
      go_upto_region 9 with fail;refine EW (S:=(fun W=>zb wk W)) Ag ((zb.refl wk).drew) fun zH=>?_;have o9:zb wk wk.drew:=zH;have A0:Hid ((AE m ch tn).length<=20000000000000):=headP_len HL.out M;generalize wk.drew=wd at zH o9⊢;refine zf 0 zH ?_;refine zf 1 zH ?_;simp only [za,ED];refine zf 2 zH ?_;refine zf 3 zH ?_;simp only [za,ED];refine zf 4 zH ?_;refine zf 6 zH ?_;simp only [za,ED];refine zf 7 zH ?_;simp only [za,ED];refine zE 5 fun K o=>?_;go_simp;go_at_call 116;refine (phead_calls c tn wd (f4.out.more o9) HL.out HC.out HI.out M).mono ?_;rintro e w5 ⟨v5,rfl,f6,v8⟩;have I:Hid (zb wk w5):=o9.trans f6;have A1:=zh v8;obtain ⟨A5,c5,rfl,-,-⟩:=v8;clear f6;refine zae o (I.out) fun zH=>?_;clear o K;try simp only [za,ED]
      refine zE 8 fun K o=>?_;go_simp;go_at_call 25;refine (rReach_calls tn w5 (f4.out.more I.out).maze HL.out A1.out A0.out (f4.out.more I.out).chs (by have:=h9.out;omega)).mono ?_;rintro e w6 ⟨v6,rfl,f7⟩;have U:Hid (zb wk w6):=I.out.trans f7.ext;have f0:Hid (zj w6 (fun b=>w5.heap.size<=b) v6 (Cw m ch tn)):=f7.ints;obtain ⟨A6,c6,rfl,-,-⟩:=f0.out;clear f7;refine zae o (U.out) fun zH=>?_;clear o K;try simp only [za,ED]
      refine zE 9 fun K o=>?_;go_simp;refine zae o (U.out) fun zH=>?_;clear o K;try simp only [za,ED]
      refine Fk (by kernel_rfl) ?_ _;have l9:=U.out;have E1:∀(fn:Fn) (first cap:Array Value) (w:World),(Instr.makeFunc fn first cap).run Tryz.prog w=.ok (.func fn first cap) w:=fun _ _ _ _=>rfl
      have t6:Hid ((Cw m ch tn).length<=20000000000000):=by show _<=_;rw [sideP_eq HC.out M];exact reachL_le _ _ _ _ (zC.of HC.out)
      obtain ⟨S,hS⟩:=zad (Cw m ch tn);rw [<-hS] at f0 t6⊢;have o5:=zh hS;clear hS
      have B1:Hid (∀x W,zb w6 W->Calls Tryz.prog 125 #[.int .i64 x,.pointer (some ⟨gs,0,none⟩),.pointer (some ⟨g5,0,none⟩)] W fun e w'=>e=.returned (.bool (decide (x∈(m.tasks.getD tn ([],[])).2)))/\W=w'):=fun x W hW=>by
       obtain ⟨_,_,_,_,_,_,_,_,_,_,_,_,e,_,_,_,C4⟩:=(f4.out.more (l9.trans hW)).parts;injection e with e1 e2 e3;subst e1 e3;exact prove1_calls x W (r5 W (l9.trans hW)) (rt W (l9.trans hW)) C4 HL.out M
      have D4:Hid (∀W,zb wk W->W.cell? ⟨g5,0,none⟩=some (.int .i64 tn)):=rt;have D3:Hid (∀W,zb wk W->W.cell? ⟨gs,8,none⟩=some (.int .i64 c)):=r8
      go_wp2_with fail
      refine (Bz 125 #[.pointer (some ⟨gs,0,none⟩),.pointer (some ⟨g5,0,none⟩)] (fun x=>decide (x∈(m.tasks.getD tn ([],[])).2)) w6 f0.out t6.out (Ar (P:=Tryz.prog) Tryz.func125 (by kernel_rfl) (by kernel_rfl)) (fun x _ W hW=>(B1.out x W hW.ext).mono (fun e w' ⟨h1,h2⟩=>⟨h1,by rw [h2];exact zK.refl _⟩))).mono ?_;rintro e w7 ⟨rfl,p8⟩;have z6:Hid (zb wk w7):=U.out.trans p8.ext;have b4:=z6.out;have s3:=zh (f0.out.below p8.ext);obtain ⟨b,hb⟩:=zad (S.any fun x=>decide (x∈(m.tasks.getD tn ([],[])).2))
      rw [<-hb]
      have l2:Hid (offB m ch tn=(!b && (decide (S≠[]) || decide (c<tn)))):=by
       show _=_;unfold offB;rw [hb,o5.out,b0.out]
      clear hb p8 l9;have ct8:=rt w7 b4;have z8:=b4
      cases b with
      | true=>
       have c9:Hid (offB m ch tn=false):=by show _=_;rw [l2.out];rfl
       have HN:Hid (∀j,c<=j->j<tn+1->offB m ch j=false):=fun j h1 h2=>by
        rcases Fc j tn with h | h
        ·exact b7.out j h1 h
        ·obtain rfl:j=tn:=by omega
         exact c9.out
       have C5:IntKind.i64.wrap ((tn:Int)+1)=(tn:Int)+1:=by rw [Fb];have:=h9.out;omega
       clear c9
       go_wp2_with fail
       have j9:zk (w7.alloc (.cells #[.int .i64 ((tn:Int)+1)] 3)) w7.heap.size 3 #[.int .i64 ((tn+1:Nat):Int)]:=by have h:=zk.new w7 #[.int .i64 ((tn:Int)+1)] 3 (g:=w7.heap.size) rfl;rwa [show ((tn:Int)+1)=((tn+1:Nat):Int) from by omega] at h⊢
       have o0:=zh j9;have i3:=zh ((hE.out.trans b4).alloc (.cells #[.int .i64 ((tn:Int)+1)] 3));have q3:Hid (w4.heap.size<=w7.heap.size):=(hE.out.trans b4).size;have p7:Hid ((w7.alloc (.cells #[.int .i64 ((tn:Int)+1)] 3)).cell? ⟨w7.heap.size,0,none⟩=some (.int .i64 ((tn:Int)+1))):=zr _ _ _ rfl;have k1:Hid (wk.cell? ⟨g5,0,none⟩=some (.int .i64 tn)):=ct0;clear j9;go_roundw
       case rel=>exact ⟨tn+1,w7.heap.size,rfl,by omega,by omega,HN,q3,o0,i3⟩
       case measure=>
        simp only [p7.out,k1.out];omega
      | false=>
       by_cases hs:0<S.length
       ·have k7:(0:Int)<(S.length:Int):=by omega
        have c9:Hid (offB m ch tn=true):=by
         show _=_;rw [l2.out,EJ (by rintro rfl;simp at hs:S≠[])];rfl
        have ct7:=ct8;have D:zk w7 (gs+1) 37 #[.int .i64 0,.slice none 0 0,.slice none 0 0]:=(i2.out.ext hE.out).ext b4;have z0:=D.cell (k:=0) rfl;have z1:=D.cell (k:=1) rfl;have z2:=D.cell (k:=2) rfl;have hfz:∀j,w7.frozen? ⟨gs+1,j,none⟩=false:=fun j=>D.frozen j
        have i5:=zh D;clear D
        go_wp2_with fail
        refine CH (P:=fun W=>bodyPost Tryz.prog Tryz.f101 _ Exit.ret _ W) (g2:=gs+1) ?_ i5.out;intro WZ a6 j5 a7;have y0:=a6.cell (k:=0) rfl;have y1:=a6.cell (k:=1) rfl;have y2:=a6.cell (k:=2) rfl;refine FC (v:=.agg #[.int .i64 tn,.slice A6 S.length c6,.slice none 0 0]) (by simp [results,Tryz.results101,go_sem,y0,y1,y2]) rfl ?_;rw [proveP_cut d8.out d4 (cutT_at (by rw [<-b0.out];exact q5) M c9.out (fun j h1 h2=>b7.out j (by rw [b0.out];exact h1) h2))];exact prove_fin e9.out i7.out T.out (hE.out.trans b4) i2.out f5.out j5 a7 I.out.size hE.out.size s3.out o5.out
       ·have k7:¬ ((0:Int)<(S.length:Int)):=by omega
        have q4:S=[]:=EX (by omega);by_cases x6:c<tn
        ·have x7:(c:Int)<(tn:Int):=by omega
         have c9:Hid (offB m ch tn=true):=by
          show _=_;rw [l2.out,EJ x6,Bool.or_true];rfl
         clear q4;have ct7:=ct8;have D:zk w7 (gs+1) 37 #[.int .i64 0,.slice none 0 0,.slice none 0 0]:=(i2.out.ext hE.out).ext b4;have z0:=D.cell (k:=0) rfl;have z1:=D.cell (k:=1) rfl;have z2:=D.cell (k:=2) rfl;have hfz:∀j,w7.frozen? ⟨gs+1,j,none⟩=false:=fun j=>D.frozen j
         have i5:=zh D;clear D
         go_wp2_with fail
         refine CH (P:=fun W=>bodyPost Tryz.prog Tryz.f101 _ Exit.ret _ W) (g2:=gs+1) ?_ i5.out;intro WZ a6 j5 a7;have y0:=a6.cell (k:=0) rfl;have y1:=a6.cell (k:=1) rfl;have y2:=a6.cell (k:=2) rfl;refine FC (v:=.agg #[.int .i64 tn,.slice A6 S.length c6,.slice none 0 0]) (by simp [results,Tryz.results101,go_sem,y0,y1,y2]) rfl ?_;rw [proveP_cut d8.out d4 (cutT_at (by rw [<-b0.out];exact q5) M c9.out (fun j h1 h2=>b7.out j (by rw [b0.out];exact h1) h2))];exact prove_fin e9.out i7.out T.out (hE.out.trans b4) i2.out f5.out j5 a7 I.out.size hE.out.size s3.out o5.out
        ·have x7:¬ ((c:Int)<(tn:Int)):=by omega
         have c9:Hid (offB m ch tn=false):=by
          show _=_;rw [l2.out,EK (by simp [q4]),EK x6];rfl
         clear q4
         have HN:Hid (∀j,c<=j->j<tn+1->offB m ch j=false):=fun j h1 h2=>by
          rcases Fc j tn with h | h
          ·exact b7.out j h1 h
          ·obtain rfl:j=tn:=by omega
           exact c9.out
         have C5:IntKind.i64.wrap ((tn:Int)+1)=(tn:Int)+1:=by rw [Fb];have:=h9.out;omega
         clear c9
         go_wp2_with fail
         have j9:zk (w7.alloc (.cells #[.int .i64 ((tn:Int)+1)] 3)) w7.heap.size 3 #[.int .i64 ((tn+1:Nat):Int)]:=by have h:=zk.new w7 #[.int .i64 ((tn:Int)+1)] 3 (g:=w7.heap.size) rfl;rwa [show ((tn:Int)+1)=((tn+1:Nat):Int) from by omega] at h⊢
         have o0:=zh j9;have i3:=zh ((hE.out.trans b4).alloc (.cells #[.int .i64 ((tn:Int)+1)] 3));have q3:Hid (w4.heap.size<=w7.heap.size):=(hE.out.trans b4).size;have p7:Hid ((w7.alloc (.cells #[.int .i64 ((tn:Int)+1)] 3)).cell? ⟨w7.heap.size,0,none⟩=some (.int .i64 ((tn:Int)+1))):=zr _ _ _ rfl;have k1:Hid (wk.cell? ⟨g5,0,none⟩=some (.int .i64 tn)):=ct0;clear j9;go_roundw
         case rel=>exact ⟨tn+1,w7.heap.size,rfl,by omega,by omega,HN,q3,o0,i3⟩
         case measure=>
          simp only [p7.out,k1.out];omega
     ·have n6:¬ ((tn:Int)<(m.tasks.length:Int)):=by omega
      have s1:Hid (cutT m ch=none):=cutT_no (fun j h1 h2=>b7.out j (by rw [b0.out];exact h1) (by omega));have l1:=zh hE.out;clear b7 f9 x4 q5 C3 M hE;go_upto_region 15 with fail;have l5:=zk.new wk #[.int .i64 c,.slice none 0 0,.slice none 0 0] 37 (g:=wk.heap.size) rfl;have f6:zb wk (wk.alloc (.cells #[.int .i64 c,.slice none 0 0,.slice none 0 0] 37)):=(zb.refl wk).alloc _;generalize wk.alloc _=w5 at l5 f6⊢;obtain ⟨gp,p9⟩:=zad wk.heap.size;rw [<-p9] at l5⊢;have B6:Hid (gs+1<gp):=by show _<_;rw [p9];exact Fh (zd i2.out) l1.out.size
      have q9:=zh l5;have I:=zh f6;have C6:=f6;clear l5 p9 f6
      go_wp2_with fail
      refine (DB w5 (f4.out.more I.out).maze HL.out (f4.out.more I.out).chs (by have:=h9.out;omega)).mono ?_;rintro e w6 ⟨v6,rfl,f7⟩;have v9:(zO m ch).length<=400000000000:=by unfold zO;split;exact CT HL.out ch;simp
      have s5:Hid (∀n∈zO m ch,zx m (ch++[n])):=fun n hn=>by
       have:zO m ch=cand m ch:=by unfold zO;rw [if_pos (okC_of HC.out HI.out)]
       rw [this] at hn;exact .snoc HI.out hn
      have f0:=zh f7.ints;have U:=zh f7.ext;have i0:Hid (zu m (fl+1) ch k=if (zZ (fun n k=>zu m fl (ch++[n]) k) (zO m ch) (k+1) []).1=0 then (0,.node (zR m ch) [] (zZ (fun n k=>zu m fl (ch++[n]) k) (zO m ch) (k+1) []).2.1,(zZ (fun n k=>zu m fl (ch++[n]) k) (zO m ch) (k+1) []).2.2) else ((zZ (fun n k=>zu m fl (ch++[n]) k) (zO m ch) (k+1) []).1,.zero,(zZ (fun n k=>zu m fl (ch++[n]) k) (zO m ch) (k+1) []).2.2)):=proveP_kids d8.out d4 s1.out;obtain ⟨L,hL⟩:=zad (zO m ch);rw [<-hL] at s5 f0 i0 v9;clear f7 hL;obtain ⟨F,hF⟩:∃F:Int->Nat->Int×PT×Nat,F=fun n k=>zu m fl (ch++[n]) k:=⟨_,rfl⟩
      rw [<-hF] at i0;have o2:=zh hF;clear hF C6 ct0 rt r0 r1 r2 r3 r4 r5 r6 r7 r8 n6;obtain ⟨AL,cL,rfl,-,y6⟩:=f0.out;have B0:=zh y6;clear y6
      have B4:Hid (zk w6 gx 137 #[.int .i64 ((k+1:Nat):Int)]):=by
       have h:=((f5.out.ext l1.out).ext I.out).ext U.out
       rwa [show ((k:Int)+1)=((k+1:Nat):Int) from by omega] at h
      have z4:=zh ((a9.out.ext I.out).ext U.out);have t3:=zh (q9.out.ext U.out);have B5:=zh (((i2.out.ext l1.out).ext I.out).ext U.out);have D6:=zh ((f4.out.more I.out).more U.out);have i1:Hid (zp (fun b=>b=gx) w w6):=T.out.trans (zp.of_ext (X:=fun b=>b=gx) ((l1.out.trans I.out).trans U.out)) (fun _ _ h=>h);have z:Hid (gp<w6.heap.size/\gx<gs/\gs+1<gp):=⟨zd t3.out,i7.out,B6.out⟩
      go_wp2_with fail
      have w0:=v9;have A2:Hid (k+1<=3000):=by show _<=_;omega
      have A3:Hid (BT w6 w6.heap.size (.slice none 0 0) [] []):=BT.nil _ _;clear w0;go_loopw [73] (fun v wr=>∃(j kk:Nat) (acc:List PT) (vk:Value) (cs:List Value),v=.int .i64 j/\j<=L.length/\Hid (acc.length=j)/\Hid (kk<=3000)/\Hid (zZ F L (k+1) []=zZ F (L.drop j) kk acc)/\Hid (zp (fun b=>b=gx\/b=gp) w6 wr)/\Hid (zk wr gx 137 #[.int .i64 kk])/\Hid (zk wr gp 37 #[.int .i64 c,.slice none 0 0,vk])/\Hid (BT wr w6.heap.size vk acc cs)) (fun v _=>L.length - (intOf v).toNat)
      case atStart=>exact ⟨0,k+1,[],.slice none 0 0,[],rfl,EU _,rfl,A2.out,rfl,zp.refl _ _,B4.out,t3.out,A3.out⟩
      case round=>
       obtain ⟨j,kk,acc,vk,cs,rfl,hj,G,a7,e8,B,f8,a5,E⟩:=hrel;obtain ⟨wk',rfl⟩:∃wk':World,wk'=wr:=⟨_,rfl⟩;by_cases h7:j<L.length
       ·have E0:(0:Int)<=(j:Int):=by omega
        have C0:(j:Int)<(L.length:Int):=by omega
        obtain ⟨bl,offl,rfl,x3,n4⟩:=zy B0.out h7 h7;have D1:Hid (w5.heap.size<=bl):=x3;have z9:Hid (gp<w5.heap.size):=zd q9.out;have x5:wk'.cell? ⟨bl,offl+j,none⟩=some (.int .i64 L[j]):=B.out.cellk n4 (by have:=z.out;have:=z9.out;show ¬ (bl=gx\/bl=gp);omega);have b1:Hid (zx m (ch++[L[j]])):=s5.out _ (EH h7);have d7:Hid (L.drop j=L[j] :: L.drop (j+1)):=List.drop_eq_getElem_cons h7;obtain ⟨n,hn⟩:=zad (L[j]);rw [<-hn] at x5 b1 d7;have b3:=z4.out
        have t5:Hid (PSt wk' ok m (.slice Af m.free.length cf) (.slice Au m.up.length cu) (.slice At m.tasks.length ct) (.slice Ac ch.length cc) (.slice Ap PL cp) ch):=H.out.keep (fun b hb M=>by
         have h1:=i9.out b hb;have h2:=z.out;have h3:=e9.out;exact (B.out.block b (Fh M i1.out.size) (by omega)).trans (i1.out.block b M h1))
        have rul:∀{i:Nat} {v:Value},w6.cell? ⟨gs,i,none⟩=some v->∀W,zp (fun b=>b=gx\/b=gp) w6 W->W.cell? ⟨gs,i,none⟩=some v:=fun h W hW=>hW.cellk h (by have:=z.out;show ¬ (gs=gx\/gs=gp);omega)
        have r0:=rul (b3.cell (k:=0) rfl);have r1:=rul (b3.cell (k:=1) rfl);have r2:=rul (b3.cell (k:=2) rfl);have r3:=rul (b3.cell (k:=3) rfl);have r4:=rul (b3.cell (k:=4) rfl);have r5:=rul (b3.cell (k:=5) rfl);have r6:=rul (b3.cell (k:=6) rfl);have r7:=rul (b3.cell (k:=7) rfl);have r8:=rul (b3.cell (k:=8) rfl);obtain ⟨wq,rfl⟩:∃wq:World,wq=wk':=⟨_,rfl⟩;clear rul b3 n4 x3 hn;go_upto_region 18 with fail;clear x5;refine EW (S:=(fun W=>zp (fun b=>b=gx\/b=gp) w6 W)) Ag (zp.trans B.out (zp.of_ext (X:=fun b=>b=gx\/b=gp) (zb.refl wq).drew) (fun _ _ h=>h)) fun zH=>?_;have b2:Hid (zb wq wq.drew):=(zb.refl wq).drew;generalize wq.drew=wd at zH b2⊢;refine zf 0 zH ?_;refine zf 2 zH ?_;simp only [za,ED];refine zf 3 zH ?_;refine zf 4 zH ?_;simp only [za,ED];refine rdA [1,5] ?_;refine Fg rfl (fun K o=>?_) ?_
        ·have cg1:wd.cell? ⟨gp,2,none⟩=some vk:=zp.cellk (zp.of_ext (X:=fun b=>b=gx) b2.out) (a5.out.cell (k:=2) rfl) (by have:=z.out;show ¬ (gp=gx);omega);go_simp;clear cg1;refine zae o (zp.trans B.out (zp.wide (zp.of_ext (X:=fun b=>b=gx) b2.out) (X':=fun b=>b=gx\/b=gp) (fun k h=>.inl h)) (fun _ _ h=>h)) fun zH=>?_;clear o K;try simp only [za,ED]
         refine zE 5 fun K o=>?_;go_simp;go_at_call 93;refine (En c n wd (t5.out.more b2.out) HL.out HC.out b1.out h9.out.2).mono ?_;rintro e w2 ⟨vc2,vp2,rfl,v4,w9⟩;have i6:Hid (zb wq w2):=b2.out.trans v4;have A8:=zh w9;clear v4 w9;refine zae o (zp.trans B.out (zp.wide (zp.of_ext (X:=fun b=>b=gx) i6.out) (X':=fun b=>b=gx\/b=gp) (fun k h=>.inl h)) (fun _ _ h=>h)) fun zH=>?_;clear o K;try simp only [za,ED]
         refine zE 6 fun K o=>?_;go_simp;go_at_call 101;refine (IH.out (ch++[n]) kk gx _ vc2 vp2 w2 A8.out b1.out (by have:=HF.out;rw [EO,Ff];omega) a7.out (i6.out.cellB f8.out) (fun b hb=>by have h1:=i9.out;have h2:=b2.out.size;have h3:=zd f8.out;rcases hb with hb | hb;exact h1 b hb;omega)).mono ?_;obtain ⟨r3,q2⟩:∃r:Int×PT×Nat,r=zu m fl (ch++[n]) kk:=⟨_,rfl⟩;rw [<-q2];have o4:=zh q2;have g7:Hid (F n kk=r3):=by (show _=_);rw [o2.out];exact o4.out.symm
         clear q2;rintro e w3 ⟨o7,(⟨h0,v3,rfl,p3,x2⟩ | ⟨h0,rfl⟩)⟩
         rotate_left
         ·go_wp2;refine ⟨rfl,?_⟩;exact prove_fin3 (x:=zu m (fl+1) ch k) i1.out B.out z.out e9.out (zp.trans (zp.of_ext (X:=fun b=>b=gx) i6.out) o7 (fun _ _ h=>h)) (by rw [i0.out];exact (prove_err (F:=F) (n:=n) (l:=L.drop (j+1)) (k:=kk) (acc:=acc) (by rw [g7.out];exact h0) (e8.out.trans (by rw [d7.out]))).trans (by rw [g7.out])) h0
         have r9:Hid (zp (fun b=>b=gx) wq w3):=zp.trans (zp.of_ext (X:=fun b=>b=gx) i6.out) o7 (fun _ _ h=>h);obtain ⟨As3,cs3,Ak3,ck3,rfl,-⟩:=p3.form;have A9:=zh p3;have j2:=zh x2;have v2:=zh h0;have m5:Hid (wq.heap.size<=w2.heap.size):=i6.out.size;clear o7 p3 x2 h0;refine zae o (zp.trans B.out (zp.wide (r9.out) (X':=fun b=>b=gx\/b=gp) (fun k h=>.inl h)) (fun _ _ h=>h)) fun zH=>?_;clear o K;try simp only [za,ED]
         refine zE 7 fun K o=>?_;go_simp;have e0:=zk.new w3 #[.int .i64 r3.2.1.task,.slice As3 r3.2.1.side.length cs3,.slice Ak3 r3.2.1.kids.length ck3] 37 (g:=w3.heap.size) rfl;have hA4:zb w3 (w3.alloc (.cells #[.int .i64 r3.2.1.task,.slice As3 r3.2.1.side.length cs3,.slice Ak3 r3.2.1.kids.length ck3] 37)):=(zb.refl w3).alloc _;generalize w3.alloc _=w4 at e0 hA4⊢;generalize w3.heap.size=g4 at e0⊢;have k9:=zh e0;have T:Hid (zp (fun b=>b=gx) wq w4):=zp.trans (r9.out) (zp.of_ext (X:=fun b=>b=gx) hA4) (fun _ _ h=>h);have o3:=zh (A9.out.ext hA4);have f5:=zh (j2.out.ext hA4);clear e0 hA4;refine zae o (zp.trans B.out (zp.wide (T.out) (X':=fun b=>b=gx\/b=gp) (fun k h=>.inl h)) (fun _ _ h=>h)) fun zH=>?_;clear o K;try simp only [za,ED]
         refine zE 8 fun K o=>?_;have s4:Hid (BT w4 w6.heap.size vk acc cs):=E.out.chg (T.out) (fun b hb e=>by have:=z.out;omega);refine Cl (ok:=fun _=>True) (by rfl) w4 _ _ eProof (by rfl) w6.heap.size acc.length 1 cs _ vk _ (by rfl) (by rfl) s4.out.own (prv_row1 k9.out) (fun u hu=>by simp at hu;rcases hu with rfl | rfl | rfl <;> rfl) (by have h1:=B.out.size;have h2:=zp.size (T.out);omega) (by have:=G.out;unfold maxLen;omega) (by have:=G.out;omega) ?_;intro v5 w5 q1 f9 y7;have A7:=zh (show BT w5 w6.heap.size _ (acc++[r3.2.1]) (cs++[.int .i64 r3.2.1.task,.slice As3 r3.2.1.side.length cs3,.slice Ak3 r3.2.1.kids.length ck3]) from s4.out.app (lo:=w2.heap.size) o3.out (fun k hk=>by have h1:=E.out.lt hk;have h2:=m5.out;omega) (by have h1:=B.out.size;have h2:=m5.out;omega) q1 f9 y7);have l0:Hid (zp (fun b=>b=gx\/b=gp) w6 w5):=zp.grown (zp.trans B.out (zp.wide (T.out) (X':=fun b=>b=gx\/b=gp) (fun k h=>.inl h)) (fun _ _ h=>h)) f9 (fun k hk M=>by have h1:=E.out.lt hk;omega);obtain ⟨A5,c5,e5,-,-⟩:=AI.of_own q1;subst e5;have j0:Hid (zk w5 gp 37 #[.int .i64 c,.slice none 0 0,vk]):=(f9.block gp (by have h1:=z.out.1;have h2:=B.out.size;have h3:=zp.size (T.out);omega) (fun e=>by have h1:=E.out.lt e.symm;have h2:=z.out;omega)).trans (zp.blk (T.out) a5.out (by have:=z.out;omega));have B3:Hid (zk w5 gx 137 #[.int .i64 r3.2.2]):=(f9.block gx (zd f5.out) (fun e=>by have h1:=E.out.lt e.symm;have h2:=z.out;omega)).trans f5.out;clear q1 f9 y7;refine zae o (l0.out) fun zH=>?_;clear o K;try simp only [za,ED]
         refine zE 9 fun K o=>?_;go_simp;refine zae o (l0.out) fun zH=>?_;clear o K;try simp only [za,ED]
         refine zE 10 fun K o=>?_;have cg7:=j0.out.cell (k:=2) rfl;have fg7:=j0.out.frozen 2;go_simp;clear cg7 fg7;refine zae o (zp.set (l0.out) gp 2 (.slice A5 (acc.length+1) c5) (.inr rfl)) fun zH=>?_;clear o K;try simp only [za,ED]
         refine Fk (by kernel_rfl) ?_ _;have a3:Hid (zp (fun b=>b=gx\/b=gp) w6 (w5.setCell ⟨gp,2,none⟩ (.slice A5 (acc.length+1) c5))):=zp.set (l0.out) gp 2 (.slice A5 (acc.length+1) c5) (.inr rfl);have J:Hid (zk (w5.setCell ⟨gp,2,none⟩ (.slice A5 (acc.length+1) c5)) gp 37 #[.int .i64 c,.slice none 0 0,(.slice A5 (acc.length+1) c5)]):=j0.out.set (k:=2) (.slice A5 (acc.length+1) c5);have a4:Hid (zk (w5.setCell ⟨gp,2,none⟩ (.slice A5 (acc.length+1) c5)) gx 137 #[.int .i64 r3.2.2]):=B3.out.setOther (a:=⟨gp,2,none⟩) (by have:=z.out;show gx≠gp;omega) (.slice A5 (acc.length+1) c5);have a2:=zh (A7.out.chg (zp.set (X:=fun b=>b=gp) (zp.refl _ w5) gp 2 (.slice A5 (acc.length+1) c5) rfl) (fun b hb e=>by have:=z.out;omega));generalize w5.setCell ⟨gp,2,none⟩ (.slice A5 (acc.length+1) c5)=wz at a3 J a4 a2⊢;have hF1:(F n kk).1=0:=by rw [g7.out];exact v2.out
         have a1:Hid (zZ F L (k+1) []=zZ F (L.drop (j+1)) r3.2.2 (acc++[r3.2.1])):=by (show _=_);rw [e8.out,d7.out,DW hF1,g7.out]
         have a0:Hid (r3.2.2<=3000):=by (show _<=_);have h:=(Dh HC.out fl (ch++[n]) kk b1.out a7.out (by rw [<-o4.out];exact v2.out)).2.2;rw [<-o4.out] at h;exact h
         clear hF1;go_wp2;go_roundw
         case rel=>exact ⟨j+1,_,_,_,_,by go_num,by omega,by (show _=_);rw [EO,G.out];rfl,a0.out,a1.out,a3.out,a4.out,J.out,a2.out⟩
         case measure=>simp [intOf];omega
        refine Fg rfl (fun K o=>?_) .nil;go_simp;go_at_call 93;refine (En c n wd (t5.out.more b2.out) HL.out HC.out b1.out h9.out.2).mono ?_;rintro e w8 ⟨vc8,vp8,rfl,i3,x1⟩;have V:Hid (zb wq w8):=b2.out.trans i3;have t4:=zh x1;clear i3 x1;refine zae o (zp.trans B.out (zp.wide (zp.of_ext (X:=fun b=>b=gx) V.out) (X':=fun b=>b=gx\/b=gp) (fun k h=>.inl h)) (fun _ _ h=>h)) fun zH=>?_;clear o K;try simp only [za,ED]
        refine rdA [1,6] ?_;refine Fg rfl (fun K o=>?_) ?_
        ·have cg9:w8.cell? ⟨gp,2,none⟩=some vk:=zp.cellk (zp.of_ext (X:=fun b=>b=gx) V.out) (a5.out.cell (k:=2) rfl) (by have:=z.out;show ¬ (gp=gx);omega);go_simp;clear cg9;refine zae o (zp.trans B.out (zp.wide (zp.of_ext (X:=fun b=>b=gx) V.out) (X':=fun b=>b=gx\/b=gp) (fun k h=>.inl h)) (fun _ _ h=>h)) fun zH=>?_;clear o K;try simp only [za,ED]
         refine zE 6 fun K o=>?_;go_simp;go_at_call 101;refine (IH.out (ch++[n]) kk gx _ vc8 vp8 w8 t4.out b1.out (by have:=HF.out;rw [EO,Ff];omega) a7.out (V.out.cellB f8.out) (fun b hb=>by have h1:=i9.out;have h2:=b2.out.size;have h3:=zd f8.out;rcases hb with hb | hb;exact h1 b hb;omega)).mono ?_;obtain ⟨r10,k5⟩:∃r:Int×PT×Nat,r=zu m fl (ch++[n]) kk:=⟨_,rfl⟩;rw [<-k5];have j1:=zh k5;have b8:Hid (F n kk=r10):=by (show _=_);rw [o2.out];exact j1.out.symm
         clear k5;rintro e w10 ⟨j3,(⟨h0,v10,rfl,j6,n2⟩ | ⟨h0,rfl⟩)⟩
         rotate_left
         ·go_wp2;refine ⟨rfl,?_⟩;exact prove_fin3 (x:=zu m (fl+1) ch k) i1.out B.out z.out e9.out (zp.trans (zp.of_ext (X:=fun b=>b=gx) V.out) j3 (fun _ _ h=>h)) (by rw [i0.out];exact (prove_err (F:=F) (n:=n) (l:=L.drop (j+1)) (k:=kk) (acc:=acc) (by rw [b8.out];exact h0) (e8.out.trans (by rw [d7.out]))).trans (by rw [b8.out])) h0
         have m0:Hid (zp (fun b=>b=gx) wq w10):=zp.trans (zp.of_ext (X:=fun b=>b=gx) V.out) j3 (fun _ _ h=>h);obtain ⟨As10,cs10,Ak10,ck10,rfl,-⟩:=j6.form;have s9:=zh j6;have t7:=zh n2;have n1:=zh h0;have i8:Hid (wq.heap.size<=w8.heap.size):=V.out.size;clear j3 j6 n2 h0;refine zae o (zp.trans B.out (zp.wide (m0.out) (X':=fun b=>b=gx\/b=gp) (fun k h=>.inl h)) (fun _ _ h=>h)) fun zH=>?_;clear o K;try simp only [za,ED]
         refine zE 7 fun K o=>?_;go_simp;have g9:=zk.new w10 #[.int .i64 r10.2.1.task,.slice As10 r10.2.1.side.length cs10,.slice Ak10 r10.2.1.kids.length ck10] 37 (g:=w10.heap.size) rfl;have hA11:zb w10 (w10.alloc (.cells #[.int .i64 r10.2.1.task,.slice As10 r10.2.1.side.length cs10,.slice Ak10 r10.2.1.kids.length ck10] 37)):=(zb.refl w10).alloc _;generalize w10.alloc _=w11 at g9 hA11⊢;generalize w10.heap.size=g11 at g9⊢;have q6:=zh g9;have b5:Hid (zp (fun b=>b=gx) wq w11):=zp.trans (m0.out) (zp.of_ext (X:=fun b=>b=gx) hA11) (fun _ _ h=>h);have t0:=zh (s9.out.ext hA11);have m7:=zh (t7.out.ext hA11);clear g9 hA11;refine zae o (zp.trans B.out (zp.wide (b5.out) (X':=fun b=>b=gx\/b=gp) (fun k h=>.inl h)) (fun _ _ h=>h)) fun zH=>?_;clear o K;try simp only [za,ED]
         refine zE 8 fun K o=>?_;have m1:Hid (BT w11 w6.heap.size vk acc cs):=E.out.chg (b5.out) (fun b hb e=>by have:=z.out;omega);refine Cl (ok:=fun _=>True) (by rfl) w11 _ _ eProof (by rfl) w6.heap.size acc.length 1 cs _ vk _ (by rfl) (by rfl) m1.out.own (prv_row1 q6.out) (fun u hu=>by simp at hu;rcases hu with rfl | rfl | rfl <;> rfl) (by have h1:=B.out.size;have h2:=zp.size (b5.out);omega) (by have:=G.out;unfold maxLen;omega) (by have:=G.out;omega) ?_;intro v12 w12 k2 e4 n7;have s6:=zh (show BT w12 w6.heap.size _ (acc++[r10.2.1]) (cs++[.int .i64 r10.2.1.task,.slice As10 r10.2.1.side.length cs10,.slice Ak10 r10.2.1.kids.length ck10]) from m1.out.app (lo:=w8.heap.size) t0.out (fun k hk=>by have h1:=E.out.lt hk;have h2:=i8.out;omega) (by have h1:=B.out.size;have h2:=i8.out;omega) k2 e4 n7);have g0:Hid (zp (fun b=>b=gx\/b=gp) w6 w12):=zp.grown (zp.trans B.out (zp.wide (b5.out) (X':=fun b=>b=gx\/b=gp) (fun k h=>.inl h)) (fun _ _ h=>h)) e4 (fun k hk M=>by have h1:=E.out.lt hk;omega);obtain ⟨A12,c12,e12,-,-⟩:=AI.of_own k2;subst e12;have f1:Hid (zk w12 gp 37 #[.int .i64 c,.slice none 0 0,vk]):=(e4.block gp (by have h1:=z.out.1;have h2:=B.out.size;have h3:=zp.size (b5.out);omega) (fun e=>by have h1:=E.out.lt e.symm;have h2:=z.out;omega)).trans (zp.blk (b5.out) a5.out (by have:=z.out;omega));have t8:Hid (zk w12 gx 137 #[.int .i64 r10.2.2]):=(e4.block gx (zd m7.out) (fun e=>by have h1:=E.out.lt e.symm;have h2:=z.out;omega)).trans m7.out;clear k2 e4 n7;refine zae o (g0.out) fun zH=>?_;clear o K;try simp only [za,ED]
         refine zE 9 fun K o=>?_;go_simp;refine zae o (g0.out) fun zH=>?_;clear o K;try simp only [za,ED]
         refine zE 10 fun K o=>?_;have cg14:=f1.out.cell (k:=2) rfl;have fg14:=f1.out.frozen 2;go_simp;clear cg14 fg14;refine zae o (zp.set (g0.out) gp 2 (.slice A12 (acc.length+1) c12) (.inr rfl)) fun zH=>?_;clear o K;try simp only [za,ED]
         refine Fk (by kernel_rfl) ?_ _;have a3:Hid (zp (fun b=>b=gx\/b=gp) w6 (w12.setCell ⟨gp,2,none⟩ (.slice A12 (acc.length+1) c12))):=zp.set (g0.out) gp 2 (.slice A12 (acc.length+1) c12) (.inr rfl);have J:Hid (zk (w12.setCell ⟨gp,2,none⟩ (.slice A12 (acc.length+1) c12)) gp 37 #[.int .i64 c,.slice none 0 0,(.slice A12 (acc.length+1) c12)]):=f1.out.set (k:=2) (.slice A12 (acc.length+1) c12);have a4:Hid (zk (w12.setCell ⟨gp,2,none⟩ (.slice A12 (acc.length+1) c12)) gx 137 #[.int .i64 r10.2.2]):=t8.out.setOther (a:=⟨gp,2,none⟩) (by have:=z.out;show gx≠gp;omega) (.slice A12 (acc.length+1) c12);have a2:=zh (s6.out.chg (zp.set (X:=fun b=>b=gp) (zp.refl _ w12) gp 2 (.slice A12 (acc.length+1) c12) rfl) (fun b hb e=>by have:=z.out;omega));generalize w12.setCell ⟨gp,2,none⟩ (.slice A12 (acc.length+1) c12)=wz at a3 J a4 a2⊢;have hF1:(F n kk).1=0:=by rw [b8.out];exact n1.out
         have a1:Hid (zZ F L (k+1) []=zZ F (L.drop (j+1)) r10.2.2 (acc++[r10.2.1])):=by (show _=_);rw [e8.out,d7.out,DW hF1,b8.out]
         have a0:Hid (r10.2.2<=3000):=by (show _<=_);have h:=(Dh HC.out fl (ch++[n]) kk b1.out a7.out (by rw [<-j1.out];exact n1.out)).2.2;rw [<-j1.out] at h;exact h
         clear hF1;go_wp2;go_roundw
         case rel=>exact ⟨j+1,_,_,_,_,by go_num,by omega,by (show _=_);rw [EO,G.out];rfl,a0.out,a1.out,a3.out,a4.out,J.out,a2.out⟩
         case measure=>simp [intOf];omega
        refine Fg rfl (fun K o=>?_) .nil;go_simp;go_at_call 101;refine (IH.out (ch++[n]) kk gx _ vc8 vp8 w8 t4.out b1.out (by have:=HF.out;rw [EO,Ff];omega) a7.out (V.out.cellB f8.out) (fun b hb=>by have h1:=i9.out;have h2:=b2.out.size;have h3:=zd f8.out;rcases hb with hb | hb;exact h1 b hb;omega)).mono ?_;obtain ⟨r15,k6⟩:∃r:Int×PT×Nat,r=zu m fl (ch++[n]) kk:=⟨_,rfl⟩;rw [<-k6];have d9:=zh k6;have O:Hid (F n kk=r15):=by (show _=_);rw [o2.out];exact d9.out.symm
        clear k6;rintro e w15 ⟨j4,(⟨h0,v15,rfl,j7,n3⟩ | ⟨h0,rfl⟩)⟩
        rotate_left
        ·go_wp2;refine ⟨rfl,?_⟩;exact prove_fin3 (x:=zu m (fl+1) ch k) i1.out B.out z.out e9.out (zp.trans (zp.of_ext (X:=fun b=>b=gx) V.out) j4 (fun _ _ h=>h)) (by rw [i0.out];exact (prove_err (F:=F) (n:=n) (l:=L.drop (j+1)) (k:=kk) (acc:=acc) (by rw [O.out];exact h0) (e8.out.trans (by rw [d7.out]))).trans (by rw [O.out])) h0
        have d6:Hid (zp (fun b=>b=gx) wq w15):=zp.trans (zp.of_ext (X:=fun b=>b=gx) V.out) j4 (fun _ _ h=>h);obtain ⟨As15,cs15,Ak15,ck15,rfl,-⟩:=j7.form;have m6:=zh j7;have m8:=zh n3;have g8:=zh h0;have b9:Hid (wq.heap.size<=w8.heap.size):=V.out.size;clear j4 j7 n3 h0;refine zae o (zp.trans B.out (zp.wide (d6.out) (X':=fun b=>b=gx\/b=gp) (fun k h=>.inl h)) (fun _ _ h=>h)) fun zH=>?_;clear o K;try simp only [za,ED]
        refine rdA [1,7] ?_;refine Fg rfl (fun K o=>?_) ?_
        ·have cg16:w15.cell? ⟨gp,2,none⟩=some vk:=zp.cellk (d6.out) (a5.out.cell (k:=2) rfl) (by have:=z.out;show ¬ (gp=gx);omega);go_simp;clear cg16;refine zae o (zp.trans B.out (zp.wide (d6.out) (X':=fun b=>b=gx\/b=gp) (fun k h=>.inl h)) (fun _ _ h=>h)) fun zH=>?_;clear o K;try simp only [za,ED]
         refine zE 7 fun K o=>?_;go_simp;have h4:=zk.new w15 #[.int .i64 r15.2.1.task,.slice As15 r15.2.1.side.length cs15,.slice Ak15 r15.2.1.kids.length ck15] 37 (g:=w15.heap.size) rfl;have hA17:zb w15 (w15.alloc (.cells #[.int .i64 r15.2.1.task,.slice As15 r15.2.1.side.length cs15,.slice Ak15 r15.2.1.kids.length ck15] 37)):=(zb.refl w15).alloc _;generalize w15.alloc _=w17 at h4 hA17⊢;generalize w15.heap.size=g17 at h4⊢;have q7:=zh h4;have b6:Hid (zp (fun b=>b=gx) wq w17):=zp.trans (d6.out) (zp.of_ext (X:=fun b=>b=gx) hA17) (fun _ _ h=>h);have t1:=zh (m6.out.ext hA17);have m9:=zh (m8.out.ext hA17);clear h4 hA17;refine zae o (zp.trans B.out (zp.wide (b6.out) (X':=fun b=>b=gx\/b=gp) (fun k h=>.inl h)) (fun _ _ h=>h)) fun zH=>?_;clear o K;try simp only [za,ED]
         refine zE 8 fun K o=>?_;have m2:Hid (BT w17 w6.heap.size vk acc cs):=E.out.chg (b6.out) (fun b hb e=>by have:=z.out;omega);refine Cl (ok:=fun _=>True) (by rfl) w17 _ _ eProof (by rfl) w6.heap.size acc.length 1 cs _ vk _ (by rfl) (by rfl) m2.out.own (prv_row1 q7.out) (fun u hu=>by simp at hu;rcases hu with rfl | rfl | rfl <;> rfl) (by have h1:=B.out.size;have h2:=zp.size (b6.out);omega) (by have:=G.out;unfold maxLen;omega) (by have:=G.out;omega) ?_;intro v18 w18 k3 e6 n8;have s7:=zh (show BT w18 w6.heap.size _ (acc++[r15.2.1]) (cs++[.int .i64 r15.2.1.task,.slice As15 r15.2.1.side.length cs15,.slice Ak15 r15.2.1.kids.length ck15]) from m2.out.app (lo:=w8.heap.size) t1.out (fun k hk=>by have h1:=E.out.lt hk;have h2:=b9.out;omega) (by have h1:=B.out.size;have h2:=b9.out;omega) k3 e6 n8);have g3:Hid (zp (fun b=>b=gx\/b=gp) w6 w18):=zp.grown (zp.trans B.out (zp.wide (b6.out) (X':=fun b=>b=gx\/b=gp) (fun k h=>.inl h)) (fun _ _ h=>h)) e6 (fun k hk M=>by have h1:=E.out.lt hk;omega);obtain ⟨A18,c18,e18,-,-⟩:=AI.of_own k3;subst e18;have f2:Hid (zk w18 gp 37 #[.int .i64 c,.slice none 0 0,vk]):=(e6.block gp (by have h1:=z.out.1;have h2:=B.out.size;have h3:=zp.size (b6.out);omega) (fun e=>by have h1:=E.out.lt e.symm;have h2:=z.out;omega)).trans (zp.blk (b6.out) a5.out (by have:=z.out;omega));have t9:Hid (zk w18 gx 137 #[.int .i64 r15.2.2]):=(e6.block gx (zd m9.out) (fun e=>by have h1:=E.out.lt e.symm;have h2:=z.out;omega)).trans m9.out;clear k3 e6 n8;refine zae o (g3.out) fun zH=>?_;clear o K;try simp only [za,ED]
         refine zE 9 fun K o=>?_;go_simp;refine zae o (g3.out) fun zH=>?_;clear o K;try simp only [za,ED]
         refine zE 10 fun K o=>?_;have cg20:=f2.out.cell (k:=2) rfl;have fg20:=f2.out.frozen 2;go_simp;clear cg20 fg20;refine zae o (zp.set (g3.out) gp 2 (.slice A18 (acc.length+1) c18) (.inr rfl)) fun zH=>?_;clear o K;try simp only [za,ED]
         refine Fk (by kernel_rfl) ?_ _;have a3:Hid (zp (fun b=>b=gx\/b=gp) w6 (w18.setCell ⟨gp,2,none⟩ (.slice A18 (acc.length+1) c18))):=zp.set (g3.out) gp 2 (.slice A18 (acc.length+1) c18) (.inr rfl);have J:Hid (zk (w18.setCell ⟨gp,2,none⟩ (.slice A18 (acc.length+1) c18)) gp 37 #[.int .i64 c,.slice none 0 0,(.slice A18 (acc.length+1) c18)]):=f2.out.set (k:=2) (.slice A18 (acc.length+1) c18);have a4:Hid (zk (w18.setCell ⟨gp,2,none⟩ (.slice A18 (acc.length+1) c18)) gx 137 #[.int .i64 r15.2.2]):=t9.out.setOther (a:=⟨gp,2,none⟩) (by have:=z.out;show gx≠gp;omega) (.slice A18 (acc.length+1) c18);have a2:=zh (s7.out.chg (zp.set (X:=fun b=>b=gp) (zp.refl _ w18) gp 2 (.slice A18 (acc.length+1) c18) rfl) (fun b hb e=>by have:=z.out;omega));generalize w18.setCell ⟨gp,2,none⟩ (.slice A18 (acc.length+1) c18)=wz at a3 J a4 a2⊢;have hF1:(F n kk).1=0:=by rw [O.out];exact g8.out
         have a1:Hid (zZ F L (k+1) []=zZ F (L.drop (j+1)) r15.2.2 (acc++[r15.2.1])):=by (show _=_);rw [e8.out,d7.out,DW hF1,O.out]
         have a0:Hid (r15.2.2<=3000):=by (show _<=_);have h:=(Dh HC.out fl (ch++[n]) kk b1.out a7.out (by rw [<-d9.out];exact g8.out)).2.2;rw [<-d9.out] at h;exact h
         clear hF1;go_wp2;go_roundw
         case rel=>exact ⟨j+1,_,_,_,_,by go_num,by omega,by (show _=_);rw [EO,G.out];rfl,a0.out,a1.out,a3.out,a4.out,J.out,a2.out⟩
         case measure=>simp [intOf];omega
        refine Fg rfl (fun K o=>?_) .nil;go_simp;have h5:=zk.new w15 #[.int .i64 r15.2.1.task,.slice As15 r15.2.1.side.length cs15,.slice Ak15 r15.2.1.kids.length ck15] 37 (g:=w15.heap.size) rfl;have hA21:zb w15 (w15.alloc (.cells #[.int .i64 r15.2.1.task,.slice As15 r15.2.1.side.length cs15,.slice Ak15 r15.2.1.kids.length ck15] 37)):=(zb.refl w15).alloc _;generalize w15.alloc _=w21 at h5 hA21⊢;generalize w15.heap.size=g21 at h5⊢;have q8:=zh h5;have Q:Hid (zp (fun b=>b=gx) wq w21):=zp.trans (d6.out) (zp.of_ext (X:=fun b=>b=gx) hA21) (fun _ _ h=>h);have t2:=zh (m6.out.ext hA21);have n0:=zh (m8.out.ext hA21);clear h5 hA21;refine zae o (zp.trans B.out (zp.wide (Q.out) (X':=fun b=>b=gx\/b=gp) (fun k h=>.inl h)) (fun _ _ h=>h)) fun zH=>?_;clear o K;try simp only [za,ED]
        refine zE 1 fun K o=>?_;have cg22:w21.cell? ⟨gp,2,none⟩=some vk:=zp.cellk (Q.out) (a5.out.cell (k:=2) rfl) (by have:=z.out;show ¬ (gp=gx);omega);go_simp;clear cg22;refine zae o (zp.trans B.out (zp.wide (Q.out) (X':=fun b=>b=gx\/b=gp) (fun k h=>.inl h)) (fun _ _ h=>h)) fun zH=>?_;clear o K;try simp only [za,ED]
        refine zE 8 fun K o=>?_;have m3:Hid (BT w21 w6.heap.size vk acc cs):=E.out.chg (Q.out) (fun b hb e=>by have:=z.out;omega);refine Cl (ok:=fun _=>True) (by rfl) w21 _ _ eProof (by rfl) w6.heap.size acc.length 1 cs _ vk _ (by rfl) (by rfl) m3.out.own (prv_row1 q8.out) (fun u hu=>by simp at hu;rcases hu with rfl | rfl | rfl <;> rfl) (by have h1:=B.out.size;have h2:=zp.size (Q.out);omega) (by have:=G.out;unfold maxLen;omega) (by have:=G.out;omega) ?_;intro v23 w23 k4 e7 n9;have s8:=zh (show BT w23 w6.heap.size _ (acc++[r15.2.1]) (cs++[.int .i64 r15.2.1.task,.slice As15 r15.2.1.side.length cs15,.slice Ak15 r15.2.1.kids.length ck15]) from m3.out.app (lo:=w8.heap.size) t2.out (fun k hk=>by have h1:=E.out.lt hk;have h2:=b9.out;omega) (by have h1:=B.out.size;have h2:=b9.out;omega) k4 e7 n9);have g6:Hid (zp (fun b=>b=gx\/b=gp) w6 w23):=zp.grown (zp.trans B.out (zp.wide (Q.out) (X':=fun b=>b=gx\/b=gp) (fun k h=>.inl h)) (fun _ _ h=>h)) e7 (fun k hk M=>by have h1:=E.out.lt hk;omega);obtain ⟨A23,c23,e23,-,-⟩:=AI.of_own k4;subst e23;have f3:Hid (zk w23 gp 37 #[.int .i64 c,.slice none 0 0,vk]):=(e7.block gp (by have h1:=z.out.1;have h2:=B.out.size;have h3:=zp.size (Q.out);omega) (fun e=>by have h1:=E.out.lt e.symm;have h2:=z.out;omega)).trans (zp.blk (Q.out) a5.out (by have:=z.out;omega));have v1:Hid (zk w23 gx 137 #[.int .i64 r15.2.2]):=(e7.block gx (zd n0.out) (fun e=>by have h1:=E.out.lt e.symm;have h2:=z.out;omega)).trans n0.out;clear k4 e7 n9;refine zae o (g6.out) fun zH=>?_;clear o K;try simp only [za,ED]
        refine zE 9 fun K o=>?_;go_simp;refine zae o (g6.out) fun zH=>?_;clear o K;try simp only [za,ED]
        refine zE 10 fun K o=>?_;have cg25:=f3.out.cell (k:=2) rfl;have fg25:=f3.out.frozen 2;go_simp;clear cg25 fg25;refine zae o (zp.set (g6.out) gp 2 (.slice A23 (acc.length+1) c23) (.inr rfl)) fun zH=>?_;clear o K;try simp only [za,ED]
        refine Fk (by kernel_rfl) ?_ _;have a3:Hid (zp (fun b=>b=gx\/b=gp) w6 (w23.setCell ⟨gp,2,none⟩ (.slice A23 (acc.length+1) c23))):=zp.set (g6.out) gp 2 (.slice A23 (acc.length+1) c23) (.inr rfl);have J:Hid (zk (w23.setCell ⟨gp,2,none⟩ (.slice A23 (acc.length+1) c23)) gp 37 #[.int .i64 c,.slice none 0 0,(.slice A23 (acc.length+1) c23)]):=f3.out.set (k:=2) (.slice A23 (acc.length+1) c23);have a4:Hid (zk (w23.setCell ⟨gp,2,none⟩ (.slice A23 (acc.length+1) c23)) gx 137 #[.int .i64 r15.2.2]):=v1.out.setOther (a:=⟨gp,2,none⟩) (by have:=z.out;show gx≠gp;omega) (.slice A23 (acc.length+1) c23);have a2:=zh (s8.out.chg (zp.set (X:=fun b=>b=gp) (zp.refl _ w23) gp 2 (.slice A23 (acc.length+1) c23) rfl) (fun b hb e=>by have:=z.out;omega));generalize w23.setCell ⟨gp,2,none⟩ (.slice A23 (acc.length+1) c23)=wz at a3 J a4 a2⊢;have hF1:(F n kk).1=0:=by rw [O.out];exact g8.out
        have a1:Hid (zZ F L (k+1) []=zZ F (L.drop (j+1)) r15.2.2 (acc++[r15.2.1])):=by (show _=_);rw [e8.out,d7.out,DW hF1,O.out]
        have a0:Hid (r15.2.2<=3000):=by (show _<=_);have h:=(Dh HC.out fl (ch++[n]) kk b1.out a7.out (by rw [<-d9.out];exact g8.out)).2.2;rw [<-d9.out] at h;exact h
        clear hF1;go_wp2;go_roundw
        case rel=>exact ⟨j+1,_,_,_,_,by go_num,by omega,by (show _=_);rw [EO,G.out];rfl,a0.out,a1.out,a3.out,a4.out,J.out,a2.out⟩
        case measure=>simp [intOf];omega
       ·have x8:j=L.length:=by omega
        have C0:¬ ((j:Int)<(L.length:Int)):=by omega
        have o1:Hid (zZ F L (k+1) []=(0,acc,kk)):=by
         show _=_;rw [e8.out,x8,FJ];rfl
        have D:zk wk' (gs+1) 37 #[.int .i64 0,.slice none 0 0,.slice none 0 0]:=B.out.blk B5.out (by have:=z.out;omega);have z0:=D.cell (k:=0) rfl;have z1:=D.cell (k:=1) rfl;have z2:=D.cell (k:=2) rfl;have hfz:∀j,wk'.frozen? ⟨gs+1,j,none⟩=false:=fun j=>D.frozen j
        have i5:=zh D;obtain ⟨Ak,ck,evk,-,-⟩:=AI.of_own E.out.own;subst evk;have p0:=a5.out.cell (k:=0) rfl;have p1:=a5.out.cell (k:=1) rfl;have p2:=a5.out.cell (k:=2) rfl;clear D x8
        go_wp2_with fail
        refine CH (P:=fun W=>bodyPost Tryz.prog Tryz.f101 _ Exit.ret _ W) (g2:=gs+1) ?_ i5.out;intro WZ a6 j5 x9;have y0:=a6.cell (k:=0) rfl;have y1:=a6.cell (k:=1) rfl;have y2:=a6.cell (k:=2) rfl;refine FC (v:=.agg #[.int .i64 c,.slice none 0 0,.slice Ak acc.length ck]) (by simp [results,Tryz.results101,go_sem,y0,y1,y2]) rfl ?_;rw [i0.out,o1.out,if_pos rfl,<-b0.out];exact prove_fin2 i1.out B.out z.out e9.out f8.out E.out j5 x9
end
end Go.Proofs.YthbjngbhbbkkgaaGreat
