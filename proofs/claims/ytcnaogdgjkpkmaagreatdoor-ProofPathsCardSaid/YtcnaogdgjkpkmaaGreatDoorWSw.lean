import Derived.Test.YtcnaogdgjkpkmaaGreatDoorWSr
import Derived.WalkLawsBesides
set_option linter.unusedVariables false
set_option linter.unusedSimpArgs false
set_option maxRecDepth 100000
set_option maxHeartbeats 16000000
namespace Go.Proofs.YtcnaogdgjkpkmaaGreatDoor
variable {ch:List Int} {m:MZ} {gp gs gx:Nat} {WZ w w6 wr:World}
section
open Go.RowKit
attribute [local go_sem ↓] Go.wp_at_zero Go.wp_at_succ
attribute [local go_sem] Oper.semAt_some
def CL (w:World) (gx:Nat) (r:Int×PT×Nat) (e:Ending) (w':World):Prop:=
 zm (fun b=>b=gx) w w'/\((r.1=0/\∃v,e=.returned v/\Ay w' (fun b=>w.heap.size<=b) v r.2.1/\zj w' gx 86 #[.int .i64 r.2.2])\/(r.1≠0/\e=.panicked [{ v:=.iface 37 (.int .i64 r.1),recovered:=false }]))
theorem case_fin3 {P:World->Prop} {W:World} {g2:Nat} {t:TypeId} {a0 a1 a2 z0 z1 z2:Value} (h:∀WZ,zj WZ g2 t #[a0,a1,a2]->Below g2 W WZ->(∀k,k<W.heap.size->k≠g2->WZ.heap[k]?=W.heap[k]?)->P WZ) (o:zj W g2 t #[z0,z1,z2]):
  P (((W.setCell ⟨g2,0,none⟩ a0).setCell ⟨g2,1,none⟩ a1).setCell ⟨g2,2,none⟩ a2):=
 h (setL g2 0 [a0,a1,a2] W) (setL_blk [a0,a1,a2] [z0,z1,z2] [] W rfl o) (BW g2 _ 0 W) (fun k _ d=>BX g2 k d _ 0 W)
theorem prove_fin {w4 w7 wk w5:World} {S:List Int} {tn k c6:Nat} {A6:Option Addr} {zs:Array Value} (K:gs=w.heap.size) (L:gx<gs) (E:zm (fun b=>b=gx) w w4) (r:zc w4 w7) (J:zj w4 (gs+1) 27 zs) (G:zj w4 gx 86 #[.int .i64 ((k:Int)+1)])
  (d:Below (gs+1) w7 WZ) (o:∀k,k<w7.heap.size->k≠gs+1->WZ.heap[k]?=w7.heap[k]?) (V:wk.heap.size<=w5.heap.size) (U:w4.heap.size<=wk.heap.size) (hI:zn w7 (fun b=>w5.heap.size<=b) (.slice A6 S.length c6) S) (I:S=BJ m ch tn):
  CL w gx (0,.node tn (BJ m ch tn) [],k+1) (.returned (.agg #[.int .i64 tn,.slice A6 S.length c6,.slice none 0 0])) WZ:=by
 have hz:=zb J;have hx:=zb G;have Q:=r.size;refine ⟨zm.trans E (zm.trans (zm.of_ext (X:=fun b=>b=gs+1) r) ⟨d.os,d.tape,d.output,d.size,fun b B O=>o b B O⟩ (fun _ _ h=>h)) (fun k h1 h2=>by omega),.inl ⟨rfl,_,rfl,?_,?_⟩⟩
 ·rw [<-I];exact .mk (cs:=[]) ((hI.keep (fun b B D=>o b D (by omega))).weaken (fun b B=>by have:=E.size;omega)) ⟨none,0,rfl,DC _,AG.nil _ _ _ _⟩ (fun i M=>absurd M (by simp))
 ·have h1:=G.ext r;have h2:zj WZ gx 86 #[.int .i64 ((k:Int)+1)]:=(o gx (zb h1) (by omega)).trans h1
  rwa [show ((k:Int)+1)=((k+1:Nat):Int) from by omega] at h2
theorem prove_fin2 {c kk:Nat} {vk:Value} {acc:List PT} {cs:List Value} (D:zm (fun b=>b=gx) w w6) (I:zm (fun b=>b=gx\/b=gp) w6 wr) (L:gp<w6.heap.size/\gx<gs/\gs+1<gp) (J:gs=w.heap.size)
  (E:zj wr gx 86 #[.int .i64 kk]) (G:AA wr w6.heap.size vk acc cs) (d:Below (gs+1) wr WZ) (o:∀k,k<wr.heap.size->k≠gs+1->WZ.heap[k]?=wr.heap[k]?):
  CL w gx (0,.node c [] acc,kk) (.returned (.agg #[.int .i64 c,.slice none 0 0,vk])) WZ:=by
 refine ⟨zm.trans (X':=fun b=>b=gx\/b=gp\/b=gs+1) D (zm.trans (I.wide (fun k h=>by omega)) (⟨d.os,d.tape,d.output,d.size,fun b r K=>o b r K⟩:zm (fun b=>b=gs+1) wr WZ) (fun k _ h=>.inr (.inr h))) (fun k h1 h2=>by omega),.inl ⟨rfl,_,rfl,?_,?_⟩⟩
 ·refine (G.kids c).keepW (fun b r B=>o b B (by omega)) fun b r=>?_;have:=D.size;omega
 ·exact (o gx (zb E) (by omega)).trans E
theorem prove_fin3 {w8:World} {r x:Int×PT×Nat} (B:zm (fun b=>b=gx) w w6) (D:zm (fun b=>b=gx\/b=gp) w6 wr) (G:gp<w6.heap.size/\gx<gs/\gs+1<gp) (E:gs=w.heap.size) (o:zm (fun b=>b=gx) wr w8) (d:x.1=r.1) (h:r.1≠0):
  CL w gx x (.panicked [{ v:=.iface 37 (.int .i64 r.1),recovered:=false }]) w8:=
 ⟨zm.trans B (zm.trans D (o.wide (X':=fun b=>b=gx\/b=gp) (fun k h=>.inl h)) (fun _ _ h=>h)) (fun k h1 h2=>by omega),.inr ⟨by rw [d];exact h,by rw [d]⟩⟩
theorem headP_len {t:Nat} (d:Lens m) (ht:t<m.tasks.length):(AH m ch t).length<=20000000000000:=by
 unfold AH
 split
 ·cases ((zq m ch).getD t []).getLast? <;> simp
 ·refine DE (Ef _ _) ?_;rw [DB,DA ht];have:=(d.tl _ (DD ht)).1;show (m.tasks[t]).1.length<=_;omega
theorem prove_calls {m:MZ} {f u ts:Value} (hl:Lens m) (hc:Br m=0):
  ∀(fl:Nat) (ch:List Int) (k gx:Nat) (ok:Nat->Prop) (vc vp:Value) (w:World),PSt w ok m f u ts vc vp ch->zw m ch->m.n.toNat+2<=fl+ch.length->k<=3000->zj w gx 86 #[.int .i64 k]->(∀b,ok b->b≠gx)->
   Calls Tryz.prog 50 #[.pointer (some ⟨gx,0,none⟩),Dw m f u ts vc vp (zS m ch)] w (CL w gx (zr m fl ch k))
 | 0,ch,k,gx,ok,vc,vp,w,_,hi,hf,_,_,_=>by
  have:=hi.len (Am.of hc);omega
 | fl+1,ch,k,gx,ok,vc,vp,w,h,hi,hf,hk,hx,A4=>by
  have H:=zh h;have HL:=zh hl;have HC:=zh hc;have HI:=zh hi;have HF:=zh hf;have HK:=zh hk;have HX:=zh hx;have i9:=zh A4;have IH:=zh (prove_calls (f:=f) (u:=u) (ts:=ts) hl hc fl);obtain ⟨Af,cf,Au,cu,At,ct,Ac,cc,Ap,cp,rfl,rfl,rfl,rfl,rfl,-,-⟩:=h.parts;obtain ⟨PL,hP⟩:=EH ((zq m ch).length);rw [<-hP] at H⊢;clear h hl hc hi hP hf hk A4;obtain ⟨c,p9⟩:=EH (zS m ch);rw [<-p9];have b1:=zh p9;clear p9 hx;unfold Dw
  go_enter Tryz.func50,Tryz.ntmps50
  go_upto_region 1 with fail;have l6:=zj.new w #[.int .i64 m.w,.int .i64 m.h,.int .i64 m.l,.slice Af m.free.length cf,.slice Au m.up.length cu,.slice At m.tasks.length ct,.slice Ac ch.length cc,.slice Ap PL cp,.int .i64 c] 70 (g:=w.heap.size) rfl;have l9:zc w (w.alloc (.cells #[.int .i64 m.w,.int .i64 m.h,.int .i64 m.l,.slice Af m.free.length cf,.slice Au m.up.length cu,.slice At m.tasks.length ct,.slice Ac ch.length cc,.slice Ap PL cp,.int .i64 c] 70)):=(zc.refl w).alloc _;have k9:(w.alloc (.cells #[.int .i64 m.w,.int .i64 m.h,.int .i64 m.l,.slice Af m.free.length cf,.slice Au m.up.length cu,.slice At m.tasks.length ct,.slice Ac ch.length cc,.slice Ap PL cp,.int .i64 c] 70)).heap.size=w.heap.size+1:=by simp
  generalize w.alloc _=w1 at l6 l9 k9⊢;have D:=zj.new w1 #[.int .i64 0,.slice none 0 0,.slice none 0 0] 27 (g:=w1.heap.size) rfl;have j8:zc w1 (w1.alloc (.cells #[.int .i64 0,.slice none 0 0,.slice none 0 0] 27)):=(zc.refl w1).alloc _;generalize w1.alloc _=w2 at D j8⊢;rw [k9] at D;obtain ⟨gs,m0⟩:=EH w.heap.size;rw [<-m0] at l6 D⊢;have f0:Hid (gs=w.heap.size):=m0;have i7:Hid (gx<gs):=by show _<_;rw [m0];exact zb HX.out
  have HZ:=zh D;have a9:=zh (l6.ext j8);have C7:=zh ((HX.out.ext l9).ext j8);have l5:=zh (l9.trans j8);clear l6 l9 k9 D j8 m0;have c0:=a9.out.cell (k:=0) rfl;have c1:=a9.out.cell (k:=1) rfl;have c2:=a9.out.cell (k:=2) rfl;have c3:=a9.out.cell (k:=3) rfl;have c4:=a9.out.cell (k:=4) rfl;have c5:=a9.out.cell (k:=5) rfl;have c6:=a9.out.cell (k:=6) rfl;have c7:=a9.out.cell (k:=7) rfl;have c8:=a9.out.cell (k:=8) rfl;have s5:Hid (Calls Tryz.prog 75 #[.agg #[.int .i64 m.w,.int .i64 m.h,.int .i64 m.l,.slice Af m.free.length cf,.slice Au m.up.length cu,.slice At m.tasks.length ct,.slice Ac ch.length cc,.slice Ap PL cp,.int .i64 c]] w2 fun e w'=>e=.returned (.bool (decide ((m.tasks.length:Int)<=(c:Int))))/\zc w2 w'):=Dh c w2 (H.out.more l5.out)
  go_wp2_with fail
  refine s5.out.mono ?_;rintro e w3 ⟨rfl,x4⟩;have h8:=zh x4;clear x4 c0 c1 c2 c3 c4 c5 c6 c7 c8 s5;by_cases n7:m.tasks.length<=c
  ·have hd:decide ((m.tasks.length:Int)<=(c:Int))=true:=DF (by omega);rw [hd]
   go_wp2_with fail
   refine ⟨rfl,?_⟩;have hp:zr m (fl+1) ch k=(51,.zero,k):=proveP_end (by rw [<-b1.out];exact n7);rw [hp];exact ⟨zm.of_ext (l5.out.trans h8.out),.inr ⟨by simp,rfl⟩⟩
  ·have hd:decide ((m.tasks.length:Int)<=(c:Int))=false:=DG (by omega);rw [hd];have d9:Hid (¬ m.tasks.length<=zS m ch):=by show ¬ _;rw [<-b1.out];exact n7
   have j2:=zh (C7.out.ext h8.out);have x0:w3.cell? ⟨gx,0,none⟩=some (.int .i64 k):=j2.out.cell (k:=0) rfl;have D3:=j2.out.frozen 0;have D5:IntKind.i64.wrap ((k:Int)+1)=(k:Int)+1:=by rw [DY];have:=HK.out;omega
   clear hd;go_upto_region 4 with fail;have p7:=j2.out.set (k:=0) (.int .i64 ((k:Int)+1));have e4:=(a9.out.ext h8.out).setOther (a:=⟨gx,0,none⟩) (by have:=i7.out;show gs≠gx;omega) (.int .i64 ((k:Int)+1));have p8:=(HZ.out.ext h8.out).setOther (a:=⟨gx,0,none⟩) (by have:=i7.out;show gs+1≠gx;omega) (.int .i64 ((k:Int)+1));have l8:zW (fun b=>b≠gx) w3 (w3.setCell ⟨gx,0,none⟩ (.int .i64 ((k:Int)+1))):=fun b hb _=>DL w3 ⟨gx,0,none⟩ _ b hb
   have p4:zm (fun b=>b=gx) w (w3.setCell ⟨gx,0,none⟩ (.int .i64 ((k:Int)+1))):=zm.trans (zm.of_ext (X:=fun b=>b=gx) (l5.out.trans h8.out)) ⟨rfl,rfl,rfl,by simp,fun b _ hb=>DL w3 ⟨gx,0,none⟩ _ b hb⟩ (fun _ _ h=>h);generalize w3.setCell ⟨gx,0,none⟩ (.int .i64 ((k:Int)+1))=w4 at p7 e4 p8 l8 p4⊢;have f6:Hid (zj w4 gx 86 #[.int .i64 ((k:Int)+1)]):=p7;have l1:=zh e4;have i2:=zh p8;have E8:=zh l8;have U:=zh p4;have o5:Hid (PSt w4 ok m (.slice Af m.free.length cf) (.slice Au m.up.length cu) (.slice At m.tasks.length ct) (.slice Ac ch.length cc) (.slice Ap PL cp) ch):=((H.out.more l5.out).more h8.out).keep (fun b hb M=>l8 b (i9.out b hb) M);have y0:w4.cell? ⟨gx,0,none⟩=some (.int .i64 ((k:Int)+1)):=f6.out.cell (k:=0) rfl;clear p7 e4 p8 l8 p4 x0 D3;by_cases d5:3000<k+1
   ·have A2:(3000:Int)<(k:Int)+1:=by omega
    go_wp2_with fail
    refine ⟨rfl,?_⟩;rw [proveP_many d9.out d5];exact ⟨U.out,.inr ⟨by simp,rfl⟩⟩
   ·have A2:¬ ((3000:Int)<(k:Int)+1):=by omega
    have c8:=l1.out.cell (k:=8) rfl;go_upto_region 7 with fail;have o8:Hid (zj (w4.alloc (.cells #[.int .i64 c] 3)) w4.heap.size 3 #[.int .i64 c]):=zj.new _ _ _ rfl;have I:Hid (zc w4 (w4.alloc (.cells #[.int .i64 c] 3))):=(zc.refl w4).alloc _;generalize w4.alloc _=w5 at o8 I⊢;have B3:Hid (c<=m.tasks.length):=by show _<=_;have:=d9.out;have:=b1.out;omega
    have h9:Hid (m.tasks.length<=6/\ch.length<=300):=⟨(AV HC.out HI.out).2.1,(AV HC.out HI.out).2.2.1⟩;clear y0 c8 D5 A2;go_loopw [5] (fun v wr=>∃tn g5:Nat,v=.pointer (some ⟨g5,0,none⟩)/\c<=tn/\tn<=m.tasks.length/\Hid (∀j,c<=j->j<tn->offB m ch j=false)/\Hid (w4.heap.size<=g5)/\Hid (zj wr g5 3 #[.int .i64 tn])/\Hid (zc w4 wr)) (fun v wr=>match v with | .pointer (some a)=>(match wr.cell? a with | some (.int _ i)=>m.tasks.length - i.toNat | _=>0) | _=>0)
    case atStart=>exact ⟨c,w4.heap.size,rfl,DC _,B3.out,fun j h1 h2=>(by omega),DC _,o8.out,I.out⟩
    clear o8 I
    case round=>
     obtain ⟨tn,g5,rfl,r9,D7,b8,g0,z5,hE⟩:=hrel;obtain ⟨wk,rfl⟩:∃wk:World,wk=wr:=⟨_,rfl⟩;have b0:=zh (l1.out.ext hE.out);have f5:=zh (o5.out.more hE.out);have ct0:wk.cell? ⟨g5,0,none⟩=some (.int .i64 tn):=z5.out.cell (k:=0) rfl;have r0:=zc.rule (b0.out.cell (k:=0) rfl);have r1:=zc.rule (b0.out.cell (k:=1) rfl);have r2:=zc.rule (b0.out.cell (k:=2) rfl);have r3:=zc.rule (b0.out.cell (k:=3) rfl);have r4:=zc.rule (b0.out.cell (k:=4) rfl);have r5:=zc.rule (b0.out.cell (k:=5) rfl);have r6:=zc.rule (b0.out.cell (k:=6) rfl);have r7:=zc.rule (b0.out.cell (k:=7) rfl);have r8:=zc.rule (b0.out.cell (k:=8) rfl);have rt:=zc.rule ct0;have F4:zc wk wk:=zc.refl wk;by_cases M:tn<m.tasks.length
     ·have n8:(tn:Int)<(m.tasks.length:Int):=by omega
      go_upto_region 9 with fail;refine DT (S:=(fun W=>zc wk W)) zN ((zc.refl wk).drew) fun zH=>?_;have p5:zc wk wk.drew:=zH;have B7:Hid ((AH m ch tn).length<=20000000000000):=headP_len HL.out M;generalize wk.drew=wd at zH p5⊢;refine ze 0 zH ?_;refine ze 1 zH ?_;simp only [za,Dz];refine ze 2 zH ?_;refine ze 3 zH ?_;simp only [za,Dz];refine ze 4 zH ?_;refine ze 6 zH ?_;simp only [za,Dz];refine ze 7 zH ?_;simp only [za,Dz];refine zC 5 fun K d=>?_;go_simp;go_at_call 88;refine (phead_calls c tn wd (f5.out.more p5) HL.out HC.out HI.out M).mono ?_;rintro e w5 ⟨v5,rfl,f7,x5⟩;have I:Hid (zc wk w5):=p5.trans f7;have B8:=zh x5;obtain ⟨A5,c5,rfl,-,-⟩:=x5;clear f7;refine EI d (I.out) fun zH=>?_;clear d K;try simp only [za,Dz]
      refine zC 8 fun K d=>?_;go_simp;go_at_call 87;refine (rReach_calls tn w5 (f5.out.more I.out).maze HL.out B8.out B7.out (f5.out.more I.out).chs (by have:=h9.out;omega)).mono ?_;rintro e w6 ⟨v6,rfl,f8⟩;have V:Hid (zc wk w6):=I.out.trans f8.ext;have f1:Hid (zn w6 (fun b=>w5.heap.size<=b) v6 (BJ m ch tn)):=f8.ints;obtain ⟨A6,c6,rfl,-,-⟩:=f1.out;clear f8;refine EI d (V.out) fun zH=>?_;clear d K;try simp only [za,Dz]
      refine zC 9 fun K d=>?_;go_simp;refine EI d (V.out) fun zH=>?_;clear d K;try simp only [za,Dz]
      refine Eg (by kernel_rfl) ?_ _;have m1:=V.out;have F2:∀(fn:Fn) (first cap:Array Value) (w:World),(Instr.makeFunc fn first cap).run Tryz.prog w=.ok (.func fn first cap) w:=fun _ _ _ _=>rfl
      have v7:Hid ((BJ m ch tn).length<=20000000000000):=by show _<=_;rw [sideP_eq HC.out M];exact reachL_le _ _ _ _ (Am.of HC.out)
      obtain ⟨S,hS⟩:=EH (BJ m ch tn);rw [<-hS] at f1 v7⊢;have o7:=zh hS;clear hS
      have C6:Hid (∀x W,zc w6 W->Calls Tryz.prog 89 #[.int .i64 x,.pointer (some ⟨gs,0,none⟩),.pointer (some ⟨g5,0,none⟩)] W fun e w'=>e=.returned (.bool (decide (x∈(m.tasks.getD tn ([],[])).2)))/\W=w'):=fun x W hW=>by
       obtain ⟨_,_,_,_,_,_,_,_,_,_,_,_,e,_,_,_,D8⟩:=(f5.out.more (m1.trans hW)).parts;injection e with e1 e2 e3;subst e1 e3;exact prove1_calls x W (r5 W (m1.trans hW)) (rt W (m1.trans hW)) D8 HL.out M
      have E7:Hid (∀W,zc wk W->W.cell? ⟨g5,0,none⟩=some (.int .i64 tn)):=rt;have E6:Hid (∀W,zc wk W->W.cell? ⟨gs,8,none⟩=some (.int .i64 c)):=r8
      go_wp2_with fail
      refine (AM 89 #[.pointer (some ⟨gs,0,none⟩),.pointer (some ⟨g5,0,none⟩)] (fun x=>decide (x∈(m.tasks.getD tn ([],[])).2)) w6 f1.out v7.out (Ah (P:=Tryz.prog) Tryz.func89 (by kernel_rfl) (by kernel_rfl)) (fun x _ W hW=>(C6.out x W hW.ext).mono (fun e w' ⟨h1,h2⟩=>⟨h1,by rw [h2];exact zG.refl _⟩))).mono ?_;rintro e w7 ⟨rfl,q4⟩;have B4:Hid (zc wk w7):=V.out.trans q4.ext;have b5:=B4.out;have s8:=zh (f1.out.below q4.ext);obtain ⟨b,hb⟩:=EH (S.any fun x=>decide (x∈(m.tasks.getD tn ([],[])).2))
      rw [<-hb]
      have l4:Hid (offB m ch tn=(!b && (decide (S≠[]) || decide (c<tn)))):=by
       show _=_;unfold offB;rw [hb,o7.out,b1.out]
      clear hb q4 m1;have ct8:=rt w7 b5;have z8:=b5
      cases b with
      | true=>
       have d4:Hid (offB m ch tn=false):=by show _=_;rw [l4.out];rfl
       have HN:Hid (∀j,c<=j->j<tn+1->offB m ch j=false):=fun j h1 h2=>by
        rcases DZ j tn with h | h
        ·exact b8.out j h1 h
        ·obtain rfl:j=tn:=by omega
         exact d4.out
       have D9:IntKind.i64.wrap ((tn:Int)+1)=(tn:Int)+1:=by rw [DY];have:=h9.out;omega
       clear d4
       go_wp2_with fail
       have j9:zj (w7.alloc (.cells #[.int .i64 ((tn:Int)+1)] 3)) w7.heap.size 3 #[.int .i64 ((tn+1:Nat):Int)]:=by have h:=zj.new w7 #[.int .i64 ((tn:Int)+1)] 3 (g:=w7.heap.size) rfl;rwa [show ((tn:Int)+1)=((tn+1:Nat):Int) from by omega] at h⊢
       have o2:=zh j9;have i3:=zh ((hE.out.trans b5).alloc (.cells #[.int .i64 ((tn:Int)+1)] 3));have q8:Hid (w4.heap.size<=w7.heap.size):=(hE.out.trans b5).size;have q3:Hid ((w7.alloc (.cells #[.int .i64 ((tn:Int)+1)] 3)).cell? ⟨w7.heap.size,0,none⟩=some (.int .i64 ((tn:Int)+1))):=zQ _ _ _ rfl;have k3:Hid (wk.cell? ⟨g5,0,none⟩=some (.int .i64 tn)):=ct0;clear j9;go_roundw
       case rel=>exact ⟨tn+1,w7.heap.size,rfl,by omega,by omega,HN,q8,o2,i3⟩
       case measure=>
        simp only [q3.out,k3.out];omega
      | false=>
       by_cases hs:0<S.length
       ·have k9:(0:Int)<(S.length:Int):=by omega
        have d4:Hid (offB m ch tn=true):=by
         show _=_;rw [l4.out,DF (by rintro rfl;simp at hs:S≠[])];rfl
        have ct7:=ct8;have D:zj w7 (gs+1) 27 #[.int .i64 0,.slice none 0 0,.slice none 0 0]:=(i2.out.ext hE.out).ext b5;have z0:=D.cell (k:=0) rfl;have z1:=D.cell (k:=1) rfl;have z2:=D.cell (k:=2) rfl;have hfz:∀j,w7.frozen? ⟨gs+1,j,none⟩=false:=fun j=>D.frozen j
        have i5:=zh D;clear D
        go_wp2_with fail
        refine case_fin3 (P:=fun W=>bodyPost Tryz.prog Tryz.f50 _ Exit.ret _ W) (g2:=gs+1) ?_ i5.out;intro WZ a7 j5 a8;have y0:=a7.cell (k:=0) rfl;have y1:=a7.cell (k:=1) rfl;have y2:=a7.cell (k:=2) rfl;refine Eu (v:=.agg #[.int .i64 tn,.slice A6 S.length c6,.slice none 0 0]) (by simp [results,Tryz.results50,go_sem,y0,y1,y2]) rfl ?_;rw [proveP_cut d9.out d5 (cutT_at (by rw [<-b1.out];exact r9) M d4.out (fun j h1 h2=>b8.out j (by rw [b1.out];exact h1) h2))];exact prove_fin f0.out i7.out U.out (hE.out.trans b5) i2.out f6.out j5 a8 I.out.size hE.out.size s8.out o7.out
       ·have k9:¬ ((0:Int)<(S.length:Int)):=by omega
        have q9:S=[]:=DU (by omega);by_cases z7:c<tn
        ·have z9:(c:Int)<(tn:Int):=by omega
         have d4:Hid (offB m ch tn=true):=by
          show _=_;rw [l4.out,DF z7,Bool.or_true];rfl
         clear q9;have ct7:=ct8;have D:zj w7 (gs+1) 27 #[.int .i64 0,.slice none 0 0,.slice none 0 0]:=(i2.out.ext hE.out).ext b5;have z0:=D.cell (k:=0) rfl;have z1:=D.cell (k:=1) rfl;have z2:=D.cell (k:=2) rfl;have hfz:∀j,w7.frozen? ⟨gs+1,j,none⟩=false:=fun j=>D.frozen j
         have i5:=zh D;clear D
         go_wp2_with fail
         refine case_fin3 (P:=fun W=>bodyPost Tryz.prog Tryz.f50 _ Exit.ret _ W) (g2:=gs+1) ?_ i5.out;intro WZ a7 j5 a8;have y0:=a7.cell (k:=0) rfl;have y1:=a7.cell (k:=1) rfl;have y2:=a7.cell (k:=2) rfl;refine Eu (v:=.agg #[.int .i64 tn,.slice A6 S.length c6,.slice none 0 0]) (by simp [results,Tryz.results50,go_sem,y0,y1,y2]) rfl ?_;rw [proveP_cut d9.out d5 (cutT_at (by rw [<-b1.out];exact r9) M d4.out (fun j h1 h2=>b8.out j (by rw [b1.out];exact h1) h2))];exact prove_fin f0.out i7.out U.out (hE.out.trans b5) i2.out f6.out j5 a8 I.out.size hE.out.size s8.out o7.out
        ·have z9:¬ ((c:Int)<(tn:Int)):=by omega
         have d4:Hid (offB m ch tn=false):=by
          show _=_;rw [l4.out,DG (by simp [q9]),DG z7];rfl
         clear q9
         have HN:Hid (∀j,c<=j->j<tn+1->offB m ch j=false):=fun j h1 h2=>by
          rcases DZ j tn with h | h
          ·exact b8.out j h1 h
          ·obtain rfl:j=tn:=by omega
           exact d4.out
         have D9:IntKind.i64.wrap ((tn:Int)+1)=(tn:Int)+1:=by rw [DY];have:=h9.out;omega
         clear d4
         go_wp2_with fail
         have j9:zj (w7.alloc (.cells #[.int .i64 ((tn:Int)+1)] 3)) w7.heap.size 3 #[.int .i64 ((tn+1:Nat):Int)]:=by have h:=zj.new w7 #[.int .i64 ((tn:Int)+1)] 3 (g:=w7.heap.size) rfl;rwa [show ((tn:Int)+1)=((tn+1:Nat):Int) from by omega] at h⊢
         have o2:=zh j9;have i3:=zh ((hE.out.trans b5).alloc (.cells #[.int .i64 ((tn:Int)+1)] 3));have q8:Hid (w4.heap.size<=w7.heap.size):=(hE.out.trans b5).size;have q3:Hid ((w7.alloc (.cells #[.int .i64 ((tn:Int)+1)] 3)).cell? ⟨w7.heap.size,0,none⟩=some (.int .i64 ((tn:Int)+1))):=zQ _ _ _ rfl;have k3:Hid (wk.cell? ⟨g5,0,none⟩=some (.int .i64 tn)):=ct0;clear j9;go_roundw
         case rel=>exact ⟨tn+1,w7.heap.size,rfl,by omega,by omega,HN,q8,o2,i3⟩
         case measure=>
          simp only [q3.out,k3.out];omega
     ·have n8:¬ ((tn:Int)<(m.tasks.length:Int)):=by omega
      have s6:Hid (cutT m ch=none):=cutT_no (fun j h1 h2=>b8.out j (by rw [b1.out];exact h1) (by omega));have l3:=zh hE.out;clear b8 g0 z5 r9 D7 M hE;go_upto_region 15 with fail;have l7:=zj.new wk #[.int .i64 c,.slice none 0 0,.slice none 0 0] 27 (g:=wk.heap.size) rfl;have f7:zc wk (wk.alloc (.cells #[.int .i64 c,.slice none 0 0,.slice none 0 0] 27)):=(zc.refl wk).alloc _;generalize wk.alloc _=w5 at l7 f7⊢;obtain ⟨gp,q5⟩:=EH wk.heap.size;rw [<-q5] at l7⊢;have D1:Hid (gs+1<gp):=by show _<_;rw [q5];exact Ee (zb i2.out) l3.out.size
      have s3:=zh l7;have I:=zh f7;have E0:=f7;clear l7 q5 f7
      go_wp2_with fail
      refine (CF w5 (f5.out.more I.out).maze HL.out (f5.out.more I.out).chs (by have:=h9.out;omega)).mono ?_;rintro e w6 ⟨v6,rfl,f8⟩;have x6:(zT m ch).length<=400000000000:=by unfold zT;split;exact CM HL.out ch;simp
      have t0:Hid (∀n∈zT m ch,zw m (ch++[n])):=fun n hn=>by
       have:zT m ch=Bc m ch:=by unfold zT;rw [if_pos (okC_of HC.out HI.out)]
       rw [this] at hn;exact .snoc HI.out hn
      have f1:=zh f8.ints;have V:=zh f8.ext;have i0:Hid (zr m (fl+1) ch k=if (zO (fun n k=>zr m fl (ch++[n]) k) (zT m ch) (k+1) []).1=0 then (0,.node (zS m ch) [] (zO (fun n k=>zr m fl (ch++[n]) k) (zT m ch) (k+1) []).2.1,(zO (fun n k=>zr m fl (ch++[n]) k) (zT m ch) (k+1) []).2.2) else ((zO (fun n k=>zr m fl (ch++[n]) k) (zT m ch) (k+1) []).1,.zero,(zO (fun n k=>zr m fl (ch++[n]) k) (zT m ch) (k+1) []).2.2)):=proveP_kids d9.out d5 s6.out;obtain ⟨L,hL⟩:=EH (zT m ch);rw [<-hL] at t0 f1 i0 x6;clear f8 hL;obtain ⟨F,hF⟩:∃F:Int->Nat->Int×PT×Nat,F=fun n k=>zr m fl (ch++[n]) k:=⟨_,rfl⟩
      rw [<-hF] at i0;have o4:=zh hF;clear hF E0 ct0 rt r0 r1 r2 r3 r4 r5 r6 r7 r8 n8;obtain ⟨AL,cL,rfl,-,A7⟩:=f1.out;have C5:=zh A7;clear A7
      have C9:Hid (zj w6 gx 86 #[.int .i64 ((k+1:Nat):Int)]):=by
       have h:=((f6.out.ext l3.out).ext I.out).ext V.out
       rwa [show ((k:Int)+1)=((k+1:Nat):Int) from by omega] at h
      have B2:=zh ((b0.out.ext I.out).ext V.out);have t8:=zh (s3.out.ext V.out);have D0:=zh (((i2.out.ext l3.out).ext I.out).ext V.out);have E9:=zh ((f5.out.more I.out).more V.out);have i1:Hid (zm (fun b=>b=gx) w w6):=U.out.trans (zm.of_ext (X:=fun b=>b=gx) ((l3.out.trans I.out).trans V.out)) (fun _ _ h=>h);have o:Hid (gp<w6.heap.size/\gx<gs/\gs+1<gp):=⟨zb t8.out,i7.out,D1.out⟩
      go_wp2_with fail
      have x7:=x6;have B9:Hid (k+1<=3000):=by show _<=_;omega
      have C0:Hid (AA w6 w6.heap.size (.slice none 0 0) [] []):=AA.nil _ _;clear x7;go_loopw [73] (fun v wr=>∃(j kk:Nat) (acc:List PT) (vk:Value) (cs:List Value),v=.int .i64 j/\j<=L.length/\Hid (acc.length=j)/\Hid (kk<=3000)/\Hid (zO F L (k+1) []=zO F (L.drop j) kk acc)/\Hid (zm (fun b=>b=gx\/b=gp) w6 wr)/\Hid (zj wr gx 86 #[.int .i64 kk])/\Hid (zj wr gp 27 #[.int .i64 c,.slice none 0 0,vk])/\Hid (AA wr w6.heap.size vk acc cs)) (fun v _=>L.length - (intOf v).toNat)
      case atStart=>exact ⟨0,k+1,[],.slice none 0 0,[],rfl,DR _,rfl,B9.out,rfl,zm.refl _ _,C9.out,t8.out,C0.out⟩
      case round=>
       obtain ⟨j,kk,acc,vk,cs,rfl,hj,G,a8,e9,B,f9,a6,E⟩:=hrel;obtain ⟨wk',rfl⟩:∃wk':World,wk'=wr:=⟨_,rfl⟩;by_cases h7:j<L.length
       ·have F1:(0:Int)<=(j:Int):=by omega
        have D4:(j:Int)<(L.length:Int):=by omega
        obtain ⟨bl,offl,rfl,z4,n6⟩:=Ae C5.out h7 h7;have E4:Hid (w5.heap.size<=bl):=z4;have B6:Hid (gp<w5.heap.size):=zb s3.out;have z6:wk'.cell? ⟨bl,offl+j,none⟩=some (.int .i64 L[j]):=B.out.cellk n6 (by have:=o.out;have:=B6.out;show ¬ (bl=gx\/bl=gp);omega);have b2:Hid (zw m (ch++[L[j]])):=t0.out _ (DD h7);have d8:Hid (L.drop j=L[j] :: L.drop (j+1)):=List.drop_eq_getElem_cons h7;obtain ⟨n,hn⟩:=EH (L[j]);rw [<-hn] at z6 b2 d8;have b4:=B2.out
        have v4:Hid (PSt wk' ok m (.slice Af m.free.length cf) (.slice Au m.up.length cu) (.slice At m.tasks.length ct) (.slice Ac ch.length cc) (.slice Ap PL cp) ch):=H.out.keep (fun b hb M=>by
         have h1:=i9.out b hb;have h2:=o.out;have h3:=f0.out;exact (B.out.block b (Ee M i1.out.size) (by omega)).trans (i1.out.block b M h1))
        have rul:∀{i:Nat} {v:Value},w6.cell? ⟨gs,i,none⟩=some v->∀W,zm (fun b=>b=gx\/b=gp) w6 W->W.cell? ⟨gs,i,none⟩=some v:=fun h W hW=>hW.cellk h (by have:=o.out;show ¬ (gs=gx\/gs=gp);omega)
        have r0:=rul (b4.cell (k:=0) rfl);have r1:=rul (b4.cell (k:=1) rfl);have r2:=rul (b4.cell (k:=2) rfl);have r3:=rul (b4.cell (k:=3) rfl);have r4:=rul (b4.cell (k:=4) rfl);have r5:=rul (b4.cell (k:=5) rfl);have r6:=rul (b4.cell (k:=6) rfl);have r7:=rul (b4.cell (k:=7) rfl);have r8:=rul (b4.cell (k:=8) rfl);obtain ⟨wq,rfl⟩:∃wq:World,wq=wk':=⟨_,rfl⟩;clear rul b4 n6 z4 hn;go_upto_region 18 with fail;clear z6;refine DT (S:=(fun W=>zm (fun b=>b=gx\/b=gp) w6 W)) zN (zm.trans B.out (zm.of_ext (X:=fun b=>b=gx\/b=gp) (zc.refl wq).drew) (fun _ _ h=>h)) fun zH=>?_;have b3:Hid (zc wq wq.drew):=(zc.refl wq).drew;generalize wq.drew=wd at zH b3⊢;refine ze 0 zH ?_;refine ze 2 zH ?_;simp only [za,Dz];refine ze 3 zH ?_;refine ze 4 zH ?_;simp only [za,Dz];refine rdA [1,5] ?_;refine Ed rfl (fun K d=>?_) ?_
        ·have cg1:wd.cell? ⟨gp,2,none⟩=some vk:=zm.cellk (zm.of_ext (X:=fun b=>b=gx) b3.out) (a6.out.cell (k:=2) rfl) (by have:=o.out;show ¬ (gp=gx);omega);go_simp;clear cg1;refine EI d (zm.trans B.out (zm.wide (zm.of_ext (X:=fun b=>b=gx) b3.out) (X':=fun b=>b=gx\/b=gp) (fun k h=>.inl h)) (fun _ _ h=>h)) fun zH=>?_;clear d K;try simp only [za,Dz]
         refine zC 5 fun K d=>?_;go_simp;go_at_call 78;refine (Dq c n wd (v4.out.more b3.out) HL.out HC.out b2.out h9.out.2).mono ?_;rintro e w2 ⟨vc2,vp2,rfl,x3,x8⟩;have i6:Hid (zc wq w2):=b3.out.trans x3;have C3:=zh x8;clear x3 x8;refine EI d (zm.trans B.out (zm.wide (zm.of_ext (X:=fun b=>b=gx) i6.out) (X':=fun b=>b=gx\/b=gp) (fun k h=>.inl h)) (fun _ _ h=>h)) fun zH=>?_;clear d K;try simp only [za,Dz]
         refine zC 6 fun K d=>?_;go_simp;go_at_call 50;refine (IH.out (ch++[n]) kk gx _ vc2 vp2 w2 C3.out b2.out (by have:=HF.out;rw [DK,Ec];omega) a8.out (i6.out.cellB f9.out) (fun b hb=>by have h1:=i9.out;have h2:=b3.out.size;have h3:=zb f9.out;rcases hb with hb | hb;exact h1 b hb;omega)).mono ?_;obtain ⟨r3,q7⟩:∃r:Int×PT×Nat,r=zr m fl (ch++[n]) kk:=⟨_,rfl⟩;rw [<-q7];have o6:=zh q7;have g7:Hid (F n kk=r3):=by (show _=_);rw [o4.out];exact o6.out.symm
         clear q7;rintro e w3 ⟨p3,(⟨h0,v3,rfl,p6,z3⟩ | ⟨h0,rfl⟩)⟩
         rotate_left
         ·go_wp2;refine ⟨rfl,?_⟩;exact prove_fin3 (x:=zr m (fl+1) ch k) i1.out B.out o.out f0.out (zm.trans (zm.of_ext (X:=fun b=>b=gx) i6.out) p3 (fun _ _ h=>h)) (by rw [i0.out];exact (prove_err (F:=F) (n:=n) (l:=L.drop (j+1)) (k:=kk) (acc:=acc) (by rw [g7.out];exact h0) (e9.out.trans (by rw [d8.out]))).trans (by rw [g7.out])) h0
         have s4:Hid (zm (fun b=>b=gx) wq w3):=zm.trans (zm.of_ext (X:=fun b=>b=gx) i6.out) p3 (fun _ _ h=>h);obtain ⟨As3,cs3,Ak3,ck3,rfl,-⟩:=p6.form;have C4:=zh p6;have j2:=zh z3;have x2:=zh h0;have m7:Hid (wq.heap.size<=w2.heap.size):=i6.out.size;clear p3 p6 z3 h0;refine EI d (zm.trans B.out (zm.wide (s4.out) (X':=fun b=>b=gx\/b=gp) (fun k h=>.inl h)) (fun _ _ h=>h)) fun zH=>?_;clear d K;try simp only [za,Dz]
         refine zC 7 fun K d=>?_;go_simp;have e4:=zj.new w3 #[.int .i64 r3.2.1.task,.slice As3 r3.2.1.side.length cs3,.slice Ak3 r3.2.1.kids.length ck3] 27 (g:=w3.heap.size) rfl;have hA4:zc w3 (w3.alloc (.cells #[.int .i64 r3.2.1.task,.slice As3 r3.2.1.side.length cs3,.slice Ak3 r3.2.1.kids.length ck3] 27)):=(zc.refl w3).alloc _;generalize w3.alloc _=w4 at e4 hA4⊢;generalize w3.heap.size=g4 at e4⊢;have l1:=zh e4;have U:Hid (zm (fun b=>b=gx) wq w4):=zm.trans (s4.out) (zm.of_ext (X:=fun b=>b=gx) hA4) (fun _ _ h=>h);have o5:=zh (C4.out.ext hA4);have f6:=zh (j2.out.ext hA4);clear e4 hA4;refine EI d (zm.trans B.out (zm.wide (U.out) (X':=fun b=>b=gx\/b=gp) (fun k h=>.inl h)) (fun _ _ h=>h)) fun zH=>?_;clear d K;try simp only [za,Dz]
         refine zC 8 fun K d=>?_;have s9:Hid (AA w4 w6.heap.size vk acc cs):=E.out.chg (U.out) (fun b hb e=>by have:=o.out;omega);refine zZ (ok:=fun _=>True) (by rfl) w4 _ _ eProof (by rfl) w6.heap.size acc.length 1 cs _ vk _ (by rfl) (by rfl) s9.out.own (Cc l1.out) (fun u hu=>by simp at hu;rcases hu with rfl | rfl | rfl <;> rfl) (by have h1:=B.out.size;have h2:=zm.size (U.out);omega) (by have:=G.out;unfold maxLen;omega) (by have:=G.out;omega) ?_;intro v5 w5 q6 g0 A8;have C2:=zh (show AA w5 w6.heap.size _ (acc++[r3.2.1]) (cs++[.int .i64 r3.2.1.task,.slice As3 r3.2.1.side.length cs3,.slice Ak3 r3.2.1.kids.length ck3]) from s9.out.app (lo:=w2.heap.size) o5.out (fun k hk=>by have h1:=E.out.lt hk;have h2:=m7.out;omega) (by have h1:=B.out.size;have h2:=m7.out;omega) q6 g0 A8);have l2:Hid (zm (fun b=>b=gx\/b=gp) w6 w5):=zm.grown (zm.trans B.out (zm.wide (U.out) (X':=fun b=>b=gx\/b=gp) (fun k h=>.inl h)) (fun _ _ h=>h)) g0 (fun k hk M=>by have h1:=E.out.lt hk;omega);obtain ⟨A5,c5,e5,-,-⟩:=An.of_own q6;subst e5;have j0:Hid (zj w5 gp 27 #[.int .i64 c,.slice none 0 0,vk]):=(g0.block gp (by have h1:=o.out.1;have h2:=B.out.size;have h3:=zm.size (U.out);omega) (fun e=>by have h1:=E.out.lt e.symm;have h2:=o.out;omega)).trans (zm.blk (U.out) a6.out (by have:=o.out;omega));have C8:Hid (zj w5 gx 86 #[.int .i64 r3.2.2]):=(g0.block gx (zb f6.out) (fun e=>by have h1:=E.out.lt e.symm;have h2:=o.out;omega)).trans f6.out;clear q6 g0 A8;refine EI d (l2.out) fun zH=>?_;clear d K;try simp only [za,Dz]
         refine zC 9 fun K d=>?_;go_simp;refine EI d (l2.out) fun zH=>?_;clear d K;try simp only [za,Dz]
         refine zC 10 fun K d=>?_;have cg7:=j0.out.cell (k:=2) rfl;have fg7:=j0.out.frozen 2;go_simp;clear cg7 fg7;refine EI d (zm.set (l2.out) gp 2 (.slice A5 (acc.length+1) c5) (.inr rfl)) fun zH=>?_;clear d K;try simp only [za,Dz]
         refine Eg (by kernel_rfl) ?_ _;have a4:Hid (zm (fun b=>b=gx\/b=gp) w6 (w5.setCell ⟨gp,2,none⟩ (.slice A5 (acc.length+1) c5))):=zm.set (l2.out) gp 2 (.slice A5 (acc.length+1) c5) (.inr rfl);have J:Hid (zj (w5.setCell ⟨gp,2,none⟩ (.slice A5 (acc.length+1) c5)) gp 27 #[.int .i64 c,.slice none 0 0,(.slice A5 (acc.length+1) c5)]):=j0.out.set (k:=2) (.slice A5 (acc.length+1) c5);have a5:Hid (zj (w5.setCell ⟨gp,2,none⟩ (.slice A5 (acc.length+1) c5)) gx 86 #[.int .i64 r3.2.2]):=C8.out.setOther (a:=⟨gp,2,none⟩) (by have:=o.out;show gx≠gp;omega) (.slice A5 (acc.length+1) c5);have a3:=zh (C2.out.chg (zm.set (X:=fun b=>b=gp) (zm.refl _ w5) gp 2 (.slice A5 (acc.length+1) c5) rfl) (fun b hb e=>by have:=o.out;omega));generalize w5.setCell ⟨gp,2,none⟩ (.slice A5 (acc.length+1) c5)=wz at a4 J a5 a3⊢;have hF1:(F n kk).1=0:=by rw [g7.out];exact x2.out
         have a2:Hid (zO F L (k+1) []=zO F (L.drop (j+1)) r3.2.2 (acc++[r3.2.1])):=by (show _=_);rw [e9.out,d8.out,Da hF1,g7.out]
         have a1:Hid (r3.2.2<=3000):=by (show _<=_);have h:=(Cp HC.out fl (ch++[n]) kk b2.out a8.out (by rw [<-o6.out];exact x2.out)).2.2;rw [<-o6.out] at h;exact h
         clear hF1;go_wp2;go_roundw
         case rel=>exact ⟨j+1,_,_,_,_,by go_num,by omega,by (show _=_);rw [DK,G.out];rfl,a1.out,a2.out,a4.out,a5.out,J.out,a3.out⟩
         case measure=>simp [intOf];omega
        refine Ed rfl (fun K d=>?_) .nil;go_simp;go_at_call 78;refine (Dq c n wd (v4.out.more b3.out) HL.out HC.out b2.out h9.out.2).mono ?_;rintro e w8 ⟨vc8,vp8,rfl,i3,x9⟩;have a0:Hid (zc wq w8):=b3.out.trans i3;have t9:=zh x9;clear i3 x9;refine EI d (zm.trans B.out (zm.wide (zm.of_ext (X:=fun b=>b=gx) a0.out) (X':=fun b=>b=gx\/b=gp) (fun k h=>.inl h)) (fun _ _ h=>h)) fun zH=>?_;clear d K;try simp only [za,Dz]
        refine rdA [1,6] ?_;refine Ed rfl (fun K d=>?_) ?_
        ·have cg9:w8.cell? ⟨gp,2,none⟩=some vk:=zm.cellk (zm.of_ext (X:=fun b=>b=gx) a0.out) (a6.out.cell (k:=2) rfl) (by have:=o.out;show ¬ (gp=gx);omega);go_simp;clear cg9;refine EI d (zm.trans B.out (zm.wide (zm.of_ext (X:=fun b=>b=gx) a0.out) (X':=fun b=>b=gx\/b=gp) (fun k h=>.inl h)) (fun _ _ h=>h)) fun zH=>?_;clear d K;try simp only [za,Dz]
         refine zC 6 fun K d=>?_;go_simp;go_at_call 50;refine (IH.out (ch++[n]) kk gx _ vc8 vp8 w8 t9.out b2.out (by have:=HF.out;rw [DK,Ec];omega) a8.out (a0.out.cellB f9.out) (fun b hb=>by have h1:=i9.out;have h2:=b3.out.size;have h3:=zb f9.out;rcases hb with hb | hb;exact h1 b hb;omega)).mono ?_;obtain ⟨r10,k7⟩:∃r:Int×PT×Nat,r=zr m fl (ch++[n]) kk:=⟨_,rfl⟩;rw [<-k7];have j1:=zh k7;have b9:Hid (F n kk=r10):=by (show _=_);rw [o4.out];exact j1.out.symm
         clear k7;rintro e w10 ⟨j3,(⟨h0,v10,rfl,j6,n4⟩ | ⟨h0,rfl⟩)⟩
         rotate_left
         ·go_wp2;refine ⟨rfl,?_⟩;exact prove_fin3 (x:=zr m (fl+1) ch k) i1.out B.out o.out f0.out (zm.trans (zm.of_ext (X:=fun b=>b=gx) a0.out) j3 (fun _ _ h=>h)) (by rw [i0.out];exact (prove_err (F:=F) (n:=n) (l:=L.drop (j+1)) (k:=kk) (acc:=acc) (by rw [b9.out];exact h0) (e9.out.trans (by rw [d8.out]))).trans (by rw [b9.out])) h0
         have m2:Hid (zm (fun b=>b=gx) wq w10):=zm.trans (zm.of_ext (X:=fun b=>b=gx) a0.out) j3 (fun _ _ h=>h);obtain ⟨As10,cs10,Ak10,ck10,rfl,-⟩:=j6.form;have t4:=zh j6;have v8:=zh n4;have n3:=zh h0;have i8:Hid (wq.heap.size<=w8.heap.size):=a0.out.size;clear j3 j6 n4 h0;refine EI d (zm.trans B.out (zm.wide (m2.out) (X':=fun b=>b=gx\/b=gp) (fun k h=>.inl h)) (fun _ _ h=>h)) fun zH=>?_;clear d K;try simp only [za,Dz]
         refine zC 7 fun K d=>?_;go_simp;have g9:=zj.new w10 #[.int .i64 r10.2.1.task,.slice As10 r10.2.1.side.length cs10,.slice Ak10 r10.2.1.kids.length ck10] 27 (g:=w10.heap.size) rfl;have hA11:zc w10 (w10.alloc (.cells #[.int .i64 r10.2.1.task,.slice As10 r10.2.1.side.length cs10,.slice Ak10 r10.2.1.kids.length ck10] 27)):=(zc.refl w10).alloc _;generalize w10.alloc _=w11 at g9 hA11⊢;generalize w10.heap.size=g11 at g9⊢;have s0:=zh g9;have b6:Hid (zm (fun b=>b=gx) wq w11):=zm.trans (m2.out) (zm.of_ext (X:=fun b=>b=gx) hA11) (fun _ _ h=>h);have t5:=zh (t4.out.ext hA11);have m9:=zh (v8.out.ext hA11);clear g9 hA11;refine EI d (zm.trans B.out (zm.wide (b6.out) (X':=fun b=>b=gx\/b=gp) (fun k h=>.inl h)) (fun _ _ h=>h)) fun zH=>?_;clear d K;try simp only [za,Dz]
         refine zC 8 fun K d=>?_;have m3:Hid (AA w11 w6.heap.size vk acc cs):=E.out.chg (b6.out) (fun b hb e=>by have:=o.out;omega);refine zZ (ok:=fun _=>True) (by rfl) w11 _ _ eProof (by rfl) w6.heap.size acc.length 1 cs _ vk _ (by rfl) (by rfl) m3.out.own (Cc s0.out) (fun u hu=>by simp at hu;rcases hu with rfl | rfl | rfl <;> rfl) (by have h1:=B.out.size;have h2:=zm.size (b6.out);omega) (by have:=G.out;unfold maxLen;omega) (by have:=G.out;omega) ?_;intro v12 w12 k4 e6 n9;have t1:=zh (show AA w12 w6.heap.size _ (acc++[r10.2.1]) (cs++[.int .i64 r10.2.1.task,.slice As10 r10.2.1.side.length cs10,.slice Ak10 r10.2.1.kids.length ck10]) from m3.out.app (lo:=w8.heap.size) t5.out (fun k hk=>by have h1:=E.out.lt hk;have h2:=i8.out;omega) (by have h1:=B.out.size;have h2:=i8.out;omega) k4 e6 n9);have g1:Hid (zm (fun b=>b=gx\/b=gp) w6 w12):=zm.grown (zm.trans B.out (zm.wide (b6.out) (X':=fun b=>b=gx\/b=gp) (fun k h=>.inl h)) (fun _ _ h=>h)) e6 (fun k hk M=>by have h1:=E.out.lt hk;omega);obtain ⟨A12,c12,e12,-,-⟩:=An.of_own k4;subst e12;have f2:Hid (zj w12 gp 27 #[.int .i64 c,.slice none 0 0,vk]):=(e6.block gp (by have h1:=o.out.1;have h2:=B.out.size;have h3:=zm.size (b6.out);omega) (fun e=>by have h1:=E.out.lt e.symm;have h2:=o.out;omega)).trans (zm.blk (b6.out) a6.out (by have:=o.out;omega));have v9:Hid (zj w12 gx 86 #[.int .i64 r10.2.2]):=(e6.block gx (zb m9.out) (fun e=>by have h1:=E.out.lt e.symm;have h2:=o.out;omega)).trans m9.out;clear k4 e6 n9;refine EI d (g1.out) fun zH=>?_;clear d K;try simp only [za,Dz]
         refine zC 9 fun K d=>?_;go_simp;refine EI d (g1.out) fun zH=>?_;clear d K;try simp only [za,Dz]
         refine zC 10 fun K d=>?_;have cg14:=f2.out.cell (k:=2) rfl;have fg14:=f2.out.frozen 2;go_simp;clear cg14 fg14;refine EI d (zm.set (g1.out) gp 2 (.slice A12 (acc.length+1) c12) (.inr rfl)) fun zH=>?_;clear d K;try simp only [za,Dz]
         refine Eg (by kernel_rfl) ?_ _;have a4:Hid (zm (fun b=>b=gx\/b=gp) w6 (w12.setCell ⟨gp,2,none⟩ (.slice A12 (acc.length+1) c12))):=zm.set (g1.out) gp 2 (.slice A12 (acc.length+1) c12) (.inr rfl);have J:Hid (zj (w12.setCell ⟨gp,2,none⟩ (.slice A12 (acc.length+1) c12)) gp 27 #[.int .i64 c,.slice none 0 0,(.slice A12 (acc.length+1) c12)]):=f2.out.set (k:=2) (.slice A12 (acc.length+1) c12);have a5:Hid (zj (w12.setCell ⟨gp,2,none⟩ (.slice A12 (acc.length+1) c12)) gx 86 #[.int .i64 r10.2.2]):=v9.out.setOther (a:=⟨gp,2,none⟩) (by have:=o.out;show gx≠gp;omega) (.slice A12 (acc.length+1) c12);have a3:=zh (t1.out.chg (zm.set (X:=fun b=>b=gp) (zm.refl _ w12) gp 2 (.slice A12 (acc.length+1) c12) rfl) (fun b hb e=>by have:=o.out;omega));generalize w12.setCell ⟨gp,2,none⟩ (.slice A12 (acc.length+1) c12)=wz at a4 J a5 a3⊢;have hF1:(F n kk).1=0:=by rw [b9.out];exact n3.out
         have a2:Hid (zO F L (k+1) []=zO F (L.drop (j+1)) r10.2.2 (acc++[r10.2.1])):=by (show _=_);rw [e9.out,d8.out,Da hF1,b9.out]
         have a1:Hid (r10.2.2<=3000):=by (show _<=_);have h:=(Cp HC.out fl (ch++[n]) kk b2.out a8.out (by rw [<-j1.out];exact n3.out)).2.2;rw [<-j1.out] at h;exact h
         clear hF1;go_wp2;go_roundw
         case rel=>exact ⟨j+1,_,_,_,_,by go_num,by omega,by (show _=_);rw [DK,G.out];rfl,a1.out,a2.out,a4.out,a5.out,J.out,a3.out⟩
         case measure=>simp [intOf];omega
        refine Ed rfl (fun K d=>?_) .nil;go_simp;go_at_call 50;refine (IH.out (ch++[n]) kk gx _ vc8 vp8 w8 t9.out b2.out (by have:=HF.out;rw [DK,Ec];omega) a8.out (a0.out.cellB f9.out) (fun b hb=>by have h1:=i9.out;have h2:=b3.out.size;have h3:=zb f9.out;rcases hb with hb | hb;exact h1 b hb;omega)).mono ?_;obtain ⟨r15,k8⟩:∃r:Int×PT×Nat,r=zr m fl (ch++[n]) kk:=⟨_,rfl⟩;rw [<-k8];have e0:=zh k8;have O:Hid (F n kk=r15):=by (show _=_);rw [o4.out];exact e0.out.symm
        clear k8;rintro e w15 ⟨j4,(⟨h0,v15,rfl,j7,n5⟩ | ⟨h0,rfl⟩)⟩
        rotate_left
        ·go_wp2;refine ⟨rfl,?_⟩;exact prove_fin3 (x:=zr m (fl+1) ch k) i1.out B.out o.out f0.out (zm.trans (zm.of_ext (X:=fun b=>b=gx) a0.out) j4 (fun _ _ h=>h)) (by rw [i0.out];exact (prove_err (F:=F) (n:=n) (l:=L.drop (j+1)) (k:=kk) (acc:=acc) (by rw [O.out];exact h0) (e9.out.trans (by rw [d8.out]))).trans (by rw [O.out])) h0
        have d7:Hid (zm (fun b=>b=gx) wq w15):=zm.trans (zm.of_ext (X:=fun b=>b=gx) a0.out) j4 (fun _ _ h=>h);obtain ⟨As15,cs15,Ak15,ck15,rfl,-⟩:=j7.form;have m8:=zh j7;have n0:=zh n5;have g8:=zh h0;have c9:Hid (wq.heap.size<=w8.heap.size):=a0.out.size;clear j4 j7 n5 h0;refine EI d (zm.trans B.out (zm.wide (d7.out) (X':=fun b=>b=gx\/b=gp) (fun k h=>.inl h)) (fun _ _ h=>h)) fun zH=>?_;clear d K;try simp only [za,Dz]
        refine rdA [1,7] ?_;refine Ed rfl (fun K d=>?_) ?_
        ·have cg16:w15.cell? ⟨gp,2,none⟩=some vk:=zm.cellk (d7.out) (a6.out.cell (k:=2) rfl) (by have:=o.out;show ¬ (gp=gx);omega);go_simp;clear cg16;refine EI d (zm.trans B.out (zm.wide (d7.out) (X':=fun b=>b=gx\/b=gp) (fun k h=>.inl h)) (fun _ _ h=>h)) fun zH=>?_;clear d K;try simp only [za,Dz]
         refine zC 7 fun K d=>?_;go_simp;have h4:=zj.new w15 #[.int .i64 r15.2.1.task,.slice As15 r15.2.1.side.length cs15,.slice Ak15 r15.2.1.kids.length ck15] 27 (g:=w15.heap.size) rfl;have hA17:zc w15 (w15.alloc (.cells #[.int .i64 r15.2.1.task,.slice As15 r15.2.1.side.length cs15,.slice Ak15 r15.2.1.kids.length ck15] 27)):=(zc.refl w15).alloc _;generalize w15.alloc _=w17 at h4 hA17⊢;generalize w15.heap.size=g17 at h4⊢;have s1:=zh h4;have b7:Hid (zm (fun b=>b=gx) wq w17):=zm.trans (d7.out) (zm.of_ext (X:=fun b=>b=gx) hA17) (fun _ _ h=>h);have t6:=zh (m8.out.ext hA17);have n1:=zh (n0.out.ext hA17);clear h4 hA17;refine EI d (zm.trans B.out (zm.wide (b7.out) (X':=fun b=>b=gx\/b=gp) (fun k h=>.inl h)) (fun _ _ h=>h)) fun zH=>?_;clear d K;try simp only [za,Dz]
         refine zC 8 fun K d=>?_;have m4:Hid (AA w17 w6.heap.size vk acc cs):=E.out.chg (b7.out) (fun b hb e=>by have:=o.out;omega);refine zZ (ok:=fun _=>True) (by rfl) w17 _ _ eProof (by rfl) w6.heap.size acc.length 1 cs _ vk _ (by rfl) (by rfl) m4.out.own (Cc s1.out) (fun u hu=>by simp at hu;rcases hu with rfl | rfl | rfl <;> rfl) (by have h1:=B.out.size;have h2:=zm.size (b7.out);omega) (by have:=G.out;unfold maxLen;omega) (by have:=G.out;omega) ?_;intro v18 w18 k5 e7 o0;have t2:=zh (show AA w18 w6.heap.size _ (acc++[r15.2.1]) (cs++[.int .i64 r15.2.1.task,.slice As15 r15.2.1.side.length cs15,.slice Ak15 r15.2.1.kids.length ck15]) from m4.out.app (lo:=w8.heap.size) t6.out (fun k hk=>by have h1:=E.out.lt hk;have h2:=c9.out;omega) (by have h1:=B.out.size;have h2:=c9.out;omega) k5 e7 o0);have g3:Hid (zm (fun b=>b=gx\/b=gp) w6 w18):=zm.grown (zm.trans B.out (zm.wide (b7.out) (X':=fun b=>b=gx\/b=gp) (fun k h=>.inl h)) (fun _ _ h=>h)) e7 (fun k hk M=>by have h1:=E.out.lt hk;omega);obtain ⟨A18,c18,e18,-,-⟩:=An.of_own k5;subst e18;have f3:Hid (zj w18 gp 27 #[.int .i64 c,.slice none 0 0,vk]):=(e7.block gp (by have h1:=o.out.1;have h2:=B.out.size;have h3:=zm.size (b7.out);omega) (fun e=>by have h1:=E.out.lt e.symm;have h2:=o.out;omega)).trans (zm.blk (b7.out) a6.out (by have:=o.out;omega));have w0:Hid (zj w18 gx 86 #[.int .i64 r15.2.2]):=(e7.block gx (zb n1.out) (fun e=>by have h1:=E.out.lt e.symm;have h2:=o.out;omega)).trans n1.out;clear k5 e7 o0;refine EI d (g3.out) fun zH=>?_;clear d K;try simp only [za,Dz]
         refine zC 9 fun K d=>?_;go_simp;refine EI d (g3.out) fun zH=>?_;clear d K;try simp only [za,Dz]
         refine zC 10 fun K d=>?_;have cg20:=f3.out.cell (k:=2) rfl;have fg20:=f3.out.frozen 2;go_simp;clear cg20 fg20;refine EI d (zm.set (g3.out) gp 2 (.slice A18 (acc.length+1) c18) (.inr rfl)) fun zH=>?_;clear d K;try simp only [za,Dz]
         refine Eg (by kernel_rfl) ?_ _;have a4:Hid (zm (fun b=>b=gx\/b=gp) w6 (w18.setCell ⟨gp,2,none⟩ (.slice A18 (acc.length+1) c18))):=zm.set (g3.out) gp 2 (.slice A18 (acc.length+1) c18) (.inr rfl);have J:Hid (zj (w18.setCell ⟨gp,2,none⟩ (.slice A18 (acc.length+1) c18)) gp 27 #[.int .i64 c,.slice none 0 0,(.slice A18 (acc.length+1) c18)]):=f3.out.set (k:=2) (.slice A18 (acc.length+1) c18);have a5:Hid (zj (w18.setCell ⟨gp,2,none⟩ (.slice A18 (acc.length+1) c18)) gx 86 #[.int .i64 r15.2.2]):=w0.out.setOther (a:=⟨gp,2,none⟩) (by have:=o.out;show gx≠gp;omega) (.slice A18 (acc.length+1) c18);have a3:=zh (t2.out.chg (zm.set (X:=fun b=>b=gp) (zm.refl _ w18) gp 2 (.slice A18 (acc.length+1) c18) rfl) (fun b hb e=>by have:=o.out;omega));generalize w18.setCell ⟨gp,2,none⟩ (.slice A18 (acc.length+1) c18)=wz at a4 J a5 a3⊢;have hF1:(F n kk).1=0:=by rw [O.out];exact g8.out
         have a2:Hid (zO F L (k+1) []=zO F (L.drop (j+1)) r15.2.2 (acc++[r15.2.1])):=by (show _=_);rw [e9.out,d8.out,Da hF1,O.out]
         have a1:Hid (r15.2.2<=3000):=by (show _<=_);have h:=(Cp HC.out fl (ch++[n]) kk b2.out a8.out (by rw [<-e0.out];exact g8.out)).2.2;rw [<-e0.out] at h;exact h
         clear hF1;go_wp2;go_roundw
         case rel=>exact ⟨j+1,_,_,_,_,by go_num,by omega,by (show _=_);rw [DK,G.out];rfl,a1.out,a2.out,a4.out,a5.out,J.out,a3.out⟩
         case measure=>simp [intOf];omega
        refine Ed rfl (fun K d=>?_) .nil;go_simp;have h5:=zj.new w15 #[.int .i64 r15.2.1.task,.slice As15 r15.2.1.side.length cs15,.slice Ak15 r15.2.1.kids.length ck15] 27 (g:=w15.heap.size) rfl;have hA21:zc w15 (w15.alloc (.cells #[.int .i64 r15.2.1.task,.slice As15 r15.2.1.side.length cs15,.slice Ak15 r15.2.1.kids.length ck15] 27)):=(zc.refl w15).alloc _;generalize w15.alloc _=w21 at h5 hA21⊢;generalize w15.heap.size=g21 at h5⊢;have s2:=zh h5;have Q:Hid (zm (fun b=>b=gx) wq w21):=zm.trans (d7.out) (zm.of_ext (X:=fun b=>b=gx) hA21) (fun _ _ h=>h);have t7:=zh (m8.out.ext hA21);have n2:=zh (n0.out.ext hA21);clear h5 hA21;refine EI d (zm.trans B.out (zm.wide (Q.out) (X':=fun b=>b=gx\/b=gp) (fun k h=>.inl h)) (fun _ _ h=>h)) fun zH=>?_;clear d K;try simp only [za,Dz]
        refine zC 1 fun K d=>?_;have cg22:w21.cell? ⟨gp,2,none⟩=some vk:=zm.cellk (Q.out) (a6.out.cell (k:=2) rfl) (by have:=o.out;show ¬ (gp=gx);omega);go_simp;clear cg22;refine EI d (zm.trans B.out (zm.wide (Q.out) (X':=fun b=>b=gx\/b=gp) (fun k h=>.inl h)) (fun _ _ h=>h)) fun zH=>?_;clear d K;try simp only [za,Dz]
        refine zC 8 fun K d=>?_;have m5:Hid (AA w21 w6.heap.size vk acc cs):=E.out.chg (Q.out) (fun b hb e=>by have:=o.out;omega);refine zZ (ok:=fun _=>True) (by rfl) w21 _ _ eProof (by rfl) w6.heap.size acc.length 1 cs _ vk _ (by rfl) (by rfl) m5.out.own (Cc s2.out) (fun u hu=>by simp at hu;rcases hu with rfl | rfl | rfl <;> rfl) (by have h1:=B.out.size;have h2:=zm.size (Q.out);omega) (by have:=G.out;unfold maxLen;omega) (by have:=G.out;omega) ?_;intro v23 w23 k6 e8 o1;have t3:=zh (show AA w23 w6.heap.size _ (acc++[r15.2.1]) (cs++[.int .i64 r15.2.1.task,.slice As15 r15.2.1.side.length cs15,.slice Ak15 r15.2.1.kids.length ck15]) from m5.out.app (lo:=w8.heap.size) t7.out (fun k hk=>by have h1:=E.out.lt hk;have h2:=c9.out;omega) (by have h1:=B.out.size;have h2:=c9.out;omega) k6 e8 o1);have g6:Hid (zm (fun b=>b=gx\/b=gp) w6 w23):=zm.grown (zm.trans B.out (zm.wide (Q.out) (X':=fun b=>b=gx\/b=gp) (fun k h=>.inl h)) (fun _ _ h=>h)) e8 (fun k hk M=>by have h1:=E.out.lt hk;omega);obtain ⟨A23,c23,e23,-,-⟩:=An.of_own k6;subst e23;have f4:Hid (zj w23 gp 27 #[.int .i64 c,.slice none 0 0,vk]):=(e8.block gp (by have h1:=o.out.1;have h2:=B.out.size;have h3:=zm.size (Q.out);omega) (fun e=>by have h1:=E.out.lt e.symm;have h2:=o.out;omega)).trans (zm.blk (Q.out) a6.out (by have:=o.out;omega));have x1:Hid (zj w23 gx 86 #[.int .i64 r15.2.2]):=(e8.block gx (zb n2.out) (fun e=>by have h1:=E.out.lt e.symm;have h2:=o.out;omega)).trans n2.out;clear k6 e8 o1;refine EI d (g6.out) fun zH=>?_;clear d K;try simp only [za,Dz]
        refine zC 9 fun K d=>?_;go_simp;refine EI d (g6.out) fun zH=>?_;clear d K;try simp only [za,Dz]
        refine zC 10 fun K d=>?_;have cg25:=f4.out.cell (k:=2) rfl;have fg25:=f4.out.frozen 2;go_simp;clear cg25 fg25;refine EI d (zm.set (g6.out) gp 2 (.slice A23 (acc.length+1) c23) (.inr rfl)) fun zH=>?_;clear d K;try simp only [za,Dz]
        refine Eg (by kernel_rfl) ?_ _;have a4:Hid (zm (fun b=>b=gx\/b=gp) w6 (w23.setCell ⟨gp,2,none⟩ (.slice A23 (acc.length+1) c23))):=zm.set (g6.out) gp 2 (.slice A23 (acc.length+1) c23) (.inr rfl);have J:Hid (zj (w23.setCell ⟨gp,2,none⟩ (.slice A23 (acc.length+1) c23)) gp 27 #[.int .i64 c,.slice none 0 0,(.slice A23 (acc.length+1) c23)]):=f4.out.set (k:=2) (.slice A23 (acc.length+1) c23);have a5:Hid (zj (w23.setCell ⟨gp,2,none⟩ (.slice A23 (acc.length+1) c23)) gx 86 #[.int .i64 r15.2.2]):=x1.out.setOther (a:=⟨gp,2,none⟩) (by have:=o.out;show gx≠gp;omega) (.slice A23 (acc.length+1) c23);have a3:=zh (t3.out.chg (zm.set (X:=fun b=>b=gp) (zm.refl _ w23) gp 2 (.slice A23 (acc.length+1) c23) rfl) (fun b hb e=>by have:=o.out;omega));generalize w23.setCell ⟨gp,2,none⟩ (.slice A23 (acc.length+1) c23)=wz at a4 J a5 a3⊢;have hF1:(F n kk).1=0:=by rw [O.out];exact g8.out
        have a2:Hid (zO F L (k+1) []=zO F (L.drop (j+1)) r15.2.2 (acc++[r15.2.1])):=by (show _=_);rw [e9.out,d8.out,Da hF1,O.out]
        have a1:Hid (r15.2.2<=3000):=by (show _<=_);have h:=(Cp HC.out fl (ch++[n]) kk b2.out a8.out (by rw [<-e0.out];exact g8.out)).2.2;rw [<-e0.out] at h;exact h
        clear hF1;go_wp2;go_roundw
        case rel=>exact ⟨j+1,_,_,_,_,by go_num,by omega,by (show _=_);rw [DK,G.out];rfl,a1.out,a2.out,a4.out,a5.out,J.out,a3.out⟩
        case measure=>simp [intOf];omega
       ·have A0:j=L.length:=by omega
        have D4:¬ ((j:Int)<(L.length:Int)):=by omega
        have o3:Hid (zO F L (k+1) []=(0,acc,kk)):=by
         show _=_;rw [e9.out,A0,List.drop_length];rfl
        have D:zj wk' (gs+1) 27 #[.int .i64 0,.slice none 0 0,.slice none 0 0]:=B.out.blk D0.out (by have:=o.out;omega);have z0:=D.cell (k:=0) rfl;have z1:=D.cell (k:=1) rfl;have z2:=D.cell (k:=2) rfl;have hfz:∀j,wk'.frozen? ⟨gs+1,j,none⟩=false:=fun j=>D.frozen j
        have i5:=zh D;obtain ⟨Ak,ck,evk,-,-⟩:=An.of_own E.out.own;subst evk;have p0:=a6.out.cell (k:=0) rfl;have p1:=a6.out.cell (k:=1) rfl;have p2:=a6.out.cell (k:=2) rfl;clear D A0
        go_wp2_with fail
        refine case_fin3 (P:=fun W=>bodyPost Tryz.prog Tryz.f50 _ Exit.ret _ W) (g2:=gs+1) ?_ i5.out;intro WZ a7 j5 A1;have y0:=a7.cell (k:=0) rfl;have y1:=a7.cell (k:=1) rfl;have y2:=a7.cell (k:=2) rfl;refine Eu (v:=.agg #[.int .i64 c,.slice none 0 0,.slice Ak acc.length ck]) (by simp [results,Tryz.results50,go_sem,y0,y1,y2]) rfl ?_;rw [i0.out,o3.out,if_pos rfl,<-b1.out];exact prove_fin2 i1.out B.out o.out f0.out f9.out E.out j5 A1
end
end Go.Proofs.YtcnaogdgjkpkmaaGreatDoor
