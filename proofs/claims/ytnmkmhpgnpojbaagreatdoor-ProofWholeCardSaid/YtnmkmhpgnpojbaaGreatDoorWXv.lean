import Derived.Test.YtnmkmhpgnpojbaaGreatDoorWXu
import Derived.WalkLawsBesides
set_option linter.unusedVariables false
set_option linter.unusedSimpArgs false
set_option maxRecDepth 100000
set_option maxHeartbeats 16000000
namespace Go.Proofs.YtnmkmhpgnpojbaaGreatDoor
variable {ch:List Int} {m:MZ} {gp gs gx:Nat} {WZ w w6 wr:World}
section
open Go.RowKit
attribute [local go_sem ↓] Go.wp_at_zero Go.wp_at_succ
attribute [local go_sem] Oper.semAt_some
def Cx (w:World) (gx:Nat) (r:Int×PT×Nat) (e:Ending) (w':World):Prop:=
 zi (fun b=>b=gx) w w'/\((r.1=0/\∃v,e=.returned v/\Bn w' (fun b=>w.heap.size<=b) v r.2.1/\ze w' gx 140 #[.int .i64 r.2.2])\/(r.1≠0/\e=.panicked [{ v:=.iface 42 (.int .i64 r.1),recovered:=false }]))
theorem case_fin3 {P:World->Prop} {W:World} {g2:Nat} {t:TypeId} {a0 a1 a2 z0 z1 z2:Value} (h:∀WZ,ze WZ g2 t #[a0,a1,a2]->Below g2 W WZ->(∀k,k<W.heap.size->k≠g2->WZ.heap[k]?=W.heap[k]?)->P WZ) (o:ze W g2 t #[z0,z1,z2]):
  P (((W.setCell ⟨g2,0,none⟩ a0).setCell ⟨g2,1,none⟩ a1).setCell ⟨g2,2,none⟩ a2):=
 h (setL g2 0 [a0,a1,a2] W) (setL_blk [a0,a1,a2] [z0,z1,z2] [] W rfl o) (Ck g2 _ 0 W) (fun k _ d=>Cl g2 k d _ 0 W)
theorem prove_fin {w4 w7 wk w5:World} {S:List Int} {tn k c6:Nat} {A6:Option Addr} {zs:Array Value} (M:gs=w.heap.size) (O:gx<gs) (I:zi (fun b=>b=gx) w w4) (B:zb w4 w7) (L:ze w4 (gs+1) 41 zs) (J:ze w4 gx 140 #[.int .i64 ((k:Int)+1)])
  (d:Below (gs+1) w7 WZ) (o:∀k,k<w7.heap.size->k≠gs+1->WZ.heap[k]?=w7.heap[k]?) (hs:wk.heap.size<=w5.heap.size) (hk:w4.heap.size<=wk.heap.size) (hI:zk w7 (fun b=>w5.heap.size<=b) (.slice A6 S.length c6) S) (K:S=By m ch tn):
  Cx w gx (0,.node tn (By m ch tn) [],k+1) (.returned (.agg #[.int .i64 tn,.slice A6 S.length c6,.slice none 0 0])) WZ:=by
 have hz:=za L;have hx:=za J;have V:=B.size;refine ⟨zi.trans I (zi.trans (zi.of_ext (X:=fun b=>b=gs+1) B) ⟨d.os,d.tape,d.output,d.size,fun b D U=>o b D U⟩ (fun _ _ h=>h)) (fun k z G=>by omega),.inl ⟨rfl,_,rfl,?_,?_⟩⟩
 ·rw [<-K];exact .mk (cs:=[]) ((hI.keep (fun b D E=>o b E (by omega))).weaken (fun b D=>by have:=I.size;omega)) ⟨none,0,rfl,Dq _,AI.nil _ _ _ _⟩ (fun i Q=>absurd Q (by simp))
 ·have z:=J.ext B;have G:ze WZ gx 140 #[.int .i64 ((k:Int)+1)]:=(o gx (za z) (by omega)).trans z
  rwa [show ((k:Int)+1)=((k+1:Nat):Int) from by omega] at G
theorem prove_fin2 {c kk:Nat} {vk:Value} {acc:List PT} {cs:List Value} (D:zi (fun b=>b=gx) w w6) (I:zi (fun b=>b=gx\/b=gp) w6 wr) (O:gp<w6.heap.size/\gx<gs/\gs+1<gp) (J:gs=w.heap.size)
  (E:ze wr gx 140 #[.int .i64 kk]) (G:Aj wr w6.heap.size vk acc cs) (d:Below (gs+1) wr WZ) (o:∀k,k<wr.heap.size->k≠gs+1->WZ.heap[k]?=wr.heap[k]?):
  Cx w gx (0,.node c [] acc,kk) (.returned (.agg #[.int .i64 c,.slice none 0 0,vk])) WZ:=by
 refine ⟨zi.trans (X':=fun b=>b=gx\/b=gp\/b=gs+1) D (zi.trans (I.wide (fun k h=>by omega)) (⟨d.os,d.tape,d.output,d.size,fun b z K=>o b z K⟩:zi (fun b=>b=gs+1) wr WZ) (fun k _ h=>.inr (.inr h))) (fun k L M=>by omega),.inl ⟨rfl,_,rfl,?_,?_⟩⟩
 ·refine (G.kids c).keepW (fun b z B=>o b B (by omega)) fun b z=>?_;have:=D.size;omega
 ·exact (o gx (za E) (by omega)).trans E
theorem prove_fin3 {w8:World} {r x:Int×PT×Nat} (z:zi (fun b=>b=gx) w w6) (B:zi (fun b=>b=gx\/b=gp) w6 wr) (I:gp<w6.heap.size/\gx<gs/\gs+1<gp) (D:gs=w.heap.size) (o:zi (fun b=>b=gx) wr w8) (d:x.1=r.1) (h:r.1≠0):
  Cx w gx x (.panicked [{ v:=.iface 42 (.int .i64 r.1),recovered:=false }]) w8:=
 ⟨zi.trans z (zi.trans B (o.wide (X':=fun b=>b=gx\/b=gp) (fun k h=>.inl h)) (fun _ _ h=>h)) (fun k E G=>by omega),.inr ⟨by rw [d];exact h,by rw [d]⟩⟩
theorem headP_len {t:Nat} (d:Lens m) (ht:t<m.tasks.length):(zZ m ch t).length<=20000000000000:=by
 unfold zZ
 split
 ·cases ((zp m ch).getD t []).getLast? <;> simp
 ·refine Dt (DU _ _) ?_;rw [Dp,Do ht];have:=(d.tl _ (Dr ht)).1;show (m.tasks[t]).1.length<=_;omega
theorem prove_calls {m:MZ} {f u ts:Value} (hl:Lens m) (hc:AS m=0):
  ∀(fl:Nat) (ch:List Int) (k gx:Nat) (ok:Nat->Prop) (vc vp:Value) (w:World),PSt w ok m f u ts vc vp ch->zr m ch->m.n.toNat+2<=fl+ch.length->k<=3000->ze w gx 140 #[.int .i64 k]->(∀b,ok b->b≠gx)->
   Calls Tryz.prog 91 #[.pointer (some ⟨gx,0,none⟩),Di m f u ts vc vp (zO m ch)] w (Cx w gx (zm m fl ch k))
 | 0,ch,k,gx,ok,vc,vp,w,_,hi,hf,_,_,_=>by
  have:=hi.len (zE.of hc);omega
 | fl+1,ch,k,gx,ok,vc,vp,w,h,hi,hf,hk,hx,y7=>by
  have H:=zh h;have HL:=zh hl;have HC:=zh hc;have HI:=zh hi;have HF:=zh hf;have HK:=zh hk;have HX:=zh hx;have j0:=zh y7;have IH:=zh (prove_calls (f:=f) (u:=u) (ts:=ts) hl hc fl);obtain ⟨Af,cf,Au,cu,At,ct,Ac,cc,Ap,cp,rfl,rfl,rfl,rfl,rfl,-,-⟩:=h.parts;obtain ⟨PL,hP⟩:=Ez ((zp m ch).length);rw [<-hP] at H⊢;clear h hl hc hi hP hf hk y7;obtain ⟨c,p8⟩:=Ez (zO m ch);rw [<-p8];have b2:=zh p8;clear p8 hx;unfold Di
  go_enter Tryz.func91,Tryz.ntmps91
  go_upto_region 1 with fail;have l5:=ze.new w #[.int .i64 m.w,.int .i64 m.h,.int .i64 m.l,.slice Af m.free.length cf,.slice Au m.up.length cu,.slice At m.tasks.length ct,.slice Ac ch.length cc,.slice Ap PL cp,.int .i64 c] 128 (g:=w.heap.size) rfl;have l8:zb w (w.alloc (.cells #[.int .i64 m.w,.int .i64 m.h,.int .i64 m.l,.slice Af m.free.length cf,.slice Au m.up.length cu,.slice At m.tasks.length ct,.slice Ac ch.length cc,.slice Ap PL cp,.int .i64 c] 128)):=(zb.refl w).alloc _;have k8:(w.alloc (.cells #[.int .i64 m.w,.int .i64 m.h,.int .i64 m.l,.slice Af m.free.length cf,.slice Au m.up.length cu,.slice At m.tasks.length ct,.slice Ac ch.length cc,.slice Ap PL cp,.int .i64 c] 128)).heap.size=w.heap.size+1:=by simp
  generalize w.alloc _=w1 at l5 l8 k8⊢;have B:=ze.new w1 #[.int .i64 0,.slice none 0 0,.slice none 0 0] 41 (g:=w1.heap.size) rfl;have j9:zb w1 (w1.alloc (.cells #[.int .i64 0,.slice none 0 0,.slice none 0 0] 41)):=(zb.refl w1).alloc _;generalize w1.alloc _=w2 at B j9⊢;rw [k8] at B;obtain ⟨gs,l9⟩:=Ez w.heap.size;rw [<-l9] at l5 B⊢;have f1:Hid (gs=w.heap.size):=l9;have i8:Hid (gx<gs):=by show _<_;rw [l9];exact za HX.out
  have HZ:=zh B;have b0:=zh (l5.ext j9);have B4:=zh ((HX.out.ext l8).ext j9);have l4:=zh (l8.trans j9);clear l5 l8 k8 B j9 l9;have c0:=b0.out.cell (k:=0) rfl;have c1:=b0.out.cell (k:=1) rfl;have c2:=b0.out.cell (k:=2) rfl;have c3:=b0.out.cell (k:=3) rfl;have c4:=b0.out.cell (k:=4) rfl;have c5:=b0.out.cell (k:=5) rfl;have c6:=b0.out.cell (k:=6) rfl;have c7:=b0.out.cell (k:=7) rfl;have c8:=b0.out.cell (k:=8) rfl;have s2:Hid (Calls Tryz.prog 147 #[.agg #[.int .i64 m.w,.int .i64 m.h,.int .i64 m.l,.slice Af m.free.length cf,.slice Au m.up.length cu,.slice At m.tasks.length ct,.slice Ac ch.length cc,.slice Ap PL cp,.int .i64 c]] w2 fun e w'=>e=.returned (.bool (decide ((m.tasks.length:Int)<=(c:Int))))/\zb w2 w'):=CW c w2 (H.out.more l4.out)
  go_wp2_with fail
  refine s2.out.mono ?_;rintro e w3 ⟨rfl,v9⟩;have h9:=zh v9;clear v9 c0 c1 c2 c3 c4 c5 c6 c7 c8 s2;by_cases n6:m.tasks.length<=c
  ·have hd:decide ((m.tasks.length:Int)<=(c:Int))=true:=Du (by omega);rw [hd]
   go_wp2_with fail
   refine ⟨rfl,?_⟩;have hp:zm m (fl+1) ch k=(51,.zero,k):=proveP_end (by rw [<-b2.out];exact n6);rw [hp];exact ⟨zi.of_ext (l4.out.trans h9.out),.inr ⟨by simp,rfl⟩⟩
  ·have hd:decide ((m.tasks.length:Int)<=(c:Int))=false:=Dv (by omega);rw [hd];have e0:Hid (¬ m.tasks.length<=zO m ch):=by show ¬ _;rw [<-b2.out];exact n6
   have j3:=zh (B4.out.ext h9.out);have x0:w3.cell? ⟨gx,0,none⟩=some (.int .i64 k):=j3.out.cell (k:=0) rfl;have C0:=j3.out.frozen 0;have C2:IntKind.i64.wrap ((k:Int)+1)=(k:Int)+1:=by rw [DN];have:=HK.out;omega
   clear hd;go_upto_region 4 with fail;have p6:=j3.out.set (k:=0) (.int .i64 ((k:Int)+1));have e6:=(b0.out.ext h9.out).setOther (a:=⟨gx,0,none⟩) (by have:=i8.out;show gs≠gx;omega) (.int .i64 ((k:Int)+1));have p7:=(HZ.out.ext h9.out).setOther (a:=⟨gx,0,none⟩) (by have:=i8.out;show gs+1≠gx;omega) (.int .i64 ((k:Int)+1));have l7:zN (fun b=>b≠gx) w3 (w3.setCell ⟨gx,0,none⟩ (.int .i64 ((k:Int)+1))):=fun b hb _=>DA w3 ⟨gx,0,none⟩ _ b hb
   have p3:zi (fun b=>b=gx) w (w3.setCell ⟨gx,0,none⟩ (.int .i64 ((k:Int)+1))):=zi.trans (zi.of_ext (X:=fun b=>b=gx) (l4.out.trans h9.out)) ⟨rfl,rfl,rfl,by simp,fun b _ hb=>DA w3 ⟨gx,0,none⟩ _ b hb⟩ (fun _ _ h=>h);generalize w3.setCell ⟨gx,0,none⟩ (.int .i64 ((k:Int)+1))=w4 at p6 e6 p7 l7 p3⊢;have f7:Hid (ze w4 gx 140 #[.int .i64 ((k:Int)+1)]):=p6;have l0:=zh e6;have i3:=zh p7;have D5:=zh l7;have V:=zh p3;have o4:Hid (PSt w4 ok m (.slice Af m.free.length cf) (.slice Au m.up.length cu) (.slice At m.tasks.length ct) (.slice Ac ch.length cc) (.slice Ap PL cp) ch):=((H.out.more l4.out).more h9.out).keep (fun b hb O=>l7 b (j0.out b hb) O);have y0:w4.cell? ⟨gx,0,none⟩=some (.int .i64 ((k:Int)+1)):=f7.out.cell (k:=0) rfl;clear p6 e6 p7 l7 p3 x0 C0;by_cases d6:3000<k+1
   ·have y5:(3000:Int)<(k:Int)+1:=by omega
    go_wp2_with fail
    refine ⟨rfl,?_⟩;rw [proveP_many e0.out d6];exact ⟨V.out,.inr ⟨by simp,rfl⟩⟩
   ·have y5:¬ ((3000:Int)<(k:Int)+1):=by omega
    have c8:=l0.out.cell (k:=8) rfl;go_upto_region 7 with fail;have o7:Hid (ze (w4.alloc (.cells #[.int .i64 c] 3)) w4.heap.size 3 #[.int .i64 c]):=ze.new _ _ _ rfl;have I:Hid (zb w4 (w4.alloc (.cells #[.int .i64 c] 3))):=(zb.refl w4).alloc _;generalize w4.alloc _=w5 at o7 I⊢;have z7:Hid (c<=m.tasks.length):=by show _<=_;have:=e0.out;have:=b2.out;omega
    have i0:Hid (m.tasks.length<=6/\ch.length<=300):=⟨(AN HC.out HI.out).2.1,(AN HC.out HI.out).2.2.1⟩;clear y0 c8 C2 y5;go_loopw [5] (fun v wr=>∃tn g5:Nat,v=.pointer (some ⟨g5,0,none⟩)/\c<=tn/\tn<=m.tasks.length/\Hid (∀j,c<=j->j<tn->offB m ch j=false)/\Hid (w4.heap.size<=g5)/\Hid (ze wr g5 3 #[.int .i64 tn])/\Hid (zb w4 wr)) (fun v wr=>match v with | .pointer (some a)=>(match wr.cell? a with | some (.int _ i)=>m.tasks.length - i.toNat | _=>0) | _=>0)
    case atStart=>exact ⟨c,w4.heap.size,rfl,Dq _,z7.out,fun j D J=>(by omega),Dq _,o7.out,I.out⟩
    clear o7 I
    case round=>
     obtain ⟨tn,g5,rfl,q7,C4,b9,g1,x6,hE⟩:=hrel;obtain ⟨wk,rfl⟩:∃wk:World,wk=wr:=⟨_,rfl⟩;have b1:=zh (l0.out.ext hE.out);have f6:=zh (o4.out.more hE.out);have ct0:wk.cell? ⟨g5,0,none⟩=some (.int .i64 tn):=x6.out.cell (k:=0) rfl;have r0:=zb.rule (b1.out.cell (k:=0) rfl);have r1:=zb.rule (b1.out.cell (k:=1) rfl);have r2:=zb.rule (b1.out.cell (k:=2) rfl);have r3:=zb.rule (b1.out.cell (k:=3) rfl);have r4:=zb.rule (b1.out.cell (k:=4) rfl);have r5:=zb.rule (b1.out.cell (k:=5) rfl);have r6:=zb.rule (b1.out.cell (k:=6) rfl);have r7:=zb.rule (b1.out.cell (k:=7) rfl);have r8:=zb.rule (b1.out.cell (k:=8) rfl);have rt:=zb.rule ct0;have E1:zb wk wk:=zb.refl wk;by_cases O:tn<m.tasks.length
     ·have n7:(tn:Int)<(m.tasks.length:Int):=by omega
      go_upto_region 9 with fail;refine DH (S:=(fun W=>zb wk W)) AB ((zb.refl wk).drew) fun zH=>?_;have p4:zb wk wk.drew:=zH;have A2:Hid ((zZ m ch tn).length<=20000000000000):=headP_len HL.out O;generalize wk.drew=wd at zH p4⊢;refine zo 0 zH ?_;refine zo 1 zH ?_;simp only [zc,Dn];refine zo 2 zH ?_;refine zo 3 zH ?_;simp only [zc,Dn];refine zo 4 zH ?_;refine zo 6 zH ?_;simp only [zc,Dn];refine zo 7 zH ?_;simp only [zc,Dn];refine zK 5 fun K d=>?_;go_simp;go_at_call 157;refine (phead_calls c tn wd (f6.out.more p4) HL.out HC.out HI.out O).mono ?_;rintro e w5 ⟨v5,rfl,f8,w0⟩;have I:Hid (zb wk w5):=p4.trans f8;have A3:=zh w0;obtain ⟨A5,c5,rfl,-,-⟩:=w0;clear f8;refine EA d (I.out) fun zH=>?_;clear d K;try simp only [zc,Dn]
      refine zK 8 fun K d=>?_;go_simp;go_at_call 156;refine (rReach_calls tn w5 (f6.out.more I.out).maze HL.out A3.out A2.out (f6.out.more I.out).chs (by have:=i0.out;omega)).mono ?_;rintro e w6 ⟨v6,rfl,f9⟩;have a0:Hid (zb wk w6):=I.out.trans f9.ext;have f2:Hid (zk w6 (fun b=>w5.heap.size<=b) v6 (By m ch tn)):=f9.ints;obtain ⟨A6,c6,rfl,-,-⟩:=f2.out;clear f9;refine EA d (a0.out) fun zH=>?_;clear d K;try simp only [zc,Dn]
      refine zK 9 fun K d=>?_;go_simp;refine EA d (a0.out) fun zH=>?_;clear d K;try simp only [zc,Dn]
      refine DV (by kernel_rfl) ?_ _;have m0:=a0.out;have D9:∀(fn:Fn) (first cap:Array Value) (w:World),(Instr.makeFunc fn first cap).run Tryz.prog w=.ok (.func fn first cap) w:=fun _ _ _ _=>rfl
      have t8:Hid ((By m ch tn).length<=20000000000000):=by show _<=_;rw [sideP_eq HC.out O];exact reachL_le _ _ _ _ (zE.of HC.out)
      obtain ⟨S,hS⟩:=Ez (By m ch tn);rw [<-hS] at f2 t8⊢;have o6:=zh hS;clear hS
      have B3:Hid (∀x W,zb w6 W->Calls Tryz.prog 158 #[.int .i64 x,.pointer (some ⟨gs,0,none⟩),.pointer (some ⟨g5,0,none⟩)] W fun e w'=>e=.returned (.bool (decide (x∈(m.tasks.getD tn ([],[])).2)))/\W=w'):=fun x W hW=>by
       obtain ⟨_,_,_,_,_,_,_,_,_,_,_,_,e,_,_,_,C5⟩:=(f6.out.more (m0.trans hW)).parts;injection e with e1 e2 e3;subst e1 e3;exact prove1_calls x W (r5 W (m0.trans hW)) (rt W (m0.trans hW)) C5 HL.out O
      have D4:Hid (∀W,zb wk W->W.cell? ⟨g5,0,none⟩=some (.int .i64 tn)):=rt;have D3:Hid (∀W,zb wk W->W.cell? ⟨gs,8,none⟩=some (.int .i64 c)):=r8
      go_wp2_with fail
      refine (AC 158 #[.pointer (some ⟨gs,0,none⟩),.pointer (some ⟨g5,0,none⟩)] (fun x=>decide (x∈(m.tasks.getD tn ([],[])).2)) w6 f2.out t8.out (zX (P:=Tryz.prog) Tryz.func158 (by kernel_rfl) (by kernel_rfl)) (fun x _ W hW=>(B3.out x W hW.ext).mono (fun e w' ⟨D,J⟩=>⟨D,by rw [J];exact zB.refl _⟩))).mono ?_;rintro e w7 ⟨rfl,q1⟩;have z9:Hid (zb wk w7):=a0.out.trans q1.ext;have b6:=z9.out;have s5:=zh (f2.out.below q1.ext);obtain ⟨b,hb⟩:=Ez (S.any fun x=>decide (x∈(m.tasks.getD tn ([],[])).2))
      rw [<-hb]
      have l3:Hid (offB m ch tn=(!b && (decide (S≠[]) || decide (c<tn)))):=by
       show _=_;unfold offB;rw [hb,o6.out,b2.out]
      clear hb q1 m0;have ct8:=rt w7 b6;have z8:=b6
      cases b with
      | true=>
       have d5:Hid (offB m ch tn=false):=by show _=_;rw [l3.out];rfl
       have HN:Hid (∀j,c<=j->j<tn+1->offB m ch j=false):=fun j D J=>by
        rcases DO j tn with h | h
        ·exact b9.out j D h
        ·obtain rfl:j=tn:=by omega
         exact d5.out
       have C6:IntKind.i64.wrap ((tn:Int)+1)=(tn:Int)+1:=by rw [DN];have:=i0.out;omega
       clear d5
       go_wp2_with fail
       have k1:ze (w7.alloc (.cells #[.int .i64 ((tn:Int)+1)] 3)) w7.heap.size 3 #[.int .i64 ((tn+1:Nat):Int)]:=by have h:=ze.new w7 #[.int .i64 ((tn:Int)+1)] 3 (g:=w7.heap.size) rfl;rwa [show ((tn:Int)+1)=((tn+1:Nat):Int) from by omega] at h⊢
       have o1:=zh k1;have i4:=zh ((hE.out.trans b6).alloc (.cells #[.int .i64 ((tn:Int)+1)] 3));have q5:Hid (w4.heap.size<=w7.heap.size):=(hE.out.trans b6).size;have p9:Hid ((w7.alloc (.cells #[.int .i64 ((tn:Int)+1)] 3)).cell? ⟨w7.heap.size,0,none⟩=some (.int .i64 ((tn:Int)+1))):=zR _ _ _ rfl;have k2:Hid (wk.cell? ⟨g5,0,none⟩=some (.int .i64 tn)):=ct0;clear k1;go_roundw
       case rel=>exact ⟨tn+1,w7.heap.size,rfl,by omega,by omega,HN,q5,o1,i4⟩
       case measure=>
        simp only [p9.out,k2.out];omega
      | false=>
       by_cases hs:0<S.length
       ·have k8:(0:Int)<(S.length:Int):=by omega
        have d5:Hid (offB m ch tn=true):=by
         show _=_;rw [l3.out,Du (by rintro rfl;simp at hs:S≠[])];rfl
        have ct7:=ct8;have B:ze w7 (gs+1) 41 #[.int .i64 0,.slice none 0 0,.slice none 0 0]:=(i3.out.ext hE.out).ext b6;have z0:=B.cell (k:=0) rfl;have z1:=B.cell (k:=1) rfl;have z2:=B.cell (k:=2) rfl;have hfz:∀j,w7.frozen? ⟨gs+1,j,none⟩=false:=fun j=>B.frozen j
        have i6:=zh B;clear B
        go_wp2_with fail
        refine case_fin3 (P:=fun W=>bodyPost Tryz.prog Tryz.f91 _ Exit.ret _ W) (g2:=gs+1) ?_ i6.out;intro WZ a8 j6 a9;have y0:=a8.cell (k:=0) rfl;have y1:=a8.cell (k:=1) rfl;have y2:=a8.cell (k:=2) rfl;refine El (v:=.agg #[.int .i64 tn,.slice A6 S.length c6,.slice none 0 0]) (by simp [results,Tryz.results91,go_sem,y0,y1,y2]) rfl ?_;rw [proveP_cut e0.out d6 (cutT_at (by rw [<-b2.out];exact q7) O d5.out (fun j D J=>b9.out j (by rw [b2.out];exact D) J))];exact prove_fin f1.out i8.out V.out (hE.out.trans b6) i3.out f7.out j6 a9 I.out.size hE.out.size s5.out o6.out
       ·have k8:¬ ((0:Int)<(S.length:Int)):=by omega
        have q6:S=[]:=DJ (by omega);by_cases x8:c<tn
        ·have x9:(c:Int)<(tn:Int):=by omega
         have d5:Hid (offB m ch tn=true):=by
          show _=_;rw [l3.out,Du x8,Bool.or_true];rfl
         clear q6;have ct7:=ct8;have B:ze w7 (gs+1) 41 #[.int .i64 0,.slice none 0 0,.slice none 0 0]:=(i3.out.ext hE.out).ext b6;have z0:=B.cell (k:=0) rfl;have z1:=B.cell (k:=1) rfl;have z2:=B.cell (k:=2) rfl;have hfz:∀j,w7.frozen? ⟨gs+1,j,none⟩=false:=fun j=>B.frozen j
         have i6:=zh B;clear B
         go_wp2_with fail
         refine case_fin3 (P:=fun W=>bodyPost Tryz.prog Tryz.f91 _ Exit.ret _ W) (g2:=gs+1) ?_ i6.out;intro WZ a8 j6 a9;have y0:=a8.cell (k:=0) rfl;have y1:=a8.cell (k:=1) rfl;have y2:=a8.cell (k:=2) rfl;refine El (v:=.agg #[.int .i64 tn,.slice A6 S.length c6,.slice none 0 0]) (by simp [results,Tryz.results91,go_sem,y0,y1,y2]) rfl ?_;rw [proveP_cut e0.out d6 (cutT_at (by rw [<-b2.out];exact q7) O d5.out (fun j D J=>b9.out j (by rw [b2.out];exact D) J))];exact prove_fin f1.out i8.out V.out (hE.out.trans b6) i3.out f7.out j6 a9 I.out.size hE.out.size s5.out o6.out
        ·have x9:¬ ((c:Int)<(tn:Int)):=by omega
         have d5:Hid (offB m ch tn=false):=by
          show _=_;rw [l3.out,Dv (by simp [q6]),Dv x8];rfl
         clear q6
         have HN:Hid (∀j,c<=j->j<tn+1->offB m ch j=false):=fun j D J=>by
          rcases DO j tn with h | h
          ·exact b9.out j D h
          ·obtain rfl:j=tn:=by omega
           exact d5.out
         have C6:IntKind.i64.wrap ((tn:Int)+1)=(tn:Int)+1:=by rw [DN];have:=i0.out;omega
         clear d5
         go_wp2_with fail
         have k1:ze (w7.alloc (.cells #[.int .i64 ((tn:Int)+1)] 3)) w7.heap.size 3 #[.int .i64 ((tn+1:Nat):Int)]:=by have h:=ze.new w7 #[.int .i64 ((tn:Int)+1)] 3 (g:=w7.heap.size) rfl;rwa [show ((tn:Int)+1)=((tn+1:Nat):Int) from by omega] at h⊢
         have o1:=zh k1;have i4:=zh ((hE.out.trans b6).alloc (.cells #[.int .i64 ((tn:Int)+1)] 3));have q5:Hid (w4.heap.size<=w7.heap.size):=(hE.out.trans b6).size;have p9:Hid ((w7.alloc (.cells #[.int .i64 ((tn:Int)+1)] 3)).cell? ⟨w7.heap.size,0,none⟩=some (.int .i64 ((tn:Int)+1))):=zR _ _ _ rfl;have k2:Hid (wk.cell? ⟨g5,0,none⟩=some (.int .i64 tn)):=ct0;clear k1;go_roundw
         case rel=>exact ⟨tn+1,w7.heap.size,rfl,by omega,by omega,HN,q5,o1,i4⟩
         case measure=>
          simp only [p9.out,k2.out];omega
     ·have n7:¬ ((tn:Int)<(m.tasks.length:Int)):=by omega
      have s3:Hid (cutT m ch=none):=cutT_no (fun j D J=>b9.out j (by rw [b2.out];exact D) (by omega));have l2:=zh hE.out;clear b9 g1 x6 q7 C4 O hE;go_upto_region 15 with fail;have l6:=ze.new wk #[.int .i64 c,.slice none 0 0,.slice none 0 0] 41 (g:=wk.heap.size) rfl;have f8:zb wk (wk.alloc (.cells #[.int .i64 c,.slice none 0 0,.slice none 0 0] 41)):=(zb.refl wk).alloc _;generalize wk.alloc _=w5 at l6 f8⊢;obtain ⟨gp,q2⟩:=Ez wk.heap.size;rw [<-q2] at l6⊢;have B8:Hid (gs+1<gp):=by show _<_;rw [q2];exact DT (za i3.out) l2.out.size
      have s0:=zh l6;have I:=zh f8;have C7:=f8;clear l6 q2 f8
      go_wp2_with fail
      refine (Ct w5 (f6.out.more I.out).maze HL.out (f6.out.more I.out).chs (by have:=i0.out;omega)).mono ?_;rintro e w6 ⟨v6,rfl,f9⟩;have w9:(zQ m ch).length<=400000000000:=by unfold zQ;split;exact Cy HL.out ch;simp
      have s7:Hid (∀n∈zQ m ch,zr m (ch++[n])):=fun n hn=>by
       have:zQ m ch=cand m ch:=by unfold zQ;rw [if_pos (okC_of HC.out HI.out)]
       rw [this] at hn;exact .snoc HI.out hn
      have f2:=zh f9.ints;have a0:=zh f9.ext;have i1:Hid (zm m (fl+1) ch k=if (zI (fun n k=>zm m fl (ch++[n]) k) (zQ m ch) (k+1) []).1=0 then (0,.node (zO m ch) [] (zI (fun n k=>zm m fl (ch++[n]) k) (zQ m ch) (k+1) []).2.1,(zI (fun n k=>zm m fl (ch++[n]) k) (zQ m ch) (k+1) []).2.2) else ((zI (fun n k=>zm m fl (ch++[n]) k) (zQ m ch) (k+1) []).1,.zero,(zI (fun n k=>zm m fl (ch++[n]) k) (zQ m ch) (k+1) []).2.2)):=proveP_kids e0.out d6 s3.out;obtain ⟨L,hL⟩:=Ez (zQ m ch);rw [<-hL] at s7 f2 i1 w9;clear f9 hL;obtain ⟨F,hF⟩:∃F:Int->Nat->Int×PT×Nat,F=fun n k=>zm m fl (ch++[n]) k:=⟨_,rfl⟩
      rw [<-hF] at i1;have o3:=zh hF;clear hF C7 ct0 rt r0 r1 r2 r3 r4 r5 r6 r7 r8 n7;obtain ⟨AL,cL,rfl,-,y8⟩:=f2.out;have B2:=zh y8;clear y8
      have B6:Hid (ze w6 gx 140 #[.int .i64 ((k+1:Nat):Int)]):=by
       have h:=((f7.out.ext l2.out).ext I.out).ext a0.out
       rwa [show ((k:Int)+1)=((k+1:Nat):Int) from by omega] at h
      have z6:=zh ((b1.out.ext I.out).ext a0.out);have t5:=zh (s0.out.ext a0.out);have B7:=zh (((i3.out.ext l2.out).ext I.out).ext a0.out);have D6:=zh ((f6.out.more I.out).more a0.out);have i2:Hid (zi (fun b=>b=gx) w w6):=V.out.trans (zi.of_ext (X:=fun b=>b=gx) ((l2.out.trans I.out).trans a0.out)) (fun _ _ h=>h);have o:Hid (gp<w6.heap.size/\gx<gs/\gs+1<gp):=⟨za t5.out,i8.out,B8.out⟩
      go_wp2_with fail
      have x1:=w9;have A4:Hid (k+1<=3000):=by show _<=_;omega
      have A7:Hid (Aj w6 w6.heap.size (.slice none 0 0) [] []):=Aj.nil _ _;clear x1;go_loopw [73] (fun v wr=>∃(j kk:Nat) (acc:List PT) (vk:Value) (cs:List Value),v=.int .i64 j/\j<=L.length/\Hid (acc.length=j)/\Hid (kk<=3000)/\Hid (zI F L (k+1) []=zI F (L.drop j) kk acc)/\Hid (zi (fun b=>b=gx\/b=gp) w6 wr)/\Hid (ze wr gx 140 #[.int .i64 kk])/\Hid (ze wr gp 41 #[.int .i64 c,.slice none 0 0,vk])/\Hid (Aj wr w6.heap.size vk acc cs)) (fun v _=>L.length - (intOf v).toNat)
      case atStart=>exact ⟨0,k+1,[],.slice none 0 0,[],rfl,DF _,rfl,A4.out,rfl,zi.refl _ _,B6.out,t5.out,A7.out⟩
      case round=>
       obtain ⟨j,kk,acc,vk,cs,rfl,hj,G,a9,f0,z,g0,a7,E⟩:=hrel;obtain ⟨wk',rfl⟩:∃wk':World,wk'=wr:=⟨_,rfl⟩;by_cases h8:j<L.length
       ·have D8:(0:Int)<=(j:Int):=by omega
        have C1:(j:Int)<(L.length:Int):=by omega
        obtain ⟨bl,offl,rfl,x5,n5⟩:=Ao B2.out h8 h8;have D1:Hid (w5.heap.size<=bl):=x5;have A1:Hid (gp<w5.heap.size):=za s0.out;have x7:wk'.cell? ⟨bl,offl+j,none⟩=some (.int .i64 L[j]):=z.out.cellk n5 (by have:=o.out;have:=A1.out;show ¬ (bl=gx\/bl=gp);omega);have b3:Hid (zr m (ch++[L[j]])):=s7.out _ (Dr h8);have d9:Hid (L.drop j=L[j] :: L.drop (j+1)):=List.drop_eq_getElem_cons h8;obtain ⟨n,hn⟩:=Ez (L[j]);rw [<-hn] at x7 b3 d9;have b5:=z6.out
        have t7:Hid (PSt wk' ok m (.slice Af m.free.length cf) (.slice Au m.up.length cu) (.slice At m.tasks.length ct) (.slice Ac ch.length cc) (.slice Ap PL cp) ch):=H.out.keep (fun b hb O=>by
         have D:=j0.out b hb;have J:=o.out;have h3:=f1.out;exact (z.out.block b (DT O i2.out.size) (by omega)).trans (i2.out.block b O D))
        have rul:∀{i:Nat} {v:Value},w6.cell? ⟨gs,i,none⟩=some v->∀W,zi (fun b=>b=gx\/b=gp) w6 W->W.cell? ⟨gs,i,none⟩=some v:=fun h W hW=>hW.cellk h (by have:=o.out;show ¬ (gs=gx\/gs=gp);omega)
        have r0:=rul (b5.cell (k:=0) rfl);have r1:=rul (b5.cell (k:=1) rfl);have r2:=rul (b5.cell (k:=2) rfl);have r3:=rul (b5.cell (k:=3) rfl);have r4:=rul (b5.cell (k:=4) rfl);have r5:=rul (b5.cell (k:=5) rfl);have r6:=rul (b5.cell (k:=6) rfl);have r7:=rul (b5.cell (k:=7) rfl);have r8:=rul (b5.cell (k:=8) rfl);obtain ⟨wq,rfl⟩:∃wq:World,wq=wk':=⟨_,rfl⟩;clear rul b5 n5 x5 hn;go_upto_region 18 with fail;clear x7;refine DH (S:=(fun W=>zi (fun b=>b=gx\/b=gp) w6 W)) AB (zi.trans z.out (zi.of_ext (X:=fun b=>b=gx\/b=gp) (zb.refl wq).drew) (fun _ _ h=>h)) fun zH=>?_;have b4:Hid (zb wq wq.drew):=(zb.refl wq).drew;generalize wq.drew=wd at zH b4⊢;refine zo 0 zH ?_;refine zo 2 zH ?_;simp only [zc,Dn];refine zo 3 zH ?_;refine zo 4 zH ?_;simp only [zc,Dn];refine rdA [1,5] ?_;refine DS rfl (fun K d=>?_) ?_
        ·have cg1:wd.cell? ⟨gp,2,none⟩=some vk:=zi.cellk (zi.of_ext (X:=fun b=>b=gx) b4.out) (a7.out.cell (k:=2) rfl) (by have:=o.out;show ¬ (gp=gx);omega);go_simp;clear cg1;refine EA d (zi.trans z.out (zi.wide (zi.of_ext (X:=fun b=>b=gx) b4.out) (X':=fun b=>b=gx\/b=gp) (fun k h=>.inl h)) (fun _ _ h=>h)) fun zH=>?_;clear d K;try simp only [zc,Dn]
         refine zK 5 fun K d=>?_;go_simp;go_at_call 150;refine (Dc c n wd (t7.out.more b4.out) HL.out HC.out b3.out i0.out.2).mono ?_;rintro e w2 ⟨vc2,vp2,rfl,v8,x2⟩;have i7:Hid (zb wq w2):=b4.out.trans v8;have B0:=zh x2;clear v8 x2;refine EA d (zi.trans z.out (zi.wide (zi.of_ext (X:=fun b=>b=gx) i7.out) (X':=fun b=>b=gx\/b=gp) (fun k h=>.inl h)) (fun _ _ h=>h)) fun zH=>?_;clear d K;try simp only [zc,Dn]
         refine zK 6 fun K d=>?_;go_simp;go_at_call 91;refine (IH.out (ch++[n]) kk gx _ vc2 vp2 w2 B0.out b3.out (by have:=HF.out;rw [Dz,DR];omega) a9.out (i7.out.cellB g0.out) (fun b hb=>by have D:=j0.out;have J:=b4.out.size;have h3:=za g0.out;rcases hb with hb | hb;exact D b hb;omega)).mono ?_;obtain ⟨r3,q4⟩:∃r:Int×PT×Nat,r=zm m fl (ch++[n]) kk:=⟨_,rfl⟩;rw [<-q4];have o5:=zh q4;have g8:Hid (F n kk=r3):=by (show _=_);rw [o3.out];exact o5.out.symm
         clear q4;rintro e w3 ⟨o9,(⟨h0,v3,rfl,p5,x4⟩ | ⟨h0,rfl⟩)⟩
         rotate_left
         ·go_wp2;refine ⟨rfl,?_⟩;exact prove_fin3 (x:=zm m (fl+1) ch k) i2.out z.out o.out f1.out (zi.trans (zi.of_ext (X:=fun b=>b=gx) i7.out) o9 (fun _ _ h=>h)) (by rw [i1.out];exact (prove_err (F:=F) (n:=n) (l:=L.drop (j+1)) (k:=kk) (acc:=acc) (by rw [g8.out];exact h0) (f0.out.trans (by rw [d9.out]))).trans (by rw [g8.out])) h0
         have s1:Hid (zi (fun b=>b=gx) wq w3):=zi.trans (zi.of_ext (X:=fun b=>b=gx) i7.out) o9 (fun _ _ h=>h);obtain ⟨As3,cs3,Ak3,ck3,rfl,-⟩:=p5.form;have B1:=zh p5;have j3:=zh x4;have v7:=zh h0;have m6:Hid (wq.heap.size<=w2.heap.size):=i7.out.size;clear o9 p5 x4 h0;refine EA d (zi.trans z.out (zi.wide (s1.out) (X':=fun b=>b=gx\/b=gp) (fun k h=>.inl h)) (fun _ _ h=>h)) fun zH=>?_;clear d K;try simp only [zc,Dn]
         refine zK 7 fun K d=>?_;go_simp;have e6:=ze.new w3 #[.int .i64 r3.2.1.task,.slice As3 r3.2.1.side.length cs3,.slice Ak3 r3.2.1.kids.length ck3] 41 (g:=w3.heap.size) rfl;have hA4:zb w3 (w3.alloc (.cells #[.int .i64 r3.2.1.task,.slice As3 r3.2.1.side.length cs3,.slice Ak3 r3.2.1.kids.length ck3] 41)):=(zb.refl w3).alloc _;generalize w3.alloc _=w4 at e6 hA4⊢;generalize w3.heap.size=g4 at e6⊢;have l0:=zh e6;have V:Hid (zi (fun b=>b=gx) wq w4):=zi.trans (s1.out) (zi.of_ext (X:=fun b=>b=gx) hA4) (fun _ _ h=>h);have o4:=zh (B1.out.ext hA4);have f7:=zh (j3.out.ext hA4);clear e6 hA4;refine EA d (zi.trans z.out (zi.wide (V.out) (X':=fun b=>b=gx\/b=gp) (fun k h=>.inl h)) (fun _ _ h=>h)) fun zH=>?_;clear d K;try simp only [zc,Dn]
         refine zK 8 fun K d=>?_;have s6:Hid (Aj w4 w6.heap.size vk acc cs):=E.out.chg (V.out) (fun b hb e=>by have:=o.out;omega);refine Ag (ok:=fun _=>True) (by rfl) w4 _ _ eProof (by rfl) w6.heap.size acc.length 1 cs _ vk _ (by rfl) (by rfl) s6.out.own (Cj l0.out) (fun u hu=>by simp at hu;rcases hu with rfl | rfl | rfl <;> rfl) (by have D:=z.out.size;have J:=zi.size (V.out);omega) (by have:=G.out;unfold maxLen;omega) (by have:=G.out;omega) ?_;intro v5 w5 q3 g1 y9;have A9:=zh (show Aj w5 w6.heap.size _ (acc++[r3.2.1]) (cs++[.int .i64 r3.2.1.task,.slice As3 r3.2.1.side.length cs3,.slice Ak3 r3.2.1.kids.length ck3]) from s6.out.app (lo:=w2.heap.size) o4.out (fun k hk=>by have D:=E.out.lt hk;have J:=m6.out;omega) (by have D:=z.out.size;have J:=m6.out;omega) q3 g1 y9);have l1:Hid (zi (fun b=>b=gx\/b=gp) w6 w5):=zi.grown (zi.trans z.out (zi.wide (V.out) (X':=fun b=>b=gx\/b=gp) (fun k h=>.inl h)) (fun _ _ h=>h)) g1 (fun k hk O=>by have D:=E.out.lt hk;omega);obtain ⟨A5,c5,e5,-,-⟩:=Aw.of_own q3;subst e5;have j1:Hid (ze w5 gp 41 #[.int .i64 c,.slice none 0 0,vk]):=(g1.block gp (by have D:=o.out.1;have J:=z.out.size;have h3:=zi.size (V.out);omega) (fun e=>by have D:=E.out.lt e.symm;have J:=o.out;omega)).trans (zi.blk (V.out) a7.out (by have:=o.out;omega));have B5:Hid (ze w5 gx 140 #[.int .i64 r3.2.2]):=(g1.block gx (za f7.out) (fun e=>by have D:=E.out.lt e.symm;have J:=o.out;omega)).trans f7.out;clear q3 g1 y9;refine EA d (l1.out) fun zH=>?_;clear d K;try simp only [zc,Dn]
         refine zK 9 fun K d=>?_;go_simp;refine EA d (l1.out) fun zH=>?_;clear d K;try simp only [zc,Dn]
         refine zK 10 fun K d=>?_;have cg7:=j1.out.cell (k:=2) rfl;have fg7:=j1.out.frozen 2;go_simp;clear cg7 fg7;refine EA d (zi.set (l1.out) gp 2 (.slice A5 (acc.length+1) c5) (.inr rfl)) fun zH=>?_;clear d K;try simp only [zc,Dn]
         refine DV (by kernel_rfl) ?_ _;have a5:Hid (zi (fun b=>b=gx\/b=gp) w6 (w5.setCell ⟨gp,2,none⟩ (.slice A5 (acc.length+1) c5))):=zi.set (l1.out) gp 2 (.slice A5 (acc.length+1) c5) (.inr rfl);have M:Hid (ze (w5.setCell ⟨gp,2,none⟩ (.slice A5 (acc.length+1) c5)) gp 41 #[.int .i64 c,.slice none 0 0,(.slice A5 (acc.length+1) c5)]):=j1.out.set (k:=2) (.slice A5 (acc.length+1) c5);have a6:Hid (ze (w5.setCell ⟨gp,2,none⟩ (.slice A5 (acc.length+1) c5)) gx 140 #[.int .i64 r3.2.2]):=B5.out.setOther (a:=⟨gp,2,none⟩) (by have:=o.out;show gx≠gp;omega) (.slice A5 (acc.length+1) c5);have a4:=zh (A9.out.chg (zi.set (X:=fun b=>b=gp) (zi.refl _ w5) gp 2 (.slice A5 (acc.length+1) c5) rfl) (fun b hb e=>by have:=o.out;omega));generalize w5.setCell ⟨gp,2,none⟩ (.slice A5 (acc.length+1) c5)=wz at a5 M a6 a4⊢;have hF1:(F n kk).1=0:=by rw [g8.out];exact v7.out
         have a3:Hid (zI F L (k+1) []=zI F (L.drop (j+1)) r3.2.2 (acc++[r3.2.1])):=by (show _=_);rw [f0.out,d9.out,CO hF1,g8.out]
         have a2:Hid (r3.2.2<=3000):=by (show _<=_);have h:=(Ca HC.out fl (ch++[n]) kk b3.out a9.out (by rw [<-o5.out];exact v7.out)).2.2;rw [<-o5.out] at h;exact h
         clear hF1;go_wp2;go_roundw
         case rel=>exact ⟨j+1,_,_,_,_,by go_num,by omega,by (show _=_);rw [Dz,G.out];rfl,a2.out,a3.out,a5.out,a6.out,M.out,a4.out⟩
         case measure=>simp [intOf];omega
        refine DS rfl (fun K d=>?_) .nil;go_simp;go_at_call 150;refine (Dc c n wd (t7.out.more b4.out) HL.out HC.out b3.out i0.out.2).mono ?_;rintro e w8 ⟨vc8,vp8,rfl,i4,x3⟩;have a1:Hid (zb wq w8):=b4.out.trans i4;have t6:=zh x3;clear i4 x3;refine EA d (zi.trans z.out (zi.wide (zi.of_ext (X:=fun b=>b=gx) a1.out) (X':=fun b=>b=gx\/b=gp) (fun k h=>.inl h)) (fun _ _ h=>h)) fun zH=>?_;clear d K;try simp only [zc,Dn]
        refine rdA [1,6] ?_;refine DS rfl (fun K d=>?_) ?_
        ·have cg9:w8.cell? ⟨gp,2,none⟩=some vk:=zi.cellk (zi.of_ext (X:=fun b=>b=gx) a1.out) (a7.out.cell (k:=2) rfl) (by have:=o.out;show ¬ (gp=gx);omega);go_simp;clear cg9;refine EA d (zi.trans z.out (zi.wide (zi.of_ext (X:=fun b=>b=gx) a1.out) (X':=fun b=>b=gx\/b=gp) (fun k h=>.inl h)) (fun _ _ h=>h)) fun zH=>?_;clear d K;try simp only [zc,Dn]
         refine zK 6 fun K d=>?_;go_simp;go_at_call 91;refine (IH.out (ch++[n]) kk gx _ vc8 vp8 w8 t6.out b3.out (by have:=HF.out;rw [Dz,DR];omega) a9.out (a1.out.cellB g0.out) (fun b hb=>by have D:=j0.out;have J:=b4.out.size;have h3:=za g0.out;rcases hb with hb | hb;exact D b hb;omega)).mono ?_;obtain ⟨r10,k6⟩:∃r:Int×PT×Nat,r=zm m fl (ch++[n]) kk:=⟨_,rfl⟩;rw [<-k6];have j2:=zh k6;have c9:Hid (F n kk=r10):=by (show _=_);rw [o3.out];exact j2.out.symm
         clear k6;rintro e w10 ⟨j4,(⟨h0,v10,rfl,j7,n3⟩ | ⟨h0,rfl⟩)⟩
         rotate_left
         ·go_wp2;refine ⟨rfl,?_⟩;exact prove_fin3 (x:=zm m (fl+1) ch k) i2.out z.out o.out f1.out (zi.trans (zi.of_ext (X:=fun b=>b=gx) a1.out) j4 (fun _ _ h=>h)) (by rw [i1.out];exact (prove_err (F:=F) (n:=n) (l:=L.drop (j+1)) (k:=kk) (acc:=acc) (by rw [c9.out];exact h0) (f0.out.trans (by rw [d9.out]))).trans (by rw [c9.out])) h0
         have m1:Hid (zi (fun b=>b=gx) wq w10):=zi.trans (zi.of_ext (X:=fun b=>b=gx) a1.out) j4 (fun _ _ h=>h);obtain ⟨As10,cs10,Ak10,ck10,rfl,-⟩:=j7.form;have t1:=zh j7;have t9:=zh n3;have n2:=zh h0;have i9:Hid (wq.heap.size<=w8.heap.size):=a1.out.size;clear j4 j7 n3 h0;refine EA d (zi.trans z.out (zi.wide (m1.out) (X':=fun b=>b=gx\/b=gp) (fun k h=>.inl h)) (fun _ _ h=>h)) fun zH=>?_;clear d K;try simp only [zc,Dn]
         refine zK 7 fun K d=>?_;go_simp;have h4:=ze.new w10 #[.int .i64 r10.2.1.task,.slice As10 r10.2.1.side.length cs10,.slice Ak10 r10.2.1.kids.length ck10] 41 (g:=w10.heap.size) rfl;have hA11:zb w10 (w10.alloc (.cells #[.int .i64 r10.2.1.task,.slice As10 r10.2.1.side.length cs10,.slice Ak10 r10.2.1.kids.length ck10] 41)):=(zb.refl w10).alloc _;generalize w10.alloc _=w11 at h4 hA11⊢;generalize w10.heap.size=g11 at h4⊢;have q8:=zh h4;have b7:Hid (zi (fun b=>b=gx) wq w11):=zi.trans (m1.out) (zi.of_ext (X:=fun b=>b=gx) hA11) (fun _ _ h=>h);have t2:=zh (t1.out.ext hA11);have m8:=zh (t9.out.ext hA11);clear h4 hA11;refine EA d (zi.trans z.out (zi.wide (b7.out) (X':=fun b=>b=gx\/b=gp) (fun k h=>.inl h)) (fun _ _ h=>h)) fun zH=>?_;clear d K;try simp only [zc,Dn]
         refine zK 8 fun K d=>?_;have m2:Hid (Aj w11 w6.heap.size vk acc cs):=E.out.chg (b7.out) (fun b hb e=>by have:=o.out;omega);refine Ag (ok:=fun _=>True) (by rfl) w11 _ _ eProof (by rfl) w6.heap.size acc.length 1 cs _ vk _ (by rfl) (by rfl) m2.out.own (Cj q8.out) (fun u hu=>by simp at hu;rcases hu with rfl | rfl | rfl <;> rfl) (by have D:=z.out.size;have J:=zi.size (b7.out);omega) (by have:=G.out;unfold maxLen;omega) (by have:=G.out;omega) ?_;intro v12 w12 k3 e7 n8;have s8:=zh (show Aj w12 w6.heap.size _ (acc++[r10.2.1]) (cs++[.int .i64 r10.2.1.task,.slice As10 r10.2.1.side.length cs10,.slice Ak10 r10.2.1.kids.length ck10]) from m2.out.app (lo:=w8.heap.size) t2.out (fun k hk=>by have D:=E.out.lt hk;have J:=i9.out;omega) (by have D:=z.out.size;have J:=i9.out;omega) k3 e7 n8);have g3:Hid (zi (fun b=>b=gx\/b=gp) w6 w12):=zi.grown (zi.trans z.out (zi.wide (b7.out) (X':=fun b=>b=gx\/b=gp) (fun k h=>.inl h)) (fun _ _ h=>h)) e7 (fun k hk O=>by have D:=E.out.lt hk;omega);obtain ⟨A12,c12,e12,-,-⟩:=Aw.of_own k3;subst e12;have f3:Hid (ze w12 gp 41 #[.int .i64 c,.slice none 0 0,vk]):=(e7.block gp (by have D:=o.out.1;have J:=z.out.size;have h3:=zi.size (b7.out);omega) (fun e=>by have D:=E.out.lt e.symm;have J:=o.out;omega)).trans (zi.blk (b7.out) a7.out (by have:=o.out;omega));have v1:Hid (ze w12 gx 140 #[.int .i64 r10.2.2]):=(e7.block gx (za m8.out) (fun e=>by have D:=E.out.lt e.symm;have J:=o.out;omega)).trans m8.out;clear k3 e7 n8;refine EA d (g3.out) fun zH=>?_;clear d K;try simp only [zc,Dn]
         refine zK 9 fun K d=>?_;go_simp;refine EA d (g3.out) fun zH=>?_;clear d K;try simp only [zc,Dn]
         refine zK 10 fun K d=>?_;have cg14:=f3.out.cell (k:=2) rfl;have fg14:=f3.out.frozen 2;go_simp;clear cg14 fg14;refine EA d (zi.set (g3.out) gp 2 (.slice A12 (acc.length+1) c12) (.inr rfl)) fun zH=>?_;clear d K;try simp only [zc,Dn]
         refine DV (by kernel_rfl) ?_ _;have a5:Hid (zi (fun b=>b=gx\/b=gp) w6 (w12.setCell ⟨gp,2,none⟩ (.slice A12 (acc.length+1) c12))):=zi.set (g3.out) gp 2 (.slice A12 (acc.length+1) c12) (.inr rfl);have M:Hid (ze (w12.setCell ⟨gp,2,none⟩ (.slice A12 (acc.length+1) c12)) gp 41 #[.int .i64 c,.slice none 0 0,(.slice A12 (acc.length+1) c12)]):=f3.out.set (k:=2) (.slice A12 (acc.length+1) c12);have a6:Hid (ze (w12.setCell ⟨gp,2,none⟩ (.slice A12 (acc.length+1) c12)) gx 140 #[.int .i64 r10.2.2]):=v1.out.setOther (a:=⟨gp,2,none⟩) (by have:=o.out;show gx≠gp;omega) (.slice A12 (acc.length+1) c12);have a4:=zh (s8.out.chg (zi.set (X:=fun b=>b=gp) (zi.refl _ w12) gp 2 (.slice A12 (acc.length+1) c12) rfl) (fun b hb e=>by have:=o.out;omega));generalize w12.setCell ⟨gp,2,none⟩ (.slice A12 (acc.length+1) c12)=wz at a5 M a6 a4⊢;have hF1:(F n kk).1=0:=by rw [c9.out];exact n2.out
         have a3:Hid (zI F L (k+1) []=zI F (L.drop (j+1)) r10.2.2 (acc++[r10.2.1])):=by (show _=_);rw [f0.out,d9.out,CO hF1,c9.out]
         have a2:Hid (r10.2.2<=3000):=by (show _<=_);have h:=(Ca HC.out fl (ch++[n]) kk b3.out a9.out (by rw [<-j2.out];exact n2.out)).2.2;rw [<-j2.out] at h;exact h
         clear hF1;go_wp2;go_roundw
         case rel=>exact ⟨j+1,_,_,_,_,by go_num,by omega,by (show _=_);rw [Dz,G.out];rfl,a2.out,a3.out,a5.out,a6.out,M.out,a4.out⟩
         case measure=>simp [intOf];omega
        refine DS rfl (fun K d=>?_) .nil;go_simp;go_at_call 91;refine (IH.out (ch++[n]) kk gx _ vc8 vp8 w8 t6.out b3.out (by have:=HF.out;rw [Dz,DR];omega) a9.out (a1.out.cellB g0.out) (fun b hb=>by have D:=j0.out;have J:=b4.out.size;have h3:=za g0.out;rcases hb with hb | hb;exact D b hb;omega)).mono ?_;obtain ⟨r15,k7⟩:∃r:Int×PT×Nat,r=zm m fl (ch++[n]) kk:=⟨_,rfl⟩;rw [<-k7];have e4:=zh k7;have Q:Hid (F n kk=r15):=by (show _=_);rw [o3.out];exact e4.out.symm
        clear k7;rintro e w15 ⟨j5,(⟨h0,v15,rfl,j8,n4⟩ | ⟨h0,rfl⟩)⟩
        rotate_left
        ·go_wp2;refine ⟨rfl,?_⟩;exact prove_fin3 (x:=zm m (fl+1) ch k) i2.out z.out o.out f1.out (zi.trans (zi.of_ext (X:=fun b=>b=gx) a1.out) j5 (fun _ _ h=>h)) (by rw [i1.out];exact (prove_err (F:=F) (n:=n) (l:=L.drop (j+1)) (k:=kk) (acc:=acc) (by rw [Q.out];exact h0) (f0.out.trans (by rw [d9.out]))).trans (by rw [Q.out])) h0
        have d8:Hid (zi (fun b=>b=gx) wq w15):=zi.trans (zi.of_ext (X:=fun b=>b=gx) a1.out) j5 (fun _ _ h=>h);obtain ⟨As15,cs15,Ak15,ck15,rfl,-⟩:=j8.form;have m7:=zh j8;have m9:=zh n4;have g9:=zh h0;have d4:Hid (wq.heap.size<=w8.heap.size):=a1.out.size;clear j5 j8 n4 h0;refine EA d (zi.trans z.out (zi.wide (d8.out) (X':=fun b=>b=gx\/b=gp) (fun k h=>.inl h)) (fun _ _ h=>h)) fun zH=>?_;clear d K;try simp only [zc,Dn]
        refine rdA [1,7] ?_;refine DS rfl (fun K d=>?_) ?_
        ·have cg16:w15.cell? ⟨gp,2,none⟩=some vk:=zi.cellk (d8.out) (a7.out.cell (k:=2) rfl) (by have:=o.out;show ¬ (gp=gx);omega);go_simp;clear cg16;refine EA d (zi.trans z.out (zi.wide (d8.out) (X':=fun b=>b=gx\/b=gp) (fun k h=>.inl h)) (fun _ _ h=>h)) fun zH=>?_;clear d K;try simp only [zc,Dn]
         refine zK 7 fun K d=>?_;go_simp;have h5:=ze.new w15 #[.int .i64 r15.2.1.task,.slice As15 r15.2.1.side.length cs15,.slice Ak15 r15.2.1.kids.length ck15] 41 (g:=w15.heap.size) rfl;have hA17:zb w15 (w15.alloc (.cells #[.int .i64 r15.2.1.task,.slice As15 r15.2.1.side.length cs15,.slice Ak15 r15.2.1.kids.length ck15] 41)):=(zb.refl w15).alloc _;generalize w15.alloc _=w17 at h5 hA17⊢;generalize w15.heap.size=g17 at h5⊢;have q9:=zh h5;have b8:Hid (zi (fun b=>b=gx) wq w17):=zi.trans (d8.out) (zi.of_ext (X:=fun b=>b=gx) hA17) (fun _ _ h=>h);have t3:=zh (m7.out.ext hA17);have n0:=zh (m9.out.ext hA17);clear h5 hA17;refine EA d (zi.trans z.out (zi.wide (b8.out) (X':=fun b=>b=gx\/b=gp) (fun k h=>.inl h)) (fun _ _ h=>h)) fun zH=>?_;clear d K;try simp only [zc,Dn]
         refine zK 8 fun K d=>?_;have m3:Hid (Aj w17 w6.heap.size vk acc cs):=E.out.chg (b8.out) (fun b hb e=>by have:=o.out;omega);refine Ag (ok:=fun _=>True) (by rfl) w17 _ _ eProof (by rfl) w6.heap.size acc.length 1 cs _ vk _ (by rfl) (by rfl) m3.out.own (Cj q9.out) (fun u hu=>by simp at hu;rcases hu with rfl | rfl | rfl <;> rfl) (by have D:=z.out.size;have J:=zi.size (b8.out);omega) (by have:=G.out;unfold maxLen;omega) (by have:=G.out;omega) ?_;intro v18 w18 k4 e8 n9;have s9:=zh (show Aj w18 w6.heap.size _ (acc++[r15.2.1]) (cs++[.int .i64 r15.2.1.task,.slice As15 r15.2.1.side.length cs15,.slice Ak15 r15.2.1.kids.length ck15]) from m3.out.app (lo:=w8.heap.size) t3.out (fun k hk=>by have D:=E.out.lt hk;have J:=d4.out;omega) (by have D:=z.out.size;have J:=d4.out;omega) k4 e8 n9);have g6:Hid (zi (fun b=>b=gx\/b=gp) w6 w18):=zi.grown (zi.trans z.out (zi.wide (b8.out) (X':=fun b=>b=gx\/b=gp) (fun k h=>.inl h)) (fun _ _ h=>h)) e8 (fun k hk O=>by have D:=E.out.lt hk;omega);obtain ⟨A18,c18,e18,-,-⟩:=Aw.of_own k4;subst e18;have f4:Hid (ze w18 gp 41 #[.int .i64 c,.slice none 0 0,vk]):=(e8.block gp (by have D:=o.out.1;have J:=z.out.size;have h3:=zi.size (b8.out);omega) (fun e=>by have D:=E.out.lt e.symm;have J:=o.out;omega)).trans (zi.blk (b8.out) a7.out (by have:=o.out;omega));have v2:Hid (ze w18 gx 140 #[.int .i64 r15.2.2]):=(e8.block gx (za n0.out) (fun e=>by have D:=E.out.lt e.symm;have J:=o.out;omega)).trans n0.out;clear k4 e8 n9;refine EA d (g6.out) fun zH=>?_;clear d K;try simp only [zc,Dn]
         refine zK 9 fun K d=>?_;go_simp;refine EA d (g6.out) fun zH=>?_;clear d K;try simp only [zc,Dn]
         refine zK 10 fun K d=>?_;have cg20:=f4.out.cell (k:=2) rfl;have fg20:=f4.out.frozen 2;go_simp;clear cg20 fg20;refine EA d (zi.set (g6.out) gp 2 (.slice A18 (acc.length+1) c18) (.inr rfl)) fun zH=>?_;clear d K;try simp only [zc,Dn]
         refine DV (by kernel_rfl) ?_ _;have a5:Hid (zi (fun b=>b=gx\/b=gp) w6 (w18.setCell ⟨gp,2,none⟩ (.slice A18 (acc.length+1) c18))):=zi.set (g6.out) gp 2 (.slice A18 (acc.length+1) c18) (.inr rfl);have M:Hid (ze (w18.setCell ⟨gp,2,none⟩ (.slice A18 (acc.length+1) c18)) gp 41 #[.int .i64 c,.slice none 0 0,(.slice A18 (acc.length+1) c18)]):=f4.out.set (k:=2) (.slice A18 (acc.length+1) c18);have a6:Hid (ze (w18.setCell ⟨gp,2,none⟩ (.slice A18 (acc.length+1) c18)) gx 140 #[.int .i64 r15.2.2]):=v2.out.setOther (a:=⟨gp,2,none⟩) (by have:=o.out;show gx≠gp;omega) (.slice A18 (acc.length+1) c18);have a4:=zh (s9.out.chg (zi.set (X:=fun b=>b=gp) (zi.refl _ w18) gp 2 (.slice A18 (acc.length+1) c18) rfl) (fun b hb e=>by have:=o.out;omega));generalize w18.setCell ⟨gp,2,none⟩ (.slice A18 (acc.length+1) c18)=wz at a5 M a6 a4⊢;have hF1:(F n kk).1=0:=by rw [Q.out];exact g9.out
         have a3:Hid (zI F L (k+1) []=zI F (L.drop (j+1)) r15.2.2 (acc++[r15.2.1])):=by (show _=_);rw [f0.out,d9.out,CO hF1,Q.out]
         have a2:Hid (r15.2.2<=3000):=by (show _<=_);have h:=(Ca HC.out fl (ch++[n]) kk b3.out a9.out (by rw [<-e4.out];exact g9.out)).2.2;rw [<-e4.out] at h;exact h
         clear hF1;go_wp2;go_roundw
         case rel=>exact ⟨j+1,_,_,_,_,by go_num,by omega,by (show _=_);rw [Dz,G.out];rfl,a2.out,a3.out,a5.out,a6.out,M.out,a4.out⟩
         case measure=>simp [intOf];omega
        refine DS rfl (fun K d=>?_) .nil;go_simp;have h6:=ze.new w15 #[.int .i64 r15.2.1.task,.slice As15 r15.2.1.side.length cs15,.slice Ak15 r15.2.1.kids.length ck15] 41 (g:=w15.heap.size) rfl;have hA21:zb w15 (w15.alloc (.cells #[.int .i64 r15.2.1.task,.slice As15 r15.2.1.side.length cs15,.slice Ak15 r15.2.1.kids.length ck15] 41)):=(zb.refl w15).alloc _;generalize w15.alloc _=w21 at h6 hA21⊢;generalize w15.heap.size=g21 at h6⊢;have r9:=zh h6;have U:Hid (zi (fun b=>b=gx) wq w21):=zi.trans (d8.out) (zi.of_ext (X:=fun b=>b=gx) hA21) (fun _ _ h=>h);have t4:=zh (m7.out.ext hA21);have n1:=zh (m9.out.ext hA21);clear h6 hA21;refine EA d (zi.trans z.out (zi.wide (U.out) (X':=fun b=>b=gx\/b=gp) (fun k h=>.inl h)) (fun _ _ h=>h)) fun zH=>?_;clear d K;try simp only [zc,Dn]
        refine zK 1 fun K d=>?_;have cg22:w21.cell? ⟨gp,2,none⟩=some vk:=zi.cellk (U.out) (a7.out.cell (k:=2) rfl) (by have:=o.out;show ¬ (gp=gx);omega);go_simp;clear cg22;refine EA d (zi.trans z.out (zi.wide (U.out) (X':=fun b=>b=gx\/b=gp) (fun k h=>.inl h)) (fun _ _ h=>h)) fun zH=>?_;clear d K;try simp only [zc,Dn]
        refine zK 8 fun K d=>?_;have m4:Hid (Aj w21 w6.heap.size vk acc cs):=E.out.chg (U.out) (fun b hb e=>by have:=o.out;omega);refine Ag (ok:=fun _=>True) (by rfl) w21 _ _ eProof (by rfl) w6.heap.size acc.length 1 cs _ vk _ (by rfl) (by rfl) m4.out.own (Cj r9.out) (fun u hu=>by simp at hu;rcases hu with rfl | rfl | rfl <;> rfl) (by have D:=z.out.size;have J:=zi.size (U.out);omega) (by have:=G.out;unfold maxLen;omega) (by have:=G.out;omega) ?_;intro v23 w23 k5 e9 o0;have t0:=zh (show Aj w23 w6.heap.size _ (acc++[r15.2.1]) (cs++[.int .i64 r15.2.1.task,.slice As15 r15.2.1.side.length cs15,.slice Ak15 r15.2.1.kids.length ck15]) from m4.out.app (lo:=w8.heap.size) t4.out (fun k hk=>by have D:=E.out.lt hk;have J:=d4.out;omega) (by have D:=z.out.size;have J:=d4.out;omega) k5 e9 o0);have g7:Hid (zi (fun b=>b=gx\/b=gp) w6 w23):=zi.grown (zi.trans z.out (zi.wide (U.out) (X':=fun b=>b=gx\/b=gp) (fun k h=>.inl h)) (fun _ _ h=>h)) e9 (fun k hk O=>by have D:=E.out.lt hk;omega);obtain ⟨A23,c23,e23,-,-⟩:=Aw.of_own k5;subst e23;have f5:Hid (ze w23 gp 41 #[.int .i64 c,.slice none 0 0,vk]):=(e9.block gp (by have D:=o.out.1;have J:=z.out.size;have h3:=zi.size (U.out);omega) (fun e=>by have D:=E.out.lt e.symm;have J:=o.out;omega)).trans (zi.blk (U.out) a7.out (by have:=o.out;omega));have v4:Hid (ze w23 gx 140 #[.int .i64 r15.2.2]):=(e9.block gx (za n1.out) (fun e=>by have D:=E.out.lt e.symm;have J:=o.out;omega)).trans n1.out;clear k5 e9 o0;refine EA d (g7.out) fun zH=>?_;clear d K;try simp only [zc,Dn]
        refine zK 9 fun K d=>?_;go_simp;refine EA d (g7.out) fun zH=>?_;clear d K;try simp only [zc,Dn]
        refine zK 10 fun K d=>?_;have cg25:=f5.out.cell (k:=2) rfl;have fg25:=f5.out.frozen 2;go_simp;clear cg25 fg25;refine EA d (zi.set (g7.out) gp 2 (.slice A23 (acc.length+1) c23) (.inr rfl)) fun zH=>?_;clear d K;try simp only [zc,Dn]
        refine DV (by kernel_rfl) ?_ _;have a5:Hid (zi (fun b=>b=gx\/b=gp) w6 (w23.setCell ⟨gp,2,none⟩ (.slice A23 (acc.length+1) c23))):=zi.set (g7.out) gp 2 (.slice A23 (acc.length+1) c23) (.inr rfl);have M:Hid (ze (w23.setCell ⟨gp,2,none⟩ (.slice A23 (acc.length+1) c23)) gp 41 #[.int .i64 c,.slice none 0 0,(.slice A23 (acc.length+1) c23)]):=f5.out.set (k:=2) (.slice A23 (acc.length+1) c23);have a6:Hid (ze (w23.setCell ⟨gp,2,none⟩ (.slice A23 (acc.length+1) c23)) gx 140 #[.int .i64 r15.2.2]):=v4.out.setOther (a:=⟨gp,2,none⟩) (by have:=o.out;show gx≠gp;omega) (.slice A23 (acc.length+1) c23);have a4:=zh (t0.out.chg (zi.set (X:=fun b=>b=gp) (zi.refl _ w23) gp 2 (.slice A23 (acc.length+1) c23) rfl) (fun b hb e=>by have:=o.out;omega));generalize w23.setCell ⟨gp,2,none⟩ (.slice A23 (acc.length+1) c23)=wz at a5 M a6 a4⊢;have hF1:(F n kk).1=0:=by rw [Q.out];exact g9.out
        have a3:Hid (zI F L (k+1) []=zI F (L.drop (j+1)) r15.2.2 (acc++[r15.2.1])):=by (show _=_);rw [f0.out,d9.out,CO hF1,Q.out]
        have a2:Hid (r15.2.2<=3000):=by (show _<=_);have h:=(Ca HC.out fl (ch++[n]) kk b3.out a9.out (by rw [<-e4.out];exact g9.out)).2.2;rw [<-e4.out] at h;exact h
        clear hF1;go_wp2;go_roundw
        case rel=>exact ⟨j+1,_,_,_,_,by go_num,by omega,by (show _=_);rw [Dz,G.out];rfl,a2.out,a3.out,a5.out,a6.out,M.out,a4.out⟩
        case measure=>simp [intOf];omega
       ·have y3:j=L.length:=by omega
        have C1:¬ ((j:Int)<(L.length:Int)):=by omega
        have o2:Hid (zI F L (k+1) []=(0,acc,kk)):=by
         show _=_;rw [f0.out,y3,List.drop_length];rfl
        have B:ze wk' (gs+1) 41 #[.int .i64 0,.slice none 0 0,.slice none 0 0]:=z.out.blk B7.out (by have:=o.out;omega);have z0:=B.cell (k:=0) rfl;have z1:=B.cell (k:=1) rfl;have z2:=B.cell (k:=2) rfl;have hfz:∀j,wk'.frozen? ⟨gs+1,j,none⟩=false:=fun j=>B.frozen j
        have i6:=zh B;obtain ⟨Ak,ck,evk,-,-⟩:=Aw.of_own E.out.own;subst evk;have p0:=a7.out.cell (k:=0) rfl;have p1:=a7.out.cell (k:=1) rfl;have p2:=a7.out.cell (k:=2) rfl;clear B y3
        go_wp2_with fail
        refine case_fin3 (P:=fun W=>bodyPost Tryz.prog Tryz.f91 _ Exit.ret _ W) (g2:=gs+1) ?_ i6.out;intro WZ a8 j6 y4;have y0:=a8.cell (k:=0) rfl;have y1:=a8.cell (k:=1) rfl;have y2:=a8.cell (k:=2) rfl;refine El (v:=.agg #[.int .i64 c,.slice none 0 0,.slice Ak acc.length ck]) (by simp [results,Tryz.results91,go_sem,y0,y1,y2]) rfl ?_;rw [i1.out,o2.out,if_pos rfl,<-b2.out];exact prove_fin2 i2.out z.out o.out f1.out g0.out E.out j6 y4
end
end Go.Proofs.YtnmkmhpgnpojbaaGreatDoor
