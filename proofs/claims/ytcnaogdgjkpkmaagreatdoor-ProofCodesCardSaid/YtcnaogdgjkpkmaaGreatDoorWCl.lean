import Derived.Test.YtcnaogdgjkpkmaaGreatDoorWCj
import Derived.WalkLawsBesides
set_option linter.unusedVariables false
set_option linter.unusedSimpArgs false
set_option maxRecDepth 100000
set_option maxHeartbeats 16000000
namespace Go.Proofs.YtcnaogdgjkpkmaaGreatDoor
variable {ch:List Int} {m:MZ} {gp gs gx:Nat} {WZ w w6 wr:World}
section
open Go.RowKit
attribute [local go_sem ↓] Go.wp_at_zero Go.wp_at_succ
attribute [local go_sem] Oper.semAt_some
def Ch (w:World) (gx:Nat) (r:Int×PT×Nat) (e:Ending) (w':World):Prop:=
 zd (fun b=>b=gx) w w'/\((r.1=0/\∃v,e=.returned v/\zV w' (fun b=>w.heap.size<=b) v r.2.1/\ze w' gx 86 #[.int .i64 r.2.2])\/(r.1≠0/\e=.panicked [{ v:=.iface 37 (.int .i64 r.1),recovered:=false }]))
theorem case_fin3 {P:World->Prop} {W:World} {g2:Nat} {t:TypeId} {a0 a1 a2 z0 z1 z2:Value} (h:∀WZ,ze WZ g2 t #[a0,a1,a2]->Below g2 W WZ->(∀k,k<W.heap.size->k≠g2->WZ.heap[k]?=W.heap[k]?)->P WZ) (o:ze W g2 t #[z0,z1,z2]):
  P (((W.setCell ⟨g2,0,none⟩ a0).setCell ⟨g2,1,none⟩ a1).setCell ⟨g2,2,none⟩ a2):=
 h (setL g2 0 [a0,a1,a2] W) (setL_blk [a0,a1,a2] [z0,z1,z2] [] W rfl o) (Bp g2 _ 0 W) (fun k _ d=>Bq g2 k d _ 0 W)
theorem prove_fin {w4 w7 wk w5:World} {S:List Int} {tn k c6:Nat} {A6:Option Addr} {zs:Array Value} (J:gs=w.heap.size) (K:gx<gs) (D:zd (fun b=>b=gx) w w4) (r:za w4 w7) (I:ze w4 (gs+1) 27 zs) (E:ze w4 gx 86 #[.int .i64 ((k:Int)+1)])
  (d:Below (gs+1) w7 WZ) (o:∀k,k<w7.heap.size->k≠gs+1->WZ.heap[k]?=w7.heap[k]?) (U:wk.heap.size<=w5.heap.size) (Q:w4.heap.size<=wk.heap.size) (hI:zk w7 (fun b=>w5.heap.size<=b) (.slice A6 S.length c6) S) (G:S=BE m ch tn):
  Ch w gx (0,.node tn (BE m ch tn) [],k+1) (.returned (.agg #[.int .i64 tn,.slice A6 S.length c6,.slice none 0 0])) WZ:=by
 have hz:=zb I;have V:=zb E;have O:=r.size;refine ⟨zd.trans D (zd.trans (zd.of_ext (X:=fun b=>b=gs+1) r) ⟨d.os,d.tape,d.output,d.size,fun b z M=>o b z M⟩ (fun _ _ h=>h)) (fun k h1 h2=>by omega),.inl ⟨rfl,_,rfl,?_,?_⟩⟩
 ·rw [<-G];exact .mk (cs:=[]) ((hI.keep (fun b z B=>o b B (by omega))).weaken (fun b z=>by have:=D.size;omega)) ⟨none,0,rfl,CY _,Aj.nil _ _ _ _⟩ (fun i L=>absurd L (by simp))
 ·have h1:=E.ext r;have h2:ze WZ gx 86 #[.int .i64 ((k:Int)+1)]:=(o gx (zb h1) (by omega)).trans h1
  rwa [show ((k:Int)+1)=((k+1:Nat):Int) from by omega] at h2
theorem prove_fin2 {c kk:Nat} {vk:Value} {acc:List PT} {cs:List Value} (B:zd (fun b=>b=gx) w w6) (G:zd (fun b=>b=gx\/b=gp) w6 wr) (K:gp<w6.heap.size/\gx<gs/\gs+1<gp) (I:gs=w.heap.size)
  (D:ze wr gx 86 #[.int .i64 kk]) (E:zO wr w6.heap.size vk acc cs) (d:Below (gs+1) wr WZ) (o:∀k,k<wr.heap.size->k≠gs+1->WZ.heap[k]?=wr.heap[k]?):
  Ch w gx (0,.node c [] acc,kk) (.returned (.agg #[.int .i64 c,.slice none 0 0,vk])) WZ:=by
 refine ⟨zd.trans (X':=fun b=>b=gx\/b=gp\/b=gs+1) B (zd.trans (G.wide (fun k h=>by omega)) (⟨d.os,d.tape,d.output,d.size,fun b r J=>o b r J⟩:zd (fun b=>b=gs+1) wr WZ) (fun k _ h=>.inr (.inr h))) (fun k h1 h2=>by omega),.inl ⟨rfl,_,rfl,?_,?_⟩⟩
 ·refine (E.kids c).keepW (fun b r z=>o b z (by omega)) fun b r=>?_;have:=B.size;omega
 ·exact (o gx (zb D) (by omega)).trans D
theorem prove_fin3 {w8:World} {r x:Int×PT×Nat} (z:zd (fun b=>b=gx) w w6) (B:zd (fun b=>b=gx\/b=gp) w6 wr) (E:gp<w6.heap.size/\gx<gs/\gs+1<gp) (D:gs=w.heap.size) (o:zd (fun b=>b=gx) wr w8) (d:x.1=r.1) (h:r.1≠0):
  Ch w gx x (.panicked [{ v:=.iface 37 (.int .i64 r.1),recovered:=false }]) w8:=
 ⟨zd.trans z (zd.trans B (o.wide (X':=fun b=>b=gx\/b=gp) (fun k h=>.inl h)) (fun _ _ h=>h)) (fun k h1 h2=>by omega),.inr ⟨by rw [d];exact h,by rw [d]⟩⟩
theorem headP_len {t:Nat} (d:Lens m) (ht:t<m.tasks.length):(AC m ch t).length<=20000000000000:=by
 unfold AC
 split
 ·cases ((zl m ch).getD t []).getLast? <;> simp
 ·refine Da (DA _ _) ?_;rw [CX,CW ht];have:=(d.tl _ (CZ ht)).1;show (m.tasks[t]).1.length<=_;omega
theorem prove_calls {m:MZ} {f u ts:Value} (hl:Lens m) (hc:Cc m=0):
  ∀(fl:Nat) (ch:List Int) (k gx:Nat) (ok:Nat->Prop) (vc vp:Value) (w:World),PSt w ok m f u ts vc vp ch->zG m ch->m.n.toNat+2<=fl+ch.length->k<=3000->ze w gx 86 #[.int .i64 k]->(∀b,ok b->b≠gx)->
   Calls Tryz.prog 50 #[.pointer (some ⟨gx,0,none⟩),CT m f u ts vc vp (zD m ch)] w (Ch w gx (zn m fl ch k))
 | 0,ch,k,gx,ok,vc,vp,w,_,hi,hf,_,_,_=>by
  have:=hi.len (AF.of hc);omega
 | fl+1,ch,k,gx,ok,vc,vp,w,h,hi,hf,hk,hx,z6=>by
  have H:=zh h;have HL:=zh hl;have HC:=zh hc;have HI:=zh hi;have HF:=zh hf;have HK:=zh hk;have HX:=zh hx;have i8:=zh z6;have IH:=zh (prove_calls (f:=f) (u:=u) (ts:=ts) hl hc fl);obtain ⟨Af,cf,Au,cu,At,ct,Ac,cc,Ap,cp,rfl,rfl,rfl,rfl,rfl,-,-⟩:=h.parts;obtain ⟨PL,hP⟩:=DX ((zl m ch).length);rw [<-hP] at H⊢;clear h hl hc hi hP hf hk z6;obtain ⟨c,p8⟩:=DX (zD m ch);rw [<-p8];have b0:=zh p8;clear p8 hx;unfold CT
  go_enter Tryz.func50,Tryz.ntmps50
  go_upto_region 1 with fail;have l5:=ze.new w #[.int .i64 m.w,.int .i64 m.h,.int .i64 m.l,.slice Af m.free.length cf,.slice Au m.up.length cu,.slice At m.tasks.length ct,.slice Ac ch.length cc,.slice Ap PL cp,.int .i64 c] 70 (g:=w.heap.size) rfl;have l8:za w (w.alloc (.cells #[.int .i64 m.w,.int .i64 m.h,.int .i64 m.l,.slice Af m.free.length cf,.slice Au m.up.length cu,.slice At m.tasks.length ct,.slice Ac ch.length cc,.slice Ap PL cp,.int .i64 c] 70)):=(za.refl w).alloc _;have k8:(w.alloc (.cells #[.int .i64 m.w,.int .i64 m.h,.int .i64 m.l,.slice Af m.free.length cf,.slice Au m.up.length cu,.slice At m.tasks.length ct,.slice Ac ch.length cc,.slice Ap PL cp,.int .i64 c] 70)).heap.size=w.heap.size+1:=by simp
  generalize w.alloc _=w1 at l5 l8 k8⊢;have B:=ze.new w1 #[.int .i64 0,.slice none 0 0,.slice none 0 0] 27 (g:=w1.heap.size) rfl;have j7:za w1 (w1.alloc (.cells #[.int .i64 0,.slice none 0 0,.slice none 0 0] 27)):=(za.refl w1).alloc _;generalize w1.alloc _=w2 at B j7⊢;rw [k8] at B;obtain ⟨gs,l9⟩:=DX w.heap.size;rw [<-l9] at l5 B⊢;have e9:Hid (gs=w.heap.size):=l9;have i6:Hid (gx<gs):=by show _<_;rw [l9];exact zb HX.out
  have HZ:=zh B;have a8:=zh (l5.ext j7);have C1:=zh ((HX.out.ext l8).ext j7);have l4:=zh (l8.trans j7);clear l5 l8 k8 B j7 l9;have c0:=a8.out.cell (k:=0) rfl;have c1:=a8.out.cell (k:=1) rfl;have c2:=a8.out.cell (k:=2) rfl;have c3:=a8.out.cell (k:=3) rfl;have c4:=a8.out.cell (k:=4) rfl;have c5:=a8.out.cell (k:=5) rfl;have c6:=a8.out.cell (k:=6) rfl;have c7:=a8.out.cell (k:=7) rfl;have c8:=a8.out.cell (k:=8) rfl;have s4:Hid (Calls Tryz.prog 75 #[.agg #[.int .i64 m.w,.int .i64 m.h,.int .i64 m.l,.slice Af m.free.length cf,.slice Au m.up.length cu,.slice At m.tasks.length ct,.slice Ac ch.length cc,.slice Ap PL cp,.int .i64 c]] w2 fun e w'=>e=.returned (.bool (decide ((m.tasks.length:Int)<=(c:Int))))/\za w2 w'):=CD c w2 (H.out.more l4.out)
  go_wp2_with fail
  refine s4.out.mono ?_;rintro e w3 ⟨rfl,x2⟩;have h7:=zh x2;clear x2 c0 c1 c2 c3 c4 c5 c6 c7 c8 s4;by_cases n6:m.tasks.length<=c
  ·have hd:decide ((m.tasks.length:Int)<=(c:Int))=true:=Db (by omega);rw [hd]
   go_wp2_with fail
   refine ⟨rfl,?_⟩;have hp:zn m (fl+1) ch k=(51,.zero,k):=proveP_end (by rw [<-b0.out];exact n6);rw [hp];exact ⟨zd.of_ext (l4.out.trans h7.out),.inr ⟨by simp,rfl⟩⟩
  ·have hd:decide ((m.tasks.length:Int)<=(c:Int))=false:=Dc (by omega);rw [hd];have d8:Hid (¬ m.tasks.length<=zD m ch):=by show ¬ _;rw [<-b0.out];exact n6
   have j1:=zh (C1.out.ext h7.out);have x0:w3.cell? ⟨gx,0,none⟩=some (.int .i64 k):=j1.out.cell (k:=0) rfl;have C7:=j1.out.frozen 0;have C9:IntKind.i64.wrap ((k:Int)+1)=(k:Int)+1:=by rw [Du];have:=HK.out;omega
   clear hd;go_upto_region 4 with fail;have p6:=j1.out.set (k:=0) (.int .i64 ((k:Int)+1));have e0:=(a8.out.ext h7.out).setOther (a:=⟨gx,0,none⟩) (by have:=i6.out;show gs≠gx;omega) (.int .i64 ((k:Int)+1));have p7:=(HZ.out.ext h7.out).setOther (a:=⟨gx,0,none⟩) (by have:=i6.out;show gs+1≠gx;omega) (.int .i64 ((k:Int)+1));have l7:zK (fun b=>b≠gx) w3 (w3.setCell ⟨gx,0,none⟩ (.int .i64 ((k:Int)+1))):=fun b hb _=>Di w3 ⟨gx,0,none⟩ _ b hb
   have p3:zd (fun b=>b=gx) w (w3.setCell ⟨gx,0,none⟩ (.int .i64 ((k:Int)+1))):=zd.trans (zd.of_ext (X:=fun b=>b=gx) (l4.out.trans h7.out)) ⟨rfl,rfl,rfl,by simp,fun b _ hb=>Di w3 ⟨gx,0,none⟩ _ b hb⟩ (fun _ _ h=>h);generalize w3.setCell ⟨gx,0,none⟩ (.int .i64 ((k:Int)+1))=w4 at p6 e0 p7 l7 p3⊢;have f5:Hid (ze w4 gx 86 #[.int .i64 ((k:Int)+1)]):=p6;have l0:=zh e0;have i1:=zh p7;have E2:=zh l7;have Q:=zh p3;have o4:Hid (PSt w4 ok m (.slice Af m.free.length cf) (.slice Au m.up.length cu) (.slice At m.tasks.length ct) (.slice Ac ch.length cc) (.slice Ap PL cp) ch):=((H.out.more l4.out).more h7.out).keep (fun b hb J=>l7 b (i8.out b hb) J);have y0:w4.cell? ⟨gx,0,none⟩=some (.int .i64 ((k:Int)+1)):=f5.out.cell (k:=0) rfl;clear p6 e0 p7 l7 p3 x0 C7;by_cases d4:3000<k+1
   ·have z4:(3000:Int)<(k:Int)+1:=by omega
    go_wp2_with fail
    refine ⟨rfl,?_⟩;rw [proveP_many d8.out d4];exact ⟨Q.out,.inr ⟨by simp,rfl⟩⟩
   ·have z4:¬ ((3000:Int)<(k:Int)+1):=by omega
    have c8:=l0.out.cell (k:=8) rfl;go_upto_region 7 with fail;have o7:Hid (ze (w4.alloc (.cells #[.int .i64 c] 3)) w4.heap.size 3 #[.int .i64 c]):=ze.new _ _ _ rfl;have G:Hid (za w4 (w4.alloc (.cells #[.int .i64 c] 3))):=(za.refl w4).alloc _;generalize w4.alloc _=w5 at o7 G⊢;have A7:Hid (c<=m.tasks.length):=by show _<=_;have:=d8.out;have:=b0.out;omega
    have h8:Hid (m.tasks.length<=6/\ch.length<=300):=⟨(Ar HC.out HI.out).2.1,(Ar HC.out HI.out).2.2.1⟩;clear y0 c8 C9 z4;go_loopw [5] (fun v wr=>∃tn g5:Nat,v=.pointer (some ⟨g5,0,none⟩)/\c<=tn/\tn<=m.tasks.length/\Hid (∀j,c<=j->j<tn->offB m ch j=false)/\Hid (w4.heap.size<=g5)/\Hid (ze wr g5 3 #[.int .i64 tn])/\Hid (za w4 wr)) (fun v wr=>match v with | .pointer (some a)=>(match wr.cell? a with | some (.int _ i)=>m.tasks.length - i.toNat | _=>0) | _=>0)
    case atStart=>exact ⟨c,w4.heap.size,rfl,CY _,A7.out,fun j h1 h2=>(by omega),CY _,o7.out,G.out⟩
    clear o7 G
    case round=>
     obtain ⟨tn,g5,rfl,q9,D1,b7,f9,y5,hE⟩:=hrel;obtain ⟨wk,rfl⟩:∃wk:World,wk=wr:=⟨_,rfl⟩;have a9:=zh (l0.out.ext hE.out);have f4:=zh (o4.out.more hE.out);have ct0:wk.cell? ⟨g5,0,none⟩=some (.int .i64 tn):=y5.out.cell (k:=0) rfl;have r0:=za.rule (a9.out.cell (k:=0) rfl);have r1:=za.rule (a9.out.cell (k:=1) rfl);have r2:=za.rule (a9.out.cell (k:=2) rfl);have r3:=za.rule (a9.out.cell (k:=3) rfl);have r4:=za.rule (a9.out.cell (k:=4) rfl);have r5:=za.rule (a9.out.cell (k:=5) rfl);have r6:=za.rule (a9.out.cell (k:=6) rfl);have r7:=za.rule (a9.out.cell (k:=7) rfl);have r8:=za.rule (a9.out.cell (k:=8) rfl);have rt:=za.rule ct0;have E8:za wk wk:=za.refl wk;by_cases J:tn<m.tasks.length
     ·have n7:(tn:Int)<(m.tasks.length:Int):=by omega
      go_upto_region 9 with fail;refine Dp (S:=(fun W=>za wk W)) An ((za.refl wk).drew) fun zH=>?_;have p4:za wk wk.drew:=zH;have B1:Hid ((AC m ch tn).length<=20000000000000):=headP_len HL.out J;generalize wk.drew=wd at zH p4⊢;refine zj 0 zH ?_;refine zj 1 zH ?_;simp only [zc,CV];refine zj 2 zH ?_;refine zj 3 zH ?_;simp only [zc,CV];refine zj 4 zH ?_;refine zj 6 zH ?_;simp only [zc,CV];refine zj 7 zH ?_;simp only [zc,CV];refine Aa 5 fun K d=>?_;go_simp;go_at_call 88;refine (phead_calls c tn wd (f4.out.more p4) HL.out HC.out HI.out J).mono ?_;rintro e w5 ⟨v5,rfl,f6,x3⟩;have G:Hid (za wk w5):=p4.trans f6;have B2:=zh x3;obtain ⟨A5,c5,rfl,-,-⟩:=x3;clear f6;refine DY d (G.out) fun zH=>?_;clear d K;try simp only [zc,CV]
      refine Aa 8 fun K d=>?_;go_simp;go_at_call 87;refine (rReach_calls tn w5 (f4.out.more G.out).maze HL.out B2.out B1.out (f4.out.more G.out).chs (by have:=h8.out;omega)).mono ?_;rintro e w6 ⟨v6,rfl,f7⟩;have U:Hid (za wk w6):=G.out.trans f7.ext;have f0:Hid (zk w6 (fun b=>w5.heap.size<=b) v6 (BE m ch tn)):=f7.ints;obtain ⟨A6,c6,rfl,-,-⟩:=f0.out;clear f7;refine DY d (U.out) fun zH=>?_;clear d K;try simp only [zc,CV]
      refine Aa 9 fun K d=>?_;go_simp;refine DY d (U.out) fun zH=>?_;clear d K;try simp only [zc,CV]
      refine DB (by kernel_rfl) ?_ _;have m0:=U.out;have E6:∀(fn:Fn) (first cap:Array Value) (w:World),(Instr.makeFunc fn first cap).run Tryz.prog w=.ok (.func fn first cap) w:=fun _ _ _ _=>rfl
      have v4:Hid ((BE m ch tn).length<=20000000000000):=by show _<=_;rw [sideP_eq HC.out J];exact reachL_le _ _ _ _ (AF.of HC.out)
      obtain ⟨S,hS⟩:=DX (BE m ch tn);rw [<-hS] at f0 v4⊢;have o6:=zh hS;clear hS
      have C0:Hid (∀x W,za w6 W->Calls Tryz.prog 89 #[.int .i64 x,.pointer (some ⟨gs,0,none⟩),.pointer (some ⟨g5,0,none⟩)] W fun e w'=>e=.returned (.bool (decide (x∈(m.tasks.getD tn ([],[])).2)))/\W=w'):=fun x W hW=>by
       obtain ⟨_,_,_,_,_,_,_,_,_,_,_,_,e,_,_,_,D2⟩:=(f4.out.more (m0.trans hW)).parts;injection e with e1 e2 e3;subst e1 e3;exact prove1_calls x W (r5 W (m0.trans hW)) (rt W (m0.trans hW)) D2 HL.out J
      have E1:Hid (∀W,za wk W->W.cell? ⟨g5,0,none⟩=some (.int .i64 tn)):=rt;have E0:Hid (∀W,za wk W->W.cell? ⟨gs,8,none⟩=some (.int .i64 c)):=r8
      go_wp2_with fail
      refine (AR 89 #[.pointer (some ⟨gs,0,none⟩),.pointer (some ⟨g5,0,none⟩)] (fun x=>decide (x∈(m.tasks.getD tn ([],[])).2)) w6 f0.out v4.out (Ae (P:=Tryz.prog) Tryz.func89 (by kernel_rfl) (by kernel_rfl)) (fun x _ W hW=>(C0.out x W hW.ext).mono (fun e w' ⟨h1,h2⟩=>⟨h1,by rw [h2];exact zM.refl _⟩))).mono ?_;rintro e w7 ⟨rfl,q3⟩;have A8:Hid (za wk w7):=U.out.trans q3.ext;have b4:=A8.out;have s7:=zh (f0.out.below q3.ext);obtain ⟨b,hb⟩:=DX (S.any fun x=>decide (x∈(m.tasks.getD tn ([],[])).2))
      rw [<-hb]
      have l3:Hid (offB m ch tn=(!b && (decide (S≠[]) || decide (c<tn)))):=by
       show _=_;unfold offB;rw [hb,o6.out,b0.out]
      clear hb q3 m0;have ct8:=rt w7 b4;have z8:=b4
      cases b with
      | true=>
       have c9:Hid (offB m ch tn=false):=by show _=_;rw [l3.out];rfl
       have HN:Hid (∀j,c<=j->j<tn+1->offB m ch j=false):=fun j h1 h2=>by
        rcases Dv j tn with h | h
        ·exact b7.out j h1 h
        ·obtain rfl:j=tn:=by omega
         exact c9.out
       have D3:IntKind.i64.wrap ((tn:Int)+1)=(tn:Int)+1:=by rw [Du];have:=h8.out;omega
       clear c9
       go_wp2_with fail
       have j8:ze (w7.alloc (.cells #[.int .i64 ((tn:Int)+1)] 3)) w7.heap.size 3 #[.int .i64 ((tn+1:Nat):Int)]:=by have h:=ze.new w7 #[.int .i64 ((tn:Int)+1)] 3 (g:=w7.heap.size) rfl;rwa [show ((tn:Int)+1)=((tn+1:Nat):Int) from by omega] at h⊢
       have o1:=zh j8;have i2:=zh ((hE.out.trans b4).alloc (.cells #[.int .i64 ((tn:Int)+1)] 3));have q7:Hid (w4.heap.size<=w7.heap.size):=(hE.out.trans b4).size;have p9:Hid ((w7.alloc (.cells #[.int .i64 ((tn:Int)+1)] 3)).cell? ⟨w7.heap.size,0,none⟩=some (.int .i64 ((tn:Int)+1))):=zU _ _ _ rfl;have j9:Hid (wk.cell? ⟨g5,0,none⟩=some (.int .i64 tn)):=ct0;clear j8;go_roundw
       case rel=>exact ⟨tn+1,w7.heap.size,rfl,by omega,by omega,HN,q7,o1,i2⟩
       case measure=>
        simp only [p9.out,j9.out];omega
      | false=>
       by_cases hs:0<S.length
       ·have k8:(0:Int)<(S.length:Int):=by omega
        have c9:Hid (offB m ch tn=true):=by
         show _=_;rw [l3.out,Db (by rintro rfl;simp at hs:S≠[])];rfl
        have ct7:=ct8;have B:ze w7 (gs+1) 27 #[.int .i64 0,.slice none 0 0,.slice none 0 0]:=(i1.out.ext hE.out).ext b4;have z0:=B.cell (k:=0) rfl;have z1:=B.cell (k:=1) rfl;have z2:=B.cell (k:=2) rfl;have hfz:∀j,w7.frozen? ⟨gs+1,j,none⟩=false:=fun j=>B.frozen j
        have i4:=zh B;clear B
        go_wp2_with fail
        refine case_fin3 (P:=fun W=>bodyPost Tryz.prog Tryz.f50 _ Exit.ret _ W) (g2:=gs+1) ?_ i4.out;intro WZ a6 j4 a7;have y0:=a6.cell (k:=0) rfl;have y1:=a6.cell (k:=1) rfl;have y2:=a6.cell (k:=2) rfl;refine DM (v:=.agg #[.int .i64 tn,.slice A6 S.length c6,.slice none 0 0]) (by simp [results,Tryz.results50,go_sem,y0,y1,y2]) rfl ?_;rw [proveP_cut d8.out d4 (cutT_at (by rw [<-b0.out];exact q9) J c9.out (fun j h1 h2=>b7.out j (by rw [b0.out];exact h1) h2))];exact prove_fin e9.out i6.out Q.out (hE.out.trans b4) i1.out f5.out j4 a7 G.out.size hE.out.size s7.out o6.out
       ·have k8:¬ ((0:Int)<(S.length:Int)):=by omega
        have q8:S=[]:=Dq (by omega);by_cases y7:c<tn
        ·have y8:(c:Int)<(tn:Int):=by omega
         have c9:Hid (offB m ch tn=true):=by
          show _=_;rw [l3.out,Db y7,Bool.or_true];rfl
         clear q8;have ct7:=ct8;have B:ze w7 (gs+1) 27 #[.int .i64 0,.slice none 0 0,.slice none 0 0]:=(i1.out.ext hE.out).ext b4;have z0:=B.cell (k:=0) rfl;have z1:=B.cell (k:=1) rfl;have z2:=B.cell (k:=2) rfl;have hfz:∀j,w7.frozen? ⟨gs+1,j,none⟩=false:=fun j=>B.frozen j
         have i4:=zh B;clear B
         go_wp2_with fail
         refine case_fin3 (P:=fun W=>bodyPost Tryz.prog Tryz.f50 _ Exit.ret _ W) (g2:=gs+1) ?_ i4.out;intro WZ a6 j4 a7;have y0:=a6.cell (k:=0) rfl;have y1:=a6.cell (k:=1) rfl;have y2:=a6.cell (k:=2) rfl;refine DM (v:=.agg #[.int .i64 tn,.slice A6 S.length c6,.slice none 0 0]) (by simp [results,Tryz.results50,go_sem,y0,y1,y2]) rfl ?_;rw [proveP_cut d8.out d4 (cutT_at (by rw [<-b0.out];exact q9) J c9.out (fun j h1 h2=>b7.out j (by rw [b0.out];exact h1) h2))];exact prove_fin e9.out i6.out Q.out (hE.out.trans b4) i1.out f5.out j4 a7 G.out.size hE.out.size s7.out o6.out
        ·have y8:¬ ((c:Int)<(tn:Int)):=by omega
         have c9:Hid (offB m ch tn=false):=by
          show _=_;rw [l3.out,Dc (by simp [q8]),Dc y7];rfl
         clear q8
         have HN:Hid (∀j,c<=j->j<tn+1->offB m ch j=false):=fun j h1 h2=>by
          rcases Dv j tn with h | h
          ·exact b7.out j h1 h
          ·obtain rfl:j=tn:=by omega
           exact c9.out
         have D3:IntKind.i64.wrap ((tn:Int)+1)=(tn:Int)+1:=by rw [Du];have:=h8.out;omega
         clear c9
         go_wp2_with fail
         have j8:ze (w7.alloc (.cells #[.int .i64 ((tn:Int)+1)] 3)) w7.heap.size 3 #[.int .i64 ((tn+1:Nat):Int)]:=by have h:=ze.new w7 #[.int .i64 ((tn:Int)+1)] 3 (g:=w7.heap.size) rfl;rwa [show ((tn:Int)+1)=((tn+1:Nat):Int) from by omega] at h⊢
         have o1:=zh j8;have i2:=zh ((hE.out.trans b4).alloc (.cells #[.int .i64 ((tn:Int)+1)] 3));have q7:Hid (w4.heap.size<=w7.heap.size):=(hE.out.trans b4).size;have p9:Hid ((w7.alloc (.cells #[.int .i64 ((tn:Int)+1)] 3)).cell? ⟨w7.heap.size,0,none⟩=some (.int .i64 ((tn:Int)+1))):=zU _ _ _ rfl;have j9:Hid (wk.cell? ⟨g5,0,none⟩=some (.int .i64 tn)):=ct0;clear j8;go_roundw
         case rel=>exact ⟨tn+1,w7.heap.size,rfl,by omega,by omega,HN,q7,o1,i2⟩
         case measure=>
          simp only [p9.out,j9.out];omega
     ·have n7:¬ ((tn:Int)<(m.tasks.length:Int)):=by omega
      have s5:Hid (cutT m ch=none):=cutT_no (fun j h1 h2=>b7.out j (by rw [b0.out];exact h1) (by omega));have l2:=zh hE.out;clear b7 f9 y5 q9 D1 J hE;go_upto_region 15 with fail;have l6:=ze.new wk #[.int .i64 c,.slice none 0 0,.slice none 0 0] 27 (g:=wk.heap.size) rfl;have f6:za wk (wk.alloc (.cells #[.int .i64 c,.slice none 0 0,.slice none 0 0] 27)):=(za.refl wk).alloc _;generalize wk.alloc _=w5 at l6 f6⊢;obtain ⟨gp,q4⟩:=DX wk.heap.size;rw [<-q4] at l6⊢;have C5:Hid (gs+1<gp):=by show _<_;rw [q4];exact Dz (zb i1.out) l2.out.size
      have s2:=zh l6;have G:=zh f6;have D4:=f6;clear l6 q4 f6
      go_wp2_with fail
      refine (Ce w5 (f4.out.more G.out).maze HL.out (f4.out.more G.out).chs (by have:=h8.out;omega)).mono ?_;rintro e w6 ⟨v6,rfl,f7⟩;have x4:(zP m ch).length<=400000000000:=by unfold zP;split;exact cand_len HL.out ch;simp
      have s9:Hid (∀n∈zP m ch,zG m (ch++[n])):=fun n hn=>by
       have:zP m ch=cand m ch:=by unfold zP;rw [if_pos (okC_of HC.out HI.out)]
       rw [this] at hn;exact .snoc HI.out hn
      have f0:=zh f7.ints;have U:=zh f7.ext;have h9:Hid (zn m (fl+1) ch k=if (zF (fun n k=>zn m fl (ch++[n]) k) (zP m ch) (k+1) []).1=0 then (0,.node (zD m ch) [] (zF (fun n k=>zn m fl (ch++[n]) k) (zP m ch) (k+1) []).2.1,(zF (fun n k=>zn m fl (ch++[n]) k) (zP m ch) (k+1) []).2.2) else ((zF (fun n k=>zn m fl (ch++[n]) k) (zP m ch) (k+1) []).1,.zero,(zF (fun n k=>zn m fl (ch++[n]) k) (zP m ch) (k+1) []).2.2)):=proveP_kids d8.out d4 s5.out;obtain ⟨L,hL⟩:=DX (zP m ch);rw [<-hL] at s9 f0 h9 x4;clear f7 hL;obtain ⟨F,hF⟩:∃F:Int->Nat->Int×PT×Nat,F=fun n k=>zn m fl (ch++[n]) k:=⟨_,rfl⟩
      rw [<-hF] at h9;have o3:=zh hF;clear hF D4 ct0 rt r0 r1 r2 r3 r4 r5 r6 r7 r8 n7;obtain ⟨AL,cL,rfl,-,z7⟩:=f0.out;have B9:=zh z7;clear z7
      have C3:Hid (ze w6 gx 86 #[.int .i64 ((k+1:Nat):Int)]):=by
       have h:=((f5.out.ext l2.out).ext G.out).ext U.out
       rwa [show ((k:Int)+1)=((k+1:Nat):Int) from by omega] at h
      have A4:=zh ((a9.out.ext G.out).ext U.out);have t7:=zh (s2.out.ext U.out);have C4:=zh (((i1.out.ext l2.out).ext G.out).ext U.out);have E3:=zh ((f4.out.more G.out).more U.out);have i0:Hid (zd (fun b=>b=gx) w w6):=Q.out.trans (zd.of_ext (X:=fun b=>b=gx) ((l2.out.trans G.out).trans U.out)) (fun _ _ h=>h);have o:Hid (gp<w6.heap.size/\gx<gs/\gs+1<gp):=⟨zb t7.out,i6.out,C5.out⟩
      go_wp2_with fail
      have x5:=x4;have B3:Hid (k+1<=3000):=by show _<=_;omega
      have B4:Hid (zO w6 w6.heap.size (.slice none 0 0) [] []):=zO.nil _ _;clear x5;go_loopw [73] (fun v wr=>∃(j kk:Nat) (acc:List PT) (vk:Value) (cs:List Value),v=.int .i64 j/\j<=L.length/\Hid (acc.length=j)/\Hid (kk<=3000)/\Hid (zF F L (k+1) []=zF F (L.drop j) kk acc)/\Hid (zd (fun b=>b=gx\/b=gp) w6 wr)/\Hid (ze wr gx 86 #[.int .i64 kk])/\Hid (ze wr gp 27 #[.int .i64 c,.slice none 0 0,vk])/\Hid (zO wr w6.heap.size vk acc cs)) (fun v _=>L.length - (intOf v).toNat)
      case atStart=>exact ⟨0,k+1,[],.slice none 0 0,[],rfl,Do _,rfl,B3.out,rfl,zd.refl _ _,C3.out,t7.out,B4.out⟩
      case round=>
       obtain ⟨j,kk,acc,vk,cs,rfl,hj,E,a7,e8,z,f8,a5,D⟩:=hrel;obtain ⟨wk',rfl⟩:∃wk':World,wk'=wr:=⟨_,rfl⟩;by_cases h6:j<L.length
       ·have E5:(0:Int)<=(j:Int):=by omega
        have C8:(j:Int)<(L.length:Int):=by omega
        obtain ⟨bl,offl,rfl,x9,n5⟩:=Am B9.out h6 h6;have D8:Hid (w5.heap.size<=bl):=x9;have B0:Hid (gp<w5.heap.size):=zb s2.out;have y6:wk'.cell? ⟨bl,offl+j,none⟩=some (.int .i64 L[j]):=z.out.cellk n5 (by have:=o.out;have:=B0.out;show ¬ (bl=gx\/bl=gp);omega);have b1:Hid (zG m (ch++[L[j]])):=s9.out _ (CZ h6);have d7:Hid (L.drop j=L[j] :: L.drop (j+1)):=List.drop_eq_getElem_cons h6;obtain ⟨n,hn⟩:=DX (L[j]);rw [<-hn] at y6 b1 d7;have b3:=A4.out
        have t9:Hid (PSt wk' ok m (.slice Af m.free.length cf) (.slice Au m.up.length cu) (.slice At m.tasks.length ct) (.slice Ac ch.length cc) (.slice Ap PL cp) ch):=H.out.keep (fun b hb J=>by
         have h1:=i8.out b hb;have h2:=o.out;have h3:=e9.out;exact (z.out.block b (Dz J i0.out.size) (by omega)).trans (i0.out.block b J h1))
        have rul:∀{i:Nat} {v:Value},w6.cell? ⟨gs,i,none⟩=some v->∀W,zd (fun b=>b=gx\/b=gp) w6 W->W.cell? ⟨gs,i,none⟩=some v:=fun h W hW=>hW.cellk h (by have:=o.out;show ¬ (gs=gx\/gs=gp);omega)
        have r0:=rul (b3.cell (k:=0) rfl);have r1:=rul (b3.cell (k:=1) rfl);have r2:=rul (b3.cell (k:=2) rfl);have r3:=rul (b3.cell (k:=3) rfl);have r4:=rul (b3.cell (k:=4) rfl);have r5:=rul (b3.cell (k:=5) rfl);have r6:=rul (b3.cell (k:=6) rfl);have r7:=rul (b3.cell (k:=7) rfl);have r8:=rul (b3.cell (k:=8) rfl);obtain ⟨wq,rfl⟩:∃wq:World,wq=wk':=⟨_,rfl⟩;clear rul b3 n5 x9 hn;go_upto_region 18 with fail;clear y6;refine Dp (S:=(fun W=>zd (fun b=>b=gx\/b=gp) w6 W)) An (zd.trans z.out (zd.of_ext (X:=fun b=>b=gx\/b=gp) (za.refl wq).drew) (fun _ _ h=>h)) fun zH=>?_;have b2:Hid (za wq wq.drew):=(za.refl wq).drew;generalize wq.drew=wd at zH b2⊢;refine zj 0 zH ?_;refine zj 2 zH ?_;simp only [zc,CV];refine zj 3 zH ?_;refine zj 4 zH ?_;simp only [zc,CV];refine rdA [1,5] ?_;refine Dy rfl (fun K d=>?_) ?_
        ·have cg1:wd.cell? ⟨gp,2,none⟩=some vk:=zd.cellk (zd.of_ext (X:=fun b=>b=gx) b2.out) (a5.out.cell (k:=2) rfl) (by have:=o.out;show ¬ (gp=gx);omega);go_simp;clear cg1;refine DY d (zd.trans z.out (zd.wide (zd.of_ext (X:=fun b=>b=gx) b2.out) (X':=fun b=>b=gx\/b=gp) (fun k h=>.inl h)) (fun _ _ h=>h)) fun zH=>?_;clear d K;try simp only [zc,CV]
         refine Aa 5 fun K d=>?_;go_simp;go_at_call 78;refine (CO c n wd (t9.out.more b2.out) HL.out HC.out b1.out h8.out.2).mono ?_;rintro e w2 ⟨vc2,vp2,rfl,x1,x6⟩;have i5:Hid (za wq w2):=b2.out.trans x1;have B7:=zh x6;clear x1 x6;refine DY d (zd.trans z.out (zd.wide (zd.of_ext (X:=fun b=>b=gx) i5.out) (X':=fun b=>b=gx\/b=gp) (fun k h=>.inl h)) (fun _ _ h=>h)) fun zH=>?_;clear d K;try simp only [zc,CV]
         refine Aa 6 fun K d=>?_;go_simp;go_at_call 50;refine (IH.out (ch++[n]) kk gx _ vc2 vp2 w2 B7.out b1.out (by have:=HF.out;rw [Dh,Dx];omega) a7.out (i5.out.cellB f8.out) (fun b hb=>by have h1:=i8.out;have h2:=b2.out.size;have h3:=zb f8.out;rcases hb with hb | hb;exact h1 b hb;omega)).mono ?_;obtain ⟨r3,q6⟩:∃r:Int×PT×Nat,r=zn m fl (ch++[n]) kk:=⟨_,rfl⟩;rw [<-q6];have o5:=zh q6;have g6:Hid (F n kk=r3):=by (show _=_);rw [o3.out];exact o5.out.symm
         clear q6;rintro e w3 ⟨o9,(⟨h0,v3,rfl,p5,x8⟩ | ⟨h0,rfl⟩)⟩
         rotate_left
         ·go_wp2;refine ⟨rfl,?_⟩;exact prove_fin3 (x:=zn m (fl+1) ch k) i0.out z.out o.out e9.out (zd.trans (zd.of_ext (X:=fun b=>b=gx) i5.out) o9 (fun _ _ h=>h)) (by rw [h9.out];exact (prove_err (F:=F) (n:=n) (l:=L.drop (j+1)) (k:=kk) (acc:=acc) (by rw [g6.out];exact h0) (e8.out.trans (by rw [d7.out]))).trans (by rw [g6.out])) h0
         have s3:Hid (zd (fun b=>b=gx) wq w3):=zd.trans (zd.of_ext (X:=fun b=>b=gx) i5.out) o9 (fun _ _ h=>h);obtain ⟨As3,cs3,Ak3,ck3,rfl,-⟩:=p5.form;have B8:=zh p5;have j1:=zh x8;have w9:=zh h0;have m6:Hid (wq.heap.size<=w2.heap.size):=i5.out.size;clear o9 p5 x8 h0;refine DY d (zd.trans z.out (zd.wide (s3.out) (X':=fun b=>b=gx\/b=gp) (fun k h=>.inl h)) (fun _ _ h=>h)) fun zH=>?_;clear d K;try simp only [zc,CV]
         refine Aa 7 fun K d=>?_;go_simp;have e0:=ze.new w3 #[.int .i64 r3.2.1.task,.slice As3 r3.2.1.side.length cs3,.slice Ak3 r3.2.1.kids.length ck3] 27 (g:=w3.heap.size) rfl;have hA4:za w3 (w3.alloc (.cells #[.int .i64 r3.2.1.task,.slice As3 r3.2.1.side.length cs3,.slice Ak3 r3.2.1.kids.length ck3] 27)):=(za.refl w3).alloc _;generalize w3.alloc _=w4 at e0 hA4⊢;generalize w3.heap.size=g4 at e0⊢;have l0:=zh e0;have Q:Hid (zd (fun b=>b=gx) wq w4):=zd.trans (s3.out) (zd.of_ext (X:=fun b=>b=gx) hA4) (fun _ _ h=>h);have o4:=zh (B8.out.ext hA4);have f5:=zh (j1.out.ext hA4);clear e0 hA4;refine DY d (zd.trans z.out (zd.wide (Q.out) (X':=fun b=>b=gx\/b=gp) (fun k h=>.inl h)) (fun _ _ h=>h)) fun zH=>?_;clear d K;try simp only [zc,CV]
         refine Aa 8 fun K d=>?_;have s8:Hid (zO w4 w6.heap.size vk acc cs):=D.out.chg (Q.out) (fun b hb e=>by have:=o.out;omega);refine zu (ok:=fun _=>True) (by rfl) w4 _ _ BQ (by rfl) w6.heap.size acc.length 1 cs _ vk _ (by rfl) (by rfl) s8.out.own (AH l0.out) (fun u hu=>by simp at hu;rcases hu with rfl | rfl | rfl <;> rfl) (by have h1:=z.out.size;have h2:=zd.size (Q.out);omega) (by have:=E.out;unfold maxLen;omega) (by have:=E.out;omega) ?_;intro v5 w5 q5 f9 A0;have B6:=zh (show zO w5 w6.heap.size _ (acc++[r3.2.1]) (cs++[.int .i64 r3.2.1.task,.slice As3 r3.2.1.side.length cs3,.slice Ak3 r3.2.1.kids.length ck3]) from s8.out.app (lo:=w2.heap.size) o4.out (fun k hk=>by have h1:=D.out.lt hk;have h2:=m6.out;omega) (by have h1:=z.out.size;have h2:=m6.out;omega) q5 f9 A0);have l1:Hid (zd (fun b=>b=gx\/b=gp) w6 w5):=zd.grown (zd.trans z.out (zd.wide (Q.out) (X':=fun b=>b=gx\/b=gp) (fun k h=>.inl h)) (fun _ _ h=>h)) f9 (fun k hk J=>by have h1:=D.out.lt hk;omega);obtain ⟨A5,c5,e5,-,-⟩:=Ay.of_own q5;subst e5;have i9:Hid (ze w5 gp 27 #[.int .i64 c,.slice none 0 0,vk]):=(f9.block gp (by have h1:=o.out.1;have h2:=z.out.size;have h3:=zd.size (Q.out);omega) (fun e=>by have h1:=D.out.lt e.symm;have h2:=o.out;omega)).trans (zd.blk (Q.out) a5.out (by have:=o.out;omega));have C2:Hid (ze w5 gx 86 #[.int .i64 r3.2.2]):=(f9.block gx (zb f5.out) (fun e=>by have h1:=D.out.lt e.symm;have h2:=o.out;omega)).trans f5.out;clear q5 f9 A0;refine DY d (l1.out) fun zH=>?_;clear d K;try simp only [zc,CV]
         refine Aa 9 fun K d=>?_;go_simp;refine DY d (l1.out) fun zH=>?_;clear d K;try simp only [zc,CV]
         refine Aa 10 fun K d=>?_;have cg7:=i9.out.cell (k:=2) rfl;have fg7:=i9.out.frozen 2;go_simp;clear cg7 fg7;refine DY d (zd.set (l1.out) gp 2 (.slice A5 (acc.length+1) c5) (.inr rfl)) fun zH=>?_;clear d K;try simp only [zc,CV]
         refine DB (by kernel_rfl) ?_ _;have a3:Hid (zd (fun b=>b=gx\/b=gp) w6 (w5.setCell ⟨gp,2,none⟩ (.slice A5 (acc.length+1) c5))):=zd.set (l1.out) gp 2 (.slice A5 (acc.length+1) c5) (.inr rfl);have I:Hid (ze (w5.setCell ⟨gp,2,none⟩ (.slice A5 (acc.length+1) c5)) gp 27 #[.int .i64 c,.slice none 0 0,(.slice A5 (acc.length+1) c5)]):=i9.out.set (k:=2) (.slice A5 (acc.length+1) c5);have a4:Hid (ze (w5.setCell ⟨gp,2,none⟩ (.slice A5 (acc.length+1) c5)) gx 86 #[.int .i64 r3.2.2]):=C2.out.setOther (a:=⟨gp,2,none⟩) (by have:=o.out;show gx≠gp;omega) (.slice A5 (acc.length+1) c5);have a2:=zh (B6.out.chg (zd.set (X:=fun b=>b=gp) (zd.refl _ w5) gp 2 (.slice A5 (acc.length+1) c5) rfl) (fun b hb e=>by have:=o.out;omega));generalize w5.setCell ⟨gp,2,none⟩ (.slice A5 (acc.length+1) c5)=wz at a3 I a4 a2⊢;have hF1:(F n kk).1=0:=by rw [g6.out];exact w9.out
         have a1:Hid (zF F L (k+1) []=zF F (L.drop (j+1)) r3.2.2 (acc++[r3.2.1])):=by (show _=_);rw [e8.out,d7.out,Cw hF1,g6.out]
         have a0:Hid (r3.2.2<=3000):=by (show _<=_);have h:=(Cn HC.out fl (ch++[n]) kk b1.out a7.out (by rw [<-o5.out];exact w9.out)).2.2;rw [<-o5.out] at h;exact h
         clear hF1;go_wp2;go_roundw
         case rel=>exact ⟨j+1,_,_,_,_,by go_num,by omega,by (show _=_);rw [Dh,E.out];rfl,a0.out,a1.out,a3.out,a4.out,I.out,a2.out⟩
         case measure=>simp [intOf];omega
        refine Dy rfl (fun K d=>?_) .nil;go_simp;go_at_call 78;refine (CO c n wd (t9.out.more b2.out) HL.out HC.out b1.out h8.out.2).mono ?_;rintro e w8 ⟨vc8,vp8,rfl,i2,x7⟩;have V:Hid (za wq w8):=b2.out.trans i2;have t8:=zh x7;clear i2 x7;refine DY d (zd.trans z.out (zd.wide (zd.of_ext (X:=fun b=>b=gx) V.out) (X':=fun b=>b=gx\/b=gp) (fun k h=>.inl h)) (fun _ _ h=>h)) fun zH=>?_;clear d K;try simp only [zc,CV]
        refine rdA [1,6] ?_;refine Dy rfl (fun K d=>?_) ?_
        ·have cg9:w8.cell? ⟨gp,2,none⟩=some vk:=zd.cellk (zd.of_ext (X:=fun b=>b=gx) V.out) (a5.out.cell (k:=2) rfl) (by have:=o.out;show ¬ (gp=gx);omega);go_simp;clear cg9;refine DY d (zd.trans z.out (zd.wide (zd.of_ext (X:=fun b=>b=gx) V.out) (X':=fun b=>b=gx\/b=gp) (fun k h=>.inl h)) (fun _ _ h=>h)) fun zH=>?_;clear d K;try simp only [zc,CV]
         refine Aa 6 fun K d=>?_;go_simp;go_at_call 50;refine (IH.out (ch++[n]) kk gx _ vc8 vp8 w8 t8.out b1.out (by have:=HF.out;rw [Dh,Dx];omega) a7.out (V.out.cellB f8.out) (fun b hb=>by have h1:=i8.out;have h2:=b2.out.size;have h3:=zb f8.out;rcases hb with hb | hb;exact h1 b hb;omega)).mono ?_;obtain ⟨r10,k6⟩:∃r:Int×PT×Nat,r=zn m fl (ch++[n]) kk:=⟨_,rfl⟩;rw [<-k6];have j0:=zh k6;have b8:Hid (F n kk=r10):=by (show _=_);rw [o3.out];exact j0.out.symm
         clear k6;rintro e w10 ⟨j2,(⟨h0,v10,rfl,j5,n3⟩ | ⟨h0,rfl⟩)⟩
         rotate_left
         ·go_wp2;refine ⟨rfl,?_⟩;exact prove_fin3 (x:=zn m (fl+1) ch k) i0.out z.out o.out e9.out (zd.trans (zd.of_ext (X:=fun b=>b=gx) V.out) j2 (fun _ _ h=>h)) (by rw [h9.out];exact (prove_err (F:=F) (n:=n) (l:=L.drop (j+1)) (k:=kk) (acc:=acc) (by rw [b8.out];exact h0) (e8.out.trans (by rw [d7.out]))).trans (by rw [b8.out])) h0
         have m1:Hid (zd (fun b=>b=gx) wq w10):=zd.trans (zd.of_ext (X:=fun b=>b=gx) V.out) j2 (fun _ _ h=>h);obtain ⟨As10,cs10,Ak10,ck10,rfl,-⟩:=j5.form;have t3:=zh j5;have v7:=zh n3;have n2:=zh h0;have i7:Hid (wq.heap.size<=w8.heap.size):=V.out.size;clear j2 j5 n3 h0;refine DY d (zd.trans z.out (zd.wide (m1.out) (X':=fun b=>b=gx\/b=gp) (fun k h=>.inl h)) (fun _ _ h=>h)) fun zH=>?_;clear d K;try simp only [zc,CV]
         refine Aa 7 fun K d=>?_;go_simp;have g8:=ze.new w10 #[.int .i64 r10.2.1.task,.slice As10 r10.2.1.side.length cs10,.slice Ak10 r10.2.1.kids.length ck10] 27 (g:=w10.heap.size) rfl;have hA11:za w10 (w10.alloc (.cells #[.int .i64 r10.2.1.task,.slice As10 r10.2.1.side.length cs10,.slice Ak10 r10.2.1.kids.length ck10] 27)):=(za.refl w10).alloc _;generalize w10.alloc _=w11 at g8 hA11⊢;generalize w10.heap.size=g11 at g8⊢;have r9:=zh g8;have b5:Hid (zd (fun b=>b=gx) wq w11):=zd.trans (m1.out) (zd.of_ext (X:=fun b=>b=gx) hA11) (fun _ _ h=>h);have t4:=zh (t3.out.ext hA11);have m8:=zh (v7.out.ext hA11);clear g8 hA11;refine DY d (zd.trans z.out (zd.wide (b5.out) (X':=fun b=>b=gx\/b=gp) (fun k h=>.inl h)) (fun _ _ h=>h)) fun zH=>?_;clear d K;try simp only [zc,CV]
         refine Aa 8 fun K d=>?_;have m2:Hid (zO w11 w6.heap.size vk acc cs):=D.out.chg (b5.out) (fun b hb e=>by have:=o.out;omega);refine zu (ok:=fun _=>True) (by rfl) w11 _ _ BQ (by rfl) w6.heap.size acc.length 1 cs _ vk _ (by rfl) (by rfl) m2.out.own (AH r9.out) (fun u hu=>by simp at hu;rcases hu with rfl | rfl | rfl <;> rfl) (by have h1:=z.out.size;have h2:=zd.size (b5.out);omega) (by have:=E.out;unfold maxLen;omega) (by have:=E.out;omega) ?_;intro v12 w12 k3 e4 n8;have t0:=zh (show zO w12 w6.heap.size _ (acc++[r10.2.1]) (cs++[.int .i64 r10.2.1.task,.slice As10 r10.2.1.side.length cs10,.slice Ak10 r10.2.1.kids.length ck10]) from m2.out.app (lo:=w8.heap.size) t4.out (fun k hk=>by have h1:=D.out.lt hk;have h2:=i7.out;omega) (by have h1:=z.out.size;have h2:=i7.out;omega) k3 e4 n8);have g0:Hid (zd (fun b=>b=gx\/b=gp) w6 w12):=zd.grown (zd.trans z.out (zd.wide (b5.out) (X':=fun b=>b=gx\/b=gp) (fun k h=>.inl h)) (fun _ _ h=>h)) e4 (fun k hk J=>by have h1:=D.out.lt hk;omega);obtain ⟨A12,c12,e12,-,-⟩:=Ay.of_own k3;subst e12;have f1:Hid (ze w12 gp 27 #[.int .i64 c,.slice none 0 0,vk]):=(e4.block gp (by have h1:=o.out.1;have h2:=z.out.size;have h3:=zd.size (b5.out);omega) (fun e=>by have h1:=D.out.lt e.symm;have h2:=o.out;omega)).trans (zd.blk (b5.out) a5.out (by have:=o.out;omega));have v8:Hid (ze w12 gx 86 #[.int .i64 r10.2.2]):=(e4.block gx (zb m8.out) (fun e=>by have h1:=D.out.lt e.symm;have h2:=o.out;omega)).trans m8.out;clear k3 e4 n8;refine DY d (g0.out) fun zH=>?_;clear d K;try simp only [zc,CV]
         refine Aa 9 fun K d=>?_;go_simp;refine DY d (g0.out) fun zH=>?_;clear d K;try simp only [zc,CV]
         refine Aa 10 fun K d=>?_;have cg14:=f1.out.cell (k:=2) rfl;have fg14:=f1.out.frozen 2;go_simp;clear cg14 fg14;refine DY d (zd.set (g0.out) gp 2 (.slice A12 (acc.length+1) c12) (.inr rfl)) fun zH=>?_;clear d K;try simp only [zc,CV]
         refine DB (by kernel_rfl) ?_ _;have a3:Hid (zd (fun b=>b=gx\/b=gp) w6 (w12.setCell ⟨gp,2,none⟩ (.slice A12 (acc.length+1) c12))):=zd.set (g0.out) gp 2 (.slice A12 (acc.length+1) c12) (.inr rfl);have I:Hid (ze (w12.setCell ⟨gp,2,none⟩ (.slice A12 (acc.length+1) c12)) gp 27 #[.int .i64 c,.slice none 0 0,(.slice A12 (acc.length+1) c12)]):=f1.out.set (k:=2) (.slice A12 (acc.length+1) c12);have a4:Hid (ze (w12.setCell ⟨gp,2,none⟩ (.slice A12 (acc.length+1) c12)) gx 86 #[.int .i64 r10.2.2]):=v8.out.setOther (a:=⟨gp,2,none⟩) (by have:=o.out;show gx≠gp;omega) (.slice A12 (acc.length+1) c12);have a2:=zh (t0.out.chg (zd.set (X:=fun b=>b=gp) (zd.refl _ w12) gp 2 (.slice A12 (acc.length+1) c12) rfl) (fun b hb e=>by have:=o.out;omega));generalize w12.setCell ⟨gp,2,none⟩ (.slice A12 (acc.length+1) c12)=wz at a3 I a4 a2⊢;have hF1:(F n kk).1=0:=by rw [b8.out];exact n2.out
         have a1:Hid (zF F L (k+1) []=zF F (L.drop (j+1)) r10.2.2 (acc++[r10.2.1])):=by (show _=_);rw [e8.out,d7.out,Cw hF1,b8.out]
         have a0:Hid (r10.2.2<=3000):=by (show _<=_);have h:=(Cn HC.out fl (ch++[n]) kk b1.out a7.out (by rw [<-j0.out];exact n2.out)).2.2;rw [<-j0.out] at h;exact h
         clear hF1;go_wp2;go_roundw
         case rel=>exact ⟨j+1,_,_,_,_,by go_num,by omega,by (show _=_);rw [Dh,E.out];rfl,a0.out,a1.out,a3.out,a4.out,I.out,a2.out⟩
         case measure=>simp [intOf];omega
        refine Dy rfl (fun K d=>?_) .nil;go_simp;go_at_call 50;refine (IH.out (ch++[n]) kk gx _ vc8 vp8 w8 t8.out b1.out (by have:=HF.out;rw [Dh,Dx];omega) a7.out (V.out.cellB f8.out) (fun b hb=>by have h1:=i8.out;have h2:=b2.out.size;have h3:=zb f8.out;rcases hb with hb | hb;exact h1 b hb;omega)).mono ?_;obtain ⟨r15,k7⟩:∃r:Int×PT×Nat,r=zn m fl (ch++[n]) kk:=⟨_,rfl⟩;rw [<-k7];have d9:=zh k7;have M:Hid (F n kk=r15):=by (show _=_);rw [o3.out];exact d9.out.symm
        clear k7;rintro e w15 ⟨j3,(⟨h0,v15,rfl,j6,n4⟩ | ⟨h0,rfl⟩)⟩
        rotate_left
        ·go_wp2;refine ⟨rfl,?_⟩;exact prove_fin3 (x:=zn m (fl+1) ch k) i0.out z.out o.out e9.out (zd.trans (zd.of_ext (X:=fun b=>b=gx) V.out) j3 (fun _ _ h=>h)) (by rw [h9.out];exact (prove_err (F:=F) (n:=n) (l:=L.drop (j+1)) (k:=kk) (acc:=acc) (by rw [M.out];exact h0) (e8.out.trans (by rw [d7.out]))).trans (by rw [M.out])) h0
        have d6:Hid (zd (fun b=>b=gx) wq w15):=zd.trans (zd.of_ext (X:=fun b=>b=gx) V.out) j3 (fun _ _ h=>h);obtain ⟨As15,cs15,Ak15,ck15,rfl,-⟩:=j6.form;have m7:=zh j6;have m9:=zh n4;have g7:=zh h0;have b9:Hid (wq.heap.size<=w8.heap.size):=V.out.size;clear j3 j6 n4 h0;refine DY d (zd.trans z.out (zd.wide (d6.out) (X':=fun b=>b=gx\/b=gp) (fun k h=>.inl h)) (fun _ _ h=>h)) fun zH=>?_;clear d K;try simp only [zc,CV]
        refine rdA [1,7] ?_;refine Dy rfl (fun K d=>?_) ?_
        ·have cg16:w15.cell? ⟨gp,2,none⟩=some vk:=zd.cellk (d6.out) (a5.out.cell (k:=2) rfl) (by have:=o.out;show ¬ (gp=gx);omega);go_simp;clear cg16;refine DY d (zd.trans z.out (zd.wide (d6.out) (X':=fun b=>b=gx\/b=gp) (fun k h=>.inl h)) (fun _ _ h=>h)) fun zH=>?_;clear d K;try simp only [zc,CV]
         refine Aa 7 fun K d=>?_;go_simp;have g9:=ze.new w15 #[.int .i64 r15.2.1.task,.slice As15 r15.2.1.side.length cs15,.slice Ak15 r15.2.1.kids.length ck15] 27 (g:=w15.heap.size) rfl;have hA17:za w15 (w15.alloc (.cells #[.int .i64 r15.2.1.task,.slice As15 r15.2.1.side.length cs15,.slice Ak15 r15.2.1.kids.length ck15] 27)):=(za.refl w15).alloc _;generalize w15.alloc _=w17 at g9 hA17⊢;generalize w15.heap.size=g17 at g9⊢;have s0:=zh g9;have b6:Hid (zd (fun b=>b=gx) wq w17):=zd.trans (d6.out) (zd.of_ext (X:=fun b=>b=gx) hA17) (fun _ _ h=>h);have t5:=zh (m7.out.ext hA17);have n0:=zh (m9.out.ext hA17);clear g9 hA17;refine DY d (zd.trans z.out (zd.wide (b6.out) (X':=fun b=>b=gx\/b=gp) (fun k h=>.inl h)) (fun _ _ h=>h)) fun zH=>?_;clear d K;try simp only [zc,CV]
         refine Aa 8 fun K d=>?_;have m3:Hid (zO w17 w6.heap.size vk acc cs):=D.out.chg (b6.out) (fun b hb e=>by have:=o.out;omega);refine zu (ok:=fun _=>True) (by rfl) w17 _ _ BQ (by rfl) w6.heap.size acc.length 1 cs _ vk _ (by rfl) (by rfl) m3.out.own (AH s0.out) (fun u hu=>by simp at hu;rcases hu with rfl | rfl | rfl <;> rfl) (by have h1:=z.out.size;have h2:=zd.size (b6.out);omega) (by have:=E.out;unfold maxLen;omega) (by have:=E.out;omega) ?_;intro v18 w18 k4 e6 n9;have t1:=zh (show zO w18 w6.heap.size _ (acc++[r15.2.1]) (cs++[.int .i64 r15.2.1.task,.slice As15 r15.2.1.side.length cs15,.slice Ak15 r15.2.1.kids.length ck15]) from m3.out.app (lo:=w8.heap.size) t5.out (fun k hk=>by have h1:=D.out.lt hk;have h2:=b9.out;omega) (by have h1:=z.out.size;have h2:=b9.out;omega) k4 e6 n9);have g1:Hid (zd (fun b=>b=gx\/b=gp) w6 w18):=zd.grown (zd.trans z.out (zd.wide (b6.out) (X':=fun b=>b=gx\/b=gp) (fun k h=>.inl h)) (fun _ _ h=>h)) e6 (fun k hk J=>by have h1:=D.out.lt hk;omega);obtain ⟨A18,c18,e18,-,-⟩:=Ay.of_own k4;subst e18;have f2:Hid (ze w18 gp 27 #[.int .i64 c,.slice none 0 0,vk]):=(e6.block gp (by have h1:=o.out.1;have h2:=z.out.size;have h3:=zd.size (b6.out);omega) (fun e=>by have h1:=D.out.lt e.symm;have h2:=o.out;omega)).trans (zd.blk (b6.out) a5.out (by have:=o.out;omega));have v9:Hid (ze w18 gx 86 #[.int .i64 r15.2.2]):=(e6.block gx (zb n0.out) (fun e=>by have h1:=D.out.lt e.symm;have h2:=o.out;omega)).trans n0.out;clear k4 e6 n9;refine DY d (g1.out) fun zH=>?_;clear d K;try simp only [zc,CV]
         refine Aa 9 fun K d=>?_;go_simp;refine DY d (g1.out) fun zH=>?_;clear d K;try simp only [zc,CV]
         refine Aa 10 fun K d=>?_;have cg20:=f2.out.cell (k:=2) rfl;have fg20:=f2.out.frozen 2;go_simp;clear cg20 fg20;refine DY d (zd.set (g1.out) gp 2 (.slice A18 (acc.length+1) c18) (.inr rfl)) fun zH=>?_;clear d K;try simp only [zc,CV]
         refine DB (by kernel_rfl) ?_ _;have a3:Hid (zd (fun b=>b=gx\/b=gp) w6 (w18.setCell ⟨gp,2,none⟩ (.slice A18 (acc.length+1) c18))):=zd.set (g1.out) gp 2 (.slice A18 (acc.length+1) c18) (.inr rfl);have I:Hid (ze (w18.setCell ⟨gp,2,none⟩ (.slice A18 (acc.length+1) c18)) gp 27 #[.int .i64 c,.slice none 0 0,(.slice A18 (acc.length+1) c18)]):=f2.out.set (k:=2) (.slice A18 (acc.length+1) c18);have a4:Hid (ze (w18.setCell ⟨gp,2,none⟩ (.slice A18 (acc.length+1) c18)) gx 86 #[.int .i64 r15.2.2]):=v9.out.setOther (a:=⟨gp,2,none⟩) (by have:=o.out;show gx≠gp;omega) (.slice A18 (acc.length+1) c18);have a2:=zh (t1.out.chg (zd.set (X:=fun b=>b=gp) (zd.refl _ w18) gp 2 (.slice A18 (acc.length+1) c18) rfl) (fun b hb e=>by have:=o.out;omega));generalize w18.setCell ⟨gp,2,none⟩ (.slice A18 (acc.length+1) c18)=wz at a3 I a4 a2⊢;have hF1:(F n kk).1=0:=by rw [M.out];exact g7.out
         have a1:Hid (zF F L (k+1) []=zF F (L.drop (j+1)) r15.2.2 (acc++[r15.2.1])):=by (show _=_);rw [e8.out,d7.out,Cw hF1,M.out]
         have a0:Hid (r15.2.2<=3000):=by (show _<=_);have h:=(Cn HC.out fl (ch++[n]) kk b1.out a7.out (by rw [<-d9.out];exact g7.out)).2.2;rw [<-d9.out] at h;exact h
         clear hF1;go_wp2;go_roundw
         case rel=>exact ⟨j+1,_,_,_,_,by go_num,by omega,by (show _=_);rw [Dh,E.out];rfl,a0.out,a1.out,a3.out,a4.out,I.out,a2.out⟩
         case measure=>simp [intOf];omega
        refine Dy rfl (fun K d=>?_) .nil;go_simp;have h4:=ze.new w15 #[.int .i64 r15.2.1.task,.slice As15 r15.2.1.side.length cs15,.slice Ak15 r15.2.1.kids.length ck15] 27 (g:=w15.heap.size) rfl;have hA21:za w15 (w15.alloc (.cells #[.int .i64 r15.2.1.task,.slice As15 r15.2.1.side.length cs15,.slice Ak15 r15.2.1.kids.length ck15] 27)):=(za.refl w15).alloc _;generalize w15.alloc _=w21 at h4 hA21⊢;generalize w15.heap.size=g21 at h4⊢;have s1:=zh h4;have O:Hid (zd (fun b=>b=gx) wq w21):=zd.trans (d6.out) (zd.of_ext (X:=fun b=>b=gx) hA21) (fun _ _ h=>h);have t6:=zh (m7.out.ext hA21);have n1:=zh (m9.out.ext hA21);clear h4 hA21;refine DY d (zd.trans z.out (zd.wide (O.out) (X':=fun b=>b=gx\/b=gp) (fun k h=>.inl h)) (fun _ _ h=>h)) fun zH=>?_;clear d K;try simp only [zc,CV]
        refine Aa 1 fun K d=>?_;have cg22:w21.cell? ⟨gp,2,none⟩=some vk:=zd.cellk (O.out) (a5.out.cell (k:=2) rfl) (by have:=o.out;show ¬ (gp=gx);omega);go_simp;clear cg22;refine DY d (zd.trans z.out (zd.wide (O.out) (X':=fun b=>b=gx\/b=gp) (fun k h=>.inl h)) (fun _ _ h=>h)) fun zH=>?_;clear d K;try simp only [zc,CV]
        refine Aa 8 fun K d=>?_;have m4:Hid (zO w21 w6.heap.size vk acc cs):=D.out.chg (O.out) (fun b hb e=>by have:=o.out;omega);refine zu (ok:=fun _=>True) (by rfl) w21 _ _ BQ (by rfl) w6.heap.size acc.length 1 cs _ vk _ (by rfl) (by rfl) m4.out.own (AH s1.out) (fun u hu=>by simp at hu;rcases hu with rfl | rfl | rfl <;> rfl) (by have h1:=z.out.size;have h2:=zd.size (O.out);omega) (by have:=E.out;unfold maxLen;omega) (by have:=E.out;omega) ?_;intro v23 w23 k5 e7 o0;have t2:=zh (show zO w23 w6.heap.size _ (acc++[r15.2.1]) (cs++[.int .i64 r15.2.1.task,.slice As15 r15.2.1.side.length cs15,.slice Ak15 r15.2.1.kids.length ck15]) from m4.out.app (lo:=w8.heap.size) t6.out (fun k hk=>by have h1:=D.out.lt hk;have h2:=b9.out;omega) (by have h1:=z.out.size;have h2:=b9.out;omega) k5 e7 o0);have g3:Hid (zd (fun b=>b=gx\/b=gp) w6 w23):=zd.grown (zd.trans z.out (zd.wide (O.out) (X':=fun b=>b=gx\/b=gp) (fun k h=>.inl h)) (fun _ _ h=>h)) e7 (fun k hk J=>by have h1:=D.out.lt hk;omega);obtain ⟨A23,c23,e23,-,-⟩:=Ay.of_own k5;subst e23;have f3:Hid (ze w23 gp 27 #[.int .i64 c,.slice none 0 0,vk]):=(e7.block gp (by have h1:=o.out.1;have h2:=z.out.size;have h3:=zd.size (O.out);omega) (fun e=>by have h1:=D.out.lt e.symm;have h2:=o.out;omega)).trans (zd.blk (O.out) a5.out (by have:=o.out;omega));have w0:Hid (ze w23 gx 86 #[.int .i64 r15.2.2]):=(e7.block gx (zb n1.out) (fun e=>by have h1:=D.out.lt e.symm;have h2:=o.out;omega)).trans n1.out;clear k5 e7 o0;refine DY d (g3.out) fun zH=>?_;clear d K;try simp only [zc,CV]
        refine Aa 9 fun K d=>?_;go_simp;refine DY d (g3.out) fun zH=>?_;clear d K;try simp only [zc,CV]
        refine Aa 10 fun K d=>?_;have cg25:=f3.out.cell (k:=2) rfl;have fg25:=f3.out.frozen 2;go_simp;clear cg25 fg25;refine DY d (zd.set (g3.out) gp 2 (.slice A23 (acc.length+1) c23) (.inr rfl)) fun zH=>?_;clear d K;try simp only [zc,CV]
        refine DB (by kernel_rfl) ?_ _;have a3:Hid (zd (fun b=>b=gx\/b=gp) w6 (w23.setCell ⟨gp,2,none⟩ (.slice A23 (acc.length+1) c23))):=zd.set (g3.out) gp 2 (.slice A23 (acc.length+1) c23) (.inr rfl);have I:Hid (ze (w23.setCell ⟨gp,2,none⟩ (.slice A23 (acc.length+1) c23)) gp 27 #[.int .i64 c,.slice none 0 0,(.slice A23 (acc.length+1) c23)]):=f3.out.set (k:=2) (.slice A23 (acc.length+1) c23);have a4:Hid (ze (w23.setCell ⟨gp,2,none⟩ (.slice A23 (acc.length+1) c23)) gx 86 #[.int .i64 r15.2.2]):=w0.out.setOther (a:=⟨gp,2,none⟩) (by have:=o.out;show gx≠gp;omega) (.slice A23 (acc.length+1) c23);have a2:=zh (t2.out.chg (zd.set (X:=fun b=>b=gp) (zd.refl _ w23) gp 2 (.slice A23 (acc.length+1) c23) rfl) (fun b hb e=>by have:=o.out;omega));generalize w23.setCell ⟨gp,2,none⟩ (.slice A23 (acc.length+1) c23)=wz at a3 I a4 a2⊢;have hF1:(F n kk).1=0:=by rw [M.out];exact g7.out
        have a1:Hid (zF F L (k+1) []=zF F (L.drop (j+1)) r15.2.2 (acc++[r15.2.1])):=by (show _=_);rw [e8.out,d7.out,Cw hF1,M.out]
        have a0:Hid (r15.2.2<=3000):=by (show _<=_);have h:=(Cn HC.out fl (ch++[n]) kk b1.out a7.out (by rw [<-d9.out];exact g7.out)).2.2;rw [<-d9.out] at h;exact h
        clear hF1;go_wp2;go_roundw
        case rel=>exact ⟨j+1,_,_,_,_,by go_num,by omega,by (show _=_);rw [Dh,E.out];rfl,a0.out,a1.out,a3.out,a4.out,I.out,a2.out⟩
        case measure=>simp [intOf];omega
       ·have y9:j=L.length:=by omega
        have C8:¬ ((j:Int)<(L.length:Int)):=by omega
        have o2:Hid (zF F L (k+1) []=(0,acc,kk)):=by
         show _=_;rw [e8.out,y9,List.drop_length];rfl
        have B:ze wk' (gs+1) 27 #[.int .i64 0,.slice none 0 0,.slice none 0 0]:=z.out.blk C4.out (by have:=o.out;omega);have z0:=B.cell (k:=0) rfl;have z1:=B.cell (k:=1) rfl;have z2:=B.cell (k:=2) rfl;have hfz:∀j,wk'.frozen? ⟨gs+1,j,none⟩=false:=fun j=>B.frozen j
        have i4:=zh B;obtain ⟨Ak,ck,evk,-,-⟩:=Ay.of_own D.out.own;subst evk;have p0:=a5.out.cell (k:=0) rfl;have p1:=a5.out.cell (k:=1) rfl;have p2:=a5.out.cell (k:=2) rfl;clear B y9
        go_wp2_with fail
        refine case_fin3 (P:=fun W=>bodyPost Tryz.prog Tryz.f50 _ Exit.ret _ W) (g2:=gs+1) ?_ i4.out;intro WZ a6 j4 z3;have y0:=a6.cell (k:=0) rfl;have y1:=a6.cell (k:=1) rfl;have y2:=a6.cell (k:=2) rfl;refine DM (v:=.agg #[.int .i64 c,.slice none 0 0,.slice Ak acc.length ck]) (by simp [results,Tryz.results50,go_sem,y0,y1,y2]) rfl ?_;rw [h9.out,o2.out,if_pos rfl,<-b0.out];exact prove_fin2 i0.out z.out o.out e9.out f8.out D.out j4 z3
end
end Go.Proofs.YtcnaogdgjkpkmaaGreatDoor
