import Derived.Test.YtjomnbdjajjgfaaGreatDoorWKk
import Derived.WalkLawsBesides
import Derived.Recover
set_option linter.unusedVariables false
set_option linter.unusedSimpArgs false
set_option maxRecDepth 100000
set_option maxHeartbeats 16000000
namespace Go.Proofs.YtjomnbdjajjgfaaGreatDoor
variable {x:Int} {ch:List Int} {m:MZ} {S g gp gs gx:Nat} {a0 a1 a2 d z0 z1 z2:Value} {WZ w w6 wr:World} {P:World->Prop}
section
open Go.RowKit
attribute [local go_sem ↓] Go.wp_at_zero Go.wp_at_succ
attribute [local go_sem] Oper.semAt_some
def CX (w:World) (gx:Nat) (r:Int×PT×Nat) (e:Ending) (w':World):Prop:=
 zp (fun b=>b=gx) w w'/\((r.1=0/\∃v,e=.returned v/\zM w' (fun b=>w.heap.size<=b) v r.2.1/\zd w' gx 169 #[.int .i64 r.2.2])\/(r.1≠0/\e=.panicked [{ v:=.iface 42 (.int .i64 r.1),recovered:=false }]))
theorem Bb {W:World} {g2:Nat} {t:TypeId} (h:∀WZ,zd WZ g2 t #[a0,a1,a2]->Below g2 W WZ->(∀k,k<W.heap.size->k≠g2->WZ.heap[k]?=W.heap[k]?)->P WZ) (D:zd W g2 t #[z0,z1,z2]):
  P (((W.setCell ⟨g2,0,none⟩ a0).setCell ⟨g2,1,none⟩ a1).setCell ⟨g2,2,none⟩ a2):=
 h (setL g2 0 [a0,a1,a2] W) (setL_blk [a0,a1,a2] [z0,z1,z2] [] W rfl D) (Cn g2 _ 0 W) (fun k _ o=>Co g2 k o _ 0 W)
theorem prove_fin {w4 w7 wk w5:World} {S:List Int} {tn k c6:Nat} {A6:Option Addr} {zs:Array Value} (O:gs=w.heap.size) (Q:gx<gs) (J:zp (fun b=>b=gx) w w4) (E:za w4 w7) (M:zd w4 (gs+1) 41 zs) (K:zd w4 gx 169 #[.int .i64 ((k:Int)+1)])
  (o:Below (gs+1) w7 WZ) (D:∀k,k<w7.heap.size->k≠gs+1->WZ.heap[k]?=w7.heap[k]?) (hs:wk.heap.size<=w5.heap.size) (hk:w4.heap.size<=wk.heap.size) (hI:zk w7 (fun b=>w5.heap.size<=b) (.slice A6 S.length c6) S) (L:S=BI m ch tn):
  CX w gx (0,.node tn (BI m ch tn) [],k+1) (.returned (.agg #[.int .i64 tn,.slice A6 S.length c6,.slice none 0 0])) WZ:=by
 have hz:=zc M;have hx:=zc K;have h4:=E.size;refine ⟨zp.trans J (zp.trans (zp.of_ext (X:=fun b=>b=gs+1) E) ⟨o.os,o.tape,o.output,o.size,fun b G V=>D b G V⟩ (fun _ _ h=>h)) (fun k h1 h2=>by omega),.inl ⟨rfl,_,rfl,?_,?_⟩⟩
 ·rw [<-L];exact .mk (cs:=[]) ((hI.keep (fun b G I=>D b I (by omega))).weaken (fun b G=>by have:=J.size;omega)) ⟨none,0,rfl,DR _,AE.nil _ _ _ _⟩ (fun i U=>absurd U (by simp))
 ·have h1:=K.ext E;have h2:zd WZ gx 169 #[.int .i64 ((k:Int)+1)]:=(D gx (zc h1) (by omega)).trans h1
  rwa [show ((k:Int)+1)=((k+1:Nat):Int) from by omega] at h2
theorem prove_fin2 {c kk:Nat} {vk:Value} {acc:List PT} {cs:List Value} (I:zp (fun b=>b=gx) w w6) (L:zp (fun b=>b=gx\/b=gp) w6 wr) (Q:gp<w6.heap.size/\gx<gs/\gs+1<gp) (M:gs=w.heap.size)
  (J:zd wr gx 169 #[.int .i64 kk]) (K:AG wr w6.heap.size vk acc cs) (o:Below (gs+1) wr WZ) (D:∀k,k<wr.heap.size->k≠gs+1->WZ.heap[k]?=wr.heap[k]?):
  CX w gx (0,.node c [] acc,kk) (.returned (.agg #[.int .i64 c,.slice none 0 0,vk])) WZ:=by
 refine ⟨zp.trans (X':=fun b=>b=gx\/b=gp\/b=gs+1) I (zp.trans (L.wide (fun k h=>by omega)) (⟨o.os,o.tape,o.output,o.size,fun b E O=>D b E O⟩:zp (fun b=>b=gs+1) wr WZ) (fun k _ h=>.inr (.inr h))) (fun k h1 h2=>by omega),.inl ⟨rfl,_,rfl,?_,?_⟩⟩
 ·refine (K.kids c).keepW (fun b E G=>D b G (by omega)) fun b E=>?_;have:=I.size;omega
 ·exact (D gx (zc J) (by omega)).trans J
theorem prove_fin3 {w8:World} {r x:Int×PT×Nat} (E:zp (fun b=>b=gx) w w6) (G:zp (fun b=>b=gx\/b=gp) w6 wr) (J:gp<w6.heap.size/\gx<gs/\gs+1<gp) (I:gs=w.heap.size) (D:zp (fun b=>b=gx) wr w8) (o:x.1=r.1) (h:r.1≠0):
  CX w gx x (.panicked [{ v:=.iface 42 (.int .i64 r.1),recovered:=false }]) w8:=
 ⟨zp.trans E (zp.trans G (D.wide (X':=fun b=>b=gx\/b=gp) (fun k h=>.inl h)) (fun _ _ h=>h)) (fun k h1 h2=>by omega),.inr ⟨by rw [o];exact h,by rw [o]⟩⟩
theorem headP_len {t:Nat} (o:Lens m) (ht:t<m.tasks.length):(Aj m ch t).length<=20000000000000:=by
 unfold Aj
 split
 ·cases ((zm m ch).getD t []).getLast? <;> simp
 ·refine DT (Eu _ _) ?_;rw [DP,DO ht];have:=(o.tl _ (DS ht)).1;show (m.tasks[t]).1.length<=_;omega
theorem prove_calls {m:MZ} {f u ts:Value} (hl:Lens m) (hc:Bq m=0):
  ∀(fl:Nat) (ch:List Int) (k gx:Nat) (ok:Nat->Prop) (vc vp:Value) (w:World),PSt w ok m f u ts vc vp ch->zy m ch->m.n.toNat+2<=fl+ch.length->k<=3000->zd w gx 169 #[.int .i64 k]->(∀b,ok b->b≠gx)->
   Calls Tryz.prog 111 #[.pointer (some ⟨gx,0,none⟩),DJ m f u ts vc vp (zF m ch)] w (CX w gx (zj m fl ch k))
 | 0,ch,k,gx,ok,vc,vp,w,_,hi,hf,_,_,_=>by
  have:=hi.len (AN.of hc);omega
 | fl+1,ch,k,gx,ok,vc,vp,w,h,hi,hf,hk,hx,o8=>by
  have H:=zh h;have HL:=zh hl;have HC:=zh hc;have HI:=zh hi;have HF:=zh hf;have HK:=zh hk;have HX:=zh hx;have i8:=zh o8;have IH:=zh (prove_calls (f:=f) (u:=u) (ts:=ts) hl hc fl);obtain ⟨Af,cf,Au,cu,At,ct,Ac,cc,Ap,cp,rfl,rfl,rfl,rfl,rfl,-,-⟩:=h.parts;obtain ⟨PL,hP⟩:=EY ((zm m ch).length);rw [<-hP] at H⊢;clear h hl hc hi hP hf hk o8;obtain ⟨c,k4⟩:=EY (zF m ch);rw [<-k4];have a3:=zh k4;clear k4 hx;unfold DJ
  go_enter Tryz.func111,Tryz.ntmps111
  go_upto_region 1 with fail;have g6:=zd.new w #[.int .i64 m.w,.int .i64 m.h,.int .i64 m.l,.slice Af m.free.length cf,.slice Au m.up.length cu,.slice At m.tasks.length ct,.slice Ac ch.length cc,.slice Ap PL cp,.int .i64 c] 107 (g:=w.heap.size) rfl;have h4:za w (w.alloc (.cells #[.int .i64 m.w,.int .i64 m.h,.int .i64 m.l,.slice Af m.free.length cf,.slice Au m.up.length cu,.slice At m.tasks.length ct,.slice Ac ch.length cc,.slice Ap PL cp,.int .i64 c] 107)):=(za.refl w).alloc _;have f4:(w.alloc (.cells #[.int .i64 m.w,.int .i64 m.h,.int .i64 m.l,.slice Af m.free.length cf,.slice Au m.up.length cu,.slice At m.tasks.length ct,.slice Ac ch.length cc,.slice Ap PL cp,.int .i64 c] 107)).heap.size=w.heap.size+1:=by simp
  generalize w.alloc _=w1 at g6 h4 f4⊢;have o:=zd.new w1 #[.int .i64 0,.slice none 0 0,.slice none 0 0] 41 (g:=w1.heap.size) rfl;have f1:za w1 (w1.alloc (.cells #[.int .i64 0,.slice none 0 0,.slice none 0 0] 41)):=(za.refl w1).alloc _;generalize w1.alloc _=w2 at o f1⊢;rw [f4] at o;obtain ⟨gs,h5⟩:=EY w.heap.size;rw [<-h5] at g6 o⊢;have e4:Hid (gs=w.heap.size):=h5;have e6:Hid (gx<gs):=by show _<_;rw [h5];exact zc HX.out
  have HZ:=zh o;have U:=zh (g6.ext f1);have s5:=zh ((HX.out.ext h4).ext f1);have g0:=zh (h4.trans f1);clear g6 h4 f4 o f1 h5;have c0:=U.out.cell (k:=0) rfl;have c1:=U.out.cell (k:=1) rfl;have c2:=U.out.cell (k:=2) rfl;have c3:=U.out.cell (k:=3) rfl;have c4:=U.out.cell (k:=4) rfl;have c5:=U.out.cell (k:=5) rfl;have c6:=U.out.cell (k:=6) rfl;have c7:=U.out.cell (k:=7) rfl;have c8:=U.out.cell (k:=8) rfl;have l7:Hid (Calls Tryz.prog 131 #[.agg #[.int .i64 m.w,.int .i64 m.h,.int .i64 m.l,.slice Af m.free.length cf,.slice Au m.up.length cu,.slice At m.tasks.length ct,.slice Ac ch.length cc,.slice Ap PL cp,.int .i64 c]] w2 fun e w'=>e=.returned (.bool (decide ((m.tasks.length:Int)<=(c:Int))))/\za w2 w'):=Dt c w2 (H.out.more g0.out)
  go_wp2_with fail
  refine l7.out.mono ?_;rintro e w3 ⟨rfl,n2⟩;have d7:=zh n2;clear n2 c0 c1 c2 c3 c4 c5 c6 c7 c8 l7;by_cases i1:m.tasks.length<=c
  ·have hd:decide ((m.tasks.length:Int)<=(c:Int))=true:=DU (by omega);rw [hd]
   go_wp2_with fail
   refine ⟨rfl,?_⟩;have hp:zj m (fl+1) ch k=(51,.zero,k):=proveP_end (by rw [<-a3.out];exact i1);rw [hp];exact ⟨zp.of_ext (g0.out.trans d7.out),.inr ⟨by simp,rfl⟩⟩
  ·have hd:decide ((m.tasks.length:Int)<=(c:Int))=false:=DV (by omega);rw [hd];have a9:Hid (¬ m.tasks.length<=zF m ch):=by show ¬ _;rw [<-a3.out];exact i1
   have e8:=zh (s5.out.ext d7.out);have x0:w3.cell? ⟨gx,0,none⟩=some (.int .i64 k):=e8.out.cell (k:=0) rfl;have t1:=e8.out.frozen 0;have t3:IntKind.i64.wrap ((k:Int)+1)=(k:Int)+1:=by rw [Em];have:=HK.out;omega
   clear hd;go_upto_region 4 with fail;have j8:=e8.out.set (k:=0) (.int .i64 ((k:Int)+1));have b0:=(U.out.ext d7.out).setOther (a:=⟨gx,0,none⟩) (by have:=e6.out;show gs≠gx;omega) (.int .i64 ((k:Int)+1));have k3:=(HZ.out.ext d7.out).setOther (a:=⟨gx,0,none⟩) (by have:=e6.out;show gs+1≠gx;omega) (.int .i64 ((k:Int)+1));have g9:zK (fun b=>b≠gx) w3 (w3.setCell ⟨gx,0,none⟩ (.int .i64 ((k:Int)+1))):=fun b hb _=>Ea w3 ⟨gx,0,none⟩ _ b hb
   have j4:zp (fun b=>b=gx) w (w3.setCell ⟨gx,0,none⟩ (.int .i64 ((k:Int)+1))):=zp.trans (zp.of_ext (X:=fun b=>b=gx) (g0.out.trans d7.out)) ⟨rfl,rfl,rfl,by simp,fun b _ hb=>Ea w3 ⟨gx,0,none⟩ _ b hb⟩ (fun _ _ h=>h);generalize w3.setCell ⟨gx,0,none⟩ (.int .i64 ((k:Int)+1))=w4 at j8 b0 k3 g9 j4⊢;have b4:Hid (zd w4 gx 169 #[.int .i64 ((k:Int)+1)]):=j8;have f5:=zh b0;have d8:=zh k3;have x4:=zh g9;have J:=zh j4;have i9:Hid (PSt w4 ok m (.slice Af m.free.length cf) (.slice Au m.up.length cu) (.slice At m.tasks.length ct) (.slice Ac ch.length cc) (.slice Ap PL cp) ch):=((H.out.more g0.out).more d7.out).keep (fun b hb I=>g9 b (i8.out b hb) I);have y0:w4.cell? ⟨gx,0,none⟩=some (.int .i64 ((k:Int)+1)):=b4.out.cell (k:=0) rfl;clear j8 b0 k3 g9 j4 x0 t1;by_cases a8:3000<k+1
   ·have o6:(3000:Int)<(k:Int)+1:=by omega
    go_wp2_with fail
    refine ⟨rfl,?_⟩;rw [DD a9.out a8];exact ⟨J.out,.inr ⟨by simp,rfl⟩⟩
   ·have o6:¬ ((3000:Int)<(k:Int)+1):=by omega
    have c8:=f5.out.cell (k:=8) rfl;go_upto_region 7 with fail;have j2:Hid (zd (w4.alloc (.cells #[.int .i64 c] 3)) w4.heap.size 3 #[.int .i64 c]):=zd.new _ _ _ rfl;have D:Hid (za w4 (w4.alloc (.cells #[.int .i64 c] 3))):=(za.refl w4).alloc _;generalize w4.alloc _=w5 at j2 D⊢;have p8:Hid (c<=m.tasks.length):=by show _<=_;have:=a9.out;have:=a3.out;omega
    have e7:Hid (m.tasks.length<=6/\ch.length<=300):=⟨(zU HC.out HI.out).2.1,(zU HC.out HI.out).2.2.1⟩;clear y0 c8 t3 o6;go_loopw [5] (fun v wr=>∃tn g5:Nat,v=.pointer (some ⟨g5,0,none⟩)/\c<=tn/\tn<=m.tasks.length/\Hid (∀j,c<=j->j<tn->offB m ch j=false)/\Hid (w4.heap.size<=g5)/\Hid (zd wr g5 3 #[.int .i64 tn])/\Hid (za w4 wr)) (fun v wr=>match v with | .pointer (some a)=>(match wr.cell? a with | some (.int _ i)=>m.tasks.length - i.toNat | _=>0) | _=>0)
    case atStart=>exact ⟨c,w4.heap.size,rfl,DR _,p8.out,fun j h1 h2=>(by omega),DR _,j2.out,D.out⟩
    clear j2 D
    case round=>
     obtain ⟨tn,g5,rfl,l3,t5,a6,b8,o0,hE⟩:=hrel;obtain ⟨wk,rfl⟩:∃wk:World,wk=wr:=⟨_,rfl⟩;have V:=zh (f5.out.ext hE.out);have b3:=zh (i9.out.more hE.out);have ct0:wk.cell? ⟨g5,0,none⟩=some (.int .i64 tn):=o0.out.cell (k:=0) rfl;have r0:=za.rule (V.out.cell (k:=0) rfl);have r1:=za.rule (V.out.cell (k:=1) rfl);have r2:=za.rule (V.out.cell (k:=2) rfl);have r3:=za.rule (V.out.cell (k:=3) rfl);have r4:=za.rule (V.out.cell (k:=4) rfl);have r5:=za.rule (V.out.cell (k:=5) rfl);have r6:=za.rule (V.out.cell (k:=6) rfl);have r7:=za.rule (V.out.cell (k:=7) rfl);have r8:=za.rule (V.out.cell (k:=8) rfl);have rt:=za.rule ct0;have z3:za wk wk:=za.refl wk;by_cases I:tn<m.tasks.length
     ·have i2:(tn:Int)<(m.tasks.length:Int):=by omega
      go_upto_region 9 with fail;refine Eh (S:=(fun W=>za wk W)) zI ((za.refl wk).drew) fun zH=>?_;have j6:za wk wk.drew:=zH;have q5:Hid ((Aj m ch tn).length<=20000000000000):=headP_len HL.out I;generalize wk.drew=wd at zH j6⊢;refine zg 0 zH ?_;refine zg 1 zH ?_;simp only [zb,DN];refine zg 2 zH ?_;refine zg 3 zH ?_;simp only [zb,DN];refine zg 4 zH ?_;refine zg 6 zH ?_;simp only [zb,DN];refine zg 7 zH ?_;simp only [zb,DN];refine AD 5 fun K O=>?_;go_simp;go_at_call 171;refine (phead_calls c tn wd (b3.out.more j6) HL.out HC.out HI.out I).mono ?_;rintro e w5 ⟨v5,rfl,b5,n3⟩;have D:Hid (za wk w5):=j6.trans b5;have q6:=zh n3;obtain ⟨A5,c5,rfl,-,-⟩:=n3;clear b5;refine EZ O (D.out) fun zH=>?_;clear O K;try simp only [zb,DN]
      refine AD 8 fun K O=>?_;go_simp;go_at_call 170;refine (rReach_calls tn w5 (b3.out.more D.out).maze HL.out q6.out q5.out (b3.out.more D.out).chs (by have:=e7.out;omega)).mono ?_;rintro e w6 ⟨v6,rfl,b7⟩;have M:Hid (za wk w6):=D.out.trans b7.ext;have b2:Hid (zk w6 (fun b=>w5.heap.size<=b) v6 (BI m ch tn)):=b7.ints;obtain ⟨A6,c6,rfl,-,-⟩:=b2.out;clear b7;refine EZ O (M.out) fun zH=>?_;clear O K;try simp only [zb,DN]
      refine AD 9 fun K O=>?_;go_simp;refine EZ O (M.out) fun zH=>?_;clear O K;try simp only [zb,DN]
      refine Ev (by kernel_rfl) ?_ _;have h6:=M.out;have x8:∀(fn:Fn) (first cap:Array Value) (w:World),(Instr.makeFunc fn first cap).run Tryz.prog w=.ok (.func fn first cap) w:=fun _ _ _ _=>rfl
      have m7:Hid ((BI m ch tn).length<=20000000000000):=by show _<=_;rw [sideP_eq HC.out I];exact reachL_le _ _ _ _ (AN.of HC.out)
      obtain ⟨S,hS⟩:=EY (BI m ch tn);rw [<-hS] at b2 m7⊢;have j1:=zh hS;clear hS
      have s4:Hid (∀x W,za w6 W->Calls Tryz.prog 172 #[.int .i64 x,.pointer (some ⟨gs,0,none⟩),.pointer (some ⟨g5,0,none⟩)] W fun e w'=>e=.returned (.bool (decide (x∈(m.tasks.getD tn ([],[])).2)))/\W=w'):=fun x W hW=>by
       obtain ⟨_,_,_,_,_,_,_,_,_,_,_,_,e,_,_,_,t6⟩:=(b3.out.more (h6.trans hW)).parts;injection e with e1 e2 e3;subst e1 e3;exact prove1_calls x W (r5 W (h6.trans hW)) (rt W (h6.trans hW)) t6 HL.out I
      have x3:Hid (∀W,za wk W->W.cell? ⟨g5,0,none⟩=some (.int .i64 tn)):=rt;have x2:Hid (∀W,za wk W->W.cell? ⟨gs,8,none⟩=some (.int .i64 c)):=r8
      go_wp2_with fail
      refine (BL 172 #[.pointer (some ⟨gs,0,none⟩),.pointer (some ⟨g5,0,none⟩)] (fun x=>decide (x∈(m.tasks.getD tn ([],[])).2)) w6 b2.out m7.out (AW (P:=Tryz.prog) Tryz.func172 (by kernel_rfl) (by kernel_rfl)) (fun x _ W hW=>(s4.out x W hW.ext).mono (fun e w' ⟨h1,h2⟩=>⟨h1,by rw [h2];exact zZ.refl _⟩))).mono ?_;rintro e w7 ⟨rfl,k6⟩;have p9:Hid (za wk w7):=M.out.trans k6.ext;have a5:=p9.out;have m0:=zh (b2.out.below k6.ext);obtain ⟨b,hb⟩:=EY (S.any fun x=>decide (x∈(m.tasks.getD tn ([],[])).2))
      rw [<-hb]
      have f8:Hid (offB m ch tn=(!b && (decide (S≠[]) || decide (c<tn)))):=by
       show _=_;unfold offB;rw [hb,j1.out,a3.out]
      clear hb k6 h6;have ct8:=rt w7 a5;have z8:=a5
      cases b with
      | true=>
       have a7:Hid (offB m ch tn=false):=by show _=_;rw [f8.out];rfl
       have HN:Hid (∀j,c<=j->j<tn+1->offB m ch j=false):=fun j h1 h2=>by
        rcases En j tn with h | h
        ·exact a6.out j h1 h
        ·obtain rfl:j=tn:=by omega
         exact a7.out
       have t7:IntKind.i64.wrap ((tn:Int)+1)=(tn:Int)+1:=by rw [Em];have:=e7.out;omega
       clear a7
       go_wp2_with fail
       have f2:zd (w7.alloc (.cells #[.int .i64 ((tn:Int)+1)] 3)) w7.heap.size 3 #[.int .i64 ((tn+1:Nat):Int)]:=by have h:=zd.new w7 #[.int .i64 ((tn:Int)+1)] 3 (g:=w7.heap.size) rfl;rwa [show ((tn:Int)+1)=((tn+1:Nat):Int) from by omega] at h⊢
       have i3:=zh f2;have j5:=zh ((hE.out.trans a5).alloc (.cells #[.int .i64 ((tn:Int)+1)] 3));have l1:Hid (w4.heap.size<=w7.heap.size):=(hE.out.trans a5).size;have k5:Hid ((w7.alloc (.cells #[.int .i64 ((tn:Int)+1)] 3)).cell? ⟨w7.heap.size,0,none⟩=some (.int .i64 ((tn:Int)+1))):=zC _ _ _ rfl;have f3:Hid (wk.cell? ⟨g5,0,none⟩=some (.int .i64 tn)):=ct0;clear f2;go_roundw
       case rel=>exact ⟨tn+1,w7.heap.size,rfl,by omega,by omega,HN,l1,i3,j5⟩
       case measure=>
        simp only [k5.out,f3.out];omega
      | false=>
       by_cases hs:0<S.length
       ·have f4:(0:Int)<(S.length:Int):=by omega
        have a7:Hid (offB m ch tn=true):=by
         show _=_;rw [f8.out,DU (by rintro rfl;simp at hs:S≠[])];rfl
        have ct7:=ct8;have o:zd w7 (gs+1) 41 #[.int .i64 0,.slice none 0 0,.slice none 0 0]:=(d8.out.ext hE.out).ext a5;have z0:=o.cell (k:=0) rfl;have z1:=o.cell (k:=1) rfl;have z2:=o.cell (k:=2) rfl;have hfz:∀j,w7.frozen? ⟨gs+1,j,none⟩=false:=fun j=>o.frozen j
        have e0:=zh o;clear o
        go_wp2_with fail
        refine Bb (P:=fun W=>bodyPost Tryz.prog Tryz.f111 _ Exit.ret _ W) (g2:=gs+1) ?_ e0.out;intro WZ Q e9 d9;have y0:=Q.cell (k:=0) rfl;have y1:=Q.cell (k:=1) rfl;have y2:=Q.cell (k:=2) rfl;refine EL (v:=.agg #[.int .i64 tn,.slice A6 S.length c6,.slice none 0 0]) (by simp [results,Tryz.results111,go_sem,y0,y1,y2]) rfl ?_;rw [Dn a9.out a8 (cutT_at (by rw [<-a3.out];exact l3) I a7.out (fun j h1 h2=>a6.out j (by rw [a3.out];exact h1) h2))];exact prove_fin e4.out e6.out J.out (hE.out.trans a5) d8.out b4.out e9 d9 D.out.size hE.out.size m0.out j1.out
       ·have f4:¬ ((0:Int)<(S.length:Int)):=by omega
        have l2:S=[]:=Ei (by omega);by_cases o2:c<tn
        ·have o3:(c:Int)<(tn:Int):=by omega
         have a7:Hid (offB m ch tn=true):=by
          show _=_;rw [f8.out,DU o2,Bool.or_true];rfl
         clear l2;have ct7:=ct8;have o:zd w7 (gs+1) 41 #[.int .i64 0,.slice none 0 0,.slice none 0 0]:=(d8.out.ext hE.out).ext a5;have z0:=o.cell (k:=0) rfl;have z1:=o.cell (k:=1) rfl;have z2:=o.cell (k:=2) rfl;have hfz:∀j,w7.frozen? ⟨gs+1,j,none⟩=false:=fun j=>o.frozen j
         have e0:=zh o;clear o
         go_wp2_with fail
         refine Bb (P:=fun W=>bodyPost Tryz.prog Tryz.f111 _ Exit.ret _ W) (g2:=gs+1) ?_ e0.out;intro WZ Q e9 d9;have y0:=Q.cell (k:=0) rfl;have y1:=Q.cell (k:=1) rfl;have y2:=Q.cell (k:=2) rfl;refine EL (v:=.agg #[.int .i64 tn,.slice A6 S.length c6,.slice none 0 0]) (by simp [results,Tryz.results111,go_sem,y0,y1,y2]) rfl ?_;rw [Dn a9.out a8 (cutT_at (by rw [<-a3.out];exact l3) I a7.out (fun j h1 h2=>a6.out j (by rw [a3.out];exact h1) h2))];exact prove_fin e4.out e6.out J.out (hE.out.trans a5) d8.out b4.out e9 d9 D.out.size hE.out.size m0.out j1.out
        ·have o3:¬ ((c:Int)<(tn:Int)):=by omega
         have a7:Hid (offB m ch tn=false):=by
          show _=_;rw [f8.out,DV (by simp [l2]),DV o2];rfl
         clear l2
         have HN:Hid (∀j,c<=j->j<tn+1->offB m ch j=false):=fun j h1 h2=>by
          rcases En j tn with h | h
          ·exact a6.out j h1 h
          ·obtain rfl:j=tn:=by omega
           exact a7.out
         have t7:IntKind.i64.wrap ((tn:Int)+1)=(tn:Int)+1:=by rw [Em];have:=e7.out;omega
         clear a7
         go_wp2_with fail
         have f2:zd (w7.alloc (.cells #[.int .i64 ((tn:Int)+1)] 3)) w7.heap.size 3 #[.int .i64 ((tn+1:Nat):Int)]:=by have h:=zd.new w7 #[.int .i64 ((tn:Int)+1)] 3 (g:=w7.heap.size) rfl;rwa [show ((tn:Int)+1)=((tn+1:Nat):Int) from by omega] at h⊢
         have i3:=zh f2;have j5:=zh ((hE.out.trans a5).alloc (.cells #[.int .i64 ((tn:Int)+1)] 3));have l1:Hid (w4.heap.size<=w7.heap.size):=(hE.out.trans a5).size;have k5:Hid ((w7.alloc (.cells #[.int .i64 ((tn:Int)+1)] 3)).cell? ⟨w7.heap.size,0,none⟩=some (.int .i64 ((tn:Int)+1))):=zC _ _ _ rfl;have f3:Hid (wk.cell? ⟨g5,0,none⟩=some (.int .i64 tn)):=ct0;clear f2;go_roundw
         case rel=>exact ⟨tn+1,w7.heap.size,rfl,by omega,by omega,HN,l1,i3,j5⟩
         case measure=>
          simp only [k5.out,f3.out];omega
     ·have i2:¬ ((tn:Int)<(m.tasks.length:Int)):=by omega
      have l8:Hid (cutT m ch=none):=cutT_no (fun j h1 h2=>a6.out j (by rw [a3.out];exact h1) (by omega));have f6:=zh hE.out;clear a6 b8 o0 l3 t5 I hE;go_upto_region 15 with fail;have g7:=zd.new wk #[.int .i64 c,.slice none 0 0,.slice none 0 0] 41 (g:=wk.heap.size) rfl;have b5:za wk (wk.alloc (.cells #[.int .i64 c,.slice none 0 0,.slice none 0 0] 41)):=(za.refl wk).alloc _;generalize wk.alloc _=w5 at g7 b5⊢;obtain ⟨gp,k7⟩:=EY wk.heap.size;rw [<-k7] at g7⊢;have s9:Hid (gs+1<gp):=by show _<_;rw [k7];exact Et (zc d8.out) f6.out.size
      have l5:=zh g7;have D:=zh b5;have t8:=b5;clear g7 k7 b5
      go_wp2_with fail
      refine (CV w5 (b3.out.more D.out).maze HL.out (b3.out.more D.out).chs (by have:=e7.out;omega)).mono ?_;rintro e w6 ⟨v6,rfl,b7⟩;have n4:(zu m ch).length<=400000000000:=by unfold zu;split;exact CE HL.out ch;simp
      have m5:Hid (∀n∈zu m ch,zy m (ch++[n])):=fun n hn=>by
       have:zu m ch=BK m ch:=by unfold zu;rw [if_pos (okC_of HC.out HI.out)]
       rw [this] at hn;exact .snoc HI.out hn
      have b2:=zh b7.ints;have M:=zh b7.ext;have f9:Hid (zj m (fl+1) ch k=if (zJ (fun n k=>zj m fl (ch++[n]) k) (zu m ch) (k+1) []).1=0 then (0,.node (zF m ch) [] (zJ (fun n k=>zj m fl (ch++[n]) k) (zu m ch) (k+1) []).2.1,(zJ (fun n k=>zj m fl (ch++[n]) k) (zu m ch) (k+1) []).2.2) else ((zJ (fun n k=>zj m fl (ch++[n]) k) (zu m ch) (k+1) []).1,.zero,(zJ (fun n k=>zj m fl (ch++[n]) k) (zu m ch) (k+1) []).2.2)):=DC a9.out a8 l8.out;obtain ⟨L,hL⟩:=EY (zu m ch);rw [<-hL] at m5 b2 f9 n4;clear b7 hL;obtain ⟨F,hF⟩:∃F:Int->Nat->Int×PT×Nat,F=fun n k=>zj m fl (ch++[n]) k:=⟨_,rfl⟩
      rw [<-hF] at f9;have q3:=zh hF;clear hF t8 ct0 rt r0 r1 r2 r3 r4 r5 r6 r7 r8 i2;obtain ⟨AL,cL,rfl,-,o9⟩:=b2.out;have s3:=zh o9;clear o9
      have s7:Hid (zd w6 gx 169 #[.int .i64 ((k+1:Nat):Int)]):=by
       have h:=((b4.out.ext f6.out).ext D.out).ext M.out
       rwa [show ((k:Int)+1)=((k+1:Nat):Int) from by omega] at h
      have p7:=zh ((V.out.ext D.out).ext M.out);have m6:=zh (l5.out.ext M.out);have s8:=zh (((d8.out.ext f6.out).ext D.out).ext M.out);have x5:=zh ((b3.out.more D.out).more M.out);have g1:Hid (zp (fun b=>b=gx) w w6):=J.out.trans (zp.of_ext (X:=fun b=>b=gx) ((f6.out.trans D.out).trans M.out)) (fun _ _ h=>h);have E:Hid (gp<w6.heap.size/\gx<gs/\gs+1<gp):=⟨zc m6.out,e6.out,s9.out⟩
      go_wp2_with fail
      have n5:=n4;have q7:Hid (k+1<=3000):=by show _<=_;omega
      have q8:Hid (AG w6 w6.heap.size (.slice none 0 0) [] []):=AG.nil _ _;clear n5;go_loopw [73] (fun v wr=>∃(j kk:Nat) (acc:List PT) (vk:Value) (cs:List Value),v=.int .i64 j/\j<=L.length/\Hid (acc.length=j)/\Hid (kk<=3000)/\Hid (zJ F L (k+1) []=zJ F (L.drop j) kk acc)/\Hid (zp (fun b=>b=gx\/b=gp) w6 wr)/\Hid (zd wr gx 169 #[.int .i64 kk])/\Hid (zd wr gp 41 #[.int .i64 c,.slice none 0 0,vk])/\Hid (AG wr w6.heap.size vk acc cs)) (fun v _=>L.length - (intOf v).toNat)
      case atStart=>exact ⟨0,k+1,[],.slice none 0 0,[],rfl,Ef _,rfl,q7.out,rfl,zp.refl _ _,s7.out,m6.out,q8.out⟩
      case round=>
       obtain ⟨j,kk,acc,vk,cs,rfl,hj,f0,d9,k8,G,j9,b1,b6⟩:=hrel;obtain ⟨wk',rfl⟩:∃wk':World,wk'=wr:=⟨_,rfl⟩;by_cases d5:j<L.length
       ·have x7:(0:Int)<=(j:Int):=by omega
        have t2:(j:Int)<(L.length:Int):=by omega
        obtain ⟨bl,offl,rfl,n9,i0⟩:=zE s3.out d5 d5;have v8:Hid (w5.heap.size<=bl):=n9;have q4:Hid (gp<w5.heap.size):=zc l5.out;have o1:wk'.cell? ⟨bl,offl+j,none⟩=some (.int .i64 L[j]):=G.out.cellk i0 (by have:=E.out;have:=q4.out;show ¬ (bl=gx\/bl=gp);omega);have f7:Hid (zy m (ch++[L[j]])):=m5.out _ (DS d5);have i5:Hid (L.drop j=L[j] :: L.drop (j+1)):=List.drop_eq_getElem_cons d5;obtain ⟨n,hn⟩:=EY (L[j]);rw [<-hn] at o1 f7 i5;have a4:=p7.out
        have s2:Hid (PSt wk' ok m (.slice Af m.free.length cf) (.slice Au m.up.length cu) (.slice At m.tasks.length ct) (.slice Ac ch.length cc) (.slice Ap PL cp) ch):=H.out.keep (fun b hb I=>by
         have h1:=i8.out b hb;have h2:=E.out;have h3:=e4.out;exact (G.out.block b (Et I g1.out.size) (by omega)).trans (g1.out.block b I h1))
        have rul:∀{i:Nat} {v:Value},w6.cell? ⟨gs,i,none⟩=some v->∀W,zp (fun b=>b=gx\/b=gp) w6 W->W.cell? ⟨gs,i,none⟩=some v:=fun h W hW=>hW.cellk h (by have:=E.out;show ¬ (gs=gx\/gs=gp);omega)
        have r0:=rul (a4.cell (k:=0) rfl);have r1:=rul (a4.cell (k:=1) rfl);have r2:=rul (a4.cell (k:=2) rfl);have r3:=rul (a4.cell (k:=3) rfl);have r4:=rul (a4.cell (k:=4) rfl);have r5:=rul (a4.cell (k:=5) rfl);have r6:=rul (a4.cell (k:=6) rfl);have r7:=rul (a4.cell (k:=7) rfl);have r8:=rul (a4.cell (k:=8) rfl);obtain ⟨wq,rfl⟩:∃wq:World,wq=wk':=⟨_,rfl⟩;clear rul a4 i0 n9 hn;go_upto_region 18 with fail;clear o1;refine wp_dark fun Q' hP n7=>?_;refine Ar (S:=(fun W=>zp (fun b=>b=gx\/b=gp) w6 W/\W.cell? ⟨gp,2,none⟩=some vk)) zI (⟨zp.trans G.out (zp.of_ext (X:=fun b=>b=gx\/b=gp) (za.refl wq).drew) (fun _ _ h=>h),zp.cellk (zp.of_ext (X:=fun b=>b=gx) (za.refl wq).drew) (b1.out.cell (k:=2) rfl) (by have:=E.out;show ¬ (gp=gx);omega)⟩) fun zH=>?_;have g3:Hid (za wq wq.drew):=(za.refl wq).drew;generalize wq.drew=wd at zH g3⊢;refine Ct 0 hP zH ?_;simp only [zb,DN];refine Ct 1 hP zH ?_;simp only [zb,DN];refine Ct 2 hP zH ?_;simp only [zb,DN];refine Ct 3 hP zH ?_;simp only [zb,DN];refine Ct 4 hP zH ?_;simp only [zb,DN];refine rlR 5 fun K O=>?_;go_simp;go_at_call 134;refine (pnext_calls c n wd (s2.out.more g3.out) HL.out HC.out f7.out e7.out.2).mono ?_;rintro e w2 ⟨vc2,vp2,rfl,n1,n6⟩;have d6:Hid (za wq w2):=g3.out.trans n1;have s0:=zh n6;clear n1 n6;go_simp;refine O.out _ _ (⟨zp.trans G.out (zp.wide (zp.of_ext (X:=fun b=>b=gx) d6.out) (X':=fun b=>b=gx\/b=gp) (fun k h=>.inl h)) (fun _ _ h=>h),zp.cellk (zp.of_ext (X:=fun b=>b=gx) d6.out) (b1.out.cell (k:=2) rfl) (by have:=E.out;show ¬ (gp=gx);omega)⟩) fun zH=>?_;clear O K;try simp only [zb,DN]
        refine rlR 6 fun K O=>?_;go_simp;go_at_call 111;refine (IH.out (ch++[n]) kk gx _ vc2 vp2 w2 s0.out f7.out (by have:=HF.out;rw [DZ,Er];omega) d9.out (d6.out.cellB j9.out) (fun b hb=>by have h1:=i8.out;have h2:=g3.out.size;have h3:=zc j9.out;rcases hb with hb | hb;exact h1 b hb;omega)).mono ?_;obtain ⟨r3,l0⟩:∃r:Int×PT×Nat,r=zj m fl (ch++[n]) kk:=⟨_,rfl⟩;rw [<-l0];have j0:=zh l0;have b9:Hid (F n kk=r3):=by (show _=_);rw [q3.out];exact j0.out.symm
        clear l0;rintro e w3 ⟨j3,(⟨h0,v3,rfl,j7,n8⟩ | ⟨h0,rfl⟩)⟩
        rotate_left
        ·subst n7;go_wp2;refine ⟨rfl,?_⟩;exact prove_fin3 (x:=zj m (fl+1) ch k) g1.out G.out E.out e4.out (zp.trans (zp.of_ext (X:=fun b=>b=gx) d6.out) j3 (fun _ _ h=>h)) (by rw [f9.out];exact (prove_err (F:=F) (n:=n) (l:=L.drop (j+1)) (k:=kk) (acc:=acc) (by rw [b9.out];exact h0) (k8.out.trans (by rw [i5.out]))).trans (by rw [b9.out])) h0
        have i4:Hid (zp (fun b=>b=gx) wq w3):=zp.trans (zp.of_ext (X:=fun b=>b=gx) d6.out) j3 (fun _ _ h=>h);obtain ⟨As3,cs3,Ak3,ck3,rfl,-⟩:=j7.form;have s1:=zh j7;have e8:=zh n8;have n0:=zh h0;have h8:Hid (wq.heap.size<=w2.heap.size):=d6.out.size;clear j3 j7 n8 h0;go_simp;refine O.out _ _ (⟨zp.trans G.out (zp.wide (i4.out) (X':=fun b=>b=gx\/b=gp) (fun k h=>.inl h)) (fun _ _ h=>h),zp.cellk (i4.out) (b1.out.cell (k:=2) rfl) (by have:=E.out;show ¬ (gp=gx);omega)⟩) fun zH=>?_;clear O K;try simp only [zb,DN]
        refine rlR 7 fun K O=>?_;go_simp;have b0:=zd.new w3 #[.int .i64 r3.2.1.task,.slice As3 r3.2.1.side.length cs3,.slice Ak3 r3.2.1.kids.length ck3] 41 (g:=w3.heap.size) rfl;have hA4:za w3 (w3.alloc (.cells #[.int .i64 r3.2.1.task,.slice As3 r3.2.1.side.length cs3,.slice Ak3 r3.2.1.kids.length ck3] 41)):=(za.refl w3).alloc _;generalize w3.alloc _=w4 at b0 hA4⊢;generalize w3.heap.size=g4 at b0⊢;have f5:=zh b0;have J:Hid (zp (fun b=>b=gx) wq w4):=zp.trans (i4.out) (zp.of_ext (X:=fun b=>b=gx) hA4) (fun _ _ h=>h);have i9:=zh (s1.out.ext hA4);have b4:=zh (e8.out.ext hA4);clear b0 hA4;go_simp;refine O.out _ _ (⟨zp.trans G.out (zp.wide (J.out) (X':=fun b=>b=gx\/b=gp) (fun k h=>.inl h)) (fun _ _ h=>h),zp.cellk (J.out) (b1.out.cell (k:=2) rfl) (by have:=E.out;show ¬ (gp=gx);omega)⟩) fun zH=>?_;clear O K;try simp only [zb,DN]
        refine rlR 8 fun K O=>?_;have m2:Hid (AG w4 w6.heap.size vk acc cs):=b6.out.chg (J.out) (fun b hb e=>by have:=E.out;omega);refine zW (ok:=fun _=>True) (by rfl) w4 _ _ CW (by rfl) w6.heap.size acc.length 1 cs _ vk _ (by rfl) (by rfl) m2.out.own (Cd f5.out) (fun u hu=>by simp at hu;rcases hu with rfl | rfl | rfl <;> rfl) (by have h1:=G.out.size;have h2:=zp.size (J.out);omega) (by have:=f0.out;unfold maxLen;omega) (by have:=f0.out;omega) ?_;intro v5 w5 k9 b8 p3;have r9:=zh (show AG w5 w6.heap.size _ (acc++[r3.2.1]) (cs++[.int .i64 r3.2.1.task,.slice As3 r3.2.1.side.length cs3,.slice Ak3 r3.2.1.kids.length ck3]) from m2.out.app (lo:=w2.heap.size) i9.out (fun k hk=>by have h1:=b6.out.lt hk;have h2:=h8.out;omega) (by have h1:=G.out.size;have h2:=h8.out;omega) k9 b8 p3);have l6:Hid (zp (fun b=>b=gx\/b=gp) w6 w5):=zp.grown (zp.trans G.out (zp.wide (J.out) (X':=fun b=>b=gx\/b=gp) (fun k h=>.inl h)) (fun _ _ h=>h)) b8 (fun k hk I=>by have h1:=b6.out.lt hk;omega);obtain ⟨A5,c5,e5,-,-⟩:=Ae.of_own k9;subst e5;have c9:Hid (zd w5 gp 41 #[.int .i64 c,.slice none 0 0,vk]):=(b8.block gp (by have h1:=E.out.1;have h2:=G.out.size;have h3:=zp.size (J.out);omega) (fun e=>by have h1:=b6.out.lt e.symm;have h2:=E.out;omega)).trans (zp.blk (J.out) b1.out (by have:=E.out;omega));have s6:Hid (zd w5 gx 169 #[.int .i64 r3.2.2]):=(b8.block gx (zc b4.out) (fun e=>by have h1:=b6.out.lt e.symm;have h2:=E.out;omega)).trans b4.out;clear k9 b8 p3;refine EZ O (⟨l6.out,c9.out.cell (k:=2) rfl⟩) fun zH=>?_;clear O K;try simp only [zb,DN]
        refine Ct 9 hP zH ?_;simp only [zb,DN];refine rlZ 10 fun K O=>?_;go_simp;have cg:=c9.out.cell (k:=2) rfl;have fg:=c9.out.frozen 2;go_simp;clear cg fg;refine O.out _ _ ?_;clear O K;refine AI (by kernel_rfl) ?_ _;subst n7;have m8:Hid (zp (fun b=>b=gx\/b=gp) w6 (w5.setCell ⟨gp,2,none⟩ (.slice A5 (acc.length+1) c5))):=zp.set (l6.out) gp 2 (.slice A5 (acc.length+1) c5) (.inr rfl);have h9:Hid (zd (w5.setCell ⟨gp,2,none⟩ (.slice A5 (acc.length+1) c5)) gp 41 #[.int .i64 c,.slice none 0 0,(.slice A5 (acc.length+1) c5)]):=c9.out.set (k:=2) (.slice A5 (acc.length+1) c5);have m9:Hid (zd (w5.setCell ⟨gp,2,none⟩ (.slice A5 (acc.length+1) c5)) gx 169 #[.int .i64 r3.2.2]):=s6.out.setOther (a:=⟨gp,2,none⟩) (by have:=E.out;show gx≠gp;omega) (.slice A5 (acc.length+1) c5);have m4:=zh (r9.out.chg (zp.set (X:=fun b=>b=gp) (zp.refl _ w5) gp 2 (.slice A5 (acc.length+1) c5) rfl) (fun b hb e=>by have:=E.out;omega));generalize w5.setCell ⟨gp,2,none⟩ (.slice A5 (acc.length+1) c5)=wz at m8 h9 m9 m4⊢;have hF1:(F n kk).1=0:=by rw [b9.out];exact n0.out
        have m3:Hid (zJ F L (k+1) []=zJ F (L.drop (j+1)) r3.2.2 (acc++[r3.2.1])):=by (show _=_);rw [k8.out,i5.out,kidsR_more hF1,b9.out]
        have m1:Hid (r3.2.2<=3000):=by (show _<=_);have h:=(proveP_ok HC.out fl (ch++[n]) kk f7.out d9.out (by rw [<-j0.out];exact n0.out)).2.2;rw [<-j0.out] at h;exact h
        clear hF1;go_wp2;go_roundw
        case rel=>exact ⟨j+1,_,_,_,_,by go_num,by omega,by (show _=_);rw [DZ,f0.out];rfl,m1.out,m3.out,m8.out,m9.out,h9.out,m4.out⟩
        case measure=>simp [intOf];omega
       ·have o4:j=L.length:=by omega
        have t2:¬ ((j:Int)<(L.length:Int)):=by omega
        have i6:Hid (zJ F L (k+1) []=(0,acc,kk)):=by
         show _=_;rw [k8.out,o4,List.drop_length];rfl
        have o:zd wk' (gs+1) 41 #[.int .i64 0,.slice none 0 0,.slice none 0 0]:=G.out.blk s8.out (by have:=E.out;omega);have z0:=o.cell (k:=0) rfl;have z1:=o.cell (k:=1) rfl;have z2:=o.cell (k:=2) rfl;have hfz:∀j,wk'.frozen? ⟨gs+1,j,none⟩=false:=fun j=>o.frozen j
        have e0:=zh o;obtain ⟨Ak,ck,evk,-,-⟩:=Ae.of_own b6.out.own;subst evk;have p0:=b1.out.cell (k:=0) rfl;have p1:=b1.out.cell (k:=1) rfl;have p2:=b1.out.cell (k:=2) rfl;clear o o4
        go_wp2_with fail
        refine Bb (P:=fun W=>bodyPost Tryz.prog Tryz.f111 _ Exit.ret _ W) (g2:=gs+1) ?_ e0.out;intro WZ Q e9 o5;have y0:=Q.cell (k:=0) rfl;have y1:=Q.cell (k:=1) rfl;have y2:=Q.cell (k:=2) rfl;refine EL (v:=.agg #[.int .i64 c,.slice none 0 0,.slice Ak acc.length ck]) (by simp [results,Tryz.results111,go_sem,y0,y1,y2]) rfl ?_;rw [f9.out,i6.out,if_pos rfl,<-a3.out];exact prove_fin2 g1.out G.out E.out e4.out j9.out b6.out e9 o5
end
section
open Go.RowKit
attribute [local go_sem ↓] Go.wp_at_zero Go.wp_at_succ
theorem make1_panics (gp ge:Nat) (x:Int) (older:List PanicEntry) (w:World) {a b c:Value} (hp:zd w gp 41 #[a,b,c]) (he:zd w ge 42 #[d]) (o:gp≠ge):
  CallsD Tryz.prog 110 #[.pointer (some ⟨gp,0,none⟩),.pointer (some ⟨ge,0,none⟩)] (.panicking ({ v:=.iface 42 (.int .i64 x),recovered:=false } :: older)) w fun e u' w'=>
   e=.returned (.tuple #[])/\u'=.panicking ({ v:=.iface 42 (.int .i64 x),recovered:=true } :: older)/\w'=(((w.setCell ⟨gp,0,none⟩ (.int .i64 0)).setCell ⟨gp,1,none⟩ (.slice none 0 0)).setCell ⟨gp,2,none⟩ (.slice none 0 0)).setCell ⟨ge,0,none⟩ (.int .i64 x):=by
 have c0:=hp.cell (k:=0) rfl;have c1:=hp.cell (k:=1) rfl;have c2:=hp.cell (k:=2) rfl;have ce:=he.cell (k:=0) rfl;have f0:=fun j=>hp.frozen j
 have fe:=he.frozen 0;refine callsD_of_wpS Tryz.func110 rfl fun c₀ cs E=>?_
 apply wpS_seq;apply wpS_region;simp [wpOpsS,go_sem,recoverD,E,Tryz.ntmps110,Exit.thenS];refine wpS_of_wp ?_;have D:∀W,(Instr.typeAssert (.iface 42 (.int .i64 x)) 20 42 true).run Tryz.prog W=.ok (.tuple #[.int .i64 x,.bool true]) W:=fun W=>by kernel_rfl
 go_wp2;cases c₀
 simp_all [bodyPostS,results,Tryz.results110]
theorem DE:∀(f:Nat) (ch:List Int) (k:Nat),(zj m f ch k).1≠0->(zj m f ch k).2.1=PT.zero
 | 0,ch,k,h=>by unfold zj;rfl
 | f+1,ch,k,h=>by
  by_cases h1:m.tasks.length<=zF m ch
  ·rw [proveP_end h1]
  ·by_cases h2:3000<k+1
   ·rw [DD h1 h2]
   ·cases h3:cutT m ch with
    | some t=>rw [Dn h1 h2 h3] at h;exact absurd rfl h
    | none=>
     rw [DC h1 h2 h3] at h⊢
     split
     ·next o=>rw [if_pos o] at h;exact absurd rfl h
     ·rfl
theorem case_fin4 {W:World} {ge:Nat} {e:Value} (h:∀WZ,zd WZ gp 41 #[a0,a1,a2]->zd WZ ge 42 #[d]->zp (fun b=>b=gp\/b=ge) W WZ->P WZ) (D:zd W gp 41 #[z0,z1,z2]) (he:zd W ge 42 #[e]):
  P ((((W.setCell ⟨gp,0,none⟩ a0).setCell ⟨gp,1,none⟩ a1).setCell ⟨gp,2,none⟩ a2).setCell ⟨ge,0,none⟩ d):=by
 have o:gp≠ge:=D.ne_ he (by decide);have h1:zd (setL gp 0 [a0,a1,a2] W) gp 41 #[a0,a1,a2]:=setL_blk [a0,a1,a2] [z0,z1,z2] [] W rfl D;have h2:zd (setL gp 0 [a0,a1,a2] W) ge 42 #[e]:=(Co gp ge (Ne.symm o) _ 0 W).trans he;refine h _ (h1.setOther (a:=⟨ge,0,none⟩) o d) (h2.set (k:=0) d) ⟨rfl,rfl,rfl,?_,fun b D E=>?_⟩
 ·simp
 ·refine (Ea _ ⟨ge,0,none⟩ _ b (fun e=>E (.inr e))).trans (Co gp b (fun e=>E (.inl e)) [a0,a1,a2] 0 W)
theorem make1_idle (gp ge:Nat) (w:World):
  CallsD Tryz.prog 110 #[.pointer (some ⟨gp,0,none⟩),.pointer (some ⟨ge,0,none⟩)] .returning w fun e u' w'=>e=.returned (.tuple #[])/\u'=.returning/\w'=w:=by
 refine callsD_of_wpS Tryz.func110 rfl fun c₀ cs o=>?_
 apply wpS_seq;apply wpS_region;simp [wpOpsS,go_sem,recoverD,o,Tryz.ntmps110,Exit.thenS];refine wpS_of_wp ?_;go_wp2;cases c₀
 simp_all [bodyPostS,results,Tryz.results110]
theorem DB {ok:Nat->Prop} {v:Value} (w:World) (hm:zt w ok v m) (hl:Lens m):
  Calls Tryz.prog 55 #[v] w fun e w'=>∃v',e=.returned (.tuple #[v',.int .i64 (AP m).1])/\za w w'/\zM w' (fun b=>w.heap.size<=b) v' (AP m).2:=by
 have HM:=zh hm;have HL:=zh hl;obtain ⟨Af,cf,Au,cu,At,ct,rfl,-,-,-⟩:=hm.parts;clear hm hl;have f8:∀(fn:Fn) (first cap:Array Value) (w:World),(Instr.makeFunc fn first cap).run Tryz.prog w=.ok (.func fn first cap) w:=fun _ _ _ _=>rfl
 go_enter_defers Tryz.func55,Tryz.ntmps55
 go_upto_region 1 with fail;obtain ⟨b7,r0,r1,r2,r3,r4,r5⟩:=box6 w (.int .i64 m.w) (.int .i64 m.h) (.int .i64 m.l) (.slice Af m.free.length cf) (.slice Au m.up.length cu) (.slice At m.tasks.length ct);have b0:(w.alloc (.cells #[.int .i64 m.w,.int .i64 m.h,.int .i64 m.l,.slice Af m.free.length cf,.slice Au m.up.length cu,.slice At m.tasks.length ct] 32)).heap.size=w.heap.size+1:=by simp
 generalize w.alloc _=w0 at b7 r0 r1 r2 r3 r4 r5 b0⊢;have Q:=zd.new w0 #[.int .i64 0,.slice none 0 0,.slice none 0 0] 41 (g:=w0.heap.size) rfl;have a9:za w0 (w0.alloc (.cells #[.int .i64 0,.slice none 0 0,.slice none 0 0] 41)):=(za.refl w0).alloc _;have c7:(w0.alloc (.cells #[.int .i64 0,.slice none 0 0,.slice none 0 0] 41)).heap.size=w0.heap.size+1:=by simp
 generalize w0.alloc _=w1 at Q a9 c7⊢;have O:=zd.new w1 #[.int .i64 0] 42 (g:=w1.heap.size) rfl;have a3:za w1 (w1.alloc (.cells #[.int .i64 0] 42)):=(za.refl w1).alloc _;generalize w1.alloc _=w2 at O a3⊢;rw [c7,b0] at O;rw [b0] at Q;obtain ⟨gm,b9⟩:=EY w.heap.size;rw [<-b9] at r0 r1 r2 r3 r4 r5 Q O⊢;have M:Hid (gm=w.heap.size):=b9;have I:=zh (a9.trans a3);have r0:=fun W h=>r0 W (I.out.trans h)
 have r1:=fun W h=>r1 W (I.out.trans h)
 have r2:=fun W h=>r2 W (I.out.trans h)
 have r3:=fun W h=>r3 W (I.out.trans h)
 have r4:=fun W h=>r4 W (I.out.trans h)
 have r5:=fun W h=>r5 W (I.out.trans h)
 have HP:=zh (Q.ext a3);have HE:=zh O;have b3:=zh (b7.trans (a9.trans a3));clear b9 b7 b0 a9 c7 a3 Q O;have hx:za w2 w2:=za.refl w2
 go_wp2_with fail
 refine (Cr w2 (HM.out.below b3.out) HL.out).mono ?_;rintro e w3 ⟨rfl,a7⟩;have c8:za w2 w3:=a7;have K:=zh (HP.out.ext a7);have L:=zh (HE.out.ext a7);obtain ⟨ck,b8⟩:=EY (Bq m);have a5:=zh b8;rw [<-b8];clear hx a7 b8;by_cases h0:ck=0
 ·subst h0;have HC:Hid (Bq m=0):=a5.out.symm;clear a5;have f1:=Bj w2
  go_wp2_with fail
  have a8:=zd.new w3 #[.int .i64 0] 169 (g:=w3.heap.size) rfl;have U:za w3 (w3.alloc (.cells #[.int .i64 0] 169)):=(za.refl w3).alloc _;have b1:(w3.alloc (.cells #[.int .i64 0] 169)).heap.size=w3.heap.size+1:=by simp
  generalize w3.alloc _=w4 at a8 U b1⊢;obtain ⟨gx,c6⟩:=EY w3.heap.size;rw [<-c6] at a8 b1⊢;have D:Hid (gm+2<gx/\w4.heap.size=gx+1):=⟨by rw [c6];have:=zc L.out;omega,b1⟩;have e7:=zh a8;have d9:Hid (za w w4):=b3.out.trans (c8.trans U);have e5:=zh (K.out.ext U);have e3:=zh (L.out.ext U);clear a8 b1 c6 c8 U f1 r0 r1 r2 r3 r4 r5;refine (of_calls (ok:=fun b=>ok b/\b<w.heap.size) w4 (HM.out.bound.below d9.out) HL.out HC.out (zk.nil _ _) zy.nil).mono ?_;rintro e w5 ⟨vp,rfl,V,e1⟩;have b4:=zh (e7.out.ext V);have e0:=zh (d9.out.trans V);have d6:=zh (e5.out.ext V);have d5:=zh (e3.out.ext V);have e6:=zh e1;clear V e1
  have d8:Hid (∀r,r=zj m (m.n.toNat+2) [] 0->Calls Tryz.prog 111 #[.pointer (some ⟨gx,0,none⟩),DJ m (.slice Af m.free.length cf) (.slice Au m.up.length cu) (.slice At m.tasks.length ct) (.slice none 0 0) vp (zF m [])] w5 (CX w5 gx r)):=fun r hr=>by
   rw [hr];exact prove_calls HL.out HC.out (m.n.toNat+2) [] 0 gx _ _ _ w5 e6.out zy.nil (by simp) (by omega) b4.out (fun b hb=>by have h1:=D.out;have h2:=M.out;rcases hb with hb | hb <;> omega)
  obtain ⟨r,hr⟩:=EY (zj m (m.n.toNat+2) [] 0);have a6:Hid (AP m=(r.1,r.2.1)):=by (show _=_);unfold AP;rw [if_pos HC.out,hr]
  have d7:=zh (d8.out r hr);have b5:Hid (r.1≠0->r.2.1=PT.zero):=fun h=>by rw [hr] at h⊢;exact DE _ _ _ h
  clear d8 hr;unfold DJ at d7⊢
  go_wp2_with fail
  refine d7.out.mono ?_;rintro e w6 ⟨G,(⟨h0,v6,rfl,b6,e8⟩ | ⟨h0,rfl⟩)⟩
  ·have E:=zh (G.blk d6.out (by have:=D.out;omega));have J:=zh (G.blk d5.out (by have:=D.out;omega));have b2:=zh G;have HR:=zh b6;have HZ:=zh h0;obtain ⟨As,cs,Ak,ck,rfl,-⟩:=b6.form;have c0:=E.out.cell (k:=0) rfl;have c1:=E.out.cell (k:=1) rfl;have c2:=E.out.cell (k:=2) rfl;have ce:=J.out.cell (k:=0) rfl;have f0:=fun j=>E.out.frozen j
   have fe:=J.out.frozen 0;clear G h0 b6 e8
   go_wp2_with fail
   refine case_fin4 (P:=fun W=>bodyPostD Tryz.prog Tryz.f55 _ Exit.ret _ W) (gp:=gm+1) (ge:=gm+1+1) ?_ E.out J.out;intro WZ o a4 hC;have y0:=o.cell (k:=0) rfl;have y1:=o.cell (k:=1) rfl;have y2:=o.cell (k:=2) rfl;have y3:=a4.cell (k:=0) rfl;refine leaves_cons (f:=110) (args:=#[.pointer (some ⟨gm+1,0,none⟩),.pointer (some ⟨gm+1+1,0,none⟩)]) (by simp) (by simp [go_sem]) ?_;refine (make1_idle _ _ _).mono ?_;rintro e u' w'' ⟨rfl,rfl,rfl⟩;refine ⟨.tuple #[.agg #[.int .i64 r.2.1.task,.slice As r.2.1.side.length cs,.slice Ak r.2.1.kids.length ck],.int .i64 0],by simp [results,Tryz.results55,go_sem,y0,y1,y2,y3],.agg #[.int .i64 r.2.1.task,.slice As r.2.1.side.length cs,.slice Ak r.2.1.kids.length ck],?_,?_,?_⟩
   ·rw [a6.out,HZ.out]
   ·exact (((zp.of_ext (X:=fun b=>gm<=b) e0.out).trans b2.out (fun k _ h=>by have:=D.out;omega)).trans hC (fun k _ h=>by omega)).below (DR _) (fun b hb=>by rw [M.out] at hb;exact hb)
   ·rw [a6.out];exact HR.out.keepW (fun b hb e9=>hC.block b e9 (by have h1:=D.out;have h2:=zc b4.out;omega)) (fun b hb=>by have h1:=D.out;have h2:=zc b4.out;have h3:=M.out;omega)
  ·have E:=zh (G.blk d6.out (by have:=D.out;omega));have J:=zh (G.blk d5.out (by have:=D.out;omega));have b2:=zh G;clear G
   go_wp2_with fail
   refine leaves_cons (f:=110) (args:=#[.pointer (some ⟨gm+1,0,none⟩),.pointer (some ⟨gm+1+1,0,none⟩)]) (by simp) (by simp [go_sem]) ?_;refine (make1_panics _ _ _ _ _ E.out J.out (by omega)).mono ?_;rintro e u' w'' ⟨rfl,rfl,rfl⟩;refine case_fin4 (P:=fun W=>Leaves Tryz.prog Tryz.f55 _ _ _ _ W) (gp:=gm+1) (ge:=gm+1+1) ?_ E.out J.out;intro WZ o a4 hC;have y0:=o.cell (k:=0) rfl;have y1:=o.cell (k:=1) rfl;have y2:=o.cell (k:=2) rfl;have y3:=a4.cell (k:=0) rfl;refine ⟨.tuple #[.agg #[.int .i64 0,.slice none 0 0,.slice none 0 0],.int .i64 r.1],by simp [results,Tryz.results55,go_sem,y0,y1,y2,y3],.agg #[.int .i64 0,.slice none 0 0,.slice none 0 0],?_,?_,?_⟩
   ·rw [a6.out]
   ·exact (((zp.of_ext (X:=fun b=>gm<=b) e0.out).trans b2.out (fun k _ h=>by have:=D.out;omega)).trans hC (fun k _ h=>by omega)).below (DR _) (fun b hb=>by rw [M.out] at hb;exact hb)
   ·rw [a6.out];have:r.2.1=PT.zero:=b5.out h0;rw [this];exact zM.zero _ _
 ·have f9:(ck==0)=false:=by rw [Ee];exact h0
  have g0:(ck != 0)=true:=by rw [bne_iff_ne];exact h0
  have c0:=K.out.cell (k:=0) rfl;have c1:=K.out.cell (k:=1) rfl;have c2:=K.out.cell (k:=2) rfl;have ce:=L.out.cell (k:=0) rfl;have f0:=fun j=>K.out.frozen j
  have fe:=L.out.frozen 0;have HN:Hid (AP m=(ck,.zero)):=by (show _=_);unfold AP;rw [if_neg (by rw [<-a5.out];exact h0),a5.out]
  clear h0
  go_wp2_with fail
  refine case_fin4 (P:=fun W=>bodyPostD Tryz.prog Tryz.f55 _ Exit.ret _ W) (gp:=gm+1) (ge:=gm+1+1) ?_ K.out L.out;intro WZ o a4 hC;have y0:=o.cell (k:=0) rfl;have y1:=o.cell (k:=1) rfl;have y2:=o.cell (k:=2) rfl;have y3:=a4.cell (k:=0) rfl;refine ⟨.tuple #[.agg #[.int .i64 0,.slice none 0 0,.slice none 0 0],.int .i64 ck],by simp [results,Tryz.results55,go_sem,y0,y1,y2,y3],.agg #[.int .i64 0,.slice none 0 0,.slice none 0 0],?_,?_,?_⟩
  ·rw [HN.out]
  ·exact ((zp.of_ext (X:=fun b=>gm<=b) (b3.out.trans c8)).trans hC (fun k _ h=>by omega)).below (DR _) (fun b hb=>by rw [M.out] at hb;exact hb)
  ·rw [HN.out];exact zM.zero _ _
end
section
open Go.RowKit
structure J6 (B:Nat) (w0:World) (ge n t:Nat) (e:Nat->Bool) (v:Nat->Value) (W:World):Prop where
 gb:w0.grownBy W (some ge)
 dr:zP B W ge
 v0:e 0=true->∃(g:Nat) (a b c:NetS),v 0=.slice (some ⟨g,0,none⟩) 3 3/\w0.heap.size<=g/\zd W g 9 #[.string a,.string b,.string c]
 v1:e 1=true->v 1=.int .i64 (t:Int)
 v2:e 2=true->∃(g:Nat) (a b c:NetS),v 2=.pointer (some ⟨g,t,none⟩)/\w0.heap.size<=g/\zd W g 9 #[.string a,.string b,.string c]
 v3:e 3=true->∃s:NetS,v 3=.string s
 v4:e 4=true->v 4=.pointer (some ⟨ge,0,none⟩)
 v5:e 5=true->v 5=.int .i64 (n:Int)
 v6:e 6=true->∃x,v 6=.int .i64 x/\0<=x/\x<(n:Int)
 v7:e 7=true->∃g x,v 7=.slice (some ⟨g,0,none⟩) 1 1/\w0.heap.size<=g/\zd W g 3 #[.int .i64 x]/\0<=x/\x<(n:Int)
 v8:e 8=true->v 8=.pointer (some ⟨ge,0,none⟩)
 v9:e 9=true->v 9=.int .i64 (n:Int)
 v10:e 10=true->∃x,v 10=.int .i64 x/\0<=x/\x<(n:Int)
 v11:e 11=true->∃g x,v 11=.slice (some ⟨g,0,none⟩) 1 1/\w0.heap.size<=g/\zd W g 3 #[.int .i64 x]/\0<=x/\x<(n:Int)
 ne:e 7=true->e 11=true->(v 7).ownBlock≠(v 11).ownBlock
 v12:e 12=true->v 12=.agg #[v 3,v 7,v 11]/\e 3=true/\e 7=true/\e 11=true
 v13:e 13=true->∃g,v 13=.pointer (some ⟨g,0,none⟩)/\w0.heap.size<=g/\(e 14=false->zd W g 87 #[.string ⟨#[]⟩,.slice none 0 0,.slice none 0 0])/\(e 14=true->zd W g 87 #[v 3,v 7,v 11])
 d14:e 14=true->e 12=true/\e 13=true
section
variable {B:Nat} {w0 W W':World} {ge n t:Nat} {e:Nat->Bool} {v:Nat->Value}
theorem J6.init (o:zP B w0 ge) (he:∀j∈[0,1,2,3,4,5,6,7,8,9,10,11,12,13,14],e j=false):J6 B w0 ge n t e v w0.drew:=
 ⟨⟨rfl,rfl,rfl,DR _,fun _ _ _=>rfl⟩,o,fun a=>ff (he 0 (by simp)) a,fun a=>ff (he 1 (by simp)) a,fun a=>ff (he 2 (by simp)) a,fun a=>ff (he 3 (by simp)) a,fun a=>ff (he 4 (by simp)) a,fun a=>ff (he 5 (by simp)) a,fun a=>ff (he 6 (by simp)) a,fun a=>ff (he 7 (by simp)) a,fun a=>ff (he 8 (by simp)) a,fun a=>ff (he 9 (by simp)) a,fun a=>ff (he 10 (by simp)) a,fun a=>ff (he 11 (by simp)) a,fun a=>ff (he 7 (by simp)) a,fun a=>ff (he 12 (by simp)) a,fun a=>ff (he 13 (by simp)) a,fun a=>ff (he 14 (by simp)) a⟩
theorem J6.move (h:J6 B w0 ge n t e v W) (gb:W.grownBy W' (some ge)) (dr:zP B W' ge) (o:∀g ty cs,w0.heap.size<=g->zd W g ty cs->zd W' g ty cs):J6 B w0 ge n t e v W':=
 ⟨h.gb.trans gb,dr,fun a=>let ⟨g,x,y,z,h1,h2,h3⟩:=h.v0 a;⟨g,x,y,z,h1,h2,o _ _ _ h2 h3⟩,h.v1,fun a=>let ⟨g,x,y,z,h1,h2,h3⟩:=h.v2 a;⟨g,x,y,z,h1,h2,o _ _ _ h2 h3⟩,h.v3,h.v4,h.v5,h.v6,
  fun a=>let ⟨g,x,h1,h2,h3,D⟩:=h.v7 a;⟨g,x,h1,h2,o _ _ _ h2 h3,D⟩,h.v8,h.v9,h.v10,fun a=>let ⟨g,x,h1,h2,h3,D⟩:=h.v11 a;⟨g,x,h1,h2,o _ _ _ h2 h3,D⟩,h.ne,h.v12,
  fun a=>let ⟨g,h1,h2,h3,D⟩:=h.v13 a;⟨g,h1,h2,fun b=>o _ _ _ h2 (h3 b),fun b=>o _ _ _ h2 (D b)⟩,h.d14⟩
theorem J6.hge (h:J6 B w0 ge n t e v W) (o:ge<w0.heap.size):w0.heap.size<=W.heap.size:=h.gb.size
theorem J6.alloc (h:J6 B w0 ge n t e v W) (D:B<=w0.heap.size) (o:Obj):J6 B w0 ge n t e v (W.alloc o):=
 h.move ⟨rfl,rfl,rfl,by simp,fun i G _=>Ej _ _ _ G⟩ (h.dr.ext ((za.refl _).alloc _) (DT D h.gb.size)) (fun g ty cs _ E=>E.alloc o)
theorem J6.call (h:J6 B w0 ge n t e v W) (E:ge<w0.heap.size) (gb:W.grownBy W' (some ge)) (dr:zP B W' ge):J6 B w0 ge n t e v W':=
 h.move gb dr (fun g ty cs D o=>(gb.block g (zc o) (fun e=>by injection e with e;omega)).trans o)
theorem J6.n12 (h:J6 B w0 ge n t e v W) (o:e 12=false):e 14=false:=notT (fun a=>(h.d14 a).1) o
theorem J6.n13 (h:J6 B w0 ge n t e v W) (o:e 13=false):e 14=false:=notT (fun a=>(h.d14 a).2) o
theorem J6.n3 (h:J6 B w0 ge n t e v W) (h3:e 3=false):e 12=false:=notT (fun a=>(h.v12 a).2.1) h3
theorem J6.n7 (h:J6 B w0 ge n t e v W) (h3:e 7=false):e 12=false:=notT (fun a=>(h.v12 a).2.2.1) h3
theorem J6.n11 (h:J6 B w0 ge n t e v W) (h3:e 11=false):e 12=false:=notT (fun a=>(h.v12 a).2.2.2) h3
theorem J6.s0 (h:J6 B w0 ge n t e v W) (o:B<=w0.heap.size) (a b c:NetS):J6 B w0 ge n t (AM e 0 true) (AM v 0 (.slice (some ⟨W.heap.size,0,none⟩) 3 3)) (W.alloc (.cells #[.string a,.string b,.string c] 9)):=
 let k:=h.alloc o (.cells #[.string a,.string b,.string c] 9)
 ⟨k.gb,k.dr,fun _=>⟨_,a,b,c,rfl,h.gb.size,zd.new _ _ _ rfl⟩,k.v1,k.v2,k.v3,k.v4,k.v5,k.v6,k.v7,k.v8,k.v9,k.v10,k.v11,k.ne,k.v12,k.v13,k.d14⟩
theorem J6.s1 (h:J6 B w0 ge n t e v W):J6 B w0 ge n t (AM e 1 true) (AM v 1 (.int .i64 (t:Int))) W:=
 ⟨h.gb,h.dr,h.v0,fun _=>rfl,h.v2,h.v3,h.v4,h.v5,h.v6,h.v7,h.v8,h.v9,h.v10,h.v11,h.ne,h.v12,h.v13,h.d14⟩
theorem J6.s2 (h:J6 B w0 ge n t e v W) {a b c:NetS} (D:w0.heap.size<=g) (o:zd W g 9 #[.string a,.string b,.string c]):J6 B w0 ge n t (AM e 2 true) (AM v 2 (.pointer (some ⟨g,t,none⟩))) W:=
 ⟨h.gb,h.dr,h.v0,h.v1,fun _=>⟨g,a,b,c,rfl,D,o⟩,h.v3,h.v4,h.v5,h.v6,h.v7,h.v8,h.v9,h.v10,h.v11,h.ne,h.v12,h.v13,h.d14⟩
theorem J6.s3 (h:J6 B w0 ge n t e v W) (h3:e 3=false) (s:NetS):J6 B w0 ge n t (AM e 3 true) (AM v 3 (.string s)) W:=
 ⟨h.gb,h.dr,h.v0,h.v1,h.v2,fun _=>⟨s,rfl⟩,h.v4,h.v5,h.v6,h.v7,h.v8,h.v9,h.v10,h.v11,h.ne,fun a=>ff (b:=e 12) (h.n3 h3) a,fun a=>let ⟨g,h1,h2,o,D⟩:=h.v13 a;⟨g,h1,h2,o,fun b=>ff (b:=e 14) (h.n12 (h.n3 h3)) b⟩,h.d14⟩
theorem J6.s4 (h:J6 B w0 ge n t e v W):J6 B w0 ge n t (AM e 4 true) (AM v 4 (.pointer (some ⟨ge,0,none⟩))) W:=
 ⟨h.gb,h.dr,h.v0,h.v1,h.v2,h.v3,fun _=>rfl,h.v5,h.v6,h.v7,h.v8,h.v9,h.v10,h.v11,h.ne,h.v12,h.v13,h.d14⟩
theorem J6.s5 (h:J6 B w0 ge n t e v W):J6 B w0 ge n t (AM e 5 true) (AM v 5 (.int .i64 (n:Int))) W:=
 ⟨h.gb,h.dr,h.v0,h.v1,h.v2,h.v3,h.v4,fun _=>rfl,h.v6,h.v7,h.v8,h.v9,h.v10,h.v11,h.ne,h.v12,h.v13,h.d14⟩
theorem J6.s6 (h:J6 B w0 ge n t e v W) (D:ge<w0.heap.size) (gb:W.grownBy W' (some ge)) (dr:zP B W' ge) (E:0<=x) (o:x<(n:Int)):J6 B w0 ge n t (AM e 6 true) (AM v 6 (.int .i64 x)) W':=
 let k:=h.call D gb dr
 ⟨k.gb,k.dr,k.v0,k.v1,k.v2,k.v3,k.v4,k.v5,fun _=>⟨x,rfl,E,o⟩,k.v7,k.v8,k.v9,k.v10,k.v11,k.ne,k.v12,k.v13,k.d14⟩
theorem J6.s7 (h:J6 B w0 ge n t e v W) (G:B<=w0.heap.size) (E:e 7=false) (I:0<=x) (D:x<(n:Int)):J6 B w0 ge n t (AM e 7 true) (AM v 7 (.slice (some ⟨W.heap.size,0,none⟩) 1 1)) (W.alloc (.cells #[.int .i64 x] 3)):=
 let k:=h.alloc G (.cells #[.int .i64 x] 3)
 ⟨k.gb,k.dr,k.v0,k.v1,k.v2,k.v3,k.v4,k.v5,k.v6,fun _=>⟨_,x,rfl,h.gb.size,zd.new _ _ _ rfl,I,D⟩,k.v8,k.v9,k.v10,k.v11,fun _ b=>by
  obtain ⟨g,y,h1,_,h3,_⟩:=h.v11 b;show (Value.slice (some ⟨W.heap.size,0,none⟩) 1 1).ownBlock≠(v 11).ownBlock;rw [h1];intro e;have:=zc h3;have e:some W.heap.size=some g:=e;injection e with e;omega,fun a=>ff (b:=e 12) (h.n7 E) a,fun a=>let ⟨g,h1,h2,o,J⟩:=k.v13 a;⟨g,h1,h2,o,fun b=>ff (b:=e 14) (h.n12 (h.n7 E)) b⟩,k.d14⟩
theorem J6.s8 (h:J6 B w0 ge n t e v W):J6 B w0 ge n t (AM e 8 true) (AM v 8 (.pointer (some ⟨ge,0,none⟩))) W:=
 ⟨h.gb,h.dr,h.v0,h.v1,h.v2,h.v3,h.v4,h.v5,h.v6,h.v7,fun _=>rfl,h.v9,h.v10,h.v11,h.ne,h.v12,h.v13,h.d14⟩
theorem J6.s9 (h:J6 B w0 ge n t e v W):J6 B w0 ge n t (AM e 9 true) (AM v 9 (.int .i64 (n:Int))) W:=
 ⟨h.gb,h.dr,h.v0,h.v1,h.v2,h.v3,h.v4,h.v5,h.v6,h.v7,h.v8,fun _=>rfl,h.v10,h.v11,h.ne,h.v12,h.v13,h.d14⟩
theorem J6.s10 (h:J6 B w0 ge n t e v W) (D:ge<w0.heap.size) (gb:W.grownBy W' (some ge)) (dr:zP B W' ge) (E:0<=x) (o:x<(n:Int)):J6 B w0 ge n t (AM e 10 true) (AM v 10 (.int .i64 x)) W':=
 let k:=h.call D gb dr
 ⟨k.gb,k.dr,k.v0,k.v1,k.v2,k.v3,k.v4,k.v5,k.v6,k.v7,k.v8,k.v9,fun _=>⟨x,rfl,E,o⟩,k.v11,k.ne,k.v12,k.v13,k.d14⟩
theorem J6.s11 (h:J6 B w0 ge n t e v W) (G:B<=w0.heap.size) (E:e 11=false) (I:0<=x) (D:x<(n:Int)):J6 B w0 ge n t (AM e 11 true) (AM v 11 (.slice (some ⟨W.heap.size,0,none⟩) 1 1)) (W.alloc (.cells #[.int .i64 x] 3)):=
 let k:=h.alloc G (.cells #[.int .i64 x] 3)
 ⟨k.gb,k.dr,k.v0,k.v1,k.v2,k.v3,k.v4,k.v5,k.v6,k.v7,k.v8,k.v9,k.v10,fun _=>⟨_,x,rfl,h.gb.size,zd.new _ _ _ rfl,I,D⟩,fun a _=>by
  obtain ⟨g,y,h1,_,h3,_⟩:=h.v7 a;show (v 7).ownBlock≠(Value.slice (some ⟨W.heap.size,0,none⟩) 1 1).ownBlock;rw [h1];intro e;have:=zc h3;have e:some g=some W.heap.size:=e;injection e with e;omega,fun a=>ff (b:=e 12) (h.n11 E) a,fun a=>let ⟨g,h1,h2,o,J⟩:=k.v13 a;⟨g,h1,h2,o,fun b=>ff (b:=e 14) (h.n12 (h.n11 E)) b⟩,k.d14⟩
theorem J6.s12 (h:J6 B w0 ge n t e v W) (h3:e 3=true) (D:e 7=true) (o:e 11=true):J6 B w0 ge n t (AM e 12 true) (AM v 12 (.agg #[v 3,v 7,v 11])) W:=
 ⟨h.gb,h.dr,h.v0,h.v1,h.v2,h.v3,h.v4,h.v5,h.v6,h.v7,h.v8,h.v9,h.v10,h.v11,h.ne,fun _=>⟨rfl,h3,D,o⟩,h.v13,fun a=>⟨rfl,(h.d14 a).2⟩⟩
theorem J6.s13 (h:J6 B w0 ge n t e v W) (D:B<=w0.heap.size) (o:e 13=false):J6 B w0 ge n t (AM e 13 true) (AM v 13 (.pointer (some ⟨W.heap.size,0,none⟩))) (W.alloc (.cells #[.string ⟨#[]⟩,.slice none 0 0,.slice none 0 0] 87)):=
 let k:=h.alloc D (.cells #[.string ⟨#[]⟩,.slice none 0 0,.slice none 0 0] 87)
 ⟨k.gb,k.dr,k.v0,k.v1,k.v2,k.v3,k.v4,k.v5,k.v6,k.v7,k.v8,k.v9,k.v10,k.v11,k.ne,k.v12,fun _=>⟨_,rfl,h.gb.size,fun _=>zd.new _ _ _ rfl,fun b=>ff (b:=e 14) (h.n13 o) b⟩,fun a=>ff (b:=e 14) (h.n13 o) a⟩
theorem J6.s14 (h:J6 B w0 ge n t e v W) (hB:B<=w0.heap.size) (K:e 12=true) (L:e 13=true) {x:Value} (hv:v 13=.pointer (some ⟨g,0,none⟩)) (U:w0.heap.size<=g) (Q:zd W g 87 #[.string ⟨#[]⟩,.slice none 0 0,.slice none 0 0]) (hl:ge<w0.heap.size):
  J6 B w0 ge n t (AM e 14 true) (AM v 14 x) (((W.setCell ⟨g,0,none⟩ (v 3)).setCell ⟨g,1,none⟩ (v 7)).setCell ⟨g,2,none⟩ (v 11)):=by
 have E:∀g',g'≠g->(((W.setCell ⟨g,0,none⟩ (v 3)).setCell ⟨g,1,none⟩ (v 7)).setCell ⟨g,2,none⟩ (v 11)).heap[g']?=W.heap[g']?:=fun g' D=>
  (Ea _ ⟨g,2,none⟩ _ g' D).trans ((Ea _ ⟨g,1,none⟩ _ g' D).trans (Ea _ ⟨g,0,none⟩ _ g' D))
 have J:∀g' ty cs,ty≠87->zd W g' ty cs->zd (((W.setCell ⟨g,0,none⟩ (v 3)).setCell ⟨g,1,none⟩ (v 7)).setCell ⟨g,2,none⟩ (v 11)) g' ty cs:=fun g' ty cs O G=>(E g' (zd.ne_ G Q O)).trans G
 have o:Below B W (((W.setCell ⟨g,0,none⟩ (v 3)).setCell ⟨g,1,none⟩ (v 7)).setCell ⟨g,2,none⟩ (v 11)):=(((Below.refl B W).setCell (p:=⟨g,0,none⟩) (by show B<=g;omega) _).setCell (p:=⟨g,1,none⟩) (by show B<=g;omega) _).setCell (p:=⟨g,2,none⟩) (by show B<=g;omega) _;refine ⟨⟨h.gb.os,h.gb.tape,h.gb.output,DT h.gb.size o.size,fun i V I=>(E i (by omega)).trans (h.gb.block i V I)⟩,h.dr.keep o (E ge (by omega)),fun a=>?_,h.v1,fun a=>?_,h.v3,h.v4,h.v5,h.v6,fun a=>?_,h.v8,h.v9,h.v10,fun a=>?_,h.ne,h.v12,fun _=>⟨g,hv,U,fun a=>(by cases a),fun _=>?_⟩,fun _=>⟨K,L⟩⟩
 ·obtain ⟨g',a1,b1,c1,h1,h2,h3⟩:=h.v0 a;exact ⟨g',a1,b1,c1,h1,h2,J _ _ _ (by decide) h3⟩
 ·obtain ⟨g',a1,b1,c1,h1,h2,h3⟩:=h.v2 a;exact ⟨g',a1,b1,c1,h1,h2,J _ _ _ (by decide) h3⟩
 ·obtain ⟨g',x',h1,h2,h3,M⟩:=h.v7 a;exact ⟨g',x',h1,h2,J _ _ _ (by decide) h3,M⟩
 ·obtain ⟨g',x',h1,h2,h3,M⟩:=h.v11 a;exact ⟨g',x',h1,h2,J _ _ _ (by decide) h3,M⟩
 ·exact ((Q.set (k:=0) (v 3)).set (k:=1) (v 7)).set (k:=2) (v 11)
theorem own1 {W:World} (o:zd W g 3 #[.int .i64 x]) (D:S<=g):zB W S (.slice (some ⟨g,0,none⟩) 1 1) [x]:=
 ⟨rfl,.inr ⟨g,1,#[.int .i64 x],rfl,D,o,DR _,by unfold maxLen;omega,rfl,rfl⟩⟩
theorem J6.fin (h:J6 B w0 ge n t (fun _=>true) v W) (hB:B<=S) (hS:S<=w0.heap.size) (O:S<=ge):∃(s:NetS) (g7 g11 gt:Nat) (x1 x2:Int),v 3=.string s/\v 7=.slice (some ⟨g7,0,none⟩) 1 1/\v 11=.slice (some ⟨g11,0,none⟩) 1 1/\v 13=.pointer (some ⟨gt,0,none⟩)/\
  R1 B W S ge gt n s (.slice (some ⟨g7,0,none⟩) 1 1) (.slice (some ⟨g11,0,none⟩) 1 1) [x1] [x2]:=by
 obtain ⟨s,U⟩:=h.v3 rfl;obtain ⟨g7,x1,D,V,J,K⟩:=h.v7 rfl;obtain ⟨g11,x2,E,a3,L,M⟩:=h.v11 rfl;obtain ⟨gt,G,Q,_,o⟩:=h.v13 rfl;have o:=o rfl;have I:=h.ne rfl rfl;rw [U,D,E] at o;rw [D,E] at I;refine ⟨s,g7,g11,gt,x1,x2,U,D,E,G,hB,DT hS h.gb.size,h.dr,O,o,by omega,own1 J (by omega),own1 L (by omega),.inr I,by simp,by simp,fun y hy=>?_⟩;rcases hy with hy | hy
 ·rw [Ey] at hy;rw [hy];exact K
 ·rw [Ey] at hy;rw [hy];exact M
end
end
end Go.Proofs.YtjomnbdjajjgfaaGreatDoor
