import Derived.Test.YtcnaogdgjkpkmaaGreatDoorWSzd
import Derived.Laws.EntriesVeiled
set_option linter.unusedVariables false
set_option linter.unusedSimpArgs false
set_option maxRecDepth 100000
set_option maxHeartbeats 16000000
namespace Go.Proofs.YtcnaogdgjkpkmaaGreatDoor
section
open Go.RowKit
attribute [local go_sem ↓] Go.wp_at_zero Go.wp_at_succ
theorem step_last {N:Int} {tg s:List Int} {k:Nat} (r:∀j,j<k->CK N tg s j):CK N tg s k↔((-1:Int) :: s).getD k 0<s.getD k 0/\s.getD k 0<N/\s.getD k 0∉tg:=by
 unfold CK
 cases k with
 | zero=>
  rw [List.getD_cons_zero];constructor
  ·rintro ⟨h1,h2,-,o⟩;exact ⟨by omega,h2,o⟩
  ·rintro ⟨h1,h2,d⟩;exact ⟨by omega,h2,fun h=>by omega,d⟩
 | succ k=>
  rw [List.getD_cons_succ];have h0:=(r k (by omega)).1;constructor
  ·rintro ⟨h1,h2,d,o⟩;exact ⟨d (by omega),h2,o⟩
  ·rintro ⟨h1,h2,d⟩;exact ⟨by omega,h2,fun _=>h1,d⟩
theorem wall_any (m:MZ) (ch:List Int) (t:Nat) (s:List Int):wallB m ch t s=!(s.any fun n=>(BN m n).any fun k=>(zl m t k && !decide (k∈ch)) && !decide (k∈s)):=by
 unfold wallB;rw [List.not_any_eq_all_not];congr 1;funext n;rw [List.not_any_eq_all_not];congr 1;funext k
 cases (zl m t k && !decide (k∈ch)) <;> simp
theorem pcut_calls {ok okp:Nat->Prop} {f u ts vc vp vpr:Value} {m:MZ} {ch:List Int} {p:PT} (w:World) (h:PSt w ok m f u ts vc vp ch) (hl:Lens m) (hc:Br m=0) (hi:zw m ch) (hp:Ay w okp vpr p) (a5:p.side.length<=20000000000000):
  Calls Tryz.prog 76 #[Dw m f u ts vc vp (zS m ch),vpr] w fun e w'=>e=.returned (.bool (cutB m ch p.task p.side p.kids.length))/\zc w w':=by
 have H:=zh h;have HL:=zh hl;have HC:=zh hc;have HI:=zh hi;have G:=zh (Am.of hc);have j5:=(AV hc hi).2.2.1;obtain ⟨Af,cf,Au,cu,At,ct,Ac,cc,Ap,cp,rfl,rfl,rfl,rfl,rfl,-,f1⟩:=h.parts;have h6:=zh f1;obtain ⟨As,cs,Ak,ck,rfl,M⟩:=hp.form;have U:=zh M;have j9:=hl.ts;clear h hl hc hi hp f1;obtain ⟨R,hR⟩:=EH (cutB m ch p.task p.side p.kids.length);rw [<-hR];have a0:=zh hR;obtain ⟨tk,d4⟩:=EH p.task;obtain ⟨s,hs⟩:=EH p.side;obtain ⟨nk,c0⟩:=EH p.kids.length;rw [<-d4,<-hs,<-c0] at a0;rw [<-hs] at U M a5;rw [<-d4,<-hs,<-c0];clear hR d4 hs c0;obtain ⟨c,b6⟩:=EH (zS m ch);rw [<-b6];have d7:=zh b6;obtain ⟨PL,a8⟩:=EH ((zq m ch).length);rw [<-a8] at H⊢;clear b6 a8;have g9:=zh (show AG w okp 1 As s.length (s.map (Value.int .i64)) from by obtain ⟨A',c',e,-,h⟩:=U.out;injection e with e1 e2 e3;rw [e1];exact h);clear M;unfold Dw
 go_enter Tryz.func76,Tryz.ntmps76
 go_upto_region 1 with fail;obtain ⟨J,r0,r1,r2,r3,r4,r5,r6,r7,r8⟩:=box9 w (.int .i64 m.w) (.int .i64 m.h) (.int .i64 m.l) (.slice Af m.free.length cf) (.slice Au m.up.length cu) (.slice At m.tasks.length ct) (.slice Ac ch.length cc) (.slice Ap PL cp) (.int .i64 c);have c9:(w.alloc (.cells #[.int .i64 m.w,.int .i64 m.h,.int .i64 m.l,.slice Af m.free.length cf,.slice Au m.up.length cu,.slice At m.tasks.length ct,.slice Ac ch.length cc,.slice Ap PL cp,.int .i64 c] 70)).heap.size=w.heap.size+1:=by simp
 generalize w.alloc _=w0 at J r0 r1 r2 r3 r4 r5 r6 r7 r8 c9⊢;obtain ⟨L,p0,p1,p2⟩:=box3 w0 (.int .i64 tk) (.slice As s.length cs) (.slice Ak nk ck);generalize w0.alloc _=w1 at L p0 p1 p2⊢;rw [c9] at p0 p1 p2;obtain ⟨gm,e0⟩:=EH w.heap.size;rw [<-e0] at r0 r1 r2 r3 r4 r5 r6 r7 r8 p0 p1 p2⊢;have B:=zh L;have O:=zh (J.trans L);have r0:=fun W h=>r0 W (B.out.trans h)
 have r1:=fun W h=>r1 W (B.out.trans h)
 have r2:=fun W h=>r2 W (B.out.trans h)
 have r3:=fun W h=>r3 W (B.out.trans h)
 have r4:=fun W h=>r4 W (B.out.trans h)
 have r5:=fun W h=>r5 W (B.out.trans h)
 have r6:=fun W h=>r6 W (B.out.trans h)
 have r7:=fun W h=>r7 W (B.out.trans h)
 have r8:=fun W h=>r8 W (B.out.trans h)
 clear e0 J L c9;have hx:zc w1 w1:=zc.refl w1;obtain ⟨bad,a9⟩:∃bad:Bool,bad=decide (tk<c\/(m.tasks.length:Int)<=tk\/(tk=c/\s=[])\/nk≠0):=⟨_,rfl⟩;have r:=zh a9;clear a9;go_cut [41] (fun v wx=>v=.bool bad/\w1=wx)
 case first=>
  by_cases h1:tk<(c:Int)
  ·have E:Hid (bad=true):=by (show _=_);rw [r.out];exact DF (.inl h1)
   go_wp2_with fail
   go_meet;exact ⟨by rw [E.out],rfl⟩
  ·by_cases h2:(m.tasks.length:Int)<=tk
   ·have E:Hid (bad=true):=by (show _=_);rw [r.out];exact DF (.inr (.inl h2))
    go_wp2_with fail
    go_meet;exact ⟨by rw [E.out],rfl⟩
   ·by_cases h3:tk=(c:Int)
    ·have h7:(tk==(c:Int))=true:=by rw [beq_iff_eq];exact h3
     by_cases h4:s=[]
     ·have E:Hid (bad=true):=by (show _=_);rw [r.out];exact DF (.inr (.inr (.inl ⟨h3,h4⟩)))
      have h8:((s.length:Int)==0)=true:=by rw [h4];rfl
      clear h3 h4
      go_wp2_with fail
      go_meet;exact ⟨by rw [E.out],rfl⟩
     ·have E:Hid (bad=decide (0<nk)):=by
       (show _=_)
       rw [r.out,decide_eq_decide];constructor
       ·rintro (h | h | h | h)
        ·exact absurd h h1
        ·exact absurd h h2
        ·exact absurd h.2 h4
        ·omega
       ·intro h;exact .inr (.inr (.inr (by omega)))
      have h8:((s.length:Int)==0)=false:=by
       rw [DP];intro h;exact h4 (DU (by omega))
      clear h3 h4
      go_wp2_with fail
      go_meet;refine ⟨?_,rfl⟩;rw [E.out]
      all_goals (first | rfl | (congr 1;done) | (congr 1;rw [decide_eq_decide];omega))
    ·have h7:(tk==(c:Int))=false:=by rw [DP];exact h3
     have E:Hid (bad=decide (0<nk)):=by
      (show _=_)
      rw [r.out,decide_eq_decide];constructor
      ·rintro (h | h | h | h)
       ·exact absurd h h1
       ·exact absurd h h2
       ·exact absurd h.1 h3
       ·omega
      ·intro h;exact .inr (.inr (.inr (by omega)))
     clear h3
     go_wp2_with fail
     go_meet;refine ⟨?_,rfl⟩;rw [E.out]
     all_goals (first | rfl | (congr 1;done) | (congr 1;rw [decide_eq_decide];omega))
 case rest=>
  obtain ⟨rfl,rfl⟩:=hcut
  cases bad with
  | true=>
   have HF:Hid (R=false):=by
    (show _=_)
    have:=EE r.out.symm;rw [d7.out] at this;rw [a0.out];unfold cutB;rw [if_pos this]
   go_wp2_with fail
   go_ret;exact ⟨zk HF.out.symm,O.out⟩
  | false=>
   have e6:=of_decide_eq_false r.out.symm
   have HF:Hid (R=(incB m.n (-1) s && (!(s.any fun n=>decide (n∈(m.tasks.getD tk.toNat ([],[])).2)) && ((AH m ch tk.toNat).all (fun n=>decide (n∈s)) && wallB m ch tk.toNat s)))):=by
    (show _=_)
    have:=e6;rw [d7.out] at this;rw [a0.out];unfold cutB;rw [if_neg this]
   obtain ⟨t,ht⟩:∃t:Nat,tk=t:=⟨tk.toNat,by omega⟩;subst ht;rw [Int.toNat_natCast] at HF;have f0:t<m.tasks.length:=by omega
   have D:=zh f0;have k1:(t:Int)<(m.tasks.length:Int):=by omega
   have k0:(0:Int)<=(t:Int):=by omega
   clear e6 r a0;have j8:=G.out.dim.n1;have i9:=G.out.dim.layer;have j1:IntKind.i64.wrap (m.w*m.h)=m.w*m.h:=by rw [DY];omega
   have j2:IntKind.i64.wrap (m.w*m.h*m.l)=m.w*m.h*m.l:=by rw [DY];omega
   have a1:Hid ((incB m.n (-1) s && !(s.any fun n=>decide (n∈(m.tasks.getD t ([],[])).2)))=true↔∀i,i<s.length->CK m.n (m.tasks.getD t ([],[])).2 s i):=side_iff;obtain ⟨bt,offt,sn,u1,u2,rfl,-,-,-,b0,-,b9⟩:=BK h6.out D.out;have i8:=(HL.out.tl _ (DD D.out)).2;have d8:Hid ((m.tasks.getD t ([],[])).2=(m.tasks[t]'D.out).2):=by (show _=_);rw [DB,DA D.out];rfl
   obtain ⟨tg,e8⟩:=EH ((m.tasks[t]'D.out).2);rw [<-e8] at b9 i8 d8;rw [d8.out] at a1 HF;have h5:=zh (b9.below O.out);obtain ⟨Atg,ctg,rfl,-,-⟩:=b9;have rtg:=zc.rule (O.out.cell b0);clear e8 b0
   go_wp2_with fail
   go_loopw [5,45] (fun lv i wr=>∃k:Nat,k<=s.length/\i=.int .i64 k/\lv=.int .i64 (((-1:Int) :: s).getD k 0)/\Hid (∀j,j<k->CK m.n tg s j)/\w1=wr) (fun _ i _=>s.length - (intOf i).toNat)
   case atStart=>exact ⟨0,DR _,rfl,rfl,fun j hj=>by omega,rfl⟩
   case round=>
    obtain ⟨k,hk,rfl,rfl,a4,rfl⟩:=hrel;by_cases a3:k<s.length
    ·have j0:(k:Int)<(s.length:Int):=by omega
     have kk0:(0:Int)<=(k:Int):=by omega
     obtain ⟨bs,offs,rfl,-,b7⟩:=Ae g9.out a3 a3;have b8:s.getD k 0=s[k]:=zgd a3
     have a6:=step_last a4.out;have c7:((-1:Int) :: s).getD (k+1) 0=s.getD k 0:=List.getD_cons_succ ..;obtain ⟨x,f3⟩:=EH (s[k]);rw [<-f3] at b7 b8;rw [b8] at a6 c7;obtain ⟨y,f4⟩:=EH (((-1:Int) :: s).getD k 0);rw [<-f4] at a6⊢;have g7:=zh c7;have rx:=zc.rule (O.out.cell b7)
     obtain ⟨ob,c8⟩:∃ob:Bool,ob=true↔CK m.n tg s k:=by
      by_cases h:CK m.n tg s k
      ·exact ⟨true,by simp [h]⟩
      ·exact ⟨false,by simp [h]⟩
     have b4:Hid (ob=true↔y<x/\x<m.n/\x∉tg):=c8.trans a6;have a7:=zh c8;clear b7 b8 f3 c8 a6 c7 f4;go_upto_region 7 with fail;go_cut [78] (fun v wx=>v=.bool (!ob)/\w1=wx)
     case first=>
      by_cases h1:x<=y
      ·have E:Hid (ob=false):=by (show _=_);rw [<-Bool.not_eq_true,b4.out];omega
       go_wp2_with fail
       go_meet;exact ⟨by rw [E.out];rfl,rfl⟩
      ·by_cases h2:m.w*m.h*m.l<=x
       ·have E:Hid (ob=false):=by (show _=_);rw [<-Bool.not_eq_true,b4.out];unfold MZ.n;omega
        go_wp2_with fail
        go_meet;exact ⟨by rw [E.out];rfl,rfl⟩
       ·have E:Hid (ob=!decide (x∈tg)):=by
         (show _=_)
         rw [Bool.eq_iff_iff,b4.out,Bool.not_eq_true',Ea];exact ⟨fun h=>h.2.2,fun h=>⟨by omega,by unfold MZ.n;omega,h⟩⟩
        go_wp2_with fail
        refine (zt x w1 h5.out (by omega)).mono ?_;rintro e w9 ⟨rfl,rfl⟩
        go_wp2_with fail
        go_meet;exact ⟨by rw [E.out];simp,rfl⟩
     case rest=>
      obtain ⟨rfl,rfl⟩:=hcut
      cases ob with
      | false=>
       have Q:Hid (R=false):=by
        (show _=_)
        have h:¬ ∀i,i<s.length->CK m.n tg s i:=fun h=>absurd (a7.out.2 (h k a3)) (by simp)
        rw [HF.out,<-Bool.and_assoc,Bool.eq_false_iff.2 (fun h2=>h (a1.out.1 h2)),Bool.false_and]
       go_wp2_with fail
       go_ret;exact ⟨zk Q.out.symm,O.out⟩
      | true=>
       have e7:Hid (∀j,j<k+1->CK m.n tg s j):=fun j hj=>by
        rcases DZ j k with h | h
        ·exact a4.out j h
        ·obtain rfl:j=k:=by omega
         exact a7.out.1 rfl
       go_wp2_with fail
       go_roundw
       case rel=>exact ⟨k+1,by omega,by go_num,by rw [g7.out],e7,trivial⟩
       case measure=>simp [intOf];omega
    ·obtain rfl:k=s.length:=by omega
     have V:Hid (R=((AH m ch t).all (fun n=>decide (n∈s)) && wallB m ch t s)):=by
      (show _=_)
      rw [HF.out,<-Bool.and_assoc,a1.out.2 a4.out,Bool.true_and]
     clear a4 HF a1;have g5:=zh (headP_le HL.out (ch:=ch) D.out);generalize ((-1:Int) :: s).getD s.length 0=lst;go_upto_region 12 with fail;have a2:=zj.new w1 #[.func (.func 109) #[] #[.pointer (some ⟨gm+1,0,none⟩)]] 59 (g:=w1.heap.size) rfl;have d:zc w1 (w1.alloc (.cells #[.func (.func 109) #[] #[.pointer (some ⟨gm+1,0,none⟩)]] 59)):=(zc.refl w1).alloc _;generalize w1.alloc _=w5 at a2 d⊢;obtain ⟨go,e4⟩:∃g,g=w1.heap.size:=⟨_,rfl⟩;rw [<-e4] at a2⊢;clear e4;have g0:=zc.rule (a2.cell (k:=0) rfl);have I:Hid (zc w w5):=O.out.trans d;have r0:=fun W h=>r0 W (d.trans h)
     have r1:=fun W h=>r1 W (d.trans h)
     have r2:=fun W h=>r2 W (d.trans h)
     have r3:=fun W h=>r3 W (d.trans h)
     have r4:=fun W h=>r4 W (d.trans h)
     have r5:=fun W h=>r5 W (d.trans h)
     have r6:=fun W h=>r6 W (d.trans h)
     have r7:=fun W h=>r7 W (d.trans h)
     have r8:=fun W h=>r8 W (d.trans h)
     have p0:=fun W h=>p0 W (d.trans h)
     have p1:=fun W h=>p1 W (d.trans h)
     have o:zc w5 w5:=zc.refl w5;have e9:t<m.free.length:=by rw [G.out.fl];exact D.out
     have g3:Hid (CutV w5 ok okp gm (gm+1) go m _ _ _ _ _ ch (c:Int) t _ s):=⟨H.out.more I.out,r0 _ o,r1 _ o,r2 _ o,r3 _ o,r4 _ o,r5 _ o,r6 _ o,r7 _ o,r8 _ o,p0 _ o,p1 _ o,U.out.below I.out,g0 _ o⟩;have g8:=zh p1
     have g4:Hid (∀W,zc w5 W->Calls Tryz.prog 88 #[.agg #[.int .i64 m.w,.int .i64 m.h,.int .i64 m.l,.slice Af m.free.length cf,.slice Au m.up.length cu,.slice (some ⟨bt,offt,none⟩) m.tasks.length ct,.slice Ac ch.length cc,.slice Ap PL cp,.int .i64 (c:Nat)],.int .i64 (t:Nat)] W fun e w'=>∃A c',e=.returned (.slice A (AH m ch t).length c')/\zc W w'/\zn w' (fun _=>True) (.slice A (AH m ch t).length c') (AH m ch t)):=fun W hW=>by
      refine (phead_calls (c:Int) t W (H.out.more (I.out.trans hW)) HL.out HC.out HI.out D.out).mono ?_;rintro e w' ⟨v',rfl,i0,hv⟩;obtain ⟨A,c',rfl,-,-⟩:=id hv;exact ⟨A,c',rfl,i0,hv⟩
     obtain ⟨b1,J⟩:=EH ((AH m ch t).all fun n=>decide (n∈s))
     have g1:Hid (∀(W:World) (v9:Value),zc w5 W->zn W (fun _=>True) v9 (AH m ch t)->Calls Tryz.prog 73 #[v9,.func (.func 109) #[] #[.pointer (some ⟨gm+1,0,none⟩)]] W fun e w'=>e=.returned (.bool (!b1))/\zc W w'):=fun W v9 hW hv=>by
      have h:=Bm 109 #[.pointer (some ⟨gm+1,0,none⟩)] (fun x=>!decide (x∈s)) W hv g5.out (Ah Tryz.func109 rfl rfl) (fun x _ w9 h9=>by
       refine (cut1_calls x w9 (g8.out w9 (hW.trans h9)) (U.out.below (I.out.trans (hW.trans h9))) a5).mono ?_;rintro e w' ⟨rfl,rfl⟩;exact ⟨rfl,zc.refl _⟩)
      rw [<-List.not_all_eq_any_not,<-J] at h;exact h
     have d6:Hid (∀W,zc w5 W->Calls Tryz.prog 73 #[.slice As s.length cs,.func (.func 110) #[] #[.pointer (some ⟨gm,0,none⟩),.pointer (some ⟨gm+1,0,none⟩),.pointer (some ⟨go,0,none⟩)]] W fun e w'=>e=.returned (.bool (!wallB m ch t s))/\zc W w'):=fun W hW=>by
      have h:=Bm 110 #[.pointer (some ⟨gm,0,none⟩),.pointer (some ⟨gm+1,0,none⟩),.pointer (some ⟨go,0,none⟩)] (fun n=>(BN m n).any fun k=>(zl m t k && !decide (k∈ch)) && !decide (k∈s)) W (U.out.below (I.out.trans hW)) a5 (Ah Tryz.func110 rfl rfl) (fun x _ w9 h9=>cut2_calls x w9 (g3.out.more (hW.trans h9)) G.out HL.out (by omega) e9 a5);rw [wall_any,Bool.not_not];exact h
     rw [<-J] at V;obtain ⟨b2,L⟩:=EH (wallB m ch t s);rw [<-L] at d6 V;clear J L d a2;have j7:∀(fn:Fn) (first cap:Array Value) (w:World),(Instr.makeFunc fn first cap).run Tryz.prog w=.ok (.func fn first cap) w:=fun _ _ _ _=>rfl
     refine DT (S:=(fun W=>zc w5 W)) zN (o.drew) fun zH=>?_;have i4:zc w5 w5.drew:=zH;clear i4;generalize w5.drew=wd at zH⊢;refine ze 0 zH ?_;refine ze 1 zH ?_;simp only [za,Dz];refine ze 2 zH ?_;refine ze 4 zH ?_;simp only [za,Dz];refine zC 3 fun K hK=>?_;go_simp;go_at_call 88;refine (g4.out _ zH).mono ?_;rintro e w6 ⟨A6,c6,rfl,i1,e5⟩;have g6:=zh e5;clear e5;go_simp;refine EI hK (zH.trans i1) fun zH=>?_;clear hK K;try simp only [za,Dz]
     refine zC 5 fun K hK=>?_;go_simp;go_at_call 73;refine (g1.out _ _ zH g6.out).mono ?_;rintro e w7 ⟨rfl,i2⟩;go_simp;refine EI hK (zH.trans i2) fun zH=>?_;clear hK K;try simp only [za,Dz]
     refine Eg (by kernel_rfl) ?_ _
     cases b1 with
     | false=>
      have Q:Hid (R=false):=by (show _=_);rw [V.out];rfl
      go_wp2_with fail
      go_ret;exact ⟨zk Q.out.symm,I.out.trans zH⟩
     | true=>
      have Q:Hid (R=b2):=by (show _=_);rw [V.out];rfl
      have f2:zc w5 w7:=zH
      go_wp2_with fail
      refine (d6.out _ f2).mono ?_;rintro e w8 ⟨rfl,i3⟩
      go_wp2_with fail
      go_ret;exact ⟨zk Q.out.symm,(I.out.trans f2).trans i3⟩
theorem pholds_calls {m:MZ} (hl:Lens m) (hc:Br m=0):∀(N:Nat) (ok okp:Nat->Prop) (f u ts vc vp vpr:Value) (ch:List Int) (p:PT) (w:World),PSt w ok m f u ts vc vp ch->zw m ch->Ay w okp vpr p->p.size<=N->p.Lens->
  Calls Tryz.prog 33 #[Dw m f u ts vc vp (zS m ch),vpr] w fun e w'=>e=.returned (.bool (AP m p ch))/\zc w w'
 | 0,ok,okp,f,u,ts,vc,vp,vpr,ch,.node t s ks,w,_,_,_,hN,_=>by unfold PT.size at hN;omega
 | N+1,ok,okp,f,u,ts,vc,vp,vpr,ch,.node tk s ks,w,h,hi,hp,hN,f8=>by
  have IH:=zh (pholds_calls hl hc N);have H:=zh h;have HL:=zh hl;have HC:=zh hc;have HI:=zh hi;have HP:=zh hp;have j1:=zh (AV hc hi);have J:Hid (∀W,zc w W->Calls Tryz.prog 75 #[Dw m f u ts vc vp (zS m ch)] W fun e w'=>e=.returned (.bool (decide ((m.tasks.length:Int)<=(zS m ch:Int))))/\zc W w'):=fun W hW=>Dh _ W (h.more hW)
  unfold PT.Lens at f8;obtain ⟨i2,j5,f7⟩:=f8;have M:Hid (∀W,zc w W->Calls Tryz.prog 76 #[Dw m f u ts vc vp (zS m ch),vpr] W fun e w'=>e=.returned (.bool (cutB m ch tk s ks.length))/\zc W w'):=fun W hW=>pcut_calls W (h.more hW) hl hc hi (hp.ext hW) i2
  have a9:Hid (∀n,zw m (ch++[n])->∀W,zc w W->Calls Tryz.prog 78 #[Dw m f u ts vc vp (zS m ch),.int .i64 n] W fun e w'=>∃vc' vp',e=.returned (Dw m f u ts vc' vp' (zS m (ch++[n])))/\zc W w'/\PSt w' (fun b=>ok b\/W.heap.size<=b) m f u ts vc' vp' (ch++[n])):=fun n hn W hW=>Dq _ n W (h.more hW) hl hc hn (AV hc hi).2.2.1
  have e2:Hid (∀W,zc w W->Calls Tryz.prog 77 #[.agg #[.int .i64 m.w,.int .i64 m.h,.int .i64 m.l,f,u,ts],vc] W fun e w'=>∃v',e=.returned v'/\Mk W w' v' (zT m ch)):=fun W hW=>CF W ((h.more hW).maze) hl ((h.more hW).chs) (by have:=(AV hc hi).2.2.1;omega)
  unfold Dw at J M a9;obtain ⟨Af,cf,Au,cu,At,ct,Ac,cc,Ap,cp,rfl,rfl,rfl,rfl,rfl,-,-⟩:=h.parts;obtain ⟨R,hR⟩:=EH (AP m (.node tk s ks) ch);rw [<-hR];have c8:=zh hR;have g6:=zh (lensL_mem f7);have g9:Hid (∀k∈ks,k.size<=PT.sizeL ks):=size_mem;unfold PT.size at hN
  cases hp with
  | mk hs hk he=>
   rename_i vs vk cs
   obtain ⟨As,cs',rfl,-,-⟩:=hs;obtain ⟨Ak,ck,rfl,j3,f9⟩:=hk;have g7:=zh f9;have g4:=zh he;clear h hl hc hi hR f7 f9 he;obtain ⟨c,d5⟩:=EH (zS m ch);have b9:=zh d5;rw [<-d5] at J M a9⊢;obtain ⟨PL,b4⟩:=EH ((zq m ch).length);rw [<-b4] at J M a9⊢;clear d5 b4 H;unfold Dw
   go_enter Tryz.func33,Tryz.ntmps33
   go_upto_region 1 with fail;obtain ⟨d4,r0,r1,r2,r3,r4,r5,r6,r7,r8⟩:=box9 w (.int .i64 m.w) (.int .i64 m.h) (.int .i64 m.l) (.slice Af m.free.length cf) (.slice Au m.up.length cu) (.slice At m.tasks.length ct) (.slice Ac ch.length cc) (.slice Ap PL cp) (.int .i64 c);have d8:(w.alloc (.cells #[.int .i64 m.w,.int .i64 m.h,.int .i64 m.l,.slice Af m.free.length cf,.slice Au m.up.length cu,.slice At m.tasks.length ct,.slice Ac ch.length cc,.slice Ap PL cp,.int .i64 c] 70)).heap.size=w.heap.size+1:=by simp
   generalize w.alloc _=w0 at d4 r0 r1 r2 r3 r4 r5 r6 r7 r8 d8⊢;obtain ⟨b1,p0,p1,p2⟩:=box3 w0 (.int .i64 tk) (.slice As s.length cs') (.slice Ak ks.length ck);generalize w0.alloc _=w1 at b1 p0 p1 p2⊢;rw [d8] at p0 p1 p2;obtain ⟨gm,f5⟩:=EH w.heap.size;rw [<-f5] at r0 r1 r2 r3 r4 r5 r6 r7 r8 p0 p1 p2⊢;have r:=zh b1;have d:=zh (d4.trans b1);have r0:=fun W h=>r0 W (r.out.trans h)
   have r1:=fun W h=>r1 W (r.out.trans h)
   have r2:=fun W h=>r2 W (r.out.trans h)
   have r3:=fun W h=>r3 W (r.out.trans h)
   have r4:=fun W h=>r4 W (r.out.trans h)
   have r5:=fun W h=>r5 W (r.out.trans h)
   have r6:=fun W h=>r6 W (r.out.trans h)
   have r7:=fun W h=>r7 W (r.out.trans h)
   have r8:=fun W h=>r8 W (r.out.trans h)
   clear f5 d4 b1 d8;have I:zc w1 w1:=zc.refl w1
   go_wp2_with fail
   refine (J.out w1 d.out).mono ?_;rintro e w2 ⟨rfl,f1⟩;clear I;have I:zc w1 w2:=f1;clear f1 J;by_cases B:m.tasks.length<=c
   ·have hd:decide ((m.tasks.length:Int)<=(c:Int))=true:=DF (by omega);have HF:Hid (R=false):=by (show _=_);rw [c8.out];exact holdsT_done (by rw [<-b9.out];exact B)
    rw [hd];clear B hd
    go_wp2_with fail
    go_ret;exact ⟨zk HF.out.symm,d.out.trans I⟩
   ·have hd:decide ((m.tasks.length:Int)<=(c:Int))=false:=DG (by omega)
    have E:Hid (R=if tk≠(c:Int)\/s≠[] then cutB m ch tk s ks.length else AI m ks ch (zT m ch)):=by
     (show _=_)
     rw [c8.out,holdsT_node (by rw [<-b9.out];exact B),b9.out]
    rw [hd];clear B hd c8;go_upto_region 3 with fail;obtain ⟨bq,f4⟩:∃bq:Bool,bq=decide (tk≠(c:Int)\/s≠[]):=⟨_,rfl⟩;have o:=zh f4;clear f4;go_cut [20] (fun v wx=>v=.bool bq/\w2=wx)
    case first=>
     by_cases G:tk=(c:Int)
     ·have hd:(tk != (c:Int))=false:=by rw [G];simp
      have b7:Hid (bq=decide (0<s.length)):=by
       (show _=_)
       rw [o.out,decide_eq_decide];constructor
       ·rintro (h | h)
        ·exact absurd G h
        ·exact List.length_pos_iff.2 h
       ·intro h;exact .inr (List.length_pos_iff.1 h)
      clear G
      go_wp2_with fail
      go_meet;refine ⟨?_,rfl⟩;rw [b7.out]
      all_goals (first | rfl | (congr 1;done) | (congr 1;rw [decide_eq_decide];omega))
     ·have hd:(tk != (c:Int))=true:=by rw [bne_iff_ne];exact G
      have b7:Hid (bq=true):=by (show _=_);rw [o.out];exact DF (.inl G)
      clear G
      go_wp2_with fail
      go_meet;exact ⟨by rw [b7.out],rfl⟩
    case rest=>
     obtain ⟨rfl,rfl⟩:=hcut
     cases bq with
     | true=>
      have HF:Hid (R=cutB m ch tk s ks.length):=by (show _=_);rw [E.out,if_pos (EE o.out.symm)]
      clear o E
      go_wp2_with fail
      refine (M.out w2 (d.out.trans I)).mono ?_;rintro e w4 ⟨rfl,h4⟩
      go_wp2_with fail
      go_ret;exact ⟨zk HF.out.symm,(d.out.trans I).trans h4⟩
     | false=>
      have HF:Hid (R=AI m ks ch (zT m ch)):=by (show _=_);rw [E.out,if_neg (of_decide_eq_false o.out.symm)]
      clear o E M
      go_wp2_with fail
      refine (e2.out w2 (d.out.trans I)).mono ?_;rintro e w4 ⟨vl,rfl,c9⟩;have e3:=zh c9.ints;have d9:zc w1 w4:=I.trans c9.ext;have b8:Hid (zT m ch=Bc m ch):=by (show _=_);unfold zT;rw [if_pos (okC_of HC.out HI.out)]
      have e4:Hid (∀n∈zT m ch,zw m (ch++[n])):=fun n hn=>by
       rw [b8.out] at hn;exact .snoc HI.out hn
      have h6:(zT m ch).length<=400000000000:=by rw [b8.out];exact CM HL.out ch
      obtain ⟨L,hL⟩:=EH (zT m ch);rw [<-hL] at e3 HF e4 h6;obtain ⟨AL,cL,rfl,-,g0⟩:=e3.out;have g8:=zh g0;have e8:=zh d9;clear c9 I hL g0 b8 e2;by_cases V:L.length=ks.length
      ·have hd:((L.length:Int) != (ks.length:Int))=false:=by rw [V];simp
       have e5:=zh V;clear V;have e9:=zh (zc.refl w4)
       go_wp2_with fail
       clear d9;go_loopw [37] (fun i wr=>∃j:Nat,j<=L.length/\i=.int .i64 j/\Hid (R=AI m (ks.drop j) ch (L.drop j))/\Hid (zc w4 wr)) (fun i _=>L.length - (intOf i).toNat)
       case atStart=>exact ⟨0,DR _,rfl,HF.out,e9.out⟩
       case round=>
        obtain ⟨j,hj,rfl,hr,hE⟩:=hrel;obtain ⟨wj,rfl⟩:∃wj:World,wj=wr:=⟨_,rfl⟩;have I:zc w1 wj:=e8.out.trans hE.out;by_cases U:j<L.length
        ·have i8:(j:Int)<(L.length:Int):=by omega
         have kk0:(0:Int)<=(j:Int):=by omega
         have D:j<ks.length:=by rw [<-e5.out];exact U
         have i1:(j:Int)<(ks.length:Int):=by omega
         obtain ⟨bl,offl,rfl,-,b6⟩:=Ae g8.out U U;have i0:wj.cell? ⟨bl,offl+j,none⟩=some (.int .i64 L[j]):=hE.out.cell b6;have c6:Hid (zw m (ch++[L[j]])):=e4.out _ (DD U);have O:=zh (holdsL_drop (m:=m) (ch:=ch) D U);obtain ⟨b,off,rfl,h0,h1,h2⟩:=kidsAt g7.out D;have q0:=zc.rule (d.out.cell h0);have q1:=zc.rule (d.out.cell h1);have q2:=zc.rule (d.out.cell h2);have e7:=zh (g4.out j D);have c7:Hid ((ks[j]).Lens/\(ks[j]).size<=N):=⟨g6.out _ (DD D),by have:=g9.out _ (DD D);omega⟩;obtain ⟨n,hn⟩:=EH (L[j]);obtain ⟨kd,f6⟩:=EH (ks[j]);rw [<-hn] at i0 c6 O;rw [<-f6] at O e7 c7;obtain ⟨hb,d6⟩:=EH (AP m kd (ch++[n]));rw [<-d6] at O
         have e6:Hid (∀W,zc w1 W->Calls Tryz.prog 78 #[.agg #[.int .i64 m.w,.int .i64 m.h,.int .i64 m.l,.slice Af m.free.length cf,.slice Au m.up.length cu,.slice At m.tasks.length ct,.slice Ac ch.length cc,.slice Ap PL cp,.int .i64 c],.int .i64 n] W fun e w'=>∃a0 a1 a2 a3 a4 a5 a6 a7 a8,e=.returned (.agg #[a0,a1,a2,a3,a4,a5,a6,a7,a8])/\zc W w'/\∀W',zc w' W'->Calls Tryz.prog 33 #[.agg #[a0,a1,a2,a3,a4,a5,a6,a7,a8],.agg #[cs.getD (j*3) undef,cs.getD (j*3+1) undef,cs.getD (j*3+2) undef]] W' fun e w'=>e=.returned (.bool hb)/\zc W' w'):=fun W hW=>by
          refine (a9.out n c6.out W (d.out.trans hW)).mono ?_;rintro e w' ⟨vc',vp',rfl,f0,hS⟩;refine ⟨_,_,_,_,_,_,_,_,_,rfl,f0,fun W' hW'=>?_⟩;rw [d6];exact IH.out _ _ _ _ _ _ _ _ _ _ W' (hS.more hW') c6.out (e7.out.ext (d.out.trans (hW.trans (f0.trans hW')))) c7.out.2 c7.out.1
         have g3:=zh hE.out;have i5:zc w1 wj:=I;clear b6 h0 h1 h2 hn f6 d6 I;go_upto_region 11 with fail;go_cut [51] (fun v wx=>v=.bool (!hb)/\zc wj wx)
         case first=>
          refine DT (S:=(fun W=>zc w1 W)) zN (i5.drew) fun zH=>?_;have h5:zc w1 wj.drew:=zH;have f2:zc wj wj.drew:=(zc.refl wj).drew;generalize wj.drew=wd at zH h5 f2⊢;refine ze 0 zH ?_;refine ze 1 zH ?_;simp only [za,Dz];refine ze 3 zH ?_;refine ze 4 zH ?_;simp only [za,Dz];refine ze 5 zH ?_;refine ze 6 zH ?_;simp only [za,Dz];refine ze 7 zH ?_;simp only [za,Dz];refine zC 2 fun K hK=>?_;go_simp;go_at_call 78;refine (e6.out _ zH).mono ?_;rintro e w9 ⟨a0,a1,a2,a3,a4,a5,a6,a7,a8,rfl,b0,HK⟩;have g5:=zh HK;clear HK;go_simp;refine EI hK (zH.trans b0) fun zH=>?_;clear hK K;try simp only [za,Dz]
          refine zC 8 fun K hK=>?_;go_simp;go_at_call 33;refine (g5.out _ (zc.refl _)).mono ?_;rintro e w10 ⟨rfl,b3⟩;go_simp;refine EI hK (zH.trans b3) fun zH=>?_;clear hK K;try simp only [za,Dz]
          refine ze 9 zH ?_;simp only [za,Dz];refine Eg (by kernel_rfl) ?_ _;go_wp2;go_meet;exact ⟨by first | rfl | simp,(f2.trans b0).trans b3⟩
         case rest=>
          obtain ⟨rfl,b0⟩:=hcut;have g1:zc w4 wc:=g3.out.trans b0
          cases hb with
          | false=>
           have Q:Hid (R=false):=by (show _=_);rw [hr.out,O.out,Bool.false_and]
           go_wp2_with fail
           go_ret;exact ⟨zk Q.out.symm,d.out.trans (e8.out.trans g1)⟩
          | true=>
           have i4:Hid (R=AI m (ks.drop (j+1)) ch (L.drop (j+1))):=by (show _=_);rw [hr.out,O.out,Bool.true_and]
           go_wp2_with fail
           go_roundw
           case rel=>exact ⟨j+1,by omega,by go_num,i4,g1⟩
           case measure=>simp [intOf];omega
        ·obtain rfl:j=L.length:=by omega
         have Q:Hid (R=true):=by
          (show _=_)
          rw [hr.out,List.drop_length,e5.out,List.drop_length];unfold AI;rfl
         go_wp2_with fail
         go_ret;exact ⟨zk Q.out.symm,d.out.trans I⟩
      ·have hd:((L.length:Int) != (ks.length:Int))=true:=by rw [bne_iff_ne];omega
       have Q:Hid (R=false):=by (show _=_);rw [HF.out];exact holdsL_len (fun h=>V h.symm)
       clear V
       go_wp2_with fail
       go_ret;exact ⟨zk Q.out.symm,d.out.trans d9⟩
end
section
open Go.RowKit
def GivesZ {α:Type} (n:Nat) (P:Program) (g:Nat) (lb:Array Value) (encs:α->Array Value) (G:Nat->α->World->Prop) (N:Nat) (Z:Nat->Prop) (w:World):Prop:=
 ∀(l:Nat) (J:Nat->World->Prop) (Jx:World->Prop) (W:World),zc w W->w.heap.size<=l->l<W.heap.size->(∀k A B,J k A->Below W.heap.size A B->J k B)->(∀A B,Jx A->Below W.heap.size A B->Jx B)->
  (∀k x W1,k<N->J k W1->G k x W1->YieldAt Fence.wide (n - 1) P l (encs x) W1 fun e W'=>(e=.returned (.bool true)/\J (k+1) W'/\zm (fun b=>b=l\/Z b) W1 W')\/(e=.returned (.bool false)/\Jx W'/\∀b,W.heap.size<=b->b<W1.heap.size->W'.heap[b]?=W1.heap[b]?))->
  J 0 W->
  CallsIn Fence.wide n P g (#[.func (.yield l) #[] #[]]++lb) W fun e W'=>(∃v,e=.returned v)/\(J N W'\/Jx W')
def postZ (B k:Nat) (I:Nat->World->Prop) (Ix:Code->World->Prop) (Z:Nat->Prop) (W:World):Exit->Act->World->Prop
 | .normal,_,W'=>zm Z W W'/\I (k+1) W'
 | .ret,_,W'=>(∀b,B<=b->b<W.heap.size->W'.heap[b]?=W.heap[b]?)/\Ix .ret W'
 | .exit id,_,W'=>(∀b,B<=b->b<W.heap.size->W'.heap[b]?=W.heap[b]?)/\Ix (.exit id) W'
 | .goto t,_,W'=>(∀b,B<=b->b<W.heap.size->W'.heap[b]?=W.heap[b]?)/\Ix (.goto t) W'
 | .panic _,_,_=>False
 | .outgrown,_,_=>False
theorem wpIn_loopZ {P:Program} {n:Nat} {α:Type} {g:Operand} {ps:Array Tmp} {assign body:Code} {Q:Exit->Act->World->Prop} {a:Act} {w:World}
  {gf:Nat} {lb:Array Value} (hg:a.eval g=.func (.func gf) #[] lb) (eg:∀args w,(callFunc gf args).run P w=.ok (.enter gf args) w)
  {encs:α->Array Value} {G:Nat->α->World->Prop} {N:Nat} {w0:World} {Z:Nat->Prop} (hZ:∀b,Z b->b<w.heap.size) (b9:GivesZ (n - 1) P gf lb encs G N Z w0) (b6:zc w0 w) (d5:∀x,(encs x).size=ps.size)
  (I:Nat->World->Prop) (Ix:Code->World->Prop) (hI:∀k A B,I k A->Below w.heap.size A B->I k B) (hIx:∀c A B,Ix c A->Below w.heap.size A B->Ix c B)
  (Ax:Nat->α->Act->World->Prop) (c6:∀k x a A l,Ax k x a A->w.heap.size<l->l<A.heap.size->(∃r,A.heap[l]?=some (.loop r))->∀o,Ax k x a (A.putObj l o)) (h0:I 0 w)
  (a5:∀(l k:Nat) (x:α) (W:World) (K:Act->World->Prop),k<N->I k W->G k x W->w.heap.size<W.heap.size->(∀a' W',zc W W'->Ax k x a' W'->K a' W')->
   assign.wpIn (Fence.wide.inRound l) (n - 1 - 1) P (Exit.then K (fun _ _ _=>False)) { tmps:=(ps.zip (encs x)).foldl (fun t (p,v)=>t.setIfInBounds p v) a.tmps,defers:=[] } W)
  (b1:∀(l k:Nat) (x:α) (a':Act) (W:World),k<N->I k W->Ax k x a' W->w.heap.size<W.heap.size->(∃r,W.heap[w.heap.size+1]?=some (.loop r))->body.wpIn (Fence.wide.inRound l) (n - 1 - 1) P (postZ w.heap.size k I Ix Z W) a' W)
  (b2:∀(D:Nat) (W:World),w.heap.size<=D->I N W->W.heap[D]?=some (.deferred (some []))->Q .normal { a with defers:={ target:=.collected D,args:=#[] } :: a.defers } W)
  (b4:∀(D:Nat) (c:Code) (W:World),w.heap.size<=D->Ix c W->W.heap[D]?=some (.deferred (some []))->c.wpIn Fence.wide n P Q { a with defers:={ target:=.collected D,args:=#[] } :: a.defers } W):
  (Code.rangeFunc g ps assign body).wpIn Fence.wide n P Q a w:=by
 refine wpIn_rangeFunc ?_;intro fn hfn;obtain ⟨rec,E⟩:∃rec:LoopState->Option Code->Loop,rec=fun st pe=>{ state:=st,pending:=pe,fn,tmps:=a.tmps,params:=ps,assign,body,defers:=w.heap.size }:=⟨_,rfl⟩
 obtain ⟨W1,a4⟩:∃W1,(w.alloc (.deferred (some []))).alloc (.loop (rec .ready none))=W1:=⟨_,rfl⟩;have e2:W1.heap.size=w.heap.size+2:=by rw [<-a4];simp
 have c8:W1.heap[w.heap.size+1]?=some (.loop (rec .ready none)):=by
  rw [<-a4];have:=World.alloc_heap_new (w.alloc (.deferred (some []))) (.loop (rec .ready none))
  rwa [World.size_alloc] at this
 have c7:W1.heap[w.heap.size]?=some (.deferred (some [])):=by
  rw [<-a4];exact (DV _ _ _ (by simp)).trans (World.alloc_heap_new w _)
 have b5:zc w W1:=by rw [<-a4];exact ((zc.refl w).alloc _).alloc _
 refine ⟨w.heap.size+1,[{ target:=.collected w.heap.size,args:=#[] }],W1,{ target:=.fn (.func gf) lb,args:=#[.func (.yield (w.heap.size+1)) #[] #[]] },W1,gf,
  #[.func (.yield (w.heap.size+1)) #[] #[]]++lb,W1,?_,?_,fun _ _=>trivial,?_,fun h=>absurd h (by simp [Fence.wide]),?_⟩
 ·rw [<-a4,E];exact run_enterLoop_outer _ _ _ _ _
 ·simp only [resolve,hg];simp [go_sem]
 ·simp [invoke,go_sem,eg]
 ·refine (b9 (w.heap.size+1)
   (fun k W=>I k W/\W.heap[w.heap.size+1]?=some (.loop (rec .ready none))/\W.heap[w.heap.size]?=some (.deferred (some []))/\w.heap.size+1<W.heap.size)
   (fun W=>∃c,Ix c W/\W.heap[w.heap.size+1]?=some (.loop (rec .done (some c)))/\W.heap[w.heap.size]?=some (.deferred (some [])))
   W1 (b6.trans b5) (by have:=b6.size;omega) (by omega) ?_ ?_ ?_ ⟨hI _ _ _ h0 b5,c8,c7,by omega⟩).mono ?_
  ·rintro k A B ⟨h1,h2,h3,h4⟩ O;exact ⟨hI _ _ _ h1 (O.mono (by omega)),(O.block _ (by omega)).trans h2,(O.block _ (by omega)).trans h3,Ee h4 O.size⟩
  ·rintro A B ⟨c,h1,h2,h3⟩ O;exact ⟨c,hIx _ _ _ h1 (O.mono (by omega)),(O.block _ (by omega)).trans h2,(O.block _ (by omega)).trans h3⟩
  ·-- one round
   rintro k x W b8 ⟨hi,hl,hD,M⟩ d4;have hy:=run_yield (P:=P) (args:=encs x) hl (by rw [E];exact d5 x);rw [E] at hy;refine ⟨fn,_,assign,body,hy,roundIn_of_wpIn hfn (a5 _ k x W _ b8 hi d4 (Nat.lt_trans (Nat.lt_succ_self _) M) (fun a' Wa a0 c9=>?_))⟩;have hl:=(a0.block _ M).trans hl;have hD:=(a0.block _ (by omega)).trans hD;have hi:=hI _ _ _ hi (a0.mono (by omega));have d7:=M;have M:w.heap.size+1<Wa.heap.size:=Ee M a0.size;refine ⟨_,run_beginRound hl (by rw [E]),?_⟩;have a2:(Wa.putObj (w.heap.size+1) (.loop { rec .ready none with state:=.busy })).heap[w.heap.size+1]?=some (.loop { rec .ready none with state:=.busy }):=World.putObj_heap_same M;have a7:(Wa.putObj (w.heap.size+1) (.loop { rec .ready none with state:=.busy })).heap[w.heap.size]?=some (.deferred (some [])):=(World.putObj_heap_other (by omega)).trans hD;have U:w.heap.size+1<(Wa.putObj (w.heap.size+1) (.loop { rec .ready none with state:=.busy })).heap.size:=(Ev.1 a2).1;have b3:Wa.grownBy (Wa.putObj (w.heap.size+1) (.loop { rec .ready none with state:=.busy })) (some (w.heap.size+1)):=grownBy_putObj' _ _ _;refine wpIn_mono (b1 _ k x a' _ b8 (hI _ _ _ hi (zD _ (by omega) M)) (c6 _ _ _ _ _ c9 (by omega) M ⟨_,hl⟩ _) (Nat.lt_trans (Nat.lt_succ_self _) U) ⟨_,a2⟩) ?_;generalize Wa.putObj (w.heap.size+1) (.loop { rec .ready none with state:=.busy })=W2 at*
   have fin:∀(jump:Option Code) (W3:World),W3.heap[w.heap.size+1]?=some (.loop { rec .ready none with state:=.busy })->
     (Instr.endRound (w.heap.size+1) jump).run P W3=.ok (.bool jump.isNone) (W3.putObj (w.heap.size+1) (.loop (rec (if jump.isNone then .ready else .done) jump))):=fun jump W3 L=>by
    have:=run_endRound (P:=P) jump L;rw [E] at this⊢;exact this
   have keep:∀W3:World,(∀b,w.heap.size<=b->b<W2.heap.size->W3.heap[b]?=W2.heap[b]?)->∀(o:Obj) (b:Nat),W1.heap.size<=b->b<W.heap.size->(W3.putObj (w.heap.size+1) o).heap[b]?=W.heap[b]?:=fun W3 J o b e0 b7=>by
    have h1:b<Wa.heap.size:=Ee b7 a0.size;have h2:=b3.size;exact (World.putObj_heap_other (by omega)).trans ((J b (by omega) (by omega)).trans ((b3.block b h1 (fun e=>by injection e;omega)).trans (a0.block b b7)))
   rintro e a3 W3 hp
   cases e with
   | normal=>
    obtain ⟨b0,a1⟩:=hp;have L:=(b0.block _ U (fun h=>by have:=hZ _ h;omega)).trans a2;have d:=(Ev.1 L).1;have V:=(b0.block _ (by omega) (fun h=>by have:=hZ _ h;omega)).trans a7;refine ⟨_,_,fin none W3 L,.inl ⟨rfl,⟨hI _ _ _ a1 (zD _ (by omega) d),World.putObj_heap_same d,(World.putObj_heap_other (by omega)).trans V,?_⟩,?_⟩⟩
    ·exact (Ev.1 (World.putObj_heap_same d)).1
    ·exact (((zm.of_ext (X:=fun b=>b=w.heap.size+1\/Z b) a0).grown b3 (fun k e _=>by injection e with e;exact .inl e.symm)).trans b0 (fun k _ h=>.inr h)).grown (grownBy_putObj' _ _ _) (fun k e _=>by injection e with e;exact .inl e.symm)
   | ret=>
    obtain ⟨J,a1⟩:=hp;have L:=(J _ (by omega) U).trans a2;have d:=(Ev.1 L).1;have V:=(J _ (DC _) (by omega)).trans a7;exact ⟨_,_,fin (some .ret) W3 L,.inr ⟨rfl,⟨.ret,hIx _ _ _ a1 (zD _ (by omega) d),World.putObj_heap_same d,(World.putObj_heap_other (by omega)).trans V⟩,keep W3 J _⟩⟩
   | exit id=>
    obtain ⟨J,a1⟩:=hp;have L:=(J _ (by omega) U).trans a2;have d:=(Ev.1 L).1;have V:=(J _ (DC _) (by omega)).trans a7;exact ⟨_,_,fin (some (.exit id)) W3 L,.inr ⟨rfl,⟨.exit id,hIx _ _ _ a1 (zD _ (by omega) d),World.putObj_heap_same d,(World.putObj_heap_other (by omega)).trans V⟩,keep W3 J _⟩⟩
   | goto t=>
    obtain ⟨J,a1⟩:=hp;have L:=(J _ (by omega) U).trans a2;have d:=(Ev.1 L).1;have V:=(J _ (DC _) (by omega)).trans a7;exact ⟨_,_,fin (some (.goto t)) W3 L,.inr ⟨rfl,⟨.goto t,hIx _ _ _ a1 (zD _ (by omega) d),World.putObj_heap_same d,(World.putObj_heap_other (by omega)).trans V⟩,keep W3 J _⟩⟩
   | panic ch=>exact hp.elim
   | outgrown=>exact hp.elim
  ·-- behind the iterator
   rintro e W2 ⟨⟨v,rfl⟩,(⟨hi,hl,hD,M⟩ | ⟨c,hi,hl,hD⟩)⟩
   ·exact ⟨none,_,by have:=run_endLoop (P:=P) hl (by rw [E];simp);rw [E] at this;exact this,b2 _ _ (DC _) (hI _ _ _ hi (zD _ (by omega) M)) ((World.putObj_heap_other (by omega)).trans hD)⟩
   ·have M:=(Ev.1 hl).1;exact ⟨some c,_,by have:=run_endLoop (P:=P) hl (by rw [E];simp);rw [E] at this;exact this,b4 _ c _ (DC _) (hIx _ _ _ hi (zD _ (by omega) M)) ((World.putObj_heap_other (by omega)).trans hD)⟩
end
end Go.Proofs.YtcnaogdgjkpkmaaGreatDoor
