/- RtBc RtBd RtBe RtVk -/
import Derived.Test.YthbjngbhbbkkgaaGreatHUza
set_option linter.unusedVariables false
set_option linter.unusedSimpArgs false
set_option maxRecDepth 100000
set_option maxHeartbeats 16000000
namespace Go.Proofs.YthbjngbhbbkkgaaGreat
open Go.RowKit
attribute [local go_sem ↓] Go.wp_at_zero Go.wp_at_succ
theorem box3 (w:World) (a0 a1 a2:Value):Ext w (w.alloc (.cells #[a0,a1,a2] 37))∧
  (∀W,Ext (w.alloc (.cells #[a0,a1,a2] 37)) W→W.cell? ⟨w.heap.size,0,none⟩=some a0)∧(∀W,Ext (w.alloc (.cells #[a0,a1,a2] 37)) W→W.cell? ⟨w.heap.size,1,none⟩=some a1)∧(∀W,Ext (w.alloc (.cells #[a0,a1,a2] 37)) W→W.cell? ⟨w.heap.size,2,none⟩=some a2):=by
 have hB:=Blk.new w #[a0,a1,a2] 37 rfl;exact ⟨(Ext.refl w).alloc _,Ext.rule (hB.cell (k:=0) rfl),Ext.rule (hB.cell (k:=1) rfl),Ext.rule (hB.cell (k:=2) rfl)⟩
def zbm (N:Int) (tg s:List Int) (i:Nat):Prop:=0≤s.getD i 0∧s.getD i 0<N∧(0<i→s.getD (i - 1) 0<s.getD i 0)∧s.getD i 0∉tg
theorem incB_iff {N:Int}:∀{l:List Int} {b:Int},incB N b l=true↔∀i,i<l.length→(b :: l).getD i 0<l.getD i 0∧l.getD i 0<N
 | [],b=>by simp [incB]
 | x :: l,b=>by
  unfold incB;rw [Bool.and_eq_true,Bool.and_eq_true,decide_eq_true_eq,decide_eq_true_eq,incB_iff];constructor
  ·rintro ⟨h1,h2,h3⟩ i hi
   cases i with
   | zero=>exact ⟨by simpa using h1,by simpa using h2⟩
   | succ i=>simpa using h3 i (by simpa using hi)
  ·intro h;refine ⟨by simpa using (h 0 (by simp)).1,by simpa using (h 0 (by simp)).2,fun i hi=>?_⟩;simpa using h (i+1) (by simpa using hi)
theorem side_iff {N:Int} {tg s:List Int}:(incB N (-1) s && !(s.any fun n=>decide (n∈tg)))=true↔∀i,i<s.length→zbm N tg s i:=by
 rw [Bool.and_eq_true,incB_iff,Bool.not_eq_true',←Bool.not_eq_true,List.any_eq_true];constructor
 ·rintro ⟨h1,h2⟩ i hi;have hmem:s.getD i 0∈s:=by rw [List.getD_eq_getElem?_getD,List.getElem?_eq_getElem hi];exact List.getElem_mem hi
  have hge:∀j,j<s.length→0≤s.getD j 0:=by
   intro j
   induction j with
   | zero=>intro hj;have:=(h1 0 hj).1;simp at this⊢;omega
   | succ j ih=>intro hj;have:=(h1 (j+1) hj).1;have h4:=ih (by omega);rw [List.getD_cons_succ] at this;omega
  refine ⟨hge i hi,(h1 i hi).2,fun h0=>?_,fun h=>h2 ⟨_,hmem,by simpa using h⟩⟩;have:=(h1 i hi).1;obtain ⟨j,rfl⟩:∃j,i=j+1:=⟨i - 1,by omega⟩;rw [List.getD_cons_succ] at this;simpa using this
 ·intro h;refine ⟨fun i hi=>⟨?_,(h i hi).2.1⟩,?_⟩
  ·cases i with
   | zero=>have:=(h 0 hi).1;simp at this⊢;omega
   | succ j=>have:=(h (j+1) hi).2.2.1 (by omega);rw [List.getD_cons_succ];simpa using this
  ·rintro ⟨x,hx,hd⟩;obtain ⟨i,hi,rfl⟩:=List.getElem_of_mem hx;refine (h i hi).2.2.2 ?_;rw [List.getD_eq_getElem?_getD,List.getElem?_eq_getElem hi];simpa using hd
theorem curT_le {m:MZ} {ch:List Int} (hc:chk m=0) (hi:zu m ch):zO m ch≤m.tasks.length:=by
 rcases cur_of hc hi with ⟨-,h⟩ | ⟨-,qs,a,h⟩
 ·omega
 ·have:=h.lt;have:=h.cur;omega
theorem nextO_len (m:MZ) (x:Int):(zap m x).length≤6:=by
 unfold zap
 split
 ·exact za5 m x
 ·simp
theorem nextO_rng {m:MZ} (g:zx m) {x y:Int} (h:y∈zap m x):0≤y∧y<m.n:=by
 unfold zap at h
 split at h
 ·next h1=>exact zab g.dim h1.2.1 h1.2.2 h
 ·cases h
theorem headP_le {m:MZ} {ch:List Int} {t:Nat} (hl:Lens m) (ht:t<m.tasks.length):(zao m ch t).length≤20000000000000:=by
 unfold zao
 split
 ·cases ((zn m ch).getD t []).getLast? <;> simp
 ·refine Nat.le_trans (List.length_filter_le _ _) ?_;rw [List.getD_eq_getElem?_getD,List.getElem?_eq_getElem ht];have:=(hl.tl _ (List.getElem_mem ht)).1;show (m.tasks[t]).1.length≤_;omega
theorem vcut_calls {ok okc okp:Nat→Prop} {v vc vp:Value} {m:MZ} {ch:List Int} {p:PT} (w:World) (hm:zr w ok v m) (hl:Lens m) (hc:chk m=0) (hch:zf w okc vc ch) (hi:zu m ch) (hp:PrV w okp vp p) (hps:p.side.length≤20000000000000):
  Calls Tryz.prog 96 #[v,vc,vp] w fun e w'=>e=.returned (.bool (cutB m ch p.task p.side p.kids.length))∧Ext w w':=by
 have HM:=zh hm;have HL:=zh hl;have HC:=zh hc;have HI:=zh hi;have HCH:=zh hch;have G:=zh (zx.of hc);have HPL:=zh (zaq hc hi);obtain ⟨Af,cf,Au,cu,At,ct,rfl,hfr,-,hts⟩:=hm.parts;have HTS:=zh hts;have HFR:=zh hfr;clear hfr;obtain ⟨Ac,cc,rfl,-,-⟩:=hch;obtain ⟨As,cs,Ak,ck,rfl,hside⟩:=hp.form;have HSD:=zh hside;have htl:=hl.ts;clear hm hl hc hi hp hts;obtain ⟨R,hR⟩:∃R,R=cutB m ch p.task p.side p.kids.length:=⟨_,rfl⟩;rw [←hR];have HRR:=zh hR;obtain ⟨tk,htk⟩:∃tk,tk=p.task:=⟨_,rfl⟩;obtain ⟨s,hs⟩:∃s,s=p.side:=⟨_,rfl⟩;obtain ⟨nk,hnk⟩:∃nk,nk=p.kids.length:=⟨_,rfl⟩;rw [←htk,←hs,←hnk] at HRR;rw [←hs] at HSD hside hps;rw [←htk,←hs,←hnk];clear hR htk hs hnk;obtain ⟨c,hcc⟩:∃c,c=zO m ch:=⟨_,rfl⟩;have HCU:=zh hcc;clear hcc
 go_enter Tryz.func96,Tryz.ntmps96
 go_upto_region 1 with fail;obtain ⟨hb1,r0,r1,r2,r3,r4,r5⟩:=box6 w (.int .i64 m.w) (.int .i64 m.h) (.int .i64 m.l) (.slice Af m.free.length cf) (.slice Au m.up.length cu) (.slice At m.tasks.length ct);have hs0:(w.alloc (.cells #[.int .i64 m.w,.int .i64 m.h,.int .i64 m.l,.slice Af m.free.length cf,.slice Au m.up.length cu,.slice At m.tasks.length ct] 32)).heap.size=w.heap.size+1:=by simp
 generalize w.alloc (.cells #[.int .i64 m.w,.int .i64 m.h,.int .i64 m.l,.slice Af m.free.length cf,.slice Au m.up.length cu,.slice At m.tasks.length ct] 32)=w0 at hb1 r0 r1 r2 r3 r4 r5 hs0⊢;obtain ⟨hb2,p0,p1,p2⟩:=box3 w0 (.int .i64 tk) (.slice As s.length cs) (.slice Ak nk ck);generalize w0.alloc (.cells #[.int .i64 tk,.slice As s.length cs,.slice Ak nk ck] 37)=w1 at hb2 p0 p1 p2⊢;rw [hs0] at p0 p1 p2;obtain ⟨gm,hgm⟩:∃gm,gm=w.heap.size:=⟨_,rfl⟩;rw [←hgm] at r0 r1 r2 r3 r4 r5 p0 p1 p2⊢;have HGM:Hid (gm=w.heap.size):=hgm;have HB2:=zh hb2;have HW1:=zh (hb1.trans hb2);have r0:=fun W h=>r0 W (HB2.out.trans h)
 have r1:=fun W h=>r1 W (HB2.out.trans h)
 have r2:=fun W h=>r2 W (HB2.out.trans h)
 have r3:=fun W h=>r3 W (HB2.out.trans h)
 have r4:=fun W h=>r4 W (HB2.out.trans h)
 have r5:=fun W h=>r5 W (HB2.out.trans h)
 clear hgm hb1 hb2 hs0;have hx:Ext w1 w1:=Ext.refl w1
 go_wp2_with fail
 refine (zcP w1 (HM.out.below HW1.out) HL.out (HCH.out.below HW1.out) (by have:=HPL.out;omega)).mono ?_;rintro e w2 ⟨vpp,rfl,hE2,hpps⟩;have HPS:=zh hpps;have hx2:Ext w1 w2:=hE2;obtain ⟨_,⟨App,cpp,rfl,-,-⟩,-⟩:=hpps
 have HV:Hid (∀W,Ext w2 W→Calls Tryz.prog 95 #[.agg #[.int .i64 m.w,.int .i64 m.h,.int .i64 m.l,.slice Af m.free.length cf,.slice Au m.up.length cu,.slice At m.tasks.length ct],.slice App (zn m ch).length cpp] W fun e w'=>e=.returned (.int .i64 c)∧Ext W w'):=fun W hW=>by
  rw [HCU.out];exact zcv W (HM.out.below ((HW1.out.trans hE2).trans hW)) HL.out (HPS.out.below hW) HPL.out.1 (fun x hx=>by have:=(HPL.out.2.2.2 x hx).2;omega)
 clear hE2 hx;obtain ⟨PL,hPLL⟩:∃PL,PL=(zn m ch).length:=⟨_,rfl⟩;rw [←hPLL] at HV HPS⊢;clear hPLL;have hy:Ext w2 w2:=Ext.refl w2
 go_wp2_with fail
 refine (HV.out _ hy).mono ?_;rintro e w3 ⟨rfl,hE3⟩;have hx:Ext w1 w3:=Ext.trans ‹Ext w1 w2› hE3;have HPS3:=zh (HPS.out.below hE3);clear HV hE3 hy hx2 HPS;go_upto_region 3 with fail;obtain ⟨bad,hbad⟩:∃bad:Bool,bad=decide (tk<c∨(m.tasks.length:Int)≤tk∨(tk=c∧s=[])∨nk≠0):=⟨_,rfl⟩;have HBAD:=zh hbad;clear hbad;go_cut [54] (fun v wx=>v=.bool bad∧w3=wx)
 case first=>
  by_cases h1:tk<(c:Int)
  ·have HB:Hid (bad=true):=by (show _=_);rw [HBAD.out];exact decide_eq_true (.inl h1)
   go_wp2_with fail
   go_meet;exact ⟨by rw [HB.out],rfl⟩
  ·by_cases h2:(m.tasks.length:Int)≤tk
   ·have HB:Hid (bad=true):=by (show _=_);rw [HBAD.out];exact decide_eq_true (.inr (.inl h2))
    go_wp2_with fail
    go_meet;exact ⟨by rw [HB.out],rfl⟩
   ·by_cases h3:tk=(c:Int)
    ·have h3':(tk==(c:Int))=true:=by rw [beq_iff_eq];exact h3
     by_cases h4:s=[]
     ·have HB:Hid (bad=true):=by (show _=_);rw [HBAD.out];exact decide_eq_true (.inr (.inr (.inl ⟨h3,h4⟩)))
      have h4':((s.length:Int)==0)=true:=by rw [h4];rfl
      clear h3 h4
      go_wp2_with fail
      go_meet;exact ⟨by rw [HB.out],rfl⟩
     ·have HB:Hid (bad=decide (0<nk)):=by
       (show _=_)
       rw [HBAD.out,decide_eq_decide];constructor
       ·rintro (h | h | h | h)
        ·exact absurd h h1
        ·exact absurd h h2
        ·exact absurd h.2 h4
        ·omega
       ·intro h;exact .inr (.inr (.inr (by omega)))
      have h4':((s.length:Int)==0)=false:=by
       rw [beq_eq_false_iff_ne];intro h;exact h4 (List.eq_nil_of_length_eq_zero (by omega))
      clear h3 h4
      go_wp2_with fail
      go_meet;refine ⟨?_,rfl⟩;rw [HB.out]
      all_goals (first | rfl | (congr 1;done) | (congr 1;rw [decide_eq_decide];omega))
    ·have h3':(tk==(c:Int))=false:=by rw [beq_eq_false_iff_ne];exact h3
     have HB:Hid (bad=decide (0<nk)):=by
      (show _=_)
      rw [HBAD.out,decide_eq_decide];constructor
      ·rintro (h | h | h | h)
       ·exact absurd h h1
       ·exact absurd h h2
       ·exact absurd h.1 h3
       ·omega
      ·intro h;exact .inr (.inr (.inr (by omega)))
     clear h3
     go_wp2_with fail
     go_meet;refine ⟨?_,rfl⟩;rw [HB.out]
     all_goals (first | rfl | (congr 1;done) | (congr 1;rw [decide_eq_decide];omega))
 case rest=>
  obtain ⟨rfl,rfl⟩:=hcut
  cases bad with
  | true=>
   have HF:Hid (R=false):=by
    (show _=_)
    have:=of_decide_eq_true HBAD.out.symm;rw [HCU.out] at this;rw [HRR.out];unfold cutB;rw [if_pos this]
   go_wp2_with fail
   go_ret;exact ⟨zd HF.out.symm,HW1.out.trans hx⟩
  | false=>
   have hnb:=of_decide_eq_false HBAD.out.symm
   have HF:Hid (R=(incB m.n (-1) s && (!(s.any fun n=>decide (n∈(m.tasks.getD tk.toNat ([],[])).2)) && ((zao m ch tk.toNat).all (fun n=>decide (n∈s)) && wallB m ch tk.toNat s)))):=by
    (show _=_)
    have:=hnb;rw [HCU.out] at this;rw [HRR.out];unfold cutB;rw [if_neg this]
   obtain ⟨t,ht⟩:∃t:Nat,tk=t:=⟨tk.toNat,by omega⟩;subst ht;rw [Int.toNat_natCast] at HF;have htl2:t<m.tasks.length:=by omega
   have HTL:=zh htl2;have k1:(t:Int)<(m.tasks.length:Int):=by omega
   have k0:(0:Int)≤(t:Int):=by omega
   clear hnb HBAD HRR;have hn1:=G.out.dim.n1;have hlay:=G.out.dim.layer;have hwm1:IntKind.i64.wrap (m.w*m.h)=m.w*m.h:=by rw [IntKind.wrap_i64];omega
   have hwm2:IntKind.i64.wrap (m.w*m.h*m.l)=m.w*m.h*m.l:=by rw [IntKind.wrap_i64];omega
   have HSI:Hid ((incB m.n (-1) s && !(s.any fun n=>decide (n∈(m.tasks.getD t ([],[])).2)))=true↔∀i,i<s.length→zbm m.n (m.tasks.getD t ([],[])).2 s i):=side_iff;obtain ⟨bt,offt,sn,u1,u2,rfl,-,-,-,hct2,-,hi2⟩:=zam HTS.out HTL.out;have hto:=(HL.out.tl _ (List.getElem_mem HTL.out)).2;have HTG:Hid ((m.tasks.getD t ([],[])).2=(m.tasks[t]'HTL.out).2):=by (show _=_);rw [List.getD_eq_getElem?_getD,List.getElem?_eq_getElem HTL.out];rfl
   obtain ⟨tg,htg⟩:∃tg,tg=(m.tasks[t]'HTL.out).2:=⟨_,rfl⟩;rw [←htg] at hi2 hto HTG;rw [HTG.out] at HSI HF;have HTO:=zh (hi2.below HW1.out);obtain ⟨Atg,ctg,rfl,-,-⟩:=hi2;have rtg:=Ext.rule (HW1.out.cell hct2);have HX3:=zh hx;have HRS:=zh (show zY w okp 1 As s.length (s.map (Value.int .i64)) from by obtain ⟨A',c',e,-,h⟩:=HSD.out;injection e with e1 e2 e3;rw [e1];exact h);clear htg hct2 hside hx
   go_wp2_with fail
   go_loopw [10] (fun i wr=>∃k:Nat,k≤s.length∧i=.int .i64 k∧Hid (∀j,j<k→zbm m.n tg s j)∧Hid (Ext w3 wr)) (fun i _=>s.length - (intOf i).toNat)
   case atStart=>exact ⟨0,Nat.zero_le _,rfl,fun j hj=>by omega,Ext.refl _⟩
   case round=>
    obtain ⟨k,hk,rfl,hok,hE⟩:=hrel;obtain ⟨wk,rfl⟩:∃wk:World,wk=wr:=⟨_,rfl⟩;have hx:Ext w1 wk:=HX3.out.trans hE.out;by_cases hlt:k<s.length
    ·have hltI:(k:Int)<(s.length:Int):=by omega
     have kk0:(0:Int)≤(k:Int):=by omega
     obtain ⟨bs,offs,rfl,-,hcx⟩:=zt HRS.out hlt hlt;have hgx:s.getD k 0=s[k]:=by rw [List.getD_eq_getElem?_getD,List.getElem?_eq_getElem hlt];rfl
     obtain ⟨x,hxx⟩:∃x,x=s[k]:=⟨_,rfl⟩;rw [←hxx] at hcx hgx;have rx:=Ext.rule (HW1.out.cell hcx)
     obtain ⟨ob,hob⟩:∃ob:Bool,ob=true↔zbm m.n tg s k:=by
      by_cases h:zbm m.n tg s k
      ·exact ⟨true,by simp [h]⟩
      ·exact ⟨false,by simp [h]⟩
     have HOB:Hid (ob=true↔0≤x∧x<m.n∧(0<k→s.getD (k - 1) 0<x)∧x∉tg):=by
      (show _↔_)
      rw [hob];unfold zbm;rw [hgx]
     have HOB2:=zh hob;clear hcx hgx hxx hob;have hx':Ext wk wk:=Ext.refl wk;go_upto_region 8 with fail;go_cut [116] (fun v wx=>v=.bool (!ob)∧Ext wk wx)
     case first=>
      by_cases h1:x<0
      ·have HB:Hid (ob=false):=by (show _=_);rw [←Bool.not_eq_true,HOB.out];omega
       go_quiet (fail)
       go_wp2_with fail
       go_meet;exact ⟨by rw [HB.out];rfl,hx'.drewN _⟩
      ·by_cases h2:m.w*m.h*m.l≤x
       ·have HB:Hid (ob=false):=by (show _=_);rw [←Bool.not_eq_true,HOB.out];unfold MZ.n;omega
        go_quiet (fail)
        go_wp2_with fail
        go_meet;exact ⟨by rw [HB.out];rfl,hx'.drewN _⟩
       ·have h2':x<m.n:=by unfold MZ.n;omega
        by_cases h3:k=0
        ·have HB:Hid (ob=!decide (x∈tg)):=by
          (show _=_)
          rw [Bool.eq_iff_iff,HOB.out,Bool.not_eq_true',decide_eq_false_iff_not];exact ⟨fun h=>h.2.2.2,fun h=>⟨by omega,h2',fun h0=>by omega,h⟩⟩
         have h3a:¬ (0<k):=by omega
         have h3b:¬ ((0:Int)<(k:Int)):=by omega
         clear h3 h2';go_quiet ((go_at_call 12;refine (zE x _ (HTO.out.below (hx.drewN _)) (by omega)).mono ?_;rintro e w9 ⟨rfl,rfl⟩;exact ⟨rfl,⟨_,rfl⟩⟩))
         go_wp2_with fail
         go_meet;exact ⟨by rw [HB.out];simp,hx'.drewN _⟩
        ·have h3a:0<k:=by omega
         have h3b:(0:Int)<(k:Int):=by omega
         have hlt0:k - 1<s.length:=by omega
         obtain ⟨bs',offs',e,-,hcy⟩:=zt HRS.out hlt0 hlt0;injection e with e;injection e with e1 e2;subst e1 e2;have hgy:s.getD (k - 1) 0=s[k - 1]:=by rw [List.getD_eq_getElem?_getD,List.getElem?_eq_getElem hlt0];rfl
         obtain ⟨y,hyy⟩:∃y,y=s[k - 1]:=⟨_,rfl⟩;rw [←hyy] at hcy hgy;have ry:=Ext.rule (HW1.out.cell hcy)
         have HB0:Hid (ob=(decide (y<x) && !decide (x∈tg))):=by
          (show _=_)
          rw [Bool.eq_iff_iff,HOB.out,hgy,Bool.and_eq_true,Bool.not_eq_true',decide_eq_false_iff_not,decide_eq_true_eq];exact ⟨fun h=>⟨h.2.2.1 h3a,h.2.2.2⟩,fun h=>⟨by omega,h2',fun _=>h.1,h.2⟩⟩
         have hkw:IntKind.i64.wrap ((k:Int) - 1)=((k - 1:Nat):Int):=by rw [IntKind.wrap_i64];omega
         have hkw0:(0:Int)≤((k - 1:Nat):Int):=by omega
         have hkw1:((k - 1:Nat):Int)<(s.length:Int):=by omega
         clear h3 h2' hcy hgy hyy;obtain ⟨k',hk'⟩:∃k',k'=k - 1:=⟨_,rfl⟩;rw [←hk'] at ry hkw hkw0 hkw1 hlt0;clear hk';by_cases h4:x≤y
         ·have HB:Hid (ob=false):=by (show _=_);rw [HB0.out,decide_eq_false (by omega)];rfl
          go_quiet (fail)
          go_wp2_with fail
          go_meet;exact ⟨by rw [HB.out];rfl,hx'.drewN _⟩
         ·have HB:Hid (ob=!decide (x∈tg)):=by (show _=_);rw [HB0.out,decide_eq_true (by omega)];rfl
          clear HB0;go_quiet ((go_at_call 12;refine (zE x _ (HTO.out.below (hx.drewN _)) (by omega)).mono ?_;rintro e w9 ⟨rfl,rfl⟩;exact ⟨rfl,⟨_,rfl⟩⟩))
          go_wp2_with fail
          go_meet;exact ⟨by rw [HB.out];simp,hx'.drewN _⟩
     case rest=>
      obtain ⟨rfl,hE9⟩:=hcut;have hx9:Ext w3 wc:=hE.out.trans hE9
      cases ob with
      | false=>
       have HFF:Hid (R=false):=by
        (show _=_)
        have h:¬ ∀i,i<s.length→zbm m.n tg s i:=fun h=>absurd (HOB2.out.2 (h k hlt)) (by simp)
        rw [HF.out,←Bool.and_assoc,Bool.eq_false_iff.2 (fun h2=>h (HSI.out.1 h2)),Bool.false_and]
       go_wp2_with fail
       go_ret;exact ⟨zd HFF.out.symm,HW1.out.trans (HX3.out.trans hx9)⟩
      | true=>
       have hok':Hid (∀j,j<k+1→zbm m.n tg s j):=fun j hj=>by
        rcases Nat.lt_or_ge j k with h | h
        ·exact hok.out j h
        ·obtain rfl:j=k:=by omega
         exact HOB2.out.1 rfl
       go_wp2_with fail
       go_roundw
       case rel=>exact ⟨k+1,by omega,by go_num,hok',hx9⟩
       case measure=>simp [intOf];omega
    ·obtain rfl:k=s.length:=by omega
     have HF2:Hid (R=((zao m ch t).all (fun n=>decide (n∈s)) && wallB m ch t s)):=by
      (show _=_)
      rw [HF.out,←Bool.and_assoc,HSI.out.2 hok.out,Bool.true_and]
     clear hok HF HSI;have HHL:=zh (headP_le HL.out (ch:=ch) HTL.out)
     go_wp2_with fail
     refine (vhead_calls t wk (HM.out.below (HW1.out.trans hx)) HL.out HC.out (HCH.out.below (HW1.out.trans hx)) HI.out (HPS3.out.below hE.out) HTL.out).mono ?_;rintro e w5 ⟨vb,rfl,hE5,hI5⟩;have HX5:Hid (Ext w1 w5):=hx.trans hE5;have HI5:=zh hI5;obtain ⟨B,hB⟩:∃B,B=zao m ch t:=⟨_,rfl⟩;rw [←hB] at hI5 HI5 HF2 HHL;obtain ⟨Ab,cb,rfl,-,hrb⟩:=hI5;have HRB:=zh hrb;clear hB hrb hE5 hx hE HPS3;have hx:=HX5.out
     go_wp2_with fail
     have HX51:=zh (Ext.refl w5);go_loopw [12] (fun i wr=>∃j:Nat,j≤B.length∧i=.int .i64 j∧Hid ((B.take j).all (fun n=>decide (n∈s))=true)∧Hid (Ext w5 wr)) (fun i _=>B.length - (intOf i).toNat)
     case atStart=>exact ⟨0,Nat.zero_le _,rfl,rfl,HX51.out⟩
     case round=>
      obtain ⟨j,hj,rfl,hall,hE⟩:=hrel;obtain ⟨wj,rfl⟩:∃wj:World,wj=wr:=⟨_,rfl⟩;have hx:Ext w1 wj:=HX5.out.trans hE.out;have hbl:B.length≤20000000000000:=HHL.out;by_cases hlt:j<B.length
      ·have hltI:(j:Int)<(B.length:Int):=by omega
       have kk0:(0:Int)≤(j:Int):=by omega
       obtain ⟨bb,offb,rfl,-,hcb⟩:=zt HRB.out hlt hlt;have htk2:=List.take_succ_eq_append_getElem hlt;have HMB:Hid (B[j]∈B):=List.getElem_mem hlt;obtain ⟨x,hxx⟩:∃x,x=B[j]:=⟨_,rfl⟩;rw [←hxx] at hcb htk2 HMB;have HT:=zh htk2;have rb:∀W,Ext w1 W∧Ext wj W→W.cell? ⟨bb,offb+j,none⟩=some (.int .i64 x):=fun W h=>(hE.out.trans h.2).cell hcb
       clear htk2 hcb hxx;have hx':Ext wj wj:=Ext.refl wj;go_upto_region 14 with fail;have rb:∀n,(wj.drewN n).cell? ⟨bb,offb+j,none⟩=some (.int .i64 x):=fun n=>rb _ ⟨hx.drewN n,hx'.drewN n⟩
       go_cut [136] (fun v wx=>v=.bool (!decide (x∈s))∧Ext wj wx)
       case first=>
        go_quiet ((go_at_call 12;refine (zE x _ (HSD.out.below (HW1.out.trans (hx.drewN _))) (by omega)).mono ?_;rintro e w9 ⟨rfl,rfl⟩;exact ⟨rfl,⟨_,rfl⟩⟩))
        go_wp2_with fail
        go_meet;exact ⟨rfl,hx'.drewN _⟩
       case rest=>
        obtain ⟨rfl,hE9⟩:=hcut;have hx9:Ext w5 wc:=hE.out.trans hE9;by_cases hin:x∈s
        ·have hd:decide (x∈s)=true:=decide_eq_true hin;rw [hd];have hall':Hid ((B.take (j+1)).all (fun n=>decide (n∈s))=true):=by (show _=_);rw [HT.out,List.all_append,hall.out];simpa using hin
         clear hin hd
         go_wp2_with fail
         go_roundw
         case rel=>exact ⟨j+1,by omega,by go_num,hall',hx9⟩
         case measure=>simp [intOf];omega
        ·have hd:decide (x∈s)=false:=decide_eq_false hin;rw [hd]
         have HFF:Hid (R=false):=by
          (show _=_)
          rw [HF2.out,Bool.and_eq_false_iff]
          left
          rw [List.all_eq_false];exact ⟨x,HMB.out,by rw [hd];simp⟩
         clear hin hd
         go_wp2_with fail
         go_ret;exact ⟨zd HFF.out.symm,HW1.out.trans (HX5.out.trans hx9)⟩
      ·obtain rfl:j=B.length:=by omega
       have HF3:Hid (R=wallB m ch t s):=by
        (show _=_)
        have h:=hall.out;rw [List.take_length] at h;rw [HF2.out,h,Bool.true_and]
       clear hall HF2;have HX6:=zh hx;clear hx hE;have HX61:=zh (Ext.refl wj)
       go_wp2_with fail
       go_loopw [13] (fun i wr=>∃k:Nat,k≤s.length∧i=.int .i64 k∧Hid (∀n∈s.take k,(zap m n).all (fun k=>!(ze m t k && !decide (k∈ch)) || decide (k∈s))=true)∧Hid (Ext wj wr)) (fun i _=>s.length - (intOf i).toNat)
       case atStart=>exact ⟨0,Nat.zero_le _,rfl,fun n hn=>by simp at hn,HX61.out⟩
       case round=>
        obtain ⟨k,hk,rfl,hok,hE⟩:=hrel;obtain ⟨wk,rfl⟩:∃wk:World,wk=wr:=⟨_,rfl⟩;have hx:Ext w1 wk:=HX6.out.trans hE.out;by_cases hlt:k<s.length
        ·have hltI:(k:Int)<(s.length:Int):=by omega
         have kk0:(0:Int)≤(k:Int):=by omega
         obtain ⟨bs,offs,rfl,-,hcx⟩:=zt HRS.out hlt hlt;have htk2:=List.take_succ_eq_append_getElem hlt;have HMS:Hid (s[k]∈s):=List.getElem_mem hlt;obtain ⟨x,hxx⟩:∃x,x=s[k]:=⟨_,rfl⟩;rw [←hxx] at hcx htk2 HMS;have rx:=Ext.rule (HW1.out.cell hcx);have HT:=zh htk2;clear hcx htk2 hxx;go_upto_region 19 with fail;have hx':Ext wk wk:=Ext.refl wk
         go_region_held3 (fun w'=>Ext w1 w'∧Ext wk w')
          (first | (exact ⟨hx.drew,hx'.drew⟩) | (exact ⟨hx.drew.trans hM9.ext,hx'.drew.trans hM9.ext⟩))
          ((go_at_call 53;refine (zdf x _ (HM.out.below (HW1.out.trans hx.drew)) HL.out).mono ?_;rintro e wn ⟨v9,rfl,hM9⟩))
         rename_i hS
         have hS1:Ext w1 wn:=hS.1;have HIN:=zh hM9.ints;have HSK:=zh hS.2;have hnl:=nextO_len m x;have HNX:Hid (∀y∈zap m x,0≤y∧y<m.n):=fun y hy=>nextO_rng G.out hy
         obtain ⟨L,hL⟩:∃L,L=zap m x:=⟨_,rfl⟩;rw [←hL] at HIN hnl HNX;have HLE:=zh hL;obtain ⟨AL,cL,rfl,-,hrl⟩:=HIN.out;have HRL:=zh hrl;clear hM9 hL hrl hS hx hx';have HXN:=zh hS1;have HXN1:=zh (Ext.refl wn);clear hS1
         go_wp2_with fail
         go_loopw [15] (fun i wr=>∃j:Nat,j≤L.length∧i=.int .i64 j∧Hid ((L.take j).all (fun k=>!(ze m t k && !decide (k∈ch)) || decide (k∈s))=true)∧Hid (Ext wn wr)) (fun i _=>L.length - (intOf i).toNat)
         case atStart=>exact ⟨0,Nat.zero_le _,rfl,rfl,HXN1.out⟩
         case round=>
          obtain ⟨j,hj,rfl,hall,hEj⟩:=hrel;obtain ⟨wj,rfl⟩:∃wj:World,wj=wr:=⟨_,rfl⟩;have hx:Ext w1 wj:=HXN.out.trans hEj.out;by_cases hltj:j<L.length
          ·have hltI2:(j:Int)<(L.length:Int):=by omega
           have kk02:(0:Int)≤(j:Int):=by omega
           obtain ⟨bl,offl,rfl,-,hcb⟩:=zt HRL.out hltj hltj;have htk2:=List.take_succ_eq_append_getElem hltj;obtain ⟨hy0,hy1⟩:=HNX.out _ (List.getElem_mem hltj);have HMB:Hid (L[j]∈L):=List.getElem_mem hltj;obtain ⟨y,hyy⟩:∃y,y=L[j]:=⟨_,rfl⟩;rw [←hyy] at hcb htk2 HMB hy0 hy1;have HT2:=zh htk2;obtain ⟨bf,off,b',off',l,c',rfl,hc1,hl,hlc,hfc,hc2⟩:=zcc HFR.out G.out.fn (by rw [G.out.fl];exact HTL.out) hy0 hy1;have q1:=Ext.rule (HW1.out.cell hc1);have q2:=Ext.rule (HW1.out.cell hc2);have q3:∀n,(wj.drewN n).cell? ⟨bl,offl+j,none⟩=some (.int .i64 y):=fun n=>(hEj.out.drewN n).cell hcb
           have kf1:(t:Int)<(m.free.length:Int):=by have:=G.out.fl;omega
           obtain ⟨fv,hfv⟩:∃fv,fv=ze m t y:=⟨_,rfl⟩;rw [←hfv] at q2;have HFV:=zh hfv;clear hfv hc1 hc2 htk2 hcb hyy;have hx':Ext wj wj:=Ext.refl wj;obtain ⟨bd,hbd⟩:∃bd:Bool,bd=(fv && (!decide (y∈ch) && !decide (y∈s))):=⟨_,rfl⟩;have HBD:=zh hbd;clear hbd;go_upto_region 23 with fail;go_cut [187] (fun v wx=>v=.bool bd∧Ext wj wx)
           case first=>
            obtain ⟨dc,hdc⟩:∃dc,dc=decide (y∈ch):=⟨_,rfl⟩;obtain ⟨ds,hds⟩:∃ds,ds=decide (y∈s):=⟨_,rfl⟩;have HH1:Hid (∀W,Ext wj W→Calls Tryz.prog 12 #[.slice Ac ch.length cc,.int .i64 y] W fun e w'=>e=.returned (.bool dc)∧W=w'):=fun W hW=>by rw [hdc];exact zE y W (HCH.out.below (HW1.out.trans (hx.trans hW))) (by have:=HPL.out;omega)
            have HH2:Hid (∀W,Ext wj W→Calls Tryz.prog 12 #[.slice (some ⟨bs,offs,none⟩) s.length cs,.int .i64 y] W fun e w'=>e=.returned (.bool ds)∧W=w'):=fun W hW=>by rw [hds];exact zE y W (HSD.out.below (HW1.out.trans (hx.trans hW))) (by omega)
            have HB:Hid (bd=(fv && (!dc && !ds))):=by (show _=_);rw [HBD.out,hdc,hds]
            clear hdc hds
            cases fv with
            | false=>
             go_quiet (fail)
             go_wp2_with fail
             go_meet;exact ⟨by rw [HB.out];rfl,hx'.drewN _⟩
            | true=>
             cases dc with
             | true=>
              go_quiet ((go_at_call 12;with_reducible refine (HH1.out _ (hx'.drewN _)).mono ?_;rintro e w8 ⟨he8,rfl⟩;exact ⟨he8,⟨_,rfl⟩⟩))
              go_wp2_with fail
              go_meet;exact ⟨by rw [HB.out];rfl,hx'.drewN _⟩
             | false=>
              go_quiet (first | (go_at_call 12;with_reducible refine (HH1.out _ (hx'.drewN _)).mono ?_;rintro e w8 ⟨he8,rfl⟩;exact ⟨he8,⟨_,rfl⟩⟩) | (go_at_call 12;with_reducible refine (HH2.out _ (hx'.drewN _)).mono ?_;rintro e w8 ⟨he8,rfl⟩;exact ⟨he8,⟨_,rfl⟩⟩))
              go_wp2_with fail
              go_meet;exact ⟨by rw [HB.out];cases ds <;> rfl,hx'.drewN _⟩
           case rest=>
            obtain ⟨rfl,hE9⟩:=hcut;have hx9:Ext wn wc:=hEj.out.trans hE9
            cases bd with
            | true=>
             have HFF:Hid (R=false):=by
              (show _=_)
              have h:=HBD.out;rw [eq_comm,Bool.and_eq_true,Bool.and_eq_true] at h;obtain ⟨h1,h2,h3⟩:=h;rw [HF3.out];unfold wallB;rw [List.all_eq_false];refine ⟨x,HMS.out,?_⟩;rw [←HLE.out,Bool.not_eq_true,List.all_eq_false];exact ⟨y,HMB.out,by rw [←HFV.out,h1,h2];simpa using h3⟩
             go_wp2_with fail
             go_ret;exact ⟨zd HFF.out.symm,HW1.out.trans (HXN.out.trans hx9)⟩
            | false=>
             have hall':Hid ((L.take (j+1)).all (fun k=>!(ze m t k && !decide (k∈ch)) || decide (k∈s))=true):=by
              (show _=_)
              rw [HT2.out,List.all_append,hall.out,Bool.true_and,List.all_cons,List.all_nil,Bool.and_true,←HFV.out];have h:=HBD.out
              revert h
              cases fv <;> cases decide (y∈ch) <;> cases decide (y∈s) <;> simp
             go_wp2_with fail
             go_roundw
             case rel=>exact ⟨j+1,by omega,by go_num,hall',hx9⟩
             case measure=>simp [intOf];omega
          ·obtain rfl:j=L.length:=by omega
           have hok':Hid (∀n∈s.take (k+1),(zap m n).all (fun k=>!(ze m t k && !decide (k∈ch)) || decide (k∈s))=true):=fun n hn=>by
            rw [HT.out] at hn;rcases List.mem_append.1 hn with hn | hn
            ·exact hok.out n hn
            ·obtain rfl:n=x:=by simpa using hn
             rw [←HLE.out];have h:=hall.out
             rwa [List.take_length] at h
           have hx9:=zh (HSK.out.trans hEj.out);clear hx
           go_wp2_with fail
           go_roundw
           case rel=>exact ⟨k+1,by omega,by go_num,hok',hE.out.trans hx9.out⟩
           case measure=>simp [intOf];omega
        ·obtain rfl:k=s.length:=by omega
         have HFF:Hid (R=true):=by
          (show _=_)
          have h:=hok.out;rw [List.take_length] at h;rw [HF3.out];unfold wallB;rw [List.all_eq_true];exact h
         go_wp2_with fail
         go_ret;exact ⟨zd HFF.out.symm,HW1.out.trans hx⟩
end Go.Proofs.YthbjngbhbbkkgaaGreat
namespace Go.Proofs.YthbjngbhbbkkgaaGreat
open Go.RowKit
attribute [local go_sem ↓] Go.wp_at_zero Go.wp_at_succ
attribute [local go_sem] Oper.semAt_some
mutual
def PT.Lens:PT→Prop
 | .node _ s ks=>s.length≤20000000000000∧ks.length≤20000000000000∧PT.LensL ks
def PT.LensL:List PT→Prop
 | []=>True
 | k :: ks=>k.Lens∧PT.LensL ks
end
theorem lensL_mem:∀{ks:List PT},PT.LensL ks→∀k∈ks,k.Lens
 | [],_,k,hk=>by cases hk
 | a :: ks,h,k,hk=>by
  unfold PT.LensL at h;rcases List.mem_cons.1 hk with rfl | hk
  ·exact h.1
  ·exact lensL_mem h.2 k hk
theorem size_mem:∀{ks:List PT},∀k∈ks,k.size≤PT.sizeL ks
 | [],k,hk=>by cases hk
 | a :: ks,k,hk=>by
  unfold PT.sizeL;rcases List.mem_cons.1 hk with rfl | hk
  ·omega
  ·have:=size_mem k hk;omega
theorem with_calls29 {okc:Nat→Prop} {vc:Value} {ch:List Int} (n:Int) (w:World) (hch:zf w okc vc ch) (hl:ch.length≤1000000000):
  Calls Tryz.prog 98 #[vc,.int .i64 n] w fun e w'=>∃v',e=.returned v'∧Mk w w' v' (ch++[n]):=by
 have HCH:=zh hch;obtain ⟨A,c,rfl,hc,-⟩:=hch
 go_enter Tryz.func98,Tryz.ntmps98
 go_upto_region 1 with fail
 go_wp2_with (at_builtin;refine zaC (ok:=okc) rfl _ _ _ rfl w.heap.size [] ch _ _ rfl rfl (zce w w.heap.size (Nat.le_refl _)) (HCH.out.below ((Ext.refl w).alloc _)) (by simp) (by simp;omega) ?_)
 intro v1 w1 ho1 hg1 hat1;have hE1:Ext w w1:=zT ((Ext.refl w).alloc _) hg1 (by simp) (fun k hk=>za8 (zce w w.heap.size (Nat.le_refl _)) hk);have HO1:=zh ho1;obtain ⟨A1,n1,c1,rfl⟩:=zb0 ho1;have HE1:=zh hE1;have HS1:Hid (w.heap.size≤w1.heap.size):=hE1.size;clear ho1 hg1 hat1 hE1
 go_wp2_with (at_builtin;refine zaC (ok:=fun _=>True) rfl _ _ _ rfl w.heap.size ch [n] _ _ rfl rfl (HO1.out.ext ((Ext.refl w1).alloc (.cells #[.int .i64 n] 3))) (zcp (zm w1 (.int .i64 n) 3 rfl)) (by have:=HS1.out;simp;omega) (by simp;omega) ?_)
 intro v2 w2 ho2 hg2 hat2;have HM:Hid (Mk w w2 v2 (ch++[n])):=⟨ho2,zT (HE1.out.alloc _) hg2 (by have:=HS1.out;simp;omega) (fun k hk=>za8 HO1.out hk)⟩;clear ho2 hg2 hat2
 go_wp2_with fail
 go_ret;exact ⟨_,rfl,HM.out⟩
theorem sizeL_app:∀(a b:List PT),PT.sizeL (a++b)=PT.sizeL a+PT.sizeL b
 | [],b=>by simp [PT.sizeL]
 | k :: a,b=>by
  rw [List.cons_append];simp only [PT.sizeL,sizeL_app a b];omega
theorem kidsAt {w:World} {ok:Nat→Prop} {A:Option Addr} {n k:Nat} {cs:List Value} (h:zY w ok 3 A n cs) (hk:k<n):∃b off,A=some ⟨b,off,none⟩∧w.cell? ⟨b,off+k*3,none⟩=some (cs.getD (k*3) undef)∧w.cell? ⟨b,off+k*3+1,none⟩=some (cs.getD (k*3+1) undef)∧w.cell? ⟨b,off+k*3+2,none⟩=some (cs.getD (k*3+2) undef):=by
 obtain ⟨hl,hc⟩:=h;obtain ⟨b,off,rfl,-,hc⟩:=hc (by omega);have hg:∀j,j<cs.length→cs[j]?=some (cs.getD j undef):=fun j hj=>by rw [List.getD_eq_getElem?_getD,List.getElem?_eq_getElem hj];rfl
 exact ⟨b,off,rfl,hc _ _ (hg _ (by omega)),by rw [Nat.add_assoc];exact hc _ _ (hg _ (by omega)),by rw [Nat.add_assoc];exact hc _ _ (hg _ (by omega))⟩
theorem vsize_calls:∀(N:Nat) {ok:Nat→Prop} {v:Value} {p:PT} (w:World),PrV w ok v p→p.size≤N→p.Lens→N≤4000000000000000000→
  Calls Tryz.prog 70 #[v] w fun e w'=>e=.returned (.int .i64 p.size)∧Ext w w'
 | 0,ok,v,.node t s ks,w,h,hN,_,_=>by unfold PT.size at hN;omega
 | N+1,ok,v,.node t s ks,w,h,hN,hl,hN2=>by
  have IH:Hid (∀(ok:Nat→Prop) (v:Value) (p:PT) (w:World),PrV w ok v p→p.size≤N→p.Lens→N≤4000000000000000000→Calls Tryz.prog 70 #[v] w fun e w'=>e=.returned (.int .i64 p.size)∧Ext w w'):=fun ok v p w=>vsize_calls N w
  cases h with
  | mk hs hk he=>
   rename_i vs vk cs
   obtain ⟨As,cs',rfl,-,-⟩:=hs;obtain ⟨Ak,ck,rfl,hck,hrk⟩:=hk;have HRK:=zh hrk;have HEK:=zh he;unfold PT.Lens at hl;obtain ⟨hl1,hl2,hl3⟩:=hl;have HL3:=zh (lensL_mem hl3);have HSM:Hid (∀k∈ks,k.size≤PT.sizeL ks):=size_mem;unfold PT.size at hN⊢;clear hrk he hl3
   go_enter Tryz.func70,Tryz.ntmps70
   go_upto_region 1 with fail;obtain ⟨hb1,p0,p1,p2⟩:=box3 w (.int .i64 t) (.slice As s.length cs') (.slice Ak ks.length ck);generalize w.alloc (.cells #[.int .i64 t,.slice As s.length cs',.slice Ak ks.length ck] 37)=w1 at hb1 p0 p1 p2⊢;obtain ⟨gp,hgp⟩:∃gp,gp=w.heap.size:=⟨_,rfl⟩;rw [←hgp] at p0 p1 p2⊢;have HW1:=zh hb1;have HX1:=zh (Ext.refl w1);clear hb1 hgp
   go_wp2_with fail
   go_loopw [3,4] (fun n i wr=>∃k:Nat,k≤ks.length∧i=.int .i64 k∧n=.int .i64 ((1+PT.sizeL (ks.take k):Nat):Int)∧Hid (Ext w1 wr)) (fun _ i _=>ks.length - (intOf i).toNat)
   case atStart=>exact ⟨0,Nat.zero_le _,rfl,rfl,HX1.out⟩
   case round=>
    obtain ⟨k,hk,rfl,rfl,hE⟩:=hrel;obtain ⟨wk,rfl⟩:∃wk:World,wk=wr:=⟨_,rfl⟩;have hx:Ext w1 wk:=hE.out;by_cases hlt:k<ks.length
    ·have hltI:(k:Int)<(ks.length:Int):=by omega
     have kk0:(0:Int)≤(k:Int):=by omega
     obtain ⟨b,off,rfl,h0,h1,h2⟩:=kidsAt HRK.out hlt;have q0:=Ext.rule (HW1.out.cell h0);have q1:=Ext.rule (HW1.out.cell h1);have q2:=Ext.rule (HW1.out.cell h2);have hpk:=HEK.out k hlt
     have HSZ:Hid (PT.sizeL (ks.take (k+1))=PT.sizeL (ks.take k)+(ks[k]).size):=by
      (show _=_)
      rw [List.take_succ_eq_append_getElem hlt,sizeL_app];simp [PT.sizeL]
     have HTL:Hid (PT.sizeL (ks.take (k+1))≤PT.sizeL ks):=by
      (show _≤_)
      conv=>rhs;rw [←List.take_append_drop (k+1) ks,sizeL_app]
      omega
     have HIK:=zh (IH.out _ _ _ wk (hpk.ext (HW1.out.trans hx)) (by have:=HSM.out _ (List.getElem_mem hlt);omega) (HL3.out _ (List.getElem_mem hlt)) (by omega));obtain ⟨z,hz⟩:∃z,z=(ks[k]).size:=⟨_,rfl⟩;rw [←hz] at HSZ HIK;obtain ⟨y,hy⟩:∃y,y=PT.sizeL (ks.take k):=⟨_,rfl⟩;rw [←hy] at HSZ⊢;have hb:1+y+z≤4000000000000000000:=by have h1:=HSZ.out;have h2:=HTL.out;omega
     clear h0 h1 h2 hpk hz hy
     go_wp2_with fail
     refine HIK.out.mono ?_;rintro e w9 ⟨rfl,hE9⟩;have HX9:=zh (hx.trans hE9);clear hE9;have hw1:IntKind.i64.wrap (((1+y:Nat):Int)+(z:Int))=((1+y:Nat):Int)+(z:Int):=by rw [IntKind.wrap_i64];omega
     go_wp2_with fail
     go_roundw
     case rel=>exact ⟨k+1,by omega,by go_num,by rw [HSZ.out];congr 1;omega,HX9.out⟩
     case measure=>simp [intOf];omega
    ·obtain rfl:k=ks.length:=by omega
     go_wp2_with fail
     go_ret;exact ⟨by rw [List.take_length];rfl,HW1.out.trans hx⟩
theorem holdsT_node {m:MZ} {t:Int} {s:List Int} {ks:List PT} {ch:List Int} (h:¬ m.tasks.length≤zO m ch):zaI m (.node t s ks) ch=if t≠zO m ch∨s≠[] then cutB m ch t s ks.length else zaH m ks ch (zM m ch):=by
 unfold zaI;rw [if_neg h]
theorem holdsL_len {m:MZ} {ch:List Int}:∀{ks:List PT} {l:List Int},ks.length≠l.length→zaH m ks ch l=false
 | [],[],h=>absurd rfl h
 | k :: ks,n :: l,h=>by
  unfold zaH;rw [holdsL_len (by simpa using h),Bool.and_false]
 | [],_ :: _,_=>by unfold zaH;rfl
 | _ :: _,[],_=>by unfold zaH;rfl
theorem holdsL_drop {m:MZ} {ch:List Int} {ks:List PT} {l:List Int} {k:Nat} (h1:k<ks.length) (h2:k<l.length):zaH m (ks.drop k) ch (l.drop k)=(zaI m ks[k] (ch++[l[k]]) && zaH m (ks.drop (k+1)) ch (l.drop (k+1))):=by
 rw [List.drop_eq_getElem_cons h1,List.drop_eq_getElem_cons h2]
 conv=>lhs;unfold zaH
theorem holdsT_done {m:MZ} {p:PT} {ch:List Int} (h:m.tasks.length≤zO m ch):zaI m p ch=false:=by
 cases p
 unfold zaI;rw [if_pos h]
theorem vholds_calls {m:MZ} (hl:Lens m) (hc:chk m=0):∀(N:Nat) (ok okc okp:Nat→Prop) (v vc vp:Value) (ch:List Int) (p:PT) (w:World),zr w ok v m→zf w okc vc ch→zu m ch→¬ m.tasks.length≤zO m ch→PrV w okp vp p→p.size≤N→p.Lens→
  Calls Tryz.prog 71 #[v,vc,vp] w fun e w'=>e=.returned (.bool (zaI m p ch))∧Ext w w'
 | 0,ok,okc,okp,v,vc,vp,ch,.node t s ks,w,_,_,_,_,_,hN,_=>by unfold PT.size at hN;omega
 | N+1,ok,okc,okp,v,vc,vp,ch,.node tk s ks,w,hm,hch,hi,hnc,hp,hN,hpl=>by
  have IH:=zh (vholds_calls hl hc N);have HM:=zh hm;have HL:=zh hl;have HC:=zh hc;have HI:=zh hi;have HCH:=zh hch;have HP:=zh hp;have HPL:=zh (zaq hc hi);have HNC:=zh hnc;have HCT:=zh (curT_le hc hi);obtain ⟨Af,cf,Au,cu,At,ct,rfl,-,-,-⟩:=hm.parts;obtain ⟨Ac,cc,rfl,-,-⟩:=hch;have htl:=hl.ts;obtain ⟨R,hR⟩:∃R,R=zaI m (.node tk s ks) ch:=⟨_,rfl⟩;rw [←hR];rw [holdsT_node hnc] at hR;have HRR:=zh hR;have HPLE:=zh hpl;unfold PT.Lens at hpl;obtain ⟨hps,hpk,hp3⟩:=hpl;have HP3:=zh (lensL_mem hp3);have HSM:Hid (∀k∈ks,k.size≤PT.sizeL ks):=size_mem;unfold PT.size at hN
  cases hp with
  | mk hs hk he=>
   rename_i vs vk cs
   obtain ⟨As,cs',rfl,-,-⟩:=hs;obtain ⟨Ak,ck,rfl,hck,hrk⟩:=hk;have HRK:=zh hrk;have HEK:=zh he;clear hm hl hc hi hnc hR hp3 hrk he;obtain ⟨c,hcc⟩:∃c,c=zO m ch:=⟨_,rfl⟩;have HCU:=zh hcc;rw [←hcc] at HRR;clear hcc
   go_enter Tryz.func71,Tryz.ntmps71
   go_upto_region 1 with fail;obtain ⟨hb1,r0,r1,r2,r3,r4,r5⟩:=box6 w (.int .i64 m.w) (.int .i64 m.h) (.int .i64 m.l) (.slice Af m.free.length cf) (.slice Au m.up.length cu) (.slice At m.tasks.length ct);have hs0:(w.alloc (.cells #[.int .i64 m.w,.int .i64 m.h,.int .i64 m.l,.slice Af m.free.length cf,.slice Au m.up.length cu,.slice At m.tasks.length ct] 32)).heap.size=w.heap.size+1:=by simp
   generalize w.alloc (.cells #[.int .i64 m.w,.int .i64 m.h,.int .i64 m.l,.slice Af m.free.length cf,.slice Au m.up.length cu,.slice At m.tasks.length ct] 32)=w0 at hb1 r0 r1 r2 r3 r4 r5 hs0⊢;obtain ⟨hb2,p0,p1,p2⟩:=box3 w0 (.int .i64 tk) (.slice As s.length cs') (.slice Ak ks.length ck);generalize w0.alloc (.cells #[.int .i64 tk,.slice As s.length cs',.slice Ak ks.length ck] 37)=w1 at hb2 p0 p1 p2⊢;rw [hs0] at p0 p1 p2;obtain ⟨gm,hgm⟩:∃gm,gm=w.heap.size:=⟨_,rfl⟩;rw [←hgm] at r0 r1 r2 r3 r4 r5 p0 p1 p2⊢;have HB2:=zh hb2;have HW1:=zh (hb1.trans hb2);have r0:=fun W h=>r0 W (HB2.out.trans h)
   have r1:=fun W h=>r1 W (HB2.out.trans h)
   have r2:=fun W h=>r2 W (HB2.out.trans h)
   have r3:=fun W h=>r3 W (HB2.out.trans h)
   have r4:=fun W h=>r4 W (HB2.out.trans h)
   have r5:=fun W h=>r5 W (HB2.out.trans h)
   clear hgm hb1 hb2 hs0;have hx:Ext w1 w1:=Ext.refl w1
   go_wp2_with fail
   refine (zcP w1 (HM.out.below HW1.out) HL.out (HCH.out.below HW1.out) (by have:=HPL.out;omega)).mono ?_;rintro e w2 ⟨vpp,rfl,hE2,hpps⟩;have HPS:=zh hpps;have hx2:Ext w1 w2:=hE2;obtain ⟨_,⟨App,cpp,rfl,-,-⟩,-⟩:=hpps
   have HV:Hid (∀W,Ext w2 W→Calls Tryz.prog 95 #[.agg #[.int .i64 m.w,.int .i64 m.h,.int .i64 m.l,.slice Af m.free.length cf,.slice Au m.up.length cu,.slice At m.tasks.length ct],.slice App (zn m ch).length cpp] W fun e w'=>e=.returned (.int .i64 c)∧Ext W w'):=fun W hW=>by
    rw [HCU.out];exact zcv W (HM.out.below ((HW1.out.trans hE2).trans hW)) HL.out (HPS.out.below hW) HPL.out.1 (fun x hx=>by have:=(HPL.out.2.2.2 x hx).2;omega)
   clear hE2 hx;obtain ⟨PL,hPLL⟩:∃PL,PL=(zn m ch).length:=⟨_,rfl⟩;rw [←hPLL] at HV HPS⊢;clear hPLL;have hy:Ext w2 w2:=Ext.refl w2;go_upto_region 2 with fail;obtain ⟨bq,hbq⟩:∃bq:Bool,bq=decide (tk≠(c:Int)∨s≠[]):=⟨_,rfl⟩;have HBQ0:=zh hbq;clear hbq;go_cut [29] (fun v wx=>v=.bool bq∧Ext w2 wx)
   case first=>
    by_cases hkc:tk=(c:Int)
    ·have hd:(tk != (c:Int))=false:=by rw [hkc];simp
     have HBQ:Hid (bq=decide (0<s.length)):=by
      (show _=_)
      rw [HBQ0.out,decide_eq_decide];constructor
      ·rintro (h | h)
       ·exact absurd hkc h
       ·exact List.length_pos_iff.2 h
      ·intro h;exact .inr (List.length_pos_iff.1 h)
     clear hkc;refine wp_region_held_drew (S:=(fun W=>Ext w1 W∧Ext w2 W)) zS (⟨hx2.drew,hy.drew⟩) (fun zH=>?_);have hHd:Ext w1 w2.drew∧Ext w2 w2.drew:=zH;generalize w2.drew=wd at zH hHd⊢;refine rtT 0 zH ?_;simp only [za,Act.put];refine rtT 1 zH ?_;simp only [za,Act.put];refine rtT 2 zH ?_;simp only [za,Act.put];refine rtT 3 zH ?_;simp only [za,Act.put];refine rtR 4 (fun K hK=>?_);go_simp;go_at_call 95;refine (HV.out _ zH.2).mono ?_;rintro e w9 ⟨rfl,hE9⟩;go_simp;refine hK.out _ _ (⟨zH.1.trans hE9,zH.2.trans hE9⟩) (fun zH=>?_);clear hK K;try simp only [za,Act.put]
     refine rtT 5 zH ?_;simp only [za,Act.put];refine rtT 6 zH ?_;simp only [za,Act.put];refine rtT 7 zH ?_;simp only [za,Act.put];refine rtT 8 zH ?_;simp only [za,Act.put];refine rtT 9 zH ?_;simp only [za,Act.put];refine rtT 10 zH ?_;simp only [za,Act.put];refine rtT 11 zH ?_;simp only [za,Act.put];refine wpAnyH_done (by kernel_rfl) ?_ _;go_wp2;go_meet;exact ⟨by rw [HBQ.out],hHd.2.trans hE9⟩
    ·have hd:(tk != (c:Int))=true:=by rw [bne_iff_ne];exact hkc
     have HBQ:Hid (bq=true):=by (show _=_);rw [HBQ0.out];exact decide_eq_true (.inl hkc)
     clear hkc;refine wp_region_held_drew (S:=(fun W=>Ext w1 W∧Ext w2 W)) zS (⟨hx2.drew,hy.drew⟩) (fun zH=>?_);have hHd:Ext w1 w2.drew∧Ext w2 w2.drew:=zH;generalize w2.drew=wd at zH hHd⊢;refine rtT 0 zH ?_;simp only [za,Act.put];refine rtT 1 zH ?_;simp only [za,Act.put];refine rtT 2 zH ?_;simp only [za,Act.put];refine rtT 3 zH ?_;simp only [za,Act.put];refine rtR 4 (fun K hK=>?_);go_simp;go_at_call 95;refine (HV.out _ zH.2).mono ?_;rintro e w9 ⟨rfl,hE9⟩;go_simp;refine hK.out _ _ (⟨zH.1.trans hE9,zH.2.trans hE9⟩) (fun zH=>?_);clear hK K;try simp only [za,Act.put]
     refine rtT 5 zH ?_;simp only [za,Act.put];refine rtT 6 zH ?_;simp only [za,Act.put];refine rtN 7 zH ?_;simp only [za,Act.put];refine rtN 8 zH ?_;simp only [za,Act.put];refine rtN 9 zH ?_;simp only [za,Act.put];refine rtN 10 zH ?_;simp only [za,Act.put];refine rtT 11 zH ?_;simp only [za,Act.put];refine wpAnyH_done (by kernel_rfl) ?_ _;go_wp2;go_meet;exact ⟨by rw [HBQ.out],hHd.2.trans hE9⟩
   case rest=>
    obtain ⟨rfl,hE9⟩:=hcut;obtain ⟨wq,rfl⟩:∃wq:World,wq=wc:=⟨_,rfl⟩;have hx:Ext w1 wq:=hx2.trans hE9;clear hx2 hy hE9 HV
    cases bq with
    | true=>
     have hb:=of_decide_eq_true HBQ0.out.symm;have HF:Hid (R=cutB m ch tk s ks.length):=by (show _=_);rw [HRR.out,if_pos hb]
     clear hb
     go_wp2_with fail
     refine (vcut_calls wq (HM.out.below (HW1.out.trans hx)) HL.out HC.out (HCH.out.below (HW1.out.trans hx)) HI.out (HP.out.ext (HW1.out.trans hx)) hps).mono ?_;rintro e w4 ⟨rfl,hE4⟩
     go_wp2_with fail
     go_ret;exact ⟨zd HF.out.symm,(HW1.out.trans hx).trans hE4⟩
    | false=>
     have hb:=of_decide_eq_false HBQ0.out.symm;have HF:Hid (R=zaH m ks ch (zM m ch)):=by (show _=_);rw [HRR.out,if_neg hb]
     clear hb
     go_wp2_with fail
     refine (qCandidates_calls wq (HM.out.below (HW1.out.trans hx)) HL.out (HCH.out.below (HW1.out.trans hx)) (by have:=HPL.out;omega)).mono ?_;rintro e w4 ⟨vl,rfl,hM4⟩;have HI4:=zh hM4.ints;have hx4:Ext w1 w4:=hx.trans hM4.ext;have HCO:Hid (zM m ch=cand m ch):=by (show _=_);unfold zM;rw [if_pos (okC_of HC.out HI.out)]
     have HLI:Hid (∀n∈zM m ch,zu m (ch++[n])):=fun n hn=>by
      rw [HCO.out] at hn;exact .snoc HI.out hn
     have hLL:(zM m ch).length≤400000000000:=by rw [HCO.out];exact zbR HL.out ch
     obtain ⟨L,hL⟩:∃L,L=zM m ch:=⟨_,rfl⟩;rw [←hL] at HI4 HF HLI hLL;obtain ⟨AL,cL,rfl,-,hrl⟩:=HI4.out;have HRL:=zh hrl;have HX4:=zh hx4;clear hM4 hx hL hrl HCO;by_cases hne:L.length=ks.length
     ·have hd:((L.length:Int) != (ks.length:Int))=false:=by rw [hne];simp
      have HNE:=zh hne;clear hne;have HX41:=zh (Ext.refl w4)
      go_wp2_with fail
      clear hx4;go_loopw [10] (fun i wr=>∃j:Nat,j≤L.length∧i=.int .i64 j∧Hid (R=zaH m (ks.drop j) ch (L.drop j))∧Hid (Ext w4 wr)) (fun i _=>L.length - (intOf i).toNat)
      case atStart=>exact ⟨0,Nat.zero_le _,rfl,HF.out,HX41.out⟩
      case round=>
       obtain ⟨j,hj,rfl,hr,hE⟩:=hrel;obtain ⟨wj,rfl⟩:∃wj:World,wj=wr:=⟨_,rfl⟩;have hx:Ext w1 wj:=HX4.out.trans hE.out;by_cases hlt:j<L.length
       ·have hltI:(j:Int)<(L.length:Int):=by omega
        have kk0:(0:Int)≤(j:Int):=by omega
        have hltk:j<ks.length:=by rw [←HNE.out];exact hlt
        have hltkI:(j:Int)<(ks.length:Int):=by omega
        obtain ⟨bl,offl,rfl,-,hcl0⟩:=zt HRL.out hlt hlt;have hcl:wj.cell? ⟨bl,offl+j,none⟩=some (.int .i64 L[j]):=hE.out.cell hcl0;have HIN:Hid (zu m (ch++[L[j]])):=HLI.out _ (List.getElem_mem hlt);have HDR:=zh (holdsL_drop (m:=m) (ch:=ch) hltk hlt);obtain ⟨b,off,rfl,h0,h1,h2⟩:=kidsAt HRK.out hltk;have q0:=Ext.rule (HW1.out.cell h0);have q1:=Ext.rule (HW1.out.cell h1);have q2:=Ext.rule (HW1.out.cell h2);have HPK:=zh (HEK.out j hltk);have HKL:Hid ((ks[j]).Lens∧(ks[j]).size≤N):=⟨HP3.out _ (List.getElem_mem hltk),by have:=HSM.out _ (List.getElem_mem hltk);omega⟩;obtain ⟨n,hn⟩:∃n,n=L[j]:=⟨_,rfl⟩;obtain ⟨kd,hkd⟩:∃kd,kd=ks[j]:=⟨_,rfl⟩;rw [←hn] at hcl HIN HDR;rw [←hkd] at HDR HPK HKL;clear hcl0 h0 h1 h2 hn hkd
        go_wp2_with fail
        refine (with_calls29 n wj (HCH.out.below (HW1.out.trans hx)) (by have:=HPL.out;omega)).mono ?_;rintro e w6 ⟨v6,rfl,hM6⟩;have HI6:=zh hM6.ints;have hx6:Ext w1 w6:=hx.trans hM6.ext;have hy6:Ext w6 w6:=Ext.refl w6;have HE6:Hid (Ext w4 w6):=hE.out.trans hM6.ext;obtain ⟨A6,c6,rfl,-⟩:=hM6.slice;obtain ⟨cb,hcb⟩:∃cb,cb=decide (m.tasks.length≤zO m (ch++[n])):=⟨_,rfl⟩
        have HVC:Hid (∀W,Ext w6 W→Calls Tryz.prog 99 #[.agg #[.int .i64 m.w,.int .i64 m.h,.int .i64 m.l,.slice Af m.free.length cf,.slice Au m.up.length cu,.slice At m.tasks.length ct],.slice A6 (ch++[n]).length c6] W fun e w'=>e=.returned (.bool cb)∧Ext W w'):=fun W hW=>by
         rw [hcb];exact vComplete_calls W (HM.out.below (HW1.out.trans (hx6.trans hW))) HL.out HC.out (HI6.out.below hW) HIN.out
        obtain ⟨hb,hhb⟩:∃hb,hb=zaI m kd (ch++[n]):=⟨_,rfl⟩
        have HVH:Hid (cb=false→∀W,Ext w6 W→Calls Tryz.prog 71 #[.agg #[.int .i64 m.w,.int .i64 m.h,.int .i64 m.l,.slice Af m.free.length cf,.slice Au m.up.length cu,.slice At m.tasks.length ct],.slice A6 (ch++[n]).length c6,.agg #[cs.getD (j*3) undef,cs.getD (j*3+1) undef,cs.getD (j*3+2) undef]] W fun e w'=>e=.returned (.bool hb)∧Ext W w'):=fun hcf W hW=>by
         rw [hhb];rw [hcb] at hcf;exact IH.out _ _ _ _ _ _ _ _ W (HM.out.below (HW1.out.trans (hx6.trans hW))) (HI6.out.below hW) HIN.out (of_decide_eq_false hcf) (HPK.out.ext (HW1.out.trans (hx6.trans hW))) HKL.out.2 HKL.out.1
        have HHB:Hid (cb=true→hb=false):=fun h=>by
         rw [hcb] at h;rw [hhb];exact holdsT_done (of_decide_eq_true h)
        rw [←hhb] at HDR;clear hM6 hcb hhb hx hcl;obtain ⟨N6,hN6⟩:∃N6,N6=(ch++[n]).length:=⟨_,rfl⟩;rw [←hN6] at HVC HVH⊢;clear hN6;go_upto_region 11 with fail;go_cut [68] (fun v wx=>v=.bool (!hb)∧Ext w6 wx)
        case first=>
         cases cb with
         | true=>
          have HBF:Hid (hb=false):=HHB.out rfl;refine wp_region_held_drew (S:=(fun W=>Ext w1 W∧Ext w6 W)) zS (⟨hx6.drew,hy6.drew⟩) (fun zH=>?_);have hHd:Ext w1 w6.drew∧Ext w6 w6.drew:=zH;generalize w6.drew=wd at zH hHd⊢;refine rtT 0 zH ?_;simp only [za,Act.put];refine rtT 1 zH ?_;simp only [za,Act.put];refine rtR 2 (fun K hK=>?_);go_simp;go_at_call 99;refine (HVC.out _ zH.2).mono ?_;rintro e w9 ⟨rfl,hE9⟩;go_simp;refine hK.out _ _ (⟨zH.1.trans hE9,zH.2.trans hE9⟩) (fun zH=>?_);clear hK K;try simp only [za,Act.put]
          refine rtT 3 zH ?_;simp only [za,Act.put];refine rtN 4 zH ?_;simp only [za,Act.put];refine rtN 5 zH ?_;simp only [za,Act.put];refine rtN 6 zH ?_;simp only [za,Act.put];refine rtN 7 zH ?_;simp only [za,Act.put];refine rtN 8 zH ?_;simp only [za,Act.put];refine rtN 9 zH ?_;simp only [za,Act.put];refine rtN 10 zH ?_;simp only [za,Act.put];refine rtN 11 zH ?_;simp only [za,Act.put];refine rtN 12 zH ?_;simp only [za,Act.put];refine rtT 13 zH ?_;simp only [za,Act.put];refine wpAnyH_done (by kernel_rfl) ?_ _;go_wp2;go_meet;exact ⟨by rw [HBF.out];rfl,hHd.2.trans hE9⟩
         | false=>
          have HVH:=zh (HVH.out rfl);refine wp_region_held_drew (S:=(fun W=>Ext w1 W∧Ext w6 W)) zS (⟨hx6.drew,hy6.drew⟩) (fun zH=>?_);have hHd:Ext w1 w6.drew∧Ext w6 w6.drew:=zH;generalize w6.drew=wd at zH hHd⊢;refine rtT 0 zH ?_;simp only [za,Act.put];refine rtT 1 zH ?_;simp only [za,Act.put];refine rtR 2 (fun K hK=>?_);go_simp;go_at_call 99;refine (HVC.out _ zH.2).mono ?_;rintro e w9 ⟨rfl,hE9⟩;go_simp;refine hK.out _ _ (⟨zH.1.trans hE9,zH.2.trans hE9⟩) (fun zH=>?_);clear hK K;try simp only [za,Act.put]
          refine rtT 3 zH ?_;simp only [za,Act.put];refine rtT 4 zH ?_;simp only [za,Act.put];refine rtT 5 zH ?_;simp only [za,Act.put];refine rtT 6 zH ?_;simp only [za,Act.put];refine rtT 7 zH ?_;simp only [za,Act.put];refine rtT 8 zH ?_;simp only [za,Act.put];refine rtT 9 zH ?_;simp only [za,Act.put];refine rtT 10 zH ?_;simp only [za,Act.put];refine rtR 11 (fun K hK=>?_);go_simp;go_at_call 71;refine (HVH.out _ zH.2).mono ?_;rintro e w10 ⟨rfl,hE10⟩;go_simp;refine hK.out _ _ (⟨zH.1.trans hE10,zH.2.trans hE10⟩) (fun zH=>?_);clear hK K;try simp only [za,Act.put]
          refine rtT 12 zH ?_;simp only [za,Act.put];refine rtT 13 zH ?_;simp only [za,Act.put];refine wpAnyH_done (by kernel_rfl) ?_ _;go_wp2;go_meet;exact ⟨by first | rfl | simp,(hHd.2.trans hE9).trans hE10⟩
        case rest=>
         obtain ⟨rfl,hE9⟩:=hcut;have hx9:Ext w4 wc:=HE6.out.trans hE9
         cases hb with
         | false=>
          have HFF:Hid (R=false):=by (show _=_);rw [hr.out,HDR.out,Bool.false_and]
          go_wp2_with fail
          go_ret;exact ⟨zd HFF.out.symm,HW1.out.trans (HX4.out.trans hx9)⟩
         | true=>
          have hr':Hid (R=zaH m (ks.drop (j+1)) ch (L.drop (j+1))):=by (show _=_);rw [hr.out,HDR.out,Bool.true_and]
          go_wp2_with fail
          go_roundw
          case rel=>exact ⟨j+1,by omega,by go_num,hr',hx9⟩
          case measure=>simp [intOf];omega
       ·obtain rfl:j=L.length:=by omega
        have HFF:Hid (R=true):=by
         (show _=_)
         rw [hr.out,List.drop_length,HNE.out,List.drop_length];unfold zaH;rfl
        go_wp2_with fail
        go_ret;exact ⟨zd HFF.out.symm,HW1.out.trans hx⟩
     ·have hd:((L.length:Int) != (ks.length:Int))=true:=by rw [bne_iff_ne];omega
      have HFF:Hid (R=false):=by (show _=_);rw [HF.out];exact holdsL_len (fun h=>hne h.symm)
      clear hne
      go_wp2_with fail
      go_ret;exact ⟨zd HFF.out.symm,HW1.out.trans hx4⟩
theorem pathsO_nil {m:MZ} (hc:chk m=0):zn m []=[]:=by
 unfold zn;rw [if_pos (okC_of hc zu.nil)];rw [List.filter_eq_nil_iff];intro x hx;have h1:=(zu.nil (m:=m)).psOk;have h3:=flat_le hx;rw [h1.fl] at h3;have:x.length=0:=by simpa using h3
 simp [this]
theorem curT_nil {m:MZ} (hc:chk m=0):zO m []=0:=by
 unfold zO;rw [pathsO_nil hc]
 all_goals rfl
theorem vCheck_calls {ok okp:Nat→Prop} {v vp:Value} {m:MZ} {p:PT} (w:World) (hm:zr w ok v m) (hl:Lens m) (hp:PrV w okp vp p) (hpl:p.Lens) (hps:p.size≤4000000000000000000):
  Calls Tryz.prog 35 #[v,vp] w fun e w'=>e=.returned (.bool (zaT m p))∧Ext w w':=by
 have HM:=zh hm;have HL:=zh hl;have HP:=zh hp;have HPL:=zh hpl;have HPS:=zh hps;obtain ⟨Af,cf,Au,cu,At,ct,rfl,-,-,-⟩:=hm.parts;obtain ⟨As,cs,Ak,ck,rfl,-⟩:=hp.form;have htl:=hl.ts;clear hm hl hp hpl;obtain ⟨R,hR⟩:∃R,R=zaT m p:=⟨_,rfl⟩;rw [←hR];have HR:=zh hR;clear hR
 go_enter Tryz.func35,Tryz.ntmps35
 go_upto_region 1 with fail;obtain ⟨hb1,r0,r1,r2,r3,r4,r5⟩:=box6 w (.int .i64 m.w) (.int .i64 m.h) (.int .i64 m.l) (.slice Af m.free.length cf) (.slice Au m.up.length cu) (.slice At m.tasks.length ct);have hs0:(w.alloc (.cells #[.int .i64 m.w,.int .i64 m.h,.int .i64 m.l,.slice Af m.free.length cf,.slice Au m.up.length cu,.slice At m.tasks.length ct] 32)).heap.size=w.heap.size+1:=by simp
 generalize w.alloc (.cells #[.int .i64 m.w,.int .i64 m.h,.int .i64 m.l,.slice Af m.free.length cf,.slice Au m.up.length cu,.slice At m.tasks.length ct] 32)=w0 at hb1 r0 r1 r2 r3 r4 r5 hs0⊢;obtain ⟨hb2,p0,p1,p2⟩:=box3 w0 (.int .i64 p.task) (.slice As p.side.length cs) (.slice Ak p.kids.length ck);generalize w0.alloc (.cells #[.int .i64 p.task,.slice As p.side.length cs,.slice Ak p.kids.length ck] 37)=w1 at hb2 p0 p1 p2⊢;rw [hs0] at p0 p1 p2;obtain ⟨gm,hgm⟩:∃gm,gm=w.heap.size:=⟨_,rfl⟩;rw [←hgm] at r0 r1 r2 r3 r4 r5 p0 p1 p2⊢;have HB2:=zh hb2;have HW1:=zh (hb1.trans hb2);have r0:=fun W h=>r0 W (HB2.out.trans h)
 have r1:=fun W h=>r1 W (HB2.out.trans h)
 have r2:=fun W h=>r2 W (HB2.out.trans h)
 have r3:=fun W h=>r3 W (HB2.out.trans h)
 have r4:=fun W h=>r4 W (HB2.out.trans h)
 have r5:=fun W h=>r5 W (HB2.out.trans h)
 clear hgm hb1 hb2 hs0;have hx:Ext w1 w1:=Ext.refl w1
 go_wp2_with fail
 refine (zca w1 (HM.out.below HW1.out) HL.out).mono ?_;rintro e w2 ⟨rfl,hE2⟩;clear hx;have hx:Ext w1 w2:=hE2;obtain ⟨ck0,hck0⟩:∃c,c=chk m:=⟨_,rfl⟩;rw [←hck0];have HCK:=zh hck0;clear hE2 hck0;by_cases h0:ck0=0
 ·subst h0;have HC:Hid (chk m=0):=HCK.out.symm;by_cases h1:0<m.tasks.length
  ·have h1I:(0:Int)<(m.tasks.length:Int):=by omega
   have HNC:Hid (¬ m.tasks.length≤zO m []):=by (show ¬ _);rw [curT_nil HC.out];omega
   go_wp2_with fail
   refine (vsize_calls 4000000000000000000 w2 (HP.out.ext (HW1.out.trans hx)) HPS.out HPL.out (Nat.le_refl _)).mono ?_;rintro e w3 ⟨rfl,hE3⟩;have hx:Ext w1 w3:=hx.trans hE3;obtain ⟨z,hz⟩:∃z,z=p.size:=⟨_,rfl⟩;rw [←hz];have HZ:=zh hz;clear hz hE3;by_cases h2:z≤3000
   ·have h2I:(z:Int)≤3000:=by omega
    go_wp2_with fail
    refine (vholds_calls HL.out HC.out 4000000000000000000 _ _ _ _ _ _ _ _ w3 (HM.out.below (HW1.out.trans hx)) (zf.nil _ (fun _=>True)) zu.nil HNC.out (HP.out.ext (HW1.out.trans hx)) HPS.out HPL.out).mono ?_;rintro e w4 ⟨rfl,hE4⟩;have HF:Hid (R=zaI m p []):=by (show _=_);rw [HR.out];unfold zaT;rw [decide_eq_true HC.out,decide_eq_true h1,←HZ.out,decide_eq_true h2];rfl
    go_wp2_with fail
    go_ret;exact ⟨zd HF.out.symm,(HW1.out.trans hx).trans hE4⟩
   ·have h2I:¬ ((z:Int)≤3000):=by omega
    have HF:Hid (R=false):=by (show _=_);rw [HR.out];unfold zaT;rw [←HZ.out,decide_eq_false h2];simp
    go_wp2_with fail
    go_ret;exact ⟨zd HF.out.symm,HW1.out.trans hx⟩
  ·have h1I:¬ ((0:Int)<(m.tasks.length:Int)):=by omega
   have h1N:m.tasks.length=0:=by omega
   have HF:Hid (R=false):=by (show _=_);rw [HR.out];unfold zaT;rw [decide_eq_false h1];simp
   clear h1N
   go_wp2_with fail
   go_ret;exact ⟨zd HF.out.symm,HW1.out.trans hx⟩
 ·have hq1:(ck0==0)=false:=by rw [beq_eq_false_iff_ne];exact h0
  have HF:Hid (R=false):=by (show _=_);rw [HR.out];unfold zaT;rw [decide_eq_false (by rw [←HCK.out];exact h0)];rfl
  clear h0
  go_wp2_with fail
  go_ret;exact ⟨zd HF.out.symm,HW1.out.trans hx⟩
end Go.Proofs.YthbjngbhbbkkgaaGreat
namespace Go.Proofs.YthbjngbhbbkkgaaGreat
open Go.RowKit
mutual
def lensB:PT→Bool
 | .node _ s ks=>decide (s.length≤20000000000000) && (decide (ks.length≤20000000000000) && lensLB ks)
def lensLB:List PT→Bool
 | []=>true
 | k :: ks=>lensB k && lensLB ks
end
mutual
theorem lens_ofB:∀(p:PT),lensB p=true→p.Lens
 | .node _ s ks,h=>by
  unfold lensB at h;simp only [Bool.and_eq_true,decide_eq_true_eq] at h;unfold PT.Lens;exact ⟨h.1,h.2.1,lensL_ofB ks h.2.2⟩
theorem lensL_ofB:∀(ks:List PT),lensLB ks=true→PT.LensL ks
 | [],_=>by unfold PT.LensL;exact True.intro
 | k :: ks,h=>by
  unfold lensLB at h;simp only [Bool.and_eq_true] at h;unfold PT.LensL;exact ⟨lens_ofB k h.1,lensL_ofB ks h.2⟩
end
def e1:MZ:=exN [(0,2),(1,7),(6,8)]
def e2:MZ:=exN [(3,5),(1,7),(6,8)]
theorem e1_chk:chk e1=0:=by decide +kernel
theorem e2_chk:chk e2=0:=by decide +kernel
theorem e1_path:za9 e1 0 []=some [0,1,2]:=by decide +kernel
theorem e1_path2:za9 e1 0 [[1]]=some [0,3,6,7,8,5,2]:=by decide +kernel
theorem e1_add:(addX e1 [[0,1,2],[],[]] 2).err=0∧(addX e1 [[0,1,2],[],[]] 2).ps=[[0,1,2],[],[6,7,8]]∧(addX e1 [[0,1,2],[],[]] 2).mv=[]:=by decide +kernel
theorem e2_add:(addX e2 [[],[],[6,7,8]] 0).err=0∧(addX e2 [[],[],[6,7,8]] 0).ps=[[3,0,1,2,5],[],[6,7,8]]∧(addX e2 [[],[],[6,7,8]] 0).mv=[]:=by decide +kernel
theorem e2_add2:(addX e2 [[3,6,7,8,5],[],[]] 2).err=0∧(addX e2 [[3,6,7,8,5],[],[]] 2).ps=[[3,0,1,2,5],[],[6,7,8]]∧(addX e2 [[3,6,7,8,5],[],[]] 2).mv=[0]:=by decide +kernel
theorem e1_ref:(addX e1 [[0,1,2],[],[]] 1).err=54∧zaT (zay e1 [[0,1,2],[],[]] 1) (addX e1 [[0,1,2],[],[]] 1).why=true:=by decide +kernel
theorem e1_why:lensB (addX e1 [[0,1,2],[],[]] 1).why=true∧(addX e1 [[0,1,2],[],[]] 1).why.size≤4000000000000000000:=by decide +kernel
theorem e1_laid:(zau e1 [[0,1,2],[],[]] && zar e1 1)=true:=by decide +kernel
end Go.Proofs.YthbjngbhbbkkgaaGreat
