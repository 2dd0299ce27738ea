/- RtQb RtQs RtQd RtQe RtQf RtQg RtQh -/
import Derived.Test.YthbjngbhbbkkgaaGreatHUa
import Derived.Test.YthbjngbhbbkkgaaGreatHUb
import Derived.Test.YthbjngbhbbkkgaaGreatHUc
import Derived.Test.YthbjngbhbbkkgaaGreatHUd
import Derived.Test.YthbjngbhbbkkgaaGreatHUe
import Derived.Test.YthbjngbhbbkkgaaGreatHUf
import Derived.Test.YthbjngbhbbkkgaaGreatHUg
import Derived.Test.YthbjngbhbbkkgaaGreatHUh
import Derived.Test.YthbjngbhbbkkgaaGreatHUi
import Derived.Test.YthbjngbhbbkkgaaGreatHUj
import Derived.Test.YthbjngbhbbkkgaaGreatHUk
set_option linter.unusedVariables false
set_option linter.unusedSimpArgs false
set_option maxRecDepth 100000
set_option maxHeartbeats 16000000
namespace Go.Proofs.YthbjngbhbbkkgaaGreat
open Go.RowKit
structure SpA (w1 wr:World) (v u:Value) (vs:List Value) (S:Nat) (qs:List (List Int)) (p:List Int):Prop where
 ext:Ext w1 wr
 lo:w1.heap.size≤S
 hi:S≤wr.heap.size
 own:zbj wr w1.heap.size v (vs++[u])
 vl:vs.length=qs.length
 old:∀(i:Nat) q,qs[i]?=some q→∃x,vs[i]?=some x∧zy wr w1.heap.size x q∧∀g,x.ownBlock=some g→g<S
 cur:zy wr S u p
def SpV (w1 wr:World) (v:Value) (qs:List (List Int)) (p:List Int):Prop:=∃u vs S,SpA w1 wr v u vs S qs p
theorem intsTake {w:World} {ok:Nat→Prop} {A:Option Addr} {n c N:Nat} {l:List Int} (h:zf w ok (.slice A n c) l) (hN:N≤n):zf w ok (.slice A N c) (l.take N):=by
 obtain ⟨A',c',e,hc,hl,hr⟩:=h;injection e with e1 e2 e3;subst e1 e2 e3;refine ⟨A,c,by rw [List.length_take,Nat.min_eq_left (by omega)],by rw [List.length_take];omega,by simp,fun hp=>?_⟩;rw [List.length_take] at hp;obtain ⟨b,off,e,hb,hcell⟩:=hr (by omega);refine ⟨b,off,e,hb,fun j u hu=>hcell j u ?_⟩;rw [List.map_take,List.getElem?_take] at hu
 split at hu
 ·exact hu
 ·cases hu
theorem row_one {W:World} {g:Nat} {u:Value} (h:W.cell? ⟨g,0,none⟩=some u):Row W (fun _=>True) 1 (.slice (some ⟨g,0,none⟩) 1 1) 1 [u]:=
 ⟨some ⟨g,0,none⟩,1,rfl,Nat.le_refl _,rfl,fun _=>⟨g,0,rfl,trivial,fun j x hx=>by
  match j,hx with
  | 0,hx=>
   have:x=u:=by simpa using hx.symm
   subst this;exact h⟩⟩
theorem zb0 {w:World} {B:Nat} {v:Value} {l:List Int} (h:zy w B v l):∃A n c,v=.slice A n c:=by
 obtain ⟨A,c,e,_⟩:=za6 h;exact ⟨A,_,c,e⟩
section
variable {w1 wr w':World} {v u u':Value} {vs:List Value} {S:Nat} {qs:List (List Int)} {p:List Int}
theorem SpA.more (h:SpA w1 wr v u vs S qs p) (hE:Ext wr w'):SpA w1 w' v u vs S qs p:=
 ⟨h.ext.trans hE,h.lo,Nat.le_trans h.hi hE.size,h.own.ext hE,h.vl,fun i q hq=>by
  obtain ⟨x,h1,h2,h3⟩:=h.old i q hq;exact ⟨x,h1,h2.ext hE,h3⟩,h.cur.ext hE⟩
theorem SpA.form (h:SpA w1 wr v u vs S qs p):∃g c,v=.slice (some ⟨g,0,none⟩) (qs.length+1) c∧w1.heap.size≤g∧qs.length+1≤c∧wr.cell? ⟨g,qs.length,none⟩=some u:=by
 have hl:(vs++[u]).length=qs.length+1:=by rw [List.length_append,List.length_singleton,h.vl]
 have ho:=h.own;unfold zbj at ho;rw [hl] at ho;obtain ⟨g,c,rfl,hg,hlt⟩:=World.ownsRow.form ho (by omega);refine ⟨g,c,rfl,hg,zbv ho,?_⟩;rw [World.ownsRow.cellAt ho _ (by omega),←h.vl,List.getElem?_append_right (Nat.le_refl _),Nat.sub_self]
 all_goals rfl
theorem SpA.push {g n c:Nat} {x:Int} (h:SpA w1 wr (.slice (some ⟨g,0,none⟩) n c) u vs S qs p) (ho:zy w' S u' (p++[x])) (hg:Hid (wr.grownBy w' u.ownBlock)):
  SpA w1 (w'.setCell ⟨g,qs.length,none⟩ u') (.slice (some ⟨g,0,none⟩) n c) u' vs S qs (p++[x]):=by
 have hcur:=h.cur;have hown:zbj w' w1.heap.size (.slice (some ⟨g,0,none⟩) n c) (vs++[u]):=World.ownsRow.kept h.own hg.out (own_ne h.own hcur (by decide));have hb:w1.heap.size≤g:=(World.ownsRow.lt h.own g rfl).1;have hE':Ext w1 w':=zT h.ext hg h.ext.size (fun k hk=>Nat.le_trans h.lo (za8 hcur hk))
 have hst:=(World.ownsRow.stored (n:=n) (cap:=c) (xs:=vs++[u]) (by
  have hn:(vs++[u]).length=n:=by
   have h0:=hown;unfold zbj at h0;obtain ⟨g',c',e,_,_⟩:=World.ownsRow.form h0 (by simp);injection e with _ e2 _;exact e2.symm
  have h0:=hown;unfold zbj at h0
  rwa [hn] at h0) qs.length u')
 refine ⟨hE'.setCell hb _,h.lo,Nat.le_trans h.hi (by rw [World.setCell];simpa using hg.out.size),?_,h.vl,fun i q hq=>?_,?_⟩
 ·have h1:=hst.1;rw [←h.vl,List.set_append_right _ _ (Nat.le_refl _),Nat.sub_self] at h1
  have hn:n=(vs++[u']).length:=by
   have:=hst.1.1;rw [←h.vl,List.set_append_right _ _ (Nat.le_refl _),Nat.sub_self] at this;simp at this⊢;omega
  unfold zbj;rw [←hn];rw [h.vl] at h1;exact h1
 ·obtain ⟨x',h1,h2,h3⟩:=h.old i q hq
  have h4:zy w' w1.heap.size x' q:=World.ownsRow.kept h2 hg.out (by
   cases hx:x'.ownBlock with
   | none=>exact .inl rfl
   | some k=>
    refine .inr fun e=>?_
    have:=h3 k hx;have:=za8 hcur e.symm;omega)
  refine ⟨x',h1,ownsRow_setCell_other h4 (fun e=>?_) _,h3⟩;rcases own_ne h4 hown (by decide) with h5 | h5
  ·rw [h5] at e;cases e
  ·exact h5 e
 ·refine ownsRow_setCell_other ho (fun e=>?_) _;rcases own_ne ho hown (by decide) with h5 | h5
  ·rw [h5] at e;cases e
  ·exact h5 e
theorem SpA.slot {g n c:Nat} (h:SpA w1 wr (.slice (some ⟨g,0,none⟩) n c) u vs S qs p) (hg:Hid (wr.grownBy w' u.ownBlock)):
  w'.cell? ⟨g,qs.length,none⟩=some u∧w'.frozen? ⟨g,qs.length,none⟩=false∧Ext w1 w':=by
 have hown:zbj w' w1.heap.size (.slice (some ⟨g,0,none⟩) n c) (vs++[u]):=World.ownsRow.kept h.own hg.out (own_ne h.own h.cur (by decide))
 have hn:n=(vs++[u]).length:=by
  have h0:=hown;unfold zbj at h0;obtain ⟨g',c',e,_,_⟩:=World.ownsRow.form h0 (by simp);injection e with _ e2 _
 unfold zbj at hown;rw [←hn] at hown;refine ⟨?_,World.ownsRow.frozenAt hown _,zT h.ext hg h.ext.size (fun k hk=>Nat.le_trans h.lo (za8 h.cur hk))⟩;rw [World.ownsRow.cellAt hown _ (by rw [hn];simp [h.vl]),←h.vl,List.getElem?_append_right (Nat.le_refl _),Nat.sub_self]
 all_goals rfl
theorem SpA.next {v':Value} (h:SpA w1 wr v u vs S qs p) (ho:zbj w' w1.heap.size v' (vs++[u]++[.slice none 0 0])) (hg:Hid (wr.grownBy w' v.ownBlock)):
  SpA w1 w' v' (.slice none 0 0) (vs++[u]) wr.heap.size (qs++[p]) []:=by
 have hk:∀{x:Value} {B:Nat} {l:List Int},zy wr B x l→zy w' B x l:=fun hx=>World.ownsRow.kept hx hg.out (own_ne hx h.own (by decide))
 refine ⟨zT h.ext hg h.ext.size (fun k hk=>(World.ownsRow.lt h.own k hk).1),h.ext.size,hg.out.size,ho,by simp [h.vl],fun i q hq=>?_,World.ownsRow_nil _ _ _ _⟩;rcases Nat.lt_or_ge i qs.length with hi | hi
 ·rw [List.getElem?_append_left hi] at hq;obtain ⟨x,h1,h2,h3⟩:=h.old i q hq;exact ⟨x,by rw [List.getElem?_append_left (by rw [h.vl];exact hi)];exact h1,hk h2,fun g hg'=>Nat.lt_of_lt_of_le (h3 g hg') h.hi⟩
 ·have hi2:i=qs.length:=by
   rcases Nat.lt_or_ge i (qs++[p]).length with h1 | h1
   ·simp at h1;omega
   ·rw [List.getElem?_eq_none h1] at hq;cases hq
  subst hi2;rw [List.getElem?_append_right (Nat.le_refl _),Nat.sub_self] at hq;have hp:p=q:=by simpa using hq
  subst hp;refine ⟨u,by rw [←h.vl,List.getElem?_append_right (Nat.le_refl _),Nat.sub_self];rfl,(hk h.cur).mono h.lo,fun g hg'=>(World.ownsRow.lt h.cur g hg').2⟩
theorem SpA.intss (h:SpA w1 wr v u vs S qs p):zo wr (fun b=>w1.heap.size≤b) v (qs++[p]):=by
 refine ⟨vs++[u],?_,fun i q hq=>?_⟩
 ·have h1:=Row.of_own h.own;have h2:(vs++[u]).length=(qs++[p]).length:=by simp [h.vl]
  rw [h2] at h1;exact h1
 ·rcases Nat.lt_or_ge i qs.length with hi | hi
  ·rw [List.getElem?_append_left hi] at hq;obtain ⟨x,h1,h2,h3⟩:=h.old i q hq;exact ⟨x,by rw [List.getElem?_append_left (by rw [h.vl];exact hi)];exact h1,Row.of_own h2⟩
  ·have hi2:i=qs.length:=by
    rcases Nat.lt_or_ge i (qs++[p]).length with h1 | h1
    ·simp at h1;omega
    ·rw [List.getElem?_eq_none h1] at hq;cases hq
   subst hi2;rw [List.getElem?_append_right (Nat.le_refl _),Nat.sub_self] at hq;have hp:p=q:=by simpa using hq
   subst hp;exact ⟨u,by rw [←h.vl,List.getElem?_append_right (Nat.le_refl _),Nat.sub_self];rfl,Row.of_own (h.cur.mono h.lo)⟩
theorem SpA.init {W:World} (h:Ext w1 W):SpA w1 (W.alloc (.cells #[.slice none 0 0] 23)) (.slice (some ⟨W.heap.size,0,none⟩) 1 1) (.slice none 0 0) [] W.heap.size [] []:=
 ⟨h.alloc _,h.size,by simp,⟨rfl,.inr ⟨W.heap.size,1,#[.slice none 0 0],rfl,h.size,heap_alloc_new W _,Nat.le_refl _,by decide,rfl,rfl⟩⟩,rfl,fun i q hq=>by simp at hq,World.ownsRow_nil _ _ _ _⟩
end
end Go.Proofs.YthbjngbhbbkkgaaGreat
namespace Go.Proofs.YthbjngbhbbkkgaaGreat
open Go.RowKit
attribute [local go_sem ↓] Go.wp_at_zero Go.wp_at_succ
def SpI (m:MZ) (ch:List Int) (w1 wr:World) (v:Value) (k:Nat):Prop:=∃qs p,zas m (ch.take k)=qs++[p]∧SpV w1 wr v qs p
theorem cmp_take {m:MZ} {ch:List Int} (h:zu m ch) {k:Nat} (hk:k<ch.length):zae m (ch.take k)=false:=zbo (h.at hk)
theorem qsplit_calls {ok okc:Nat→Prop} {v vc:Value} {m:MZ} {ch:List Int} (w:World) (hm:zr w ok v m) (g:zx m) (hl:Lens m) (hch:zf w okc vc ch) (hc:zu m ch):
  Calls Tryz.prog 121 #[v,vc] w fun e w'=>∃v',e=.returned v'∧Ext w w'∧zo w' (fun b=>w.heap.size≤b) v' (zas m ch):=by
 have hlen:=hc.len300 g;obtain ⟨vfr,vup,vts,rfl,_,_,hts⟩:=hm;have HTS:=zh hts;obtain ⟨vst,⟨At,ct,rfl,hct,_⟩,_⟩:=hts;have HCH:=zh hch;have hch0:=hch;obtain ⟨A,c,rfl,hcc,hr⟩:=hch;have HR:=zh hr;have HC:=zh hc;have HL:=zh hl;have htk:=g.tk;clear hr hch0 hc g hl
 go_enter Tryz.func121,Tryz.ntmps121
 go_wp2_with fail
 generalize hw1:w.alloc (.cells #[.int .i64 m.w,.int .i64 m.h,.int .i64 m.l,vfr,vup,.slice At m.tasks.length ct] 32)=w1;have hb1:Ext w w1:=by rw [←hw1];exact (Ext.refl w).alloc _
 have hgm:Blk w1 w.heap.size 32 #[.int .i64 m.w,.int .i64 m.h,.int .i64 m.l,vfr,vup,.slice At m.tasks.length ct]:=by rw [←hw1];exact heap_alloc_new _ _
 have hsz:w1.heap.size=w.heap.size+1:=by rw [←hw1];simp
 clear hw1;have r5:∀W,Ext w1 W→W.cell? ⟨w.heap.size,5,none⟩=some (.slice At m.tasks.length ct):=Ext.rule (hgm.cell (k:=5) rfl);clear hgm;have hI0:Hid (SpI m ch w1 (w1.alloc (.cells #[.slice none 0 0] 23)) (.slice (some ⟨w1.heap.size,0,none⟩) 1 1) 0):=⟨[],[],by rw [List.take_zero,splitL_nil];rfl,_,_,_,SpA.init (Ext.refl w1)⟩;generalize hw2:w1.alloc (.cells #[.slice none 0 0] 23)=w2 at hI0⊢;clear hw2;rw [hsz] at hI0;clear hsz
 go_wp2_with fail
 go_loopw [5,6] (fun v i wr=>∃k:Nat,k≤ch.length∧i=.int .i64 k∧Hid (SpI m ch w1 wr v k)) (fun _ i _=>ch.length - (intOf i).toNat)
 case atStart=>exact ⟨0,Nat.zero_le _,rfl,hI0⟩
 clear hI0
 case round=>
  obtain ⟨k,hk,rfl,hI⟩:=hrel;obtain ⟨wk,rfl⟩:∃wk:World,wk=wr:=⟨_,rfl⟩;obtain ⟨qs,p,hqp,u,vs,S,hSp⟩:=hI.out;clear hI;obtain ⟨gv,cv,rfl,hgv,hcv,hcu⟩:=hSp.form;have hx:Ext w1 wk:=hSp.ext;have HSP:=zh hSp;have HQP:=zh hqp;clear hSp hqp;by_cases hlt:k<ch.length
  ·obtain ⟨b,off,rfl,_,hcell⟩:=zt HR.out hlt hlt;have hcm:=cmp_take HC.out hlt
   have hpl:p.length≤300:=by
    have h4:=HQP.out;rw [zdk hcm] at h4;have h5:=(HC.out.take k).psOk.fl;have h6:=flat_le (ps:=zJ m (ch.take k)) (p:=p) (by rw [h4];simp);rw [h5,List.length_take] at h6;omega
   have hqt:qs.length<m.tasks.length:=by
    obtain ⟨qs',p',h1,h2,h3⟩:=ps_form (HC.out.take k) hcm;have h4:=HQP.out;rw [h3] at h4;have:=congrArg List.length h4;simp at this;omega
   have HST:Hid (zas m (ch.take k++[ch[k]])=qs++[p++[ch[k]]]++(if ch[k]∈(m.tasks.getD qs.length ([],[])).2 then [[]] else [])):=split_step _ (by rw [←zdk hcm];exact HQP.out) hqt;rw [←List.take_succ_eq_append_getElem hlt] at HST;obtain ⟨x,hxx⟩:∃x,x=ch[k]:=⟨_,rfl⟩;rw [←hxx] at hcell HST;clear hxx hcm;obtain ⟨bt,offt,sn,u1,u2,rfl,_,hc0,hc1,hc2,hi1,hi2⟩:=zam HTS.out hqt;have hlt2:=(HL.out.tl _ (List.getElem_mem hqt)).2;have htd:(m.tasks.getD qs.length ([],[])).2=(m.tasks[qs.length]).2:=by simp [hqt]
   rw [htd] at HST;obtain ⟨tg,hto⟩:∃tg,tg=(m.tasks[qs.length]).2:=⟨_,rfl⟩;rw [←hto] at hi2 hlt2 HST;clear htd hto hi1 hc0 hc1;have HI2:=zh hi2;clear hi2;have rt:∀W,Ext w1 W→W.cell? ⟨bt,offt+qs.length*3+2,none⟩=some u2:=fun W hW=>Ext.rule hc2 W (hb1.trans hW)
   have rc:=Ext.rule hcu;have rx:∀W,Ext w1 W→W.cell? ⟨b,off+k,none⟩=some (.int .i64 x):=fun W hW=>Ext.rule hcell W (hb1.trans hW)
   clear hc2 hcell;have hq1:decide ((m.tasks.length:Int)≤(qs.length:Int))=false:=decide_eq_false (by omega);have hq3:(qs.length:Int)<(qs.length:Int)+1:=by omega
   have hq2:decide (m.tasks.length≤qs.length)=false:=decide_eq_false (by omega)
   go_wp2_with fail
   refine wp_region_held_drew (S:=(fun W=>Ext w1 W)) zS (hx.drew) (fun zH=>?_);have hd0:Ext wk wk.drew:=(Ext.refl wk).drew;generalize wk.drew=wd at hd0 zH⊢;refine rtT 0 zH ?_;simp only [za,Act.put];refine rtT 1 zH ?_;simp only [za,Act.put];refine rtT 2 zH ?_;simp only [za,Act.put];refine rtT 3 zH ?_;simp only [za,Act.put];refine rtT 4 zH ?_;simp only [za,Act.put];refine rtT 6 zH ?_;simp only [za,Act.put];refine rtT 7 zH ?_;simp only [za,Act.put];refine rtT 8 zH ?_;simp only [za,Act.put];refine rtT 9 zH ?_;simp only [za,Act.put];refine rdA [5,10] ?_;refine AllReadyH.cons rfl (fun K hK=>?_) ?_
   ·have hx:=hd0;go_simp;clear hx;refine hK.out _ _ (zH) (fun zH=>?_);clear hK K;try simp only [za,Act.put]
    refine rtR 10 (fun K hK=>?_);go_simp;refine hK.out _ _ (zH.alloc _) (fun zH=>?_);clear hK K;try simp only [za,Act.put]
    refine rtR 11 (fun K hK=>?_);have HSn:=zh (HSP.out.more (hd0.alloc (.cells #[.int .i64 x] 3)));refine za7 (ok:=fun _=>True) (by rfl) _ _ _ (by rfl) S p [x] u _ (by rfl) (by rfl) HSn.out.cur (zcp (zm wd _ _ rfl)) HSn.out.hi (by simp;omega) ?_;intro u' w9 ho9 hg9 hat9;obtain ⟨hc9,hf9,hx9⟩:=HSn.out.slot hg9;have HS9:=zh (HSn.out.push ho9 hg9);obtain ⟨A9,n9,c9,rfl⟩:=zb0 ho9;clear ho9 hg9 hat9;refine hK.out _ _ (hx9) (fun zH=>?_);clear hK K;try simp only [za,Act.put]
    refine rtR 12 (fun K hK=>?_);go_simp;refine hK.out _ _ (hx9) (fun zH=>?_);clear hK K;try simp only [za,Act.put]
    refine rtR 13 (fun K hK=>?_);go_simp;refine hK.out _ _ (HS9.out.ext) (fun zH=>?_);clear hK K;try simp only [za,Act.put]
    refine wpAnyH_done (by kernel_rfl) ?_ _
    go_wp2_with fail
    have hE9:Hid (Ext w1 (w9.setCell ⟨gv,qs.length,none⟩ (.slice A9 n9 c9))):=HS9.out.ext;generalize w9.setCell ⟨gv,qs.length,none⟩ (.slice A9 n9 c9)=wt at HS9 hE9 zH⊢;clear hc9 hf9 hx9 HSn;have hxt:Ext w1 wt:=hE9.out;go_quiet ((go_at_call 12;refine (zE x _ (HI2.out.below (hb1.trans (hxt.drewN _))) (by omega)).mono ?_;rintro e w9 ⟨he9,rfl⟩;exact ⟨he9,⟨_,rfl⟩⟩))
    generalize hW:wt.drewN nq=wu;have hEu:Ext wt wu:=by rw [←hW];exact (Ext.refl wt).drewN _
    clear hW;have HSu:=zh (HS9.out.more hEu);by_cases hxt:x∈tg
    ·rw [decide_eq_true hxt];have HTT:Hid (zas m (ch.take (k+1))=qs++[p++[x]]++[[]]):=by have:=HST.out;rw [if_pos hxt] at this;exact this
     clear hxt
     go_wp2_with (at_builtin;refine za1 (ok:=fun _=>True) rfl _ _ _ rfl w1.heap.size (vs++[.slice A9 n9 c9]) [.slice none 0 0] _ _ rfl rfl ?h1 ?h2 ?h3 ?d1 ?d2 ?_)
     case h1=>exact World.ownsRow.alloc HSu.out.own _
     case h2=>exact (row_one (zm _ _ _ rfl))
     case h3=>(simp [Value.oneCell'])
     case d1=>(have:=HSu.out.ext.size;simp;omega)
     case d2=>(have:=HSu.out.vl;simp;omega)
     intro v' w10 ho10 hg10 hat10;have HI':Hid (SpI m ch w1 w10 v' (k+1)):=⟨qs++[p++[x]],[],HTT.out,_,_,_,SpA.next (HSu.out.more ((Ext.refl wu).alloc _)) (by simpa using ho10) hg10⟩;clear ho10 hg10 hat10;go_wp2;go_roundw
     case rel=>exact ⟨k+1,hlt,by go_num,HI'⟩
     case measure=>simp [intOf];omega
    ·rw [decide_eq_false hxt];have HTT:Hid (zas m (ch.take (k+1))=qs++[p++[x]]):=by have:=HST.out;rw [if_neg hxt,List.append_nil] at this;exact this
     clear hxt;have HI':Hid (SpI m ch w1 wu (.slice (some ⟨gv,0,none⟩) (qs.length+1) cv) (k+1)):=⟨qs,p++[x],HTT.out,_,_,_,HSu.out⟩;go_wp2;go_roundw
     case rel=>exact ⟨k+1,hlt,by go_num,HI'⟩
     case measure=>simp [intOf];omega
   refine AllReadyH.cons rfl (fun K hK=>?_) .nil;go_simp;refine hK.out _ _ (zH.alloc _) (fun zH=>?_);clear hK K;try simp only [za,Act.put]
   refine rtR 5 (fun K hK=>?_);have hx:=(hd0.alloc (.cells #[.int .i64 x] 3));go_simp;clear hx;refine hK.out _ _ (zH) (fun zH=>?_);clear hK K;try simp only [za,Act.put]
   refine rtR 11 (fun K hK=>?_);have HSn:=zh (HSP.out.more (hd0.alloc (.cells #[.int .i64 x] 3)));refine za7 (ok:=fun _=>True) (by rfl) _ _ _ (by rfl) S p [x] u _ (by rfl) (by rfl) HSn.out.cur (zcp (zm wd _ _ rfl)) HSn.out.hi (by simp;omega) ?_;intro u' w9 ho9 hg9 hat9;obtain ⟨hc9,hf9,hx9⟩:=HSn.out.slot hg9;have HS9:=zh (HSn.out.push ho9 hg9);obtain ⟨A9,n9,c9,rfl⟩:=zb0 ho9;clear ho9 hg9 hat9;refine hK.out _ _ (hx9) (fun zH=>?_);clear hK K;try simp only [za,Act.put]
   refine rtR 12 (fun K hK=>?_);go_simp;refine hK.out _ _ (hx9) (fun zH=>?_);clear hK K;try simp only [za,Act.put]
   refine rtR 13 (fun K hK=>?_);go_simp;refine hK.out _ _ (HS9.out.ext) (fun zH=>?_);clear hK K;try simp only [za,Act.put]
   refine wpAnyH_done (by kernel_rfl) ?_ _
   go_wp2_with fail
   have hE9:Hid (Ext w1 (w9.setCell ⟨gv,qs.length,none⟩ (.slice A9 n9 c9))):=HS9.out.ext;generalize w9.setCell ⟨gv,qs.length,none⟩ (.slice A9 n9 c9)=wt at HS9 hE9 zH⊢;clear hc9 hf9 hx9 HSn;have hxt:Ext w1 wt:=hE9.out;go_quiet ((go_at_call 12;refine (zE x _ (HI2.out.below (hb1.trans (hxt.drewN _))) (by omega)).mono ?_;rintro e w9 ⟨he9,rfl⟩;exact ⟨he9,⟨_,rfl⟩⟩))
   generalize hW:wt.drewN nq=wu;have hEu:Ext wt wu:=by rw [←hW];exact (Ext.refl wt).drewN _
   clear hW;have HSu:=zh (HS9.out.more hEu);by_cases hxt:x∈tg
   ·rw [decide_eq_true hxt];have HTT:Hid (zas m (ch.take (k+1))=qs++[p++[x]]++[[]]):=by have:=HST.out;rw [if_pos hxt] at this;exact this
    clear hxt
    go_wp2_with (at_builtin;refine za1 (ok:=fun _=>True) rfl _ _ _ rfl w1.heap.size (vs++[.slice A9 n9 c9]) [.slice none 0 0] _ _ rfl rfl ?h1 ?h2 ?h3 ?d1 ?d2 ?_)
    case h1=>exact World.ownsRow.alloc HSu.out.own _
    case h2=>exact (row_one (zm _ _ _ rfl))
    case h3=>(simp [Value.oneCell'])
    case d1=>(have:=HSu.out.ext.size;simp;omega)
    case d2=>(have:=HSu.out.vl;simp;omega)
    intro v' w10 ho10 hg10 hat10;have HI':Hid (SpI m ch w1 w10 v' (k+1)):=⟨qs++[p++[x]],[],HTT.out,_,_,_,SpA.next (HSu.out.more ((Ext.refl wu).alloc _)) (by simpa using ho10) hg10⟩;clear ho10 hg10 hat10;go_wp2;go_roundw
    case rel=>exact ⟨k+1,hlt,by go_num,HI'⟩
    case measure=>simp [intOf];omega
   ·rw [decide_eq_false hxt];have HTT:Hid (zas m (ch.take (k+1))=qs++[p++[x]]):=by have:=HST.out;rw [if_neg hxt,List.append_nil] at this;exact this
    clear hxt;have HI':Hid (SpI m ch w1 wu (.slice (some ⟨gv,0,none⟩) (qs.length+1) cv) (k+1)):=⟨qs,p++[x],HTT.out,_,_,_,HSu.out⟩;go_wp2;go_roundw
    case rel=>exact ⟨k+1,hlt,by go_num,HI'⟩
    case measure=>simp [intOf];omega
  ·obtain rfl:k=ch.length:=by omega
   rw [List.take_length] at HQP;go_wp2;go_ret;refine ⟨_,rfl,hb1.trans hx,?_⟩;rw [HQP.out];exact HSP.out.intss.weaken fun b hb=>Nat.le_trans hb1.size hb
theorem qbehind_calls {ok okc:Nat→Prop} {v vc:Value} {m:MZ} {ch:List Int} (w:World) (hm:zr w ok v m) (g:zx m) (hl:Lens m) (hch:zf w okc vc ch) (hc:zu m ch):
  Calls Tryz.prog 124 #[v,vc] w fun e w'=>∃v',e=.returned v'∧Mk w w' v' (cand m ch):=by
 have hlen:=hc.len300 g;have HMZ:=zh hm;obtain ⟨vfr,vup,vts,rfl,hfr,_,hts⟩:=hm;obtain ⟨vsf,⟨Af,cf,rfl,hcf,hrf⟩,hef⟩:=hfr;have HTS:=zh hts;obtain ⟨vst,⟨At,ct,rfl,hct,-⟩,-⟩:=hts;have HCH:=zh hch;obtain ⟨A,c,rfl,hcc,hr⟩:=hch;have HRF:=zh hrf;have HEF:=zh hef;have HC:=zh hc;have HL:=zh hl;have HG:=zh g;have htk:=g.tk;have HFL:=zh g.fl;have hfl:m.free.length≤6:=by rw [g.fl];exact g.tk
 have hwh:=g.dim.layer;have hn1:=g.dim.n1;obtain ⟨hl1,hl2⟩:=hwh;clear hr hc g hl hrf hef
 go_enter Tryz.func124,Tryz.ntmps124
 go_wp2_with fail
 generalize hw1:w.alloc (.cells #[.int .i64 m.w,.int .i64 m.h,.int .i64 m.l,.slice Af m.free.length cf,vup,.slice At m.tasks.length ct] 32)=w1;have hb1:Ext w w1:=by rw [←hw1];exact (Ext.refl w).alloc _
 have hgm:Blk w1 w.heap.size 32 #[.int .i64 m.w,.int .i64 m.h,.int .i64 m.l,.slice Af m.free.length cf,vup,.slice At m.tasks.length ct]:=by rw [←hw1];exact heap_alloc_new _ _
 clear hw1;have r0:∀W,Ext w1 W→W.cell? ⟨w.heap.size,0,none⟩=some (.int .i64 m.w):=Ext.rule (hgm.cell (k:=0) rfl);have r1:∀W,Ext w1 W→W.cell? ⟨w.heap.size,1,none⟩=some (.int .i64 m.h):=Ext.rule (hgm.cell (k:=1) rfl);have r2:∀W,Ext w1 W→W.cell? ⟨w.heap.size,2,none⟩=some (.int .i64 m.l):=Ext.rule (hgm.cell (k:=2) rfl);have r3:∀W,Ext w1 W→W.cell? ⟨w.heap.size,3,none⟩=some (.slice Af m.free.length cf):=Ext.rule (hgm.cell (k:=3) rfl);have r4:∀W,Ext w1 W→W.cell? ⟨w.heap.size,4,none⟩=some vup:=Ext.rule (hgm.cell (k:=4) rfl);have r5:∀W,Ext w1 W→W.cell? ⟨w.heap.size,5,none⟩=some (.slice At m.tasks.length ct):=Ext.rule (hgm.cell (k:=5) rfl);clear hgm;have hx0:Ext w1 w1:=Ext.refl w1;refine (qsplit_calls w1 (HMZ.out.below hb1) HG.out HL.out (HCH.out.below hb1) HC.out).mono ?_;rintro e w2 ⟨v2,rfl,hx2,hps⟩;have hx:Ext w1 w2:=hx2
 cases hcm:zae m ch
 ·obtain ⟨qs,p,hps1,hqt,hsp⟩:=ps_form HC.out hcm;have HPS:=zh hps1;have HCM:=zh hcm;rw [hsp] at hps;obtain ⟨vs,⟨Ap,cp,rfl,hcp,hrp⟩,hep⟩:=hps;have hql:(qs++[p]).length=qs.length+1:=by simp
  rw [hql] at hcp hrp⊢;obtain ⟨bp,ofp,up,rfl,_,hcu,hup⟩:=zP hrp hep (k:=qs.length) (by omega) (by simp);have hgp:(qs++[p])[qs.length]=p:=by simp
  rw [hgp] at hup;clear hrp hep hsp hps1 hcm hgp hql;have ru:=Ext.rule hcu;have hx22:Ext w2 w2:=Ext.refl w2;have hq1:decide ((m.tasks.length:Int)≤(qs.length:Int))=false:=decide_eq_false (by omega);have hq2:decide (m.tasks.length≤qs.length)=false:=decide_eq_false (by omega);have hq3:(qs.length:Int)<(qs.length:Int)+1:=by omega
  have HPL:=zh hup;obtain ⟨Aq,cq,rfl,hcq,hrq⟩:=hup;rcases List.eq_nil_or_concat p with rfl | ⟨q,y,rfl⟩
  ·have hz:([]:List Int).length=0:=rfl;rw [hz] at hcu ru hcq HPL;obtain ⟨bt,offt,sn,u1,u2,rfl,_,hc0,hc1,hc2,hi1,hi2⟩:=zam HTS.out hqt;have hlt1:=(HL.out.tl _ (List.getElem_mem hqt)).1;have htd:(m.tasks.getD qs.length ([],[])).1=(m.tasks[qs.length]).1:=by simp [hqt]
   have HCB:Hid (cand m ch=begL m qs.length ch):=cand_beg HG.out HPS.out HCM.out hqt;unfold begL at HCB;rw [htd] at HCB;obtain ⟨fm,hfm⟩:∃fm,fm=(m.tasks[qs.length]).1:=⟨_,rfl⟩;rw [←hfm] at hi1 hlt1 HCB;clear htd hfm hc0 hc2 hi2;have HI1:=zh hi1;clear hi1;have rt:∀W,Ext w1 W→W.cell? ⟨bt,offt+qs.length*3+1,none⟩=some u1:=fun W hW=>Ext.rule hc1 W (hb1.trans hW)
   have hqf:qs.length<m.free.length:=by rw [HFL.out];exact hqt
   obtain ⟨bf,off3,uf,rfl,_,hcf1,hbf⟩:=zP HRF.out HEF.out hqf hqf;have hflen:=HG.out.fn _ (List.getElem_mem hqf);obtain ⟨A4,c4,rfl,hc4,hr4⟩:=hbf;have HR4:=zh hr4;clear hr4;have HFR:Hid (∀x:Nat,(hx:x<(m.free[qs.length]).length)→(m.free[qs.length])[x]=ze m qs.length (x:Int)):=fun x hx=>by simp [ze,hqf,hx]
   obtain ⟨fl,hfl9⟩:∃fl,fl=m.free[qs.length]:=⟨_,rfl⟩;rw [←hfl9] at hcf1 hflen hc4 HR4;have HFR':Hid (∀x:Nat,(hx:x<fl.length)→fl[x]=ze m qs.length (x:Int)):=by subst hfl9;exact HFR
   clear HFR hfl9;have rf:∀W,Ext w1 W→W.cell? ⟨bf,off3+qs.length,none⟩=some (.slice A4 fl.length c4):=fun W hW=>Ext.rule hcf1 W (hb1.trans hW)
   clear hc1 hcf1;obtain ⟨N,hN⟩:∃N:Nat,m.w*m.h*m.l=(N:Int):=⟨(m.w*m.h*m.l).toNat,by omega⟩;have hfN:fl.length=N:=by have:m.n=m.w*m.h*m.l:=rfl;omega
   have hN3:N≤300:=by omega
   have HNN:Hid (m.n.toNat=N):=by have:m.n=m.w*m.h*m.l:=rfl;show _=_;omega
   have HN:=zh hN;have HFN:=zh hfN;obtain ⟨PR,hPR⟩:∃PR:Int→Bool,PR=fun k=>decide (k∈fm) && ze m qs.length k && !decide (k∈ch):=⟨_,rfl⟩
   rw [HNN.out,←hPR] at HCB;have HPR:=zh hPR;have hM0:Hid (Mk w2 w2 (.slice none 0 0) (((List.range 0).map Int.ofNat).filter PR)):=Mk.nil w2;clear hPR hflen hN hfN
   go_wp2_with fail
   go_loopw [8,9] (fun v i wr=>∃k:Nat,k≤N∧i=.int .i64 k∧Hid (Mk w2 wr v (((List.range k).map Int.ofNat).filter PR))) (fun _ i _=>N - (intOf i).toNat)
   case atStart=>exact ⟨0,Nat.zero_le _,rfl,hM0⟩
   clear hM0
   case round=>
    obtain ⟨k,hk,rfl,hM⟩:=hrel;obtain ⟨wk,rfl⟩:∃wk:World,wk=wr:=⟨_,rfl⟩;have hx2k:Ext w2 wk:=hM.out.ext;have hx1k:Ext w1 wk:=hx.trans hx2k
    go_wp2_with fail
    refine (zax _ _ _ _ _ _ _ (by omega) (by omega)).mono ?_;rintro e wA ⟨rfl,hbA⟩;rw [HN.out];have hMA:=zh (hM.out.more hbA);have hxA:Ext w1 wA:=hx1k.trans hbA;have hx2A:Ext w2 wA:=hx2k.trans hbA;clear hM hx2k hx1k hbA;by_cases hlt:k<N
    ·have hstep:((List.range (k+1)).map Int.ofNat).filter PR=((List.range k).map Int.ofNat).filter PR++[(k:Int)].filter PR:=by
      rw [List.range_succ,List.map_append,List.filter_append];rfl
     have HS:=zh hstep;clear hstep;have hlk:(((List.range k).map Int.ofNat).filter PR).length≤k:=Nat.le_trans (List.length_filter_le _ _) (by simp);obtain ⟨lk,hlk0⟩:∃lk,lk=((List.range k).map Int.ofNat).filter PR:=⟨_,rfl⟩;rw [←hlk0] at hMA hlk HS;clear hlk0;have hkl:k<fl.length:=by rw [HFN.out];exact hlt
     obtain ⟨b4,off4,e4,_,hcf2⟩:=zbn HR4.out hkl hkl;rw [HFR'.out k hkl] at hcf2;subst e4;have rb:∀W,Ext w1 W→W.cell? ⟨b4,off4+k,none⟩=some (.bool (ze m qs.length (k:Int))):=fun W hW=>Ext.rule hcf2 W (hb1.trans hW)
     clear hcf2;have HH1:Hid (∀W,Ext w1 W→Calls Tryz.prog 12 #[u1,.int .i64 k] W fun e w'=>e=.returned (.bool (decide ((k:Int)∈fm)))∧W=w'):=fun W hW=>zE _ W (HI1.out.below (hb1.trans hW)) (by omega)
     have HH2:Hid (∀W,Ext w1 W→Calls Tryz.prog 12 #[.slice A ch.length c,.int .i64 k] W fun e w'=>e=.returned (.bool (decide ((k:Int)∈ch)))∧W=w'):=fun W hW=>zE _ W (HCH.out.below (hb1.trans hW)) (by omega)
     have HPK:Hid (PR k=(decide ((k:Int)∈fm) && ze m qs.length k && !decide ((k:Int)∈ch))):=by rw [HPR.out];rfl
     generalize decide ((k:Int)∈fm)=d1 at HH1 HPK;generalize decide ((k:Int)∈ch)=d2 at HH2 HPK;generalize ze m qs.length (k:Int)=d3 at rb HPK
     cases d1 <;> cases d2 <;> cases d3
     ·have HS':Hid (((List.range (k+1)).map Int.ofNat).filter PR=lk):=by rw [HS.out,List.filter_cons_of_neg (by rw [HPK.out];simp),List.filter_nil,List.append_nil];exact (by rfl:lk=lk)
      go_wp2_with fail
      refine (HH1.out _ hxA).mono ?_;rintro e w8 ⟨rfl,rfl⟩
      go_wp2_with fail
      go_roundw
      case rel=>exact ⟨k+1,hlt,by go_num,by rw [HS'.out];exact hMA⟩
      case measure=>simp [intOf];omega
     ·have HS':Hid (((List.range (k+1)).map Int.ofNat).filter PR=lk):=by rw [HS.out,List.filter_cons_of_neg (by rw [HPK.out];simp),List.filter_nil,List.append_nil];exact (by rfl:lk=lk)
      go_wp2_with fail
      refine (HH1.out _ hxA).mono ?_;rintro e w8 ⟨rfl,rfl⟩
      go_wp2_with fail
      go_roundw
      case rel=>exact ⟨k+1,hlt,by go_num,by rw [HS'.out];exact hMA⟩
      case measure=>simp [intOf];omega
     ·have HS':Hid (((List.range (k+1)).map Int.ofNat).filter PR=lk):=by rw [HS.out,List.filter_cons_of_neg (by rw [HPK.out];simp),List.filter_nil,List.append_nil];exact (by rfl:lk=lk)
      go_wp2_with fail
      refine (HH1.out _ hxA).mono ?_;rintro e w8 ⟨rfl,rfl⟩
      go_wp2_with fail
      go_roundw
      case rel=>exact ⟨k+1,hlt,by go_num,by rw [HS'.out];exact hMA⟩
      case measure=>simp [intOf];omega
     ·have HS':Hid (((List.range (k+1)).map Int.ofNat).filter PR=lk):=by rw [HS.out,List.filter_cons_of_neg (by rw [HPK.out];simp),List.filter_nil,List.append_nil];exact (by rfl:lk=lk)
      go_wp2_with fail
      refine (HH1.out _ hxA).mono ?_;rintro e w8 ⟨rfl,rfl⟩
      go_wp2_with fail
      go_roundw
      case rel=>exact ⟨k+1,hlt,by go_num,by rw [HS'.out];exact hMA⟩
      case measure=>simp [intOf];omega
     ·have HS':Hid (((List.range (k+1)).map Int.ofNat).filter PR=lk):=by rw [HS.out,List.filter_cons_of_neg (by rw [HPK.out];simp),List.filter_nil,List.append_nil];exact (by rfl:lk=lk)
      go_wp2_with fail
      refine (HH1.out _ hxA).mono ?_;rintro e w8 ⟨rfl,rfl⟩
      go_wp2_with fail
      go_roundw
      case rel=>exact ⟨k+1,hlt,by go_num,by rw [HS'.out];exact hMA⟩
      case measure=>simp [intOf];omega
     ·have HS':Hid (((List.range (k+1)).map Int.ofNat).filter PR=lk++[(k:Int)]):=by rw [HS.out,List.filter_cons_of_pos (by rw [HPK.out];simp),List.filter_nil];exact rfl
      go_wp2_with fail
      refine (HH1.out _ hxA).mono ?_;rintro e w8 ⟨rfl,rfl⟩
      go_wp2_with fail
      refine (HH2.out _ hxA).mono ?_;rintro e w8 ⟨rfl,rfl⟩
      go_wp2_with (at_builtin;refine zan rfl _ _ rfl _ lk (k:Int) w2.heap.size wA.heap.size 1 _ rfl rfl (hMA.out.own.alloc _) ?d1 ?d2 ?d3 ?_)
      (try case d1=>exact zm _ _ _ (by simp))
      case d2=>(first | (simp;done) | (have:=hx2A.size;simp;omega) | (have:=hx2A.size;omega))
      case d3=>omega
      intro v' wb hob hgb hbl;have hM':=zh ((hMA.out.alloc _).app hob hgb);clear hob hgb hbl;go_wp2;go_roundw
      case rel=>exact ⟨k+1,hlt,by go_num,by rw [HS'.out];exact hM'⟩
      case measure=>simp [intOf];omega
     ·have HS':Hid (((List.range (k+1)).map Int.ofNat).filter PR=lk):=by rw [HS.out,List.filter_cons_of_neg (by rw [HPK.out];simp),List.filter_nil,List.append_nil];exact (by rfl:lk=lk)
      go_wp2_with fail
      refine (HH1.out _ hxA).mono ?_;rintro e w8 ⟨rfl,rfl⟩
      go_wp2_with fail
      go_roundw
      case rel=>exact ⟨k+1,hlt,by go_num,by rw [HS'.out];exact hMA⟩
      case measure=>simp [intOf];omega
     ·have HS':Hid (((List.range (k+1)).map Int.ofNat).filter PR=lk):=by rw [HS.out,List.filter_cons_of_neg (by rw [HPK.out];simp),List.filter_nil,List.append_nil];exact (by rfl:lk=lk)
      go_wp2_with fail
      refine (HH1.out _ hxA).mono ?_;rintro e w8 ⟨rfl,rfl⟩
      go_wp2_with fail
      refine (HH2.out _ hxA).mono ?_;rintro e w8 ⟨rfl,rfl⟩
      go_wp2_with fail
      go_roundw
      case rel=>exact ⟨k+1,hlt,by go_num,by rw [HS'.out];exact hMA⟩
      case measure=>simp [intOf];omega
    ·obtain rfl:k=N:=by omega
     go_wp2;go_ret;refine ⟨_,rfl,(hb1.trans hx).mono_mk ?_⟩;rw [HCB.out];exact hMA.out
  ·rw [List.concat_eq_append] at*;obtain ⟨bq,ofq,rfl,_,hcy⟩:=zt hrq (k:=q.length) (by simp) (by simp);have hgy:(q++[y])[q.length]'(by simp)=y:=by simp
   rw [hgy] at hcy;have hpl:(q++[y]).length=q.length+1:=by simp
   have hpl3:q.length+1≤300:=by
    have h5:=HC.out.psOk.fl;have h6:=flat_le (ps:=zJ m ch) (p:=q++[y]) (by rw [HPS.out];simp);rw [h5] at h6;omega
   have hyr:0≤y∧y<m.w*m.h*m.l:=(HC.out.range HG.out).1 y (by rw [←HC.out.psOk.fl,HPS.out];simp);rw [hpl] at hcu ru hcq HPL;have ry:=Ext.rule hcy;have hq4:((q.length:Int)+1==0)=false:=by rw [beq_eq_false_iff_ne];omega
   have hq5:decide ((q.length:Int)+1=0)=false:=decide_eq_false (by omega);have hq6:(q.length:Int)<(q.length:Int)+1:=by omega
   have HRQ:Hid (∀j (hj:j<q.length),w2.cell? ⟨bq,ofq+j,none⟩=some (.int .i64 q[j])):=fun j hj=>by
    obtain ⟨b9,of9,e9,_,hc9⟩:=zt hrq (k:=j) (by simp;omega) (by simp;omega);injection e9 with e9;injection e9 with e1 e2;subst e1 e2;rw [hc9,List.getElem_append_left hj]
   have HQR:Hid (∀j (hj:j<q.length),0≤q[j]∧q[j]<m.w*m.h*m.l):=fun j hj=>(HC.out.range HG.out).1 _ (by rw [←HC.out.psOk.fl,HPS.out];simp)
   clear hcy hgy hrq hpl;obtain ⟨bt,offt,sn,u1,u2,rfl,_,hc0,hc1,hc2,hi1,hi2⟩:=zam HTS.out hqt;have hlt1:=(HL.out.tl _ (List.getElem_mem hqt)).1;have htd:(m.tasks.getD qs.length ([],[])).1=(m.tasks[qs.length]).1:=by simp [hqt]
   have HCB:Hid (cand m ch=(zi m y).filter (zL m ch qs.length q (m.tasks.getD qs.length ([],[])).1)):=cand_on HPS.out HCM.out;rw [htd] at HCB;obtain ⟨fm,hfm⟩:∃fm,fm=(m.tasks[qs.length]).1:=⟨_,rfl⟩;rw [←hfm] at hi1 hlt1 HCB;clear htd hfm hc0 hc2 hi2;have HI1:=zh hi1;clear hi1;have rt:∀W,Ext w1 W→W.cell? ⟨bt,offt+qs.length*3+1,none⟩=some u1:=fun W hW=>Ext.rule hc1 W (hb1.trans hW)
   have hqf:qs.length<m.free.length:=by rw [HFL.out];exact hqt
   obtain ⟨bf,off3,uf,rfl,_,hcf1,hbf⟩:=zP HRF.out HEF.out hqf hqf;have hflen:=HG.out.fn _ (List.getElem_mem hqf);obtain ⟨A4,c4,rfl,hc4,hr4⟩:=hbf;have HR4:=zh hr4;clear hr4;have HFR:Hid (∀x:Nat,(hx:x<(m.free[qs.length]).length)→(m.free[qs.length])[x]=ze m qs.length (x:Int)):=fun x hx=>by simp [ze,hqf,hx]
   obtain ⟨fl,hfl9⟩:∃fl,fl=m.free[qs.length]:=⟨_,rfl⟩;rw [←hfl9] at hcf1 hflen hc4 HR4;have HFR':Hid (∀x:Nat,(hx:x<fl.length)→fl[x]=ze m qs.length (x:Int)):=by subst hfl9;exact HFR
   clear HFR hfl9;have rf:∀W,Ext w1 W→W.cell? ⟨bf,off3+qs.length,none⟩=some (.slice A4 fl.length c4):=fun W hW=>Ext.rule hcf1 W (hb1.trans hW)
   clear hc1 hcf1;have HFN:Hid ((fl.length:Int)=m.n):=hflen;clear hflen;have hln:=za5 m y
   go_wp2_with fail
   obtain ⟨hy0,hy1⟩:=hyr;have hqw:IntKind.i64.wrap ((q.length:Int)+1 - 1)=(q.length:Int):=by rw [IntKind.wrap_i64];omega
   have hqw2:IntKind.i64.wrap (q.length:Int)=(q.length:Int):=by rw [IntKind.wrap_i64];omega
   have hq8:(0:Int)≤(q.length:Int):=by omega
   have hR:=zh (Ext.refl w2)
   go_region_held3 (fun w'=>Ext w1 w'∧Ext w2 w')
    (first | (exact zc6 hx) | (exact held_ext (by assumption) hb9))
    ((go_at_call 81;refine (zdg m y _ (HMZ.out.below (hb1.trans hx.drew)) HG.out.dim hy0 hy1).mono ?_;rintro e w9 ⟨v9,rfl,hb9,ho9⟩))
   rename_i hS
   have HX9:=zh hS;have hx9:Ext w1 w9:=hS.1;have hx29:Ext w2 w9:=hS.2;have HO9:Hid (zy w9 w2.drew.heap.size v9 (zi m y)):=ho9;obtain ⟨A3,c3,rfl,hc3,hr3⟩:=Row.of_own ho9;clear ho9 hb9 hS hr3;obtain ⟨L,hL⟩:∃L,L=zi m y:=⟨_,rfl⟩;rw [←hL] at HO9 HCB hc3 hln⊢;have HLL:=zh hL;obtain ⟨F,hF⟩:∃F,F=zL m ch qs.length q fm:=⟨_,rfl⟩;rw [←hF] at HCB;have HFF:=zh hF;have hM0:Hid (Mk w9 w9 (.slice none 0 0) ((L.take 0).filter F)):=Mk.nil w9;clear hL hF
   go_wp2_with fail
   go_loopw [8,11] (fun v i wr=>∃k:Nat,k≤L.length∧i=.int .i64 k∧Hid (Mk w9 wr v ((L.take k).filter F))) (fun _ i _=>L.length - (intOf i).toNat)
   case atStart=>exact ⟨0,Nat.zero_le _,rfl,hM0⟩
   clear hM0
   case round=>
    obtain ⟨k,hk,rfl,hM⟩:=hrel;obtain ⟨wk,rfl⟩:∃wk:World,wk=wr:=⟨_,rfl⟩;have hx9k:Ext w9 wk:=hM.out.ext;have hx1k:Ext w1 wk:=hx9.trans hx9k;by_cases hlt:k<L.length
    ·obtain ⟨b3,rfl,hb3,hcell⟩:=own_at HO9.out hlt
     have hstep:(L.take (k+1)).filter F=(L.take k).filter F++[L[k]].filter F:=by
      rw [List.take_succ_eq_append_getElem hlt,List.filter_append]
     have hxr:0≤L[k]∧L[k]<m.n:=zab HG.out.dim hy0 (show y<m.n from hy1) (by rw [←HLL.out];exact List.getElem_mem hlt);obtain ⟨x,hxx⟩:∃x,x=L[k]:=⟨_,rfl⟩;rw [←hxx] at hcell hstep hxr;have HS:=zh hstep;clear hstep hxx;obtain ⟨X,hX⟩:∃X:Nat,(X:Int)=x:=⟨x.toNat,by omega⟩;have hkl:X<fl.length:=by have:=HFN.out;omega
     obtain ⟨b4,off4,e4,_,hcf2⟩:=zbn HR4.out hkl hkl;rw [HFR'.out X hkl] at hcf2;subst e4;subst hX;have rb:∀W,Ext w1 W→W.cell? ⟨b4,off4+X,none⟩=some (.bool (ze m qs.length (X:Int))):=fun W hW=>Ext.rule hcf2 W (hb1.trans hW)
     have rx:∀W,Ext w9 W→W.cell? ⟨b3,k,none⟩=some (.int .i64 (X:Int)):=Ext.rule hcell;have hX0:(0:Int)≤(X:Int):=by omega
     have hX1:(X:Int)<(fl.length:Int):=by omega
     have hlk:((L.take k).filter F).length≤k:=Nat.le_trans (List.length_filter_le _ _) (by simp;omega);obtain ⟨lk,hlk0⟩:∃lk,lk=(L.take k).filter F:=⟨_,rfl⟩;rw [←hlk0] at hM hlk HS;clear hcell hcf2 hlk0 hxr;have HH1:Hid (∀W,Ext w1 W→Calls Tryz.prog 12 #[u1,.int .i64 X] W fun e w'=>e=.returned (.bool (decide ((X:Int)∈fm)))∧W=w'):=fun W hW=>zE _ W (HI1.out.below (hb1.trans hW)) (by omega)
     have HH2:Hid (∀W,Ext w1 W→Calls Tryz.prog 12 #[.slice A ch.length c,.int .i64 X] W fun e w'=>e=.returned (.bool (decide ((X:Int)∈ch)))∧W=w'):=fun W hW=>zE _ W (HCH.out.below (hb1.trans hW)) (by omega)
     have HPK:Hid (F X=(ze m qs.length X && !decide ((X:Int)∈ch) && !(q.any fun y=>decide ((X:Int)∈zi m y)) && !decide ((X:Int)∈fm))):=by rw [HFF.out];rfl
     generalize decide ((X:Int)∈fm)=d1 at HH1 HPK;generalize decide ((X:Int)∈ch)=d2 at HH2 HPK;generalize ze m qs.length (X:Int)=d3 at rb HPK
     go_wp2_with fail
     have hqq:(X:Int)<(fl.length:Int):=hX1;go_cut [12] (fun s wx=>s=.bool (d3 && !d2 && !d1)∧Hid (Ext wk wx))
     case first=>
      cases d1 <;> cases d2 <;> cases d3
      all_goals
       go_quiet (first | (go_at_call 12;with_reducible refine (HH1.out _ (hx1k.drewN _)).mono ?_;rintro e w8 ⟨he8,rfl⟩;exact ⟨he8,⟨_,rfl⟩⟩) | (go_at_call 12;with_reducible refine (HH2.out _ (hx1k.drewN _)).mono ?_;rintro e w8 ⟨he8,rfl⟩;exact ⟨he8,⟨_,rfl⟩⟩))
       go_wp2_with fail
       go_meet;exact ⟨rfl,(Ext.refl wk).drewN _⟩
     case rest=>
      obtain ⟨rfl,hE⟩:=hcut;have hM':=zh (hM.out.more hE.out);have hx1c:Ext w1 wc:=hx1k.trans hE.out;clear hM hE rb HH1 HH2
      have HPK':Hid (F X=((d3 && !d2 && !d1) && !(q.any fun y=>decide ((X:Int)∈zi m y)))):=by
       show _=_;rw [HPK.out]
       cases d1 <;> cases d2 <;> cases d3 <;> simp
      clear HPK;obtain ⟨g0,hg0⟩:∃g0,g0=(d3 && !d2 && !d1):=⟨_,rfl⟩;rw [←hg0] at HPK'⊢;clear hg0
      go_wp2_with fail
      go_loopw [12,13] (fun gv i wr=>∃i0:Nat,i0≤q.length∧i=.int .i64 i0∧gv=.bool (g0 && !((q.take i0).any fun y=>decide ((X:Int)∈zi m y)))∧Hid (Mk w9 wr u8 lk)) (fun _ i _=>q.length - (intOf i).toNat)
      case atStart=>exact ⟨0,Nat.zero_le _,rfl,by simp,hM'⟩
      clear hM'
      case round=>
       obtain ⟨i0,hi0,rfl,rfl,hM⟩:=hrel;obtain ⟨wj,rfl⟩:∃wj:World,wj=wr:=⟨_,rfl⟩;obtain ⟨bb,hbb⟩:∃bb,bb=(g0 && !((q.take i0).any fun y=>decide ((X:Int)∈zi m y))):=⟨_,rfl⟩;rw [←hbb];have hx9j:Ext w9 wj:=hM.out.ext;have hx1j:Ext w1 wj:=hx9.trans hx9j;have hx2j:Ext w2 wj:=hx29.trans hx9j;by_cases hlt2:i0<q.length∧bb=true
       ·obtain ⟨hlt2,rfl⟩:=hlt2;have hcz:=HRQ.out i0 hlt2;obtain ⟨hz0,hz1⟩:=HQR.out i0 hlt2
        have HNX:Hid ((g0 && !((q.take (i0+1)).any fun y=>decide ((X:Int)∈zi m y)))=!decide ((X:Int)∈zi m q[i0])):=by
         show _=_;have h1:=hbb.symm;rw [Bool.and_eq_true,Bool.not_eq_true'] at h1;rw [List.take_succ_eq_append_getElem hlt2,List.any_append,h1.1,h1.2];simp
        obtain ⟨z,hz⟩:∃z,z=q[i0]:=⟨_,rfl⟩;rw [←hz] at hcz HNX hz0 hz1;have rz:=Ext.rule hcz;have hi1:(i0:Int)+1<(q.length:Int)+1:=by omega
        have hi2:i0<q.length+1:=by omega
        have hi3:(i0:Int)<(q.length:Int)+1:=by omega
        have hi4:decide ((i0:Int)+1<(q.length:Int)+1)=true:=decide_eq_true hi1;clear hcz hbb hz;have HMj:=zh (hM.out.drew)
        go_wp2_with fail
        go_region_held3 (fun w'=>(Ext w1 w'∧Ext w2 w'∧Ext w9 w')∧Ext wj w')
         (first | (exact ⟨⟨hx1j.drew,hx2j.drew,hx9j.drew⟩,(Ext.refl _).drew⟩) | (exact ⟨⟨hx1j.drew.trans hbn,hx2j.drew.trans hbn,hx9j.drew.trans hbn⟩,(Ext.refl _).drew.trans hbn⟩))
         (first | (go_at_call 81;refine (zdg m z _ (HMZ.out.below (hb1.trans hx1j.drew)) HG.out.dim hz0 hz1).mono ?_;rintro e wn ⟨v9,rfl,hbn,hon⟩) | (go_at_call 12;refine (zE (X:Int) _ (Row.of_own hon) (by have:=za5 m z;omega)).mono ?_;rintro e w10 ⟨rfl,rfl⟩))
        rename_i hS
        have HMn:=zh (HMj.out.more hbn);clear hbn hon hS
        go_wp2_with fail
        go_roundw
        case rel=>exact ⟨i0+1,hlt2,by go_num,by rw [HNX.out],HMn⟩
        case measure=>simp [intOf];omega
       ·have HFX:Hid (F X=bb):=by
         show _=_;rw [HPK'.out,hbb];by_cases hb1:i0<q.length
         ·have hb2:bb=false:=by
           cases hb3:bb
           ·rfl
           ·exact absurd ⟨hb1,hb3⟩ hlt2
          rw [hb2] at hbb;rw [←hbb]
          cases hg:g0
          ·rfl
          ·rw [hg,Bool.true_and] at hbb;have hbb:=hbb.symm;rw [Bool.not_eq_false',List.any_eq_true] at hbb;obtain ⟨z,hz1,hz2⟩:=hbb;rw [Bool.true_and,Bool.not_eq_false',List.any_eq_true];exact ⟨z,List.mem_of_mem_take hz1,hz2⟩
         ·rw [List.take_of_length_le (by omega)]
        clear hbb
        have hde:(decide ((i0:Int)+1<(q.length:Int)+1) && bb)=false:=by
         cases hb3:bb
         ·rw [Bool.and_false]
         ·rw [Bool.and_true,decide_eq_false_iff_not];intro h;exact hlt2 ⟨by omega,hb3⟩
        cases bb
        ·have HS':Hid ((L.take (k+1)).filter F=lk):=by rw [HS.out,List.filter_cons_of_neg (by rw [HFX.out];simp),List.filter_nil,List.append_nil];exact (by rfl:lk=lk)
         clear hlt2 hde;by_cases hb1':i0<q.length
         ·have hi4:decide ((i0:Int)+1<(q.length:Int)+1)=true:=decide_eq_true (by omega)
          go_wp2_with fail
          go_roundw
          case rel=>exact ⟨k+1,hlt,by go_num,by rw [HS'.out];exact hM⟩
          case measure=>simp [intOf];omega
         ·have hi4:decide ((i0:Int)+1<(q.length:Int)+1)=false:=decide_eq_false (by omega)
          go_wp2_with fail
          go_roundw
          case rel=>exact ⟨k+1,hlt,by go_num,by rw [HS'.out];exact hM⟩
          case measure=>simp [intOf];omega
        ·have HS':Hid ((L.take (k+1)).filter F=lk++[(X:Int)]):=by rw [HS.out,List.filter_cons_of_pos (by rw [HFX.out]),List.filter_nil];exact rfl
         have hi4:decide ((i0:Int)+1<(q.length:Int)+1)=false:=by rw [Bool.and_true] at hde;exact hde
         have hi7:i0=q.length:=by rw [decide_eq_false_iff_not] at hi4;omega
         subst hi7;clear hi4;clear hlt2 hde
         go_wp2_with (at_builtin;refine zan rfl _ _ rfl _ lk (X:Int) w9.heap.size wj.heap.size 1 _ rfl rfl (hM.out.own.alloc _) ?d1 ?d2 ?d3 ?_)
         (try case d1=>exact zm _ _ _ (by simp))
         case d2=>(first | (simp;done) | (have:=hx9j.size;simp;omega) | (have:=hx9j.size;omega))
         case d3=>omega
         intro v' wb hob hgb hbl;have hM'':=zh ((hM.out.alloc _).app hob hgb);clear hob hgb hbl;go_wp2;go_roundw
         case rel=>exact ⟨k+1,hlt,by go_num,by rw [HS'.out];exact hM''⟩
         case measure=>simp [intOf];omega
    ·obtain rfl:k=L.length:=by omega
     go_wp2;go_ret;refine ⟨_,rfl,(hb1.trans hx9).mono_mk ?_⟩;rw [HCB.out];have:=hM.out
     rwa [List.take_length] at this
 ·have h1:=(splitL_len HC.out).1 hcm;have HCC:=zh (cand_cmp hcm);obtain ⟨vs,⟨Ap,cp,rfl,hcp,hrp⟩,hep⟩:=hps;rw [h1] at hcp⊢;clear hrp hep h1 hcm;go_wp2;go_ret;refine ⟨_,rfl,?_⟩;rw [HCC.out];exact Mk.nil' (hb1.trans hx)
theorem qchosen_calls {ok okc:Nat→Prop} {v vc:Value} {m:MZ} {ch:List Int} (w:World) (hm:zr w ok v m) (hl:Lens m) (hch:zf w okc vc ch) (hlc:ch.length≤20000000000000):
  Calls Tryz.prog 120 #[v,vc] w fun e w'=>e=.returned (.bool (okC m ch))∧Ext w w':=by
 have HMZ:=zh hm;obtain ⟨vfr,vup,vts,rfl,-,-,-⟩:=hm;have HCH:=zh hch;obtain ⟨A,c,rfl,hcc,hr⟩:=hch;have HR:=zh hr;have HL:=zh hl;clear hr hl;obtain ⟨ck,hck⟩:∃ck,ck=chk m:=⟨_,rfl⟩;have HCK:=zh hck;clear hck
 go_enter Tryz.func120,Tryz.ntmps120
 go_wp2_with fail
 generalize hw1:w.alloc (.cells #[.int .i64 m.w,.int .i64 m.h,.int .i64 m.l,vfr,vup,vts] 32)=w1;have hb1:Ext w w1:=by rw [←hw1];exact (Ext.refl w).alloc _
 have hgm:Blk w1 w.heap.size 32 #[.int .i64 m.w,.int .i64 m.h,.int .i64 m.l,vfr,vup,vts]:=by rw [←hw1];exact heap_alloc_new _ _
 clear hw1;obtain ⟨m0,m1,m2,m3,m4,m5⟩:=zw hgm;have c0:=Ext.rule m0;have c1:=Ext.rule m1;have c2:=Ext.rule m2;have c3:=Ext.rule m3;have c4:=Ext.rule m4;have c5:=Ext.rule m5;clear m0 m1 m2 m3 m4 m5 hgm;refine (zca w1 (HMZ.out.below hb1) HL.out).mono ?_;rintro e w2 ⟨rfl,hx2⟩;have hx2:Ext w1 w2:=hx2;have hE2:Ext w w2:=hb1.trans hx2;rw [←HCK.out];by_cases h0:ck=0
 case neg=>
  have hq1:(ck==0)=false:=by rw [beq_eq_false_iff_ne];exact h0
  have hq2:(ck != 0)=true:=by rw [bne_iff_ne];exact h0
  have hle:Hid (okC m ch=false):=by show _=_;unfold okC;rw [←HCK.out,decide_eq_false h0];rfl
  clear h0
  go_wp2_with fail
  go_ret;exact ⟨zd hle.out.symm,hE2⟩
 case pos=>
  subst h0;have HG:=zh (zx.of HCK.out.symm);have hn1:=HG.out.dim.n1;have hlay:=HG.out.dim.layer;have HOK:Hid (okC m ch=isChB m ch):=by show _=_;unfold okC;rw [←HCK.out];rfl
  go_wp2_with fail
  refine (zax m.w m.h m.l vfr vup vts w2 (by omega) (by omega)).mono ?_;rintro e w3 ⟨rfl,hx3⟩;have hE3:Ext w w3:=hE2.trans hx3;have hE13:Ext w1 w3:=Ext.trans ‹Ext w1 w2› hx3;by_cases hlen:m.w*m.h*m.l<(ch.length:Int)
  ·have hgd:decide (m.w*m.h*m.l<(ch.length:Int))=true:=decide_eq_true hlen
   have hle:Hid (okC m ch=false):=by
    show _=_;rw [HOK.out,Bool.eq_false_iff];intro h;have h1:=(zbd.1 h).len HG.out;have h2:m.n=m.w*m.h*m.l:=rfl;omega
   go_wp2_with fail
   go_ret;exact ⟨zd hle.out.symm,hE3⟩
  ·have hgd:decide (m.w*m.h*m.l<(ch.length:Int))=false:=decide_eq_false hlen;have hl300:ch.length≤300:=by omega
   go_wp2_with fail
   clear hgd;go_loopw [5] (fun i wr=>∃k:Nat,k≤ch.length∧i=.int .i64 k∧Hid (zu m (ch.take k))∧Hid (Ext w1 wr)) (fun i _=>ch.length - (intOf i).toNat)
   case atStart=>exact ⟨0,Nat.zero_le _,rfl,by rw [List.take_zero];exact zu.nil,hE13⟩
   case round=>
    obtain ⟨k,hk,rfl,hI,hX⟩:=hrel;obtain ⟨wk,rfl⟩:∃wk:World,wk=wr:=⟨_,rfl⟩;have hx1k:Ext w1 wk:=hX.out;by_cases hlt:k<ch.length
    ·obtain ⟨b,off,rfl,_,hcell⟩:=zt HR.out hlt hlt;have HCK':=zh (intsTake HCH.out (show k≤ch.length by omega));have hsucc:=zh (List.take_succ_eq_append_getElem hlt)
     have HOF:Hid (ch[k]∉cand m (ch.take k)→okC m ch=false):=fun hn=>by
      rw [HOK.out,Bool.eq_false_iff];intro h;exact hn ((zbd.1 h).at hlt)
     obtain ⟨x,hxx⟩:∃x,x=ch[k]:=⟨_,rfl⟩;rw [←hxx] at hcell hsucc HOF;clear hxx;have rx:∀W,Ext w1 W→W.cell? ⟨b,off+k,none⟩=some (.int .i64 x):=fun W hW=>Ext.rule hcell W (hb1.trans hW)
     have hkk:(k:Int)≤(c:Int):=by omega
     have hkc:k≤c:=by omega
     have hk0:(0:Int)≤(k:Int):=by omega
     have hk1:(k:Int)<(ch.length:Int):=by omega
     clear hcell;have hlc2:=zbR HL.out (ch.take k)
     go_wp2_with fail
     go_region_held3 (fun w'=>Ext w1 w'∧Ext wk w')
      (first | (exact ⟨hx1k.drew,(Ext.refl _).drew⟩) | (exact ⟨hx1k.drew.trans hM9.ext,(Ext.refl _).drew.trans hM9.ext⟩))
      (first | (go_at_call 124;refine (qbehind_calls _ (HMZ.out.below (hb1.trans hx1k.drew)) HG.out HL.out (HCK'.out.below (hb1.trans hx1k.drew)) hI.out).mono ?_;rintro e wn ⟨v9,rfl,hM9⟩) | (go_at_call 12;refine (zE x _ hM9.ints (by omega)).mono ?_;rintro e w10 ⟨rfl,rfl⟩))
     rename_i hS
     have hx1n:Ext w1 wn:=hS.1;clear hM9 hS;by_cases hxc:x∈cand m (ch.take k)
     ·rw [decide_eq_true hxc];have hI':Hid (zu m (ch.take (k+1))):=by show zu _ _;rw [hsucc.out];exact zu.snoc hI.out hxc
      clear hxc
      go_wp2_with fail
      go_roundw
      case rel=>exact ⟨k+1,hlt,by go_num,hI',hx1n⟩
      case measure=>simp [intOf];omega
     ·rw [decide_eq_false hxc];have hle:=zh (HOF.out hxc);clear hxc;go_wp2;go_ret;exact ⟨zd hle.out.symm,hb1.trans hx1n⟩
    ·obtain rfl:k=ch.length:=by omega
     have hle:Hid (okC m ch=true):=by
      show _=_;rw [HOK.out,zbd];have:=hI.out
      rwa [List.take_length] at this
     go_wp2;go_ret;exact ⟨zd hle.out.symm,hb1.trans hx1k⟩
theorem qCandidates_calls {ok okc:Nat→Prop} {v vc:Value} {m:MZ} {ch:List Int} (w:World) (hm:zr w ok v m) (hl:Lens m) (hch:zf w okc vc ch) (hlc:ch.length≤20000000000000):
  Calls Tryz.prog 97 #[v,vc] w fun e w'=>∃v',e=.returned v'∧Mk w w' v' (zM m ch):=by
 have HMZ:=zh hm;obtain ⟨vfr,vup,vts,rfl,-,-,-⟩:=hm;have HCH:=zh hch;obtain ⟨A,c,rfl,hcc,-⟩:=hch;have HL:=zh hl;clear hl;obtain ⟨bb,hbb⟩:∃bb,bb=okC m ch:=⟨_,rfl⟩;have HBB:=zh hbb;clear hbb
 go_enter Tryz.func97,Tryz.ntmps97
 go_wp2_with fail
 generalize hw1:w.alloc (.cells #[.int .i64 m.w,.int .i64 m.h,.int .i64 m.l,vfr,vup,vts] 32)=w1;have hb1:Ext w w1:=by rw [←hw1];exact (Ext.refl w).alloc _
 have hgm:Blk w1 w.heap.size 32 #[.int .i64 m.w,.int .i64 m.h,.int .i64 m.l,vfr,vup,vts]:=by rw [←hw1];exact heap_alloc_new _ _
 clear hw1;obtain ⟨m0,m1,m2,m3,m4,m5⟩:=zw hgm;have c0:=Ext.rule m0;have c1:=Ext.rule m1;have c2:=Ext.rule m2;have c3:=Ext.rule m3;have c4:=Ext.rule m4;have c5:=Ext.rule m5;clear m0 m1 m2 m3 m4 m5 hgm;refine (qchosen_calls w1 (HMZ.out.below hb1) HL.out (HCH.out.below hb1) hlc).mono ?_;rintro e w2 ⟨rfl,hx2⟩;rw [←HBB.out];cases bb
 ·have HCO:Hid (zM m ch=[]):=by show _=_;unfold zM;rw [←HBB.out];rfl
  go_wp2_with fail
  go_ret;exact ⟨_,rfl,by rw [HCO.out];exact Mk.nil' (hb1.trans hx2)⟩
 ·have HCO:Hid (zM m ch=cand m ch):=by show _=_;unfold zM;rw [←HBB.out];rfl
  obtain ⟨hg,hc⟩:=zc9 HBB.out.symm;have HG:=zh hg;have HC:=zh hc;clear hg hc
  go_wp2_with fail
  refine (qbehind_calls w2 (HMZ.out.below (hb1.trans hx2)) HG.out HL.out (HCH.out.below (hb1.trans hx2)) HC.out).mono ?_;rintro e w3 ⟨v3,rfl,hM⟩;have HM:=zh ((hb1.trans hx2).mono_mk hM);clear hM
  go_wp2_with fail
  go_ret;exact ⟨_,rfl,by rw [HCO.out];exact HM.out⟩
theorem reachL_le (m:MZ) (t:Nat) (f us:List Int) (g:zx m):(zaA m t f us).length≤20000000000000:=by
 unfold zaA;refine Nat.le_trans (List.length_filter_le _ _) ?_;have h1:=g.dim.n1;have h2:m.n=m.w*m.h*m.l:=rfl;simp;omega
def zn (m:MZ) (ch:List Int):List (List Int):=if okC m ch=true then (zJ m ch).filter (fun p=>decide (p.length≠0)) else []
theorem splitL_drop {m:MZ} {ch:List Int} (h:zu m ch):∀qs p,zas m ch=qs++[p]→(∀q∈qs,q≠[])∧((zJ m ch).filter fun p=>decide (p.length≠0))=(if p=[] then qs else qs++[p]):=by
 induction h with
 | nil=>
  intro qs p h;rw [splitL_nil] at h
  have h1:qs=[]∧p=[]:=by
   cases qs with
   | nil=>simp at h;exact ⟨rfl,h⟩
   | cons a l=>
    have:=congrArg List.length h;simp at this
  obtain ⟨rfl,rfl⟩:=h1;refine ⟨fun q hq=>(by cases hq),?_⟩;rw [psOf_nil];unfold ps0
  split <;> simp
 | @snoc ch n h hn ih=>
  intro qs p hs;have hc:=zbo hn;obtain ⟨qs0,p0,h1,h2,h3⟩:=ps_form h hc;obtain ⟨i1,i2⟩:=ih qs0 p0 h3;have h4:=split_step n h1 h2;rw [hs] at h4
  have hfin:∀(ps:List (List Int)) (a:List Int),(∀q∈ps,q≠[])→(ps++[a]).filter (fun p=>decide (p.length≠0))=if a=[] then ps else ps++[a]:=fun ps a hps=>by
   rw [List.filter_append,List.filter_eq_self.2 (fun q hq=>by have:=hps q hq;simpa using this)];by_cases ha:a=[]
   ·rw [if_pos ha];subst ha;simp
   ·rw [if_neg ha];congr 1;simp [ha]
  have key:∀q∈qs,q≠[]:=by
   intro q hq
   split at h4
   ·have h5:qs=qs0++[p0++[n]]:=(List.append_inj' h4 rfl).1;rw [h5] at hq;rcases List.mem_append.1 hq with hq | hq
    ·exact i1 q hq
    ·rw [List.mem_singleton] at hq;subst hq;simp
   ·rw [List.append_nil] at h4;have h5:qs=qs0:=(List.append_inj' h4 rfl).1;rw [h5] at hq;exact i1 q hq
  refine ⟨key,?_⟩;rw [←hfin qs p key,←hs];unfold zas;rw [List.filter_append]
  split <;> simp
theorem pathsO_eq {m:MZ} {ch:List Int} (h:okC m ch=true) {qs:List (List Int)} {p:List Int} (hs:zas m ch=qs++[p]):zn m ch=if p=[] then qs else qs++[p]:=by
 unfold zn;rw [if_pos h];exact (splitL_drop (zc9 h).2 qs p hs).2
theorem splitL_last {m:MZ} {ch:List Int} (h:zu m ch):∃qs p,zas m ch=qs++[p]:=by
 have hsl:=splitL_len h
 have hp0:0<(zas m ch).length:=by
  cases h:zae m ch
  ·exact (hsl.2 h).2
  ·have:=hsl.1 h;omega
 rcases List.eq_nil_or_concat (zas m ch) with h1 | ⟨qs,p,h1⟩
 ·rw [h1] at hp0;simp at hp0
 ·exact ⟨qs,p,by rw [h1,List.concat_eq_append]⟩
def PathsPost (w:World) (m:MZ) (ch:List Int) (e:Ending) (w':World):Prop:=
 ∃v,e=.returned (.tuple #[v,.bool (okC m ch)])∧Ext w w'∧zo w' (fun b=>w.heap.size≤b) v (zn m ch)
theorem intss_take {w:World} {ok:Nat→Prop} {A:Option Addr} {n c N:Nat} {l:List (List Int)} (h:zo w ok (.slice A n c) l) (hN:N≤n):zo w ok (.slice A N c) (l.take N):=by
 obtain ⟨vs,⟨A',c',e,hc,hl,hr⟩,he⟩:=h;injection e with e1 e2 e3;subst e1 e2 e3;refine ⟨vs.take N,⟨A,c,by rw [List.length_take,Nat.min_eq_left (by omega)],by rw [List.length_take];omega,by rw [List.length_take,List.length_take];omega,fun hp=>?_⟩,fun i x hx=>?_⟩
 ·rw [List.length_take] at hp;obtain ⟨b,off,e,hb,hcell⟩:=hr (by omega);refine ⟨b,off,e,hb,fun j u hu=>hcell j u ?_⟩;rw [List.getElem?_take] at hu
  split at hu
  ·exact hu
  ·cases hu
 ·rw [List.getElem?_take] at hx
  split at hx
  ·rename_i hi
   obtain ⟨u,hu,hr⟩:=he i x hx;exact ⟨u,by rw [List.getElem?_take,if_pos hi];exact hu,hr⟩
  ·cases hx
theorem zcP {ok okc:Nat→Prop} {v vc:Value} {m:MZ} {ch:List Int} (w:World) (hm:zr w ok v m) (hl:Lens m) (hch:zf w okc vc ch) (hlc:ch.length≤20000000000000):
  Calls Tryz.prog 94 #[v,vc] w (PathsPost w m ch):=by
 have HMZ:=zh hm;obtain ⟨vfr,vup,vts,rfl,-,-,-⟩:=hm;have HCH:=zh hch;obtain ⟨A,c,rfl,hcc,-⟩:=hch;have HL:=zh hl;clear hl;obtain ⟨bb,hbb⟩:∃bb,bb=okC m ch:=⟨_,rfl⟩;have HBB:=zh hbb;clear hbb
 go_enter Tryz.func94,Tryz.ntmps94
 go_wp2_with fail
 generalize hw1:w.alloc (.cells #[.int .i64 m.w,.int .i64 m.h,.int .i64 m.l,vfr,vup,vts] 32)=w1;have hb1:Ext w w1:=by rw [←hw1];exact (Ext.refl w).alloc _
 have hgm:Blk w1 w.heap.size 32 #[.int .i64 m.w,.int .i64 m.h,.int .i64 m.l,vfr,vup,vts]:=by rw [←hw1];exact heap_alloc_new _ _
 clear hw1;obtain ⟨m0,m1,m2,m3,m4,m5⟩:=zw hgm;have c0:=Ext.rule m0;have c1:=Ext.rule m1;have c2:=Ext.rule m2;have c3:=Ext.rule m3;have c4:=Ext.rule m4;have c5:=Ext.rule m5;clear m0 m1 m2 m3 m4 m5 hgm;refine (qchosen_calls w1 (HMZ.out.below hb1) HL.out (HCH.out.below hb1) hlc).mono ?_;rintro e w2 ⟨rfl,hx2⟩;rw [←HBB.out];cases bb
 ·have HFIN:Hid (PathsPost w m ch (.returned (.tuple #[.slice none 0 0,.bool false])) w2):=⟨_,by rw [←HBB.out],hb1.trans hx2,by unfold zn;rw [←HBB.out];exact ⟨[],⟨none,0,rfl,Nat.le_refl _,zY.nil _ _ _ _⟩,fun i x hx=>by simp at hx⟩⟩
  go_wp2_with fail
  go_ret2
  exact HFIN.out
 ·obtain ⟨hg,hc⟩:=zc9 HBB.out.symm;obtain ⟨qs,p,hqp⟩:=splitL_last hc;have HPO:=zh (pathsO_eq HBB.out.symm hqp);have hsl:=splitL_len hc
  have hp7:(zas m ch).length≤7:=by
   have htk:=hg.tk
   cases h:zae m ch
   ·have:=(hsl.2 h).1;omega
   ·have:=hsl.1 h;omega
  have HG:=zh hg;have HC:=zh hc;have HQP:=zh hqp;clear hg hc hqp hsl
  go_wp2_with fail
  refine (qsplit_calls w2 (HMZ.out.below (hb1.trans hx2)) HG.out HL.out (HCH.out.below (hb1.trans hx2)) HC.out).mono ?_;rintro e w3 ⟨v3,rfl,hx3,hps⟩;have HPS:=zh hps;obtain ⟨vs,⟨Ap,cp,rfl,hcp,hrp⟩,hep⟩:=hps;obtain ⟨bp,ofp,up,rfl,_,hcu,hup⟩:=zP hrp hep (k:=qs.length) (by rw [HQP.out];simp) (by rw [HQP.out];simp);have hgp:(zas m ch)[qs.length]'(by rw [HQP.out];simp)=p:=by simp only [HQP.out];simp
  rw [hgp] at hup;obtain ⟨Aq,cq,rfl,hcq,-⟩:=hup;have ru:=Ext.rule hcu;have hql:(zas m ch).length=qs.length+1:=by rw [HQP.out];simp
  rw [hql] at hcp hp7⊢;have hq3:(qs.length:Int)<(qs.length:Int)+1:=by omega
  have hx33:Ext w3 w3:=Ext.refl w3;have HE3:Hid (Ext w w3):=hb1.trans (hx2.trans hx3);have hz2:=hx2.size;have hz1:=hb1.size
  have HPS':Hid (zo w3 (fun b=>w.heap.size≤b) (.slice (some ⟨bp,ofp,none⟩) (qs.length+1) cp) (qs++[p])):=by
   have h1:=HPS.out;rw [hql] at h1;rw [HQP.out] at h1;exact h1.weaken fun b hb=>by omega
  clear hrp hep hgp hcu hql hx3 hx2 hz1 hz2;by_cases hpn:p=[]
  ·subst hpn;have hz:([]:List Int).length=0:=rfl;rw [hz] at ru hcq
   have HFIN:Hid (PathsPost w m ch (.returned (.tuple #[.slice (some ⟨bp,ofp,none⟩) qs.length cp,.bool true])) w3):=⟨_,by rw [←HBB.out],HE3.out,by
    rw [HPO.out,if_pos rfl];have h1:=intss_take HPS'.out (N:=qs.length) (by omega)
    rwa [List.take_append_of_le_length (Nat.le_refl _),List.take_length] at h1⟩
   have hq4:(qs.length:Int)≤(cp:Int):=by omega
   go_wp2_with fail
   go_ret2
   exact HFIN.out
  ·have HFIN:Hid (PathsPost w m ch (.returned (.tuple #[.slice (some ⟨bp,ofp,none⟩) (qs.length+1) cp,.bool true])) w3):=⟨_,by rw [←HBB.out],HE3.out,by
    rw [HPO.out,if_neg hpn];exact HPS'.out⟩
   have hpl:p.length≠0:=fun h=>hpn (List.eq_nil_of_length_eq_zero h)
   have hq4:((p.length:Int)==0)=false:=by rw [beq_eq_false_iff_ne];omega
   clear hpn
   go_wp2_with fail
   go_ret2
   exact HFIN.out
end Go.Proofs.YthbjngbhbbkkgaaGreat
