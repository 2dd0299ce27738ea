/- RtRi RtVb RtQa -/
import Derived.Test.YthbjngbhbbkkgaaGreatHUa
import Derived.Test.YthbjngbhbbkkgaaGreatHUb
import Derived.Test.YthbjngbhbbkkgaaGreatHUc
import Derived.Test.YthbjngbhbbkkgaaGreatHUd
import Derived.Test.YthbjngbhbbkkgaaGreatHUe
import Derived.Test.YthbjngbhbbkkgaaGreatHUf
import Derived.Test.YthbjngbhbbkkgaaGreatHUg
import Derived.Test.YthbjngbhbbkkgaaGreatHUh
import Derived.Test.YthbjngbhbbkkgaaGreatHUi
import Derived.Test.YthbjngbhbbkkgaaGreatHUj
import Derived.Deep.RegionHeld3
set_option linter.unusedVariables false
set_option linter.unusedSimpArgs false
set_option maxRecDepth 100000
set_option maxHeartbeats 16000000
namespace Go.Proofs.YthbjngbhbbkkgaaGreat
open Go.RowKit
attribute [local go_sem ↓] Go.wp_at_zero Go.wp_at_succ
def zbB (m:MZ) (t:Nat) (p pre:List Int) (k:Nat):Bool:=
 decide (0≤p.getD k 0) && (decide (p.getD k 0<m.n) && (!decide (p.getD k 0∈pre) && (ze m t (p.getD k 0) && (decide (k=0) || decide (p.getD k 0∈zi m (p.getD (k - 1) 0))))))
def pathB (m:MZ) (t:Nat) (p pre:List Int):Bool:=
 !decide (p=[]) && (decide (p.getD 0 0∈(m.tasks.getD t ([],[])).1) && (decide (p.getD (p.length - 1) 0∈(m.tasks.getD t ([],[])).2) && (List.range p.length).all fun k=>zbB m t p (pre++p.take k) k))
def zZ (m:MZ) (ps:List (List Int)):Bool:=
 decide (chk m=0) && (decide (ps.length=m.tasks.length) && (List.range ps.length).all fun t=>pathB m t (ps.getD t []) (ps.take t).flatten)
section
variable {m:MZ} {t:Nat} {p pre:List Int} {ps:List (List Int)}
theorem pathB_hd (h:p.getD 0 0∉(m.tasks.getD t ([],[])).1):pathB m t p pre=false:=by
 unfold pathB;rw [decide_eq_false h];simp
theorem pathB_lt (h:p.getD (p.length - 1) 0∉(m.tasks.getD t ([],[])).2):pathB m t p pre=false:=by
 unfold pathB;rw [decide_eq_false h];simp
theorem pathB_nd {k:Nat} (hk:k<p.length) (h:zbB m t p (pre++p.take k) k=false):pathB m t p pre=false:=by
 unfold pathB
 have:((List.range p.length).all fun k=>zbB m t p (pre++p.take k) k)=false:=by
  rw [Bool.eq_false_iff];intro h2;have:=List.all_eq_true.1 h2 k (List.mem_range.2 hk);rw [h] at this;cases this
 rw [this];simp
theorem pathB_ok (h0:p≠[]) (h1:p.getD 0 0∈(m.tasks.getD t ([],[])).1) (h2:p.getD (p.length - 1) 0∈(m.tasks.getD t ([],[])).2) (h3:∀k,k<p.length→zbB m t p (pre++p.take k) k=true):pathB m t p pre=true:=by
 unfold pathB;rw [decide_eq_false h0,decide_eq_true h1,decide_eq_true h2,List.all_eq_true.2 (fun k hk=>h3 k (List.mem_range.1 hk))];rfl
theorem rightB_path (ht:t<ps.length) (h:pathB m t (ps.getD t []) (ps.take t).flatten=false):zZ m ps=false:=by
 unfold zZ
 have:((List.range ps.length).all fun t=>pathB m t (ps.getD t []) (ps.take t).flatten)=false:=by
  rw [Bool.eq_false_iff];intro h2;have:=List.all_eq_true.1 h2 t (List.mem_range.2 ht);rw [h] at this;cases this
 rw [this];simp
theorem rightB_ok (h0:chk m=0) (h1:ps.length=m.tasks.length) (h2:∀t,t<ps.length→pathB m t (ps.getD t []) (ps.take t).flatten=true):zZ m ps=true:=by
 unfold zZ;rw [decide_eq_true h0,decide_eq_true h1,List.all_eq_true.2 (fun t ht=>h2 t (List.mem_range.1 ht))];rfl
end
structure RtI (w wr:World) (gs:Nat) (pre:List Int):Prop where
 ext:Ext w wr
 gsB:w.heap.size≤gs
 set:∃s,zA wr gs s∧∀x,x∈s↔x∈pre
theorem RtI.more {w wr w':World} {gs:Nat} {pre:List Int} (h:RtI w wr gs pre) (hE:Ext wr w'):RtI w w' gs pre:=by
 obtain ⟨s,h1,h2⟩:=h.set;exact ⟨h.ext.trans hE,h.gsB,s,h1.below hE,h2⟩
theorem RtI.add {w wr w':World} {gs:Nat} {pre s:List Int} {x:Int} (h:RtI w wr gs pre) (hs:∀y,y∈s↔y∈pre) (h1:zA w' gs (ins s x)) (hg:wr.grownBy w' (some gs)):RtI w w' gs (pre++[x]):=
 ⟨Below.grown h.ext hg h.ext.size (fun k hk=>by injection hk with hk;have:=h.gsB;omega),h.gsB,_,h1,fun y=>by rw [mem_ins,hs,List.mem_append,List.mem_singleton]⟩
theorem zcz {okm okp:Nat→Prop} {v vp:Value} {m:MZ} {ps:List (List Int)} (w:World) (hm:zr w okm v m) (hl:Lens m) (hp:zo w okp vp ps) (hpl:ps.length≤20000000000000) (hpx:∀x∈ps,x.length≤20000000000000):
  Calls Tryz.prog 14 #[v,vp] w fun e w'=>e=.returned (.bool (zZ m ps))∧Ext w w':=by
 have hmz:=hm;obtain ⟨vfr,vup,vts,rfl,-,-,hts⟩:=hm;have HTS:=zh hts;obtain ⟨_,⟨At,ct,rfl,-⟩,-⟩:=hts;have HMZ:=zh hmz;clear hmz;obtain ⟨vsp,⟨Ap,cp,rfl,hcp,hrp⟩,hep⟩:=hp;have HRP:=zh hrp;have HEP:=zh hep;clear hrp hep;have HL:=zh hl;clear hl;have HPX:=zh hpx;clear hpx;obtain ⟨ck,hck⟩:∃ck,ck=chk m:=⟨_,rfl⟩;have HCK:=zh hck;clear hck;have hmm:=@run_makeMap Tryz.prog
 go_enter Tryz.func14,Tryz.ntmps14
 go_wp2_with fail
 generalize hw1:w.alloc (.cells #[.int .i64 m.w,.int .i64 m.h,.int .i64 m.l,vfr,vup,.slice At m.tasks.length ct] 32)=w1;have hb1:Ext w w1:=by rw [←hw1];exact (Ext.refl w).alloc _
 have hgm:Blk w1 w.heap.size 32 #[.int .i64 m.w,.int .i64 m.h,.int .i64 m.l,vfr,vup,.slice At m.tasks.length ct]:=by rw [←hw1];exact heap_alloc_new _ _
 clear hw1;obtain ⟨m0,m1,m2,m3,m4,m5⟩:=zw hgm;have c0:=Ext.rule m0;have c1:=Ext.rule m1;have c2:=Ext.rule m2;have c3:=Ext.rule m3;have c4:=Ext.rule m4;have c5:=Ext.rule m5;clear m0 m1 m2 m3 m4 m5 hgm;refine (zaM w1 (HMZ.out.below hb1) HL.out).mono ?_;rintro e w2 ⟨rfl,hx2⟩;have hx2:Ext w1 w2:=hx2;have HE2:Hid (Ext w w2):=hb1.trans hx2;have HB1:=zh hb1;rw [←HCK.out];by_cases h0:ck=0
 case neg=>
  have hq1:(ck==0)=false:=by rw [beq_eq_false_iff_ne];exact h0
  have hq2:(ck != 0)=true:=by rw [bne_iff_ne];exact h0
  have hfin:Hid (zZ m ps=false):=by show _=_;unfold zZ;rw [←HCK.out,decide_eq_false h0];rfl
  clear h0
  go_wp2_with fail
  go_ret;exact ⟨zd hfin.out.symm,HE2.out⟩
 case pos=>
  subst h0;have HG:=zh (zx.of HCK.out.symm);have HOT:Hid (∀h1:ps.length=m.tasks.length,∀h2:(∀t,t<ps.length→pathB m t (ps.getD t []) (ps.take t).flatten=true),zZ m ps=true):=fun h1 h2=>rightB_ok HCK.out.symm h1 h2
  clear HCK;by_cases hlen:ps.length=m.tasks.length
  case neg=>
   have hq3:((ps.length:Int)==(m.tasks.length:Int))=false:=by rw [beq_eq_false_iff_ne];omega
   have hq4:((ps.length:Int) != (m.tasks.length:Int))=true:=by rw [bne_iff_ne];omega
   have hfin:Hid (zZ m ps=false):=by show _=_;unfold zZ;rw [decide_eq_false hlen];simp
   clear hlen
   go_wp2_with fail
   go_ret;exact ⟨zd hfin.out.symm,HE2.out⟩
  case pos=>
   have hq3:((ps.length:Int)==(m.tasks.length:Int))=true:=by rw [beq_iff_eq];omega
   have hq4:((ps.length:Int) != (m.tasks.length:Int))=false:=by rw [bne_eq_false_iff_eq];omega
   have HLEN:=zh hlen;have htk:=HG.out.tk;have hp6:ps.length≤6:=by omega
   have H0:Hid (RtI w2 (w2.alloc (.map #[] 0)) w2.heap.size []):=⟨(Ext.refl _).alloc _,Nat.le_refl _,[],zA.new _,fun x=>Iff.rfl⟩;have p0:∀W,Ext w2 W→W.cell? ⟨w.heap.size,0,none⟩=some (.int .i64 m.w):=fun W h=>c0 W (hx2.trans h)
   have p1:∀W,Ext w2 W→W.cell? ⟨w.heap.size,1,none⟩=some (.int .i64 m.h):=fun W h=>c1 W (hx2.trans h)
   have p2:∀W,Ext w2 W→W.cell? ⟨w.heap.size,2,none⟩=some (.int .i64 m.l):=fun W h=>c2 W (hx2.trans h)
   have p3:∀W,Ext w2 W→W.cell? ⟨w.heap.size,3,none⟩=some vfr:=fun W h=>c3 W (hx2.trans h)
   have p4:∀W,Ext w2 W→W.cell? ⟨w.heap.size,4,none⟩=some vup:=fun W h=>c4 W (hx2.trans h)
   have p5:∀W,Ext w2 W→W.cell? ⟨w.heap.size,5,none⟩=some (.slice At m.tasks.length ct):=fun W h=>c5 W (hx2.trans h)
   clear hlen
   go_wp2_with fail
   obtain ⟨gs,hgs⟩:∃gs,gs=w2.heap.size:=⟨_,rfl⟩;rw [←hgs] at H0⊢;generalize hw3:w2.alloc (.map #[] 0)=w3 at*;clear hw3 hmm hq3 hq4 hgs c0 c1 c2 c3 c4 c5
   go_loopg [24] ps.length (fun gk v wr=>∃t:Nat,v=.int .i64 t∧t≤ps.length∧gk=ps.length - t∧Hid (RtI w2 wr gs (ps.take t).flatten∧∀t',t'<t→pathB m t' (ps.getD t' []) (ps.take t').flatten=true))
   case atStart=>exact ⟨0,rfl,Nat.zero_le _,rfl,H0.out,fun t' h=>by omega⟩
   clear H0
   case round=>
    obtain ⟨t,rfl,ht,rfl,hI⟩:=hrel;have hx:Ext w2 wr:=hI.out.1.ext;rcases Nat.lt_or_ge t ps.length with hlt | hge
    ·have hlt2:t<m.tasks.length:=by have:=HLEN.out;omega
     have hpt:ps.getD t []=ps[t]:=by rw [List.getD_eq_getElem?_getD,List.getElem?_eq_getElem hlt];rfl
     obtain ⟨bp,offp,up,rfl,-,hcp0,hup⟩:=zP HRP.out HEP.out hlt hlt;obtain ⟨bt,offt,sn,u1,u2,rfl,-,-,hc1,hc2,hi1,hi2⟩:=zam HTS.out hlt2;have hpx:=HPX.out _ (List.getElem_mem hlt);have htx:=HL.out.tl _ (List.getElem_mem hlt2);have htt:m.tasks.getD t ([],[])=m.tasks[t]:=by rw [List.getD_eq_getElem?_getD,List.getElem?_eq_getElem hlt2];rfl
     have HRF:Hid (pathB m t (ps.getD t []) (ps.take t).flatten=false→zZ m ps=false):=rightB_path hlt;have HTK:Hid ((ps.take (t+1)).flatten=(ps.take t).flatten++ps[t]):=by show _=_;rw [List.take_succ_eq_append_getElem hlt,List.flatten_append];simp
     rw [hpt] at HRF;have HPT:=zh hpt;obtain ⟨p,hp⟩:∃p,p=ps[t]:=⟨_,rfl⟩;rw [←hp] at hup hpx HRF HTK HPT;obtain ⟨pre,hpre⟩:∃pre,pre=(ps.take t).flatten:=⟨_,rfl⟩;have hIp:=hI.out;rw [←hpre] at HRF HTK hIp;have HPRE:=zh hpre;have HI:=zh hIp;obtain ⟨T1,hT1⟩:∃T1,T1=m.tasks[t].1:=⟨_,rfl⟩;obtain ⟨T2,hT2⟩:∃T2,T2=m.tasks[t].2:=⟨_,rfl⟩;have HT1:Hid ((m.tasks.getD t ([],[])).1=T1):=by show _=_;rw [htt,hT1]
     have HT2:Hid ((m.tasks.getD t ([],[])).2=T2):=by show _=_;rw [htt,hT2]
     rw [←hT1] at hi1 htx;rw [←hT2] at hi2 htx;obtain ⟨htx1,htx2⟩:=htx;have HI1:=zh hi1;have HI2:=zh hi2;obtain ⟨Aq,cq,rfl,hcq,hrq⟩:=hup;have HRQ:=zh hrq;have hE2:=HE2.out;have qp:∀W,Ext w2 W→W.cell? ⟨bp,offp+t,none⟩=some (.slice Aq p.length cq):=fun W h=>Ext.rule hcp0 W (hE2.trans h)
     have q1:∀W,Ext w2 W→W.cell? ⟨bt,offt+t*3+1,none⟩=some u1:=fun W h=>Ext.rule hc1 W (hE2.trans h)
     have q2:∀W,Ext w2 W→W.cell? ⟨bt,offt+t*3+2,none⟩=some u2:=fun W h=>Ext.rule hc2 W (hE2.trans h)
     have hkt0:(0:Int)≤(t:Int):=by omega
     have hkt1:(t:Int)<(m.tasks.length:Int):=by omega
     have hkt2:(t:Int)<(ps.length:Int):=by omega
     clear hcp0 hc1 hc2 hpt htt hp hpre hIp hT1 hT2 hi1 hi2 hrq hE2 hI;have hd1:∀q,Ext w2 (wr.drewN q):=fun q=>hx.drewN q
     go_upto_region 7 with fail;rcases Nat.eq_zero_or_pos p.length with hpz | hpz
     ·have hp0:p=[]:=List.eq_nil_of_length_eq_zero hpz;subst hp0;have hz:([]:List Int).length=0:=rfl;have hfin:Hid (zZ m ps=false):=HRF.out rfl;clear hpz;go_quiet (fail)
      go_wp2_with fail
      go_ret;exact ⟨zd hfin.out.symm,HE2.out.trans (hd1 _)⟩
     ·obtain ⟨bq,offq,rfl,-,hcx0⟩:=zt HRQ.out (k:=0) hpz hpz;obtain ⟨n1,hn1⟩:∃n1,n1=p.length - 1:=⟨_,rfl⟩;have hn2:n1<p.length:=by omega
      obtain ⟨bq',offq',e,-,hcx1⟩:=zt HRQ.out (k:=n1) hn2 hn2;injection e with e;injection e with e1 e2;subst e1 e2;obtain ⟨x0,hx0⟩:∃x0,x0=p[0]:=⟨_,rfl⟩;obtain ⟨xl,hxl⟩:∃xl,xl=p[n1]:=⟨_,rfl⟩;rw [←hx0] at hcx0;rw [←hxl] at hcx1;have hE2:=HE2.out;have qx0:∀W,Ext w2 W→W.cell? ⟨bq,offq,none⟩=some (.int .i64 x0):=fun W h=>Ext.rule hcx0 W (hE2.trans h)
      have qxl:∀W,Ext w2 W→W.cell? ⟨bq,offq+n1,none⟩=some (.int .i64 xl):=fun W h=>Ext.rule hcx1 W (hE2.trans h)
      have HX0:Hid (p.getD 0 0=x0):=by show _=_;rw [hx0,List.getD_eq_getElem?_getD,List.getElem?_eq_getElem hpz];rfl
      have HXL:Hid (p.getD (p.length - 1) 0=xl):=by show _=_;rw [←hn1,hxl,List.getD_eq_getElem?_getD,List.getElem?_eq_getElem hn2];rfl
      have hz1:((p.length:Int)==0)=false:=by rw [beq_eq_false_iff_ne];omega
      have hz3:(0:Int)<(p.length:Int):=by omega
      have hqw:IntKind.i64.wrap ((p.length:Int) - 1)=(n1:Int):=by rw [IntKind.wrap_i64];omega
      have hq0:(0:Int)≤(n1:Int):=by omega
      have hq1:(n1:Int)<(p.length:Int):=by omega
      have hpz0:p.length≠0:=by omega
      have HN1:=zh hn1;have HP0:Hid (p≠[]):=by rintro rfl;simp at hpz
      clear hn1 hcx0 hcx1 hx0 hxl hE2;by_cases hb1:x0∈T1
      case neg=>
       have hfin:Hid (zZ m ps=false):=HRF.out (pathB_hd (by rw [HX0.out,HT1.out];exact hb1));have HB:=zh (decide_eq_false hb1);clear hb1;go_quiet ((go_at_call 42;refine (zv x0 _ (HI1.out.below (HE2.out.trans (hd1 _))) (by omega)).mono ?_;rintro e w8 ⟨he8,rfl⟩;rw [HB.out] at he8;exact ⟨he8,⟨_,rfl⟩⟩))
       go_wp2_with fail
       go_ret;exact ⟨zd hfin.out.symm,HE2.out.trans (hd1 _)⟩
      case pos=>
       have HB:=zh (decide_eq_true hb1);by_cases hb2:xl∈T2
       case neg=>
        have hfin:Hid (zZ m ps=false):=HRF.out (pathB_lt (by rw [HXL.out,HT2.out];exact hb2));have HB2:=zh (decide_eq_false hb2);clear hb1 hb2;go_quiet (first | (go_at_call 42;refine (zv x0 _ (HI1.out.below (HE2.out.trans (hd1 _))) (by omega)).mono ?_;rintro e w8 ⟨he8,rfl⟩;rw [HB.out] at he8;exact ⟨he8,⟨_,rfl⟩⟩) | (go_at_call 42;refine (zv xl _ (HI2.out.below (HE2.out.trans (hd1 _))) (by omega)).mono ?_;rintro e w8 ⟨he8,rfl⟩;rw [HB2.out] at he8;exact ⟨he8,⟨_,rfl⟩⟩))
        go_wp2_with fail
        go_ret;exact ⟨zd hfin.out.symm,HE2.out.trans (hd1 _)⟩
       case pos=>
        have HB2:=zh (decide_eq_true hb2);have HPO:Hid ((∀k,k<p.length→zbB m t p (pre++p.take k) k=true)→pathB m t p pre=true):=fun h=>pathB_ok HP0.out (by rw [HX0.out,HT1.out];exact hb1) (by rw [HXL.out,HT2.out];exact hb2) h
        clear hb1 hb2;go_quiet (first | (go_at_call 42;refine (zv x0 _ (HI1.out.below (HE2.out.trans (hd1 _))) (by omega)).mono ?_;rintro e w8 ⟨he8,rfl⟩;rw [HB.out] at he8;exact ⟨he8,⟨_,rfl⟩⟩) | (go_at_call 42;refine (zv xl _ (HI2.out.below (HE2.out.trans (hd1 _))) (by omega)).mono ?_;rintro e w8 ⟨he8,rfl⟩;rw [HB2.out] at he8;exact ⟨he8,⟨_,rfl⟩⟩))
        have HI8:Hid (RtI w2 (wr.drewN nq) gs pre):=HI.out.1.more ((Ext.refl wr).drewN nq);generalize wr.drewN nq=w8 at*;clear qx0 qxl hz1 hz3 hqw hq0 hq1 hpz0 hd1 HB HB2 HI1 HI2 q1 q2 qp hx
        go_wp2_with fail
        go_loopg [63] p.length (fun gk v wr=>∃k:Nat,v=.int .i64 k∧k≤p.length∧gk=p.length - k∧Hid (RtI w2 wr gs (pre++p.take k)∧∀k',k'<k→zbB m t p (pre++p.take k') k'=true))
        case atStart=>exact ⟨0,rfl,Nat.zero_le _,rfl,by simpa using HI8.out,fun k' h=>by omega⟩
        clear HI8
        case round=>
         obtain ⟨k,rfl,hk,rfl,hJ⟩:=hrel;obtain ⟨wk,rfl⟩:∃wk:World,wk=wr:=⟨_,rfl⟩;have hx:Ext w2 wk:=hJ.out.1.ext;rcases Nat.lt_or_ge k p.length with hklt | hkge
         ·obtain ⟨bq',offq',e,-,hcy⟩:=zt HRQ.out (k:=k) hklt hklt;injection e with e;injection e with e1 e2;subst e1 e2;obtain ⟨y,hy⟩:∃y,y=p[k]:=⟨_,rfl⟩;rw [←hy] at hcy;have qy:∀W,Ext wk W→W.cell? ⟨bq,offq+k,none⟩=some (.int .i64 y):=fun W h=>Ext.rule hcy W (HE2.out.trans (hx.trans h))
          have HYK:Hid (p.getD k 0=y):=by show _=_;rw [hy,List.getD_eq_getElem?_getD,List.getElem?_eq_getElem hklt];rfl
          have HY:=zh hy;have HALL:Hid (∀W,Calls Tryz.prog 43 #[.agg #[.int .i64 m.w,.int .i64 m.h,.int .i64 m.l,vfr,vup,.slice (some ⟨bt,offt,none⟩) m.tasks.length ct]] W fun e w'=>e=.returned (.int .i64 (m.w*m.h*m.l))∧Below W.heap.size W w'):=fun W=>zal m.w m.h m.l _ vup _ W (by have:=HG.out.dim.layer;have:=HG.out.dim.n1;omega) (by have:=HG.out.dim.layer;have:=HG.out.dim.n1;omega)
          have k0:∀W,Ext wk W→W.cell? ⟨w.heap.size,0,none⟩=some (.int .i64 m.w):=fun W h=>p0 W (hx.trans h)
          have k1:∀W,Ext wk W→W.cell? ⟨w.heap.size,1,none⟩=some (.int .i64 m.h):=fun W h=>p1 W (hx.trans h)
          have k2:∀W,Ext wk W→W.cell? ⟨w.heap.size,2,none⟩=some (.int .i64 m.l):=fun W h=>p2 W (hx.trans h)
          have k3:∀W,Ext wk W→W.cell? ⟨w.heap.size,3,none⟩=some vfr:=fun W h=>p3 W (hx.trans h)
          have k4:∀W,Ext wk W→W.cell? ⟨w.heap.size,4,none⟩=some vup:=fun W h=>p4 W (hx.trans h)
          have k5:∀W,Ext wk W→W.cell? ⟨w.heap.size,5,none⟩=some (.slice (some ⟨bt,offt,none⟩) m.tasks.length ct):=fun W h=>p5 W (hx.trans h)
          have hkr:=Ext.refl wk;have hkk0:(0:Int)≤(k:Int):=by omega
          have hkk1:(k:Int)<(p.length:Int):=by omega
          clear hcy hy p0 p1 p2 p3 p4 p5
          go_wp2_with fail
          rcases Int.lt_or_le y 0 with hy0 | hy0
          ·have hfin:Hid (zZ m ps=false):=HRF.out (pathB_nd hklt (by unfold zbB;rw [HYK.out,decide_eq_false (by omega)];rfl));have hdy:decide (y<0)=true:=decide_eq_true hy0;refine wp_region_held_drew (S:=fun W=>Ext wk W) (by kernel_rfl) ((Ext.refl wk).drew) (fun zH=>?_);refine rtT 0 zH ?_;simp only [za,Act.put];refine rtT 1 zH ?_;simp only [za,Act.put];refine rtT 2 zH ?_;simp only [za,Act.put];refine rtN 3 zH ?_;simp only [za,Act.put];refine rtN 4 zH ?_;simp only [za,Act.put];refine rtN 5 zH ?_;simp only [za,Act.put];refine rtN 6 zH ?_;simp only [za,Act.put];refine rtT 7 zH ?_;simp only [za,Act.put];refine rtT 8 zH ?_;simp only [za,Act.put];refine rtN 9 zH ?_;simp only [za,Act.put];refine rtN 10 zH ?_;simp only [za,Act.put];refine rtN 11 zH ?_;simp only [za,Act.put];refine rtT 12 zH ?_;simp only [za,Act.put];refine rtT 13 zH ?_;simp only [za,Act.put];refine rtN 14 zH ?_;simp only [za,Act.put];refine rtN 15 zH ?_;simp only [za,Act.put];refine rtN 16 zH ?_;simp only [za,Act.put];refine rtN 17 zH ?_;simp only [za,Act.put];refine rtN 18 zH ?_;simp only [za,Act.put];refine rtN 19 zH ?_;simp only [za,Act.put];refine rtN 20 zH ?_;simp only [za,Act.put];refine rtN 21 zH ?_;simp only [za,Act.put];refine rtN 22 zH ?_;simp only [za,Act.put];refine rtT 23 zH ?_;simp only [za,Act.put];refine rtT 24 zH ?_;simp only [za,Act.put];refine rtN 25 zH ?_;simp only [za,Act.put];refine rtN 26 zH ?_;simp only [za,Act.put];refine rtN 27 zH ?_;simp only [za,Act.put];refine rtN 28 zH ?_;simp only [za,Act.put];refine rtN 29 zH ?_;simp only [za,Act.put];refine rtN 30 zH ?_;simp only [za,Act.put];refine rtN 31 zH ?_;simp only [za,Act.put];refine rtN 32 zH ?_;simp only [za,Act.put];refine rtN 33 zH ?_;simp only [za,Act.put];refine rtN 35 zH ?_;simp only [za,Act.put];refine rtN 34 zH ?_;simp only [za,Act.put];refine rtN 36 zH ?_;simp only [za,Act.put];refine rtN 37 zH ?_;simp only [za,Act.put];refine rtN 38 zH ?_;simp only [za,Act.put];refine rtT 39 zH ?_;simp only [za,Act.put];refine wpAnyH_done (by kernel_rfl) ?_ _;have HS:=zh (HE2.out.trans (hx.trans zH));clear zH
           go_wp2_with fail
           go_ret;exact ⟨zd hfin.out.symm,HS.out⟩
          ·have hdy:decide (y<0)=false:=decide_eq_false (by omega);rcases Int.lt_or_le y m.n with hyn | hyn
           case inr=>
            have hfin:Hid (zZ m ps=false):=HRF.out (pathB_nd hklt (by unfold zbB;rw [HYK.out,decide_eq_false (show ¬ y<m.n by omega)];simp));have hdn:decide (m.w*m.h*m.l≤y)=true:=decide_eq_true hyn;clear hyn;refine wp_region_held_drew (S:=fun W=>Ext wk W) (by kernel_rfl) ((Ext.refl wk).drew) (fun zH=>?_);refine rtT 0 zH ?_;simp only [za,Act.put];refine rtT 1 zH ?_;simp only [za,Act.put];refine rtT 2 zH ?_;simp only [za,Act.put];refine rtT 3 zH ?_;simp only [za,Act.put];refine rtT 4 zH ?_;simp only [za,Act.put];refine rtR 5 (fun K hK=>?_);go_simp;go_at_call 43;refine (HALL.out _).mono ?_;rintro e w9 ⟨rfl,hb9⟩;go_simp;refine hK.out _ _ (Ext.trans zH hb9) (fun zH=>?_);clear hK K;try simp only [za,Act.put]
            refine rtT 6 zH ?_;simp only [za,Act.put];refine rtT 7 zH ?_;simp only [za,Act.put];refine rtT 8 zH ?_;simp only [za,Act.put];refine rtN 9 zH ?_;simp only [za,Act.put];refine rtN 10 zH ?_;simp only [za,Act.put];refine rtN 11 zH ?_;simp only [za,Act.put];refine rtT 12 zH ?_;simp only [za,Act.put];refine rtT 13 zH ?_;simp only [za,Act.put];refine rtN 14 zH ?_;simp only [za,Act.put];refine rtN 15 zH ?_;simp only [za,Act.put];refine rtN 16 zH ?_;simp only [za,Act.put];refine rtN 17 zH ?_;simp only [za,Act.put];refine rtN 18 zH ?_;simp only [za,Act.put];refine rtN 19 zH ?_;simp only [za,Act.put];refine rtN 20 zH ?_;simp only [za,Act.put];refine rtN 21 zH ?_;simp only [za,Act.put];refine rtN 22 zH ?_;simp only [za,Act.put];refine rtT 23 zH ?_;simp only [za,Act.put];refine rtT 24 zH ?_;simp only [za,Act.put];refine rtN 25 zH ?_;simp only [za,Act.put];refine rtN 26 zH ?_;simp only [za,Act.put];refine rtN 27 zH ?_;simp only [za,Act.put];refine rtN 28 zH ?_;simp only [za,Act.put];refine rtN 29 zH ?_;simp only [za,Act.put];refine rtN 30 zH ?_;simp only [za,Act.put];refine rtN 31 zH ?_;simp only [za,Act.put];refine rtN 32 zH ?_;simp only [za,Act.put];refine rtN 33 zH ?_;simp only [za,Act.put];refine rtN 35 zH ?_;simp only [za,Act.put];refine rtN 34 zH ?_;simp only [za,Act.put];refine rtN 36 zH ?_;simp only [za,Act.put];refine rtN 37 zH ?_;simp only [za,Act.put];refine rtN 38 zH ?_;simp only [za,Act.put];refine rtT 39 zH ?_;simp only [za,Act.put];refine wpAnyH_done (by kernel_rfl) ?_ _;have HS:=zh (HE2.out.trans (hx.trans zH));clear zH
            go_wp2_with fail
            go_ret;exact ⟨zd hfin.out.symm,HS.out⟩
           case inl=>
            have hdn:decide (m.w*m.h*m.l≤y)=false:=decide_eq_false (by have:m.n=m.w*m.h*m.l:=rfl;omega);obtain ⟨s,hset,hss⟩:=hJ.out.1.set;by_cases hys:y∈s
            ·have hfin:Hid (zZ m ps=false):=HRF.out (pathB_nd hklt (by unfold zbB;rw [HYK.out,decide_eq_true ((hss y).1 hys)];simp));have hlk:∀W,Ext wk W→(Instr.lookup 79 (.map (some gs)) (.int .i64 y) false).run Tryz.prog W=.ok (.bool true) W:=fun W hW=>look_t (hset.below hW) hys
             clear hset hss hys hyn;refine wp_region_held_drew (S:=fun W=>Ext wk W) (by kernel_rfl) ((Ext.refl wk).drew) (fun zH=>?_);refine rtT 0 zH ?_;simp only [za,Act.put];refine rtT 1 zH ?_;simp only [za,Act.put];refine rtT 2 zH ?_;simp only [za,Act.put];refine rtT 3 zH ?_;simp only [za,Act.put];refine rtT 4 zH ?_;simp only [za,Act.put];refine rtR 5 (fun K hK=>?_);go_simp;go_at_call 43;refine (HALL.out _).mono ?_;rintro e w9 ⟨rfl,hb9⟩;go_simp;refine hK.out _ _ (Ext.trans zH hb9) (fun zH=>?_);clear hK K;try simp only [za,Act.put]
             refine rtT 6 zH ?_;simp only [za,Act.put];refine rtT 7 zH ?_;simp only [za,Act.put];refine rtT 8 zH ?_;simp only [za,Act.put];refine rtT 9 zH ?_;simp only [za,Act.put];refine rtT 10 zH ?_;simp only [za,Act.put];refine rtT 11 zH ?_;simp only [za,Act.put];refine rtT 12 zH ?_;simp only [za,Act.put];refine rtT 13 zH ?_;simp only [za,Act.put];refine rtN 14 zH ?_;simp only [za,Act.put];refine rtN 15 zH ?_;simp only [za,Act.put];refine rtN 16 zH ?_;simp only [za,Act.put];refine rtN 17 zH ?_;simp only [za,Act.put];refine rtN 18 zH ?_;simp only [za,Act.put];refine rtN 19 zH ?_;simp only [za,Act.put];refine rtN 20 zH ?_;simp only [za,Act.put];refine rtN 21 zH ?_;simp only [za,Act.put];refine rtN 22 zH ?_;simp only [za,Act.put];refine rtT 23 zH ?_;simp only [za,Act.put];refine rtT 24 zH ?_;simp only [za,Act.put];refine rtN 25 zH ?_;simp only [za,Act.put];refine rtN 26 zH ?_;simp only [za,Act.put];refine rtN 27 zH ?_;simp only [za,Act.put];refine rtN 28 zH ?_;simp only [za,Act.put];refine rtN 29 zH ?_;simp only [za,Act.put];refine rtN 30 zH ?_;simp only [za,Act.put];refine rtN 31 zH ?_;simp only [za,Act.put];refine rtN 32 zH ?_;simp only [za,Act.put];refine rtN 33 zH ?_;simp only [za,Act.put];refine rtN 35 zH ?_;simp only [za,Act.put];refine rtN 34 zH ?_;simp only [za,Act.put];refine rtN 36 zH ?_;simp only [za,Act.put];refine rtN 37 zH ?_;simp only [za,Act.put];refine rtN 38 zH ?_;simp only [za,Act.put];refine rtT 39 zH ?_;simp only [za,Act.put];refine wpAnyH_done (by kernel_rfl) ?_ _;have HS:=zh (HE2.out.trans (hx.trans zH));clear zH
             go_wp2_with fail
             go_ret;exact ⟨zd hfin.out.symm,HS.out⟩
            ·have hlk:∀W,Ext wk W→(Instr.lookup 79 (.map (some gs)) (.int .i64 y) false).run Tryz.prog W=.ok (.bool false) W:=fun W hW=>look_f (hset.below hW) hys
             have HNS:Hid (y∉pre++p.take k):=fun h=>hys ((hss y).2 h)
             have hfl:t<m.free.length:=by have:=HG.out.fl;omega
             obtain ⟨bf,offf,cf,bf',offf',lf,cf',rfl,hcf1,hnl,hlc,hfc,hcf2⟩:=mazeFree HMZ.out HG.out.fn hfl hy0 hyn;have HYN:=zh hyn;have qf1:∀W,Ext wk W→W.cell? ⟨bf,offf+t,none⟩=some (.slice (some ⟨bf',offf',none⟩) lf cf'):=fun W h=>Ext.rule hcf1 W (HE2.out.trans (hx.trans h))
             have hfl1:(t:Int)<(m.free.length:Int):=by omega
             clear hset hss hys hyn hcf1
             cases hfr:ze m t y with
             | false=>
              rw [hfr] at hcf2;have qf2:∀W,Ext wk W→W.cell? ⟨bf',offf'+y.toNat,none⟩=some (.bool false):=fun W h=>Ext.rule hcf2 W (HE2.out.trans (hx.trans h))
              have hfin:Hid (zZ m ps=false):=HRF.out (pathB_nd hklt (by unfold zbB;rw [HYK.out,hfr];simp));clear hcf2 hfr;refine wp_region_held_drew (S:=fun W=>Ext wk W) (by kernel_rfl) ((Ext.refl wk).drew) (fun zH=>?_);refine rtT 0 zH ?_;simp only [za,Act.put];refine rtT 1 zH ?_;simp only [za,Act.put];refine rtT 2 zH ?_;simp only [za,Act.put];refine rtT 3 zH ?_;simp only [za,Act.put];refine rtT 4 zH ?_;simp only [za,Act.put];refine rtR 5 (fun K hK=>?_);go_simp;go_at_call 43;refine (HALL.out _).mono ?_;rintro e w9 ⟨rfl,hb9⟩;go_simp;refine hK.out _ _ (Ext.trans zH hb9) (fun zH=>?_);clear hK K;try simp only [za,Act.put]
              refine rtT 6 zH ?_;simp only [za,Act.put];refine rtT 7 zH ?_;simp only [za,Act.put];refine rtT 8 zH ?_;simp only [za,Act.put];refine rtT 9 zH ?_;simp only [za,Act.put];refine rtT 10 zH ?_;simp only [za,Act.put];refine rtT 11 zH ?_;simp only [za,Act.put];refine rtT 12 zH ?_;simp only [za,Act.put];refine rtT 13 zH ?_;simp only [za,Act.put];refine rtT 14 zH ?_;simp only [za,Act.put];refine rtT 15 zH ?_;simp only [za,Act.put];refine rtT 16 zH ?_;simp only [za,Act.put];refine rtT 17 zH ?_;simp only [za,Act.put];refine rtT 18 zH ?_;simp only [za,Act.put];refine rtT 19 zH ?_;simp only [za,Act.put];refine rtT 20 zH ?_;simp only [za,Act.put];refine rtT 21 zH ?_;simp only [za,Act.put];refine rtT 22 zH ?_;simp only [za,Act.put];refine rtT 23 zH ?_;simp only [za,Act.put];refine rtT 24 zH ?_;simp only [za,Act.put];refine rtN 25 zH ?_;simp only [za,Act.put];refine rtN 26 zH ?_;simp only [za,Act.put];refine rtN 27 zH ?_;simp only [za,Act.put];refine rtN 28 zH ?_;simp only [za,Act.put];refine rtN 29 zH ?_;simp only [za,Act.put];refine rtN 30 zH ?_;simp only [za,Act.put];refine rtN 31 zH ?_;simp only [za,Act.put];refine rtN 32 zH ?_;simp only [za,Act.put];refine rtN 33 zH ?_;simp only [za,Act.put];refine rtN 35 zH ?_;simp only [za,Act.put];refine rtN 34 zH ?_;simp only [za,Act.put];refine rtN 36 zH ?_;simp only [za,Act.put];refine rtN 37 zH ?_;simp only [za,Act.put];refine rtN 38 zH ?_;simp only [za,Act.put];refine rtT 39 zH ?_;simp only [za,Act.put];refine wpAnyH_done (by kernel_rfl) ?_ _;have HS:=zh (HE2.out.trans (hx.trans zH));clear zH
              go_wp2_with fail
              go_ret;exact ⟨zd hfin.out.symm,HS.out⟩
             | true=>
              have HFR:=zh hfr;rw [hfr] at hcf2;have qf2:∀W,Ext wk W→W.cell? ⟨bf',offf'+y.toNat,none⟩=some (.bool true):=fun W h=>Ext.rule hcf2 W (HE2.out.trans (hx.trans h))
              clear hcf2 hfr;rcases Nat.eq_zero_or_pos k with hkz | hkz
              ·have hkd:decide ((0:Int)<(k:Int))=false:=decide_eq_false (by omega);have hkd2:decide (0<k)=false:=decide_eq_false (by omega);have HKZ:=zh hkz;clear hkz;refine wp_region_held_drew (S:=fun W=>Ext wk W) (by kernel_rfl) ((Ext.refl wk).drew) (fun zH=>?_);refine rtT 0 zH ?_;simp only [za,Act.put];refine rtT 1 zH ?_;simp only [za,Act.put];refine rtT 2 zH ?_;simp only [za,Act.put];refine rtT 3 zH ?_;simp only [za,Act.put];refine rtT 4 zH ?_;simp only [za,Act.put];refine rtR 5 (fun K hK=>?_);go_simp;go_at_call 43;refine (HALL.out _).mono ?_;rintro e w9 ⟨rfl,hb9⟩;go_simp;refine hK.out _ _ (Ext.trans zH hb9) (fun zH=>?_);clear hK K;try simp only [za,Act.put]
               refine rtT 6 zH ?_;simp only [za,Act.put];refine rtT 7 zH ?_;simp only [za,Act.put];refine rtT 8 zH ?_;simp only [za,Act.put];refine rtT 9 zH ?_;simp only [za,Act.put];refine rtT 10 zH ?_;simp only [za,Act.put];refine rtT 11 zH ?_;simp only [za,Act.put];refine rtT 12 zH ?_;simp only [za,Act.put];refine rtT 13 zH ?_;simp only [za,Act.put];refine rtT 14 zH ?_;simp only [za,Act.put];refine rtT 15 zH ?_;simp only [za,Act.put];refine rtT 16 zH ?_;simp only [za,Act.put];refine rtT 17 zH ?_;simp only [za,Act.put];refine rtT 18 zH ?_;simp only [za,Act.put];refine rtT 19 zH ?_;simp only [za,Act.put];refine rtT 20 zH ?_;simp only [za,Act.put];refine rtT 21 zH ?_;simp only [za,Act.put];refine rtT 22 zH ?_;simp only [za,Act.put];refine rtT 23 zH ?_;simp only [za,Act.put];refine rtT 24 zH ?_;simp only [za,Act.put];refine rtT 25 zH ?_;simp only [za,Act.put];refine rtT 26 zH ?_;simp only [za,Act.put];refine rtT 27 zH ?_;simp only [za,Act.put];refine rtN 28 zH ?_;simp only [za,Act.put];refine rtN 29 zH ?_;simp only [za,Act.put];refine rtN 30 zH ?_;simp only [za,Act.put];refine rtN 31 zH ?_;simp only [za,Act.put];refine rtN 32 zH ?_;simp only [za,Act.put];refine rtN 33 zH ?_;simp only [za,Act.put];refine rtN 35 zH ?_;simp only [za,Act.put];refine rtN 34 zH ?_;simp only [za,Act.put];refine rtN 36 zH ?_;simp only [za,Act.put];refine rtN 37 zH ?_;simp only [za,Act.put];refine rtT 38 zH ?_;simp only [za,Act.put];refine rtT 39 zH ?_;simp only [za,Act.put];refine wpAnyH_done (by kernel_rfl) ?_ _;have hJ9:=zh (hJ.out.1.more zH);obtain ⟨s9,hs9,hss9⟩:=hJ9.out.set;have HSS:=zh hss9;have HNK:Hid (zbB m t p (pre++p.take k) k=true):=by show _=_;unfold zbB;rw [HYK.out,decide_eq_true hy0,decide_eq_true HYN.out,decide_eq_false HNS.out,HFR.out,decide_eq_true HKZ.out];rfl
               clear zH hss9
               go_wp2_with (at_mapUpdate;refine zbD rfl _ _ _ _ rfl Tryz.underlying79 gs s9 y rfl rfl rfl hs9 ?_)
               intro wa hsa hga;have hJa:=zh (hJ9.out.add HSS.out hsa hga);clear hsa hga hs9
               go_wp2_with fail
               go_roundg (p.length - (k+1))
               case measure=>omega
               case rel=>exact ⟨k+1,by go_num,hklt,rfl,by rw [List.take_succ_eq_append_getElem hklt,←List.append_assoc,←HY.out];exact hJa.out,fun k' hk'=>by
                rcases Nat.lt_or_ge k' k with h1 | h1
                ·exact hJ.out.2 k' h1
                ·obtain rfl:k'=k:=by omega
                 exact HNK.out⟩
              ·have hkd:decide ((0:Int)<(k:Int))=true:=decide_eq_true (by omega);have hkd2:decide (0<k)=true:=decide_eq_true hkz;have hk1:k - 1<p.length:=by omega
               obtain ⟨j,hj⟩:∃j,j=k - 1:=⟨_,rfl⟩;have hjk:j<k:=by omega
               rw [←hj] at hk1;obtain ⟨bq',offq',e,-,hcv⟩:=zt HRQ.out (k:=j) hk1 hk1;injection e with e;injection e with e1 e2;subst e1 e2;have hpj:p.getD j 0=p[j]:=by rw [List.getD_eq_getElem?_getD,List.getElem?_eq_getElem hk1];rfl
               have hnj:=hJ.out.2 j hjk;obtain ⟨prev,hprev⟩:∃prev,prev=p[j]:=⟨_,rfl⟩;rw [←hprev] at hcv hpj;unfold zbB at hnj;rw [hpj] at hnj;simp only [Bool.and_eq_true,decide_eq_true_eq] at hnj;obtain ⟨hv0,hv1,-⟩:=hnj;have HPV:Hid (p.getD (k - 1) 0=prev):=by show _=_;rw [←hj,hpj]
               have qv:∀W,Ext wk W→W.cell? ⟨bq,offq+j,none⟩=some (.int .i64 prev):=fun W h=>Ext.rule hcv W (HE2.out.trans (hx.trans h))
               have hjw:IntKind.i64.wrap ((k:Int) - 1)=(j:Int):=by rw [IntKind.wrap_i64];omega
               have hj0:(0:Int)≤(j:Int):=by omega
               have hj1:(j:Int)<(p.length:Int):=by omega
               have HNX:Hid (∀W,Ext wk W→Calls Tryz.prog 44 #[.agg #[.int .i64 m.w,.int .i64 m.h,.int .i64 m.l,.slice (some ⟨bf,offf,none⟩) m.free.length cf,vup,.slice (some ⟨bt,offt,none⟩) m.tasks.length ct],.int .i64 prev] W fun e w'=>∃v',e=.returned v'∧Below W.heap.size W w'∧w'.ownsRow W.heap.size 3 1 v' (zi m prev).length ((zi m prev).map (Value.int .i64))):=fun W hW=>zcq m prev W (HMZ.out.below (HE2.out.trans (hx.trans hW))) HG.out.dim hv0 hv1
               have HKZ:Hid (k≠0):=by show _≠_;omega
               clear hcv hprev hpj hv0 hv1 hkz hj;by_cases hbn:y∈zi m prev
               ·have HBN:=zh (decide_eq_true hbn);have HMN:=zh hbn;clear hbn;refine wp_region_held_drew (S:=fun W=>Ext wk W) (by kernel_rfl) ((Ext.refl wk).drew) (fun zH=>?_);refine rtT 0 zH ?_;simp only [za,Act.put];refine rtT 1 zH ?_;simp only [za,Act.put];refine rtT 2 zH ?_;simp only [za,Act.put];refine rtT 3 zH ?_;simp only [za,Act.put];refine rtT 4 zH ?_;simp only [za,Act.put];refine rtR 5 (fun K hK=>?_);go_simp;go_at_call 43;refine (HALL.out _).mono ?_;rintro e w9 ⟨rfl,hb9⟩;go_simp;refine hK.out _ _ (Ext.trans zH hb9) (fun zH=>?_);clear hK K;try simp only [za,Act.put]
                refine rtT 6 zH ?_;simp only [za,Act.put];refine rtT 7 zH ?_;simp only [za,Act.put];refine rtT 8 zH ?_;simp only [za,Act.put];refine rtT 9 zH ?_;simp only [za,Act.put];refine rtT 10 zH ?_;simp only [za,Act.put];refine rtT 11 zH ?_;simp only [za,Act.put];refine rtT 12 zH ?_;simp only [za,Act.put];refine rtT 13 zH ?_;simp only [za,Act.put];refine rtT 14 zH ?_;simp only [za,Act.put];refine rtT 15 zH ?_;simp only [za,Act.put];refine rtT 16 zH ?_;simp only [za,Act.put];refine rtT 17 zH ?_;simp only [za,Act.put];refine rtT 18 zH ?_;simp only [za,Act.put];refine rtT 19 zH ?_;simp only [za,Act.put];refine rtT 20 zH ?_;simp only [za,Act.put];refine rtT 21 zH ?_;simp only [za,Act.put];refine rtT 22 zH ?_;simp only [za,Act.put];refine rtT 23 zH ?_;simp only [za,Act.put];refine rtT 24 zH ?_;simp only [za,Act.put];refine rtT 25 zH ?_;simp only [za,Act.put];refine rtT 26 zH ?_;simp only [za,Act.put];refine rtT 27 zH ?_;simp only [za,Act.put];refine rtT 28 zH ?_;simp only [za,Act.put];refine rtT 29 zH ?_;simp only [za,Act.put];refine rtT 30 zH ?_;simp only [za,Act.put];refine rtT 31 zH ?_;simp only [za,Act.put];refine rtT 32 zH ?_;simp only [za,Act.put];refine rtT 33 zH ?_;simp only [za,Act.put];refine rtT 35 zH ?_;simp only [za,Act.put];refine rtR 34 (fun K hK=>?_);go_simp;go_at_call 44;refine (HNX.out _ zH).mono ?_;rintro e w10 ⟨v10,rfl,hb10,ho10⟩;go_simp;refine hK.out _ _ (Ext.trans zH hb10) (fun zH=>?_);clear hK K;try simp only [za,Act.put]
                refine rtR 36 (fun K hK=>?_);go_simp;go_at_call 42;refine (zv y _ (Row.of_own ho10) (by have:=za5 m prev;omega)).mono ?_;rintro e w11 ⟨he,rfl⟩;rw [HBN.out] at he;subst he;go_simp;refine hK.out _ _ (zH) (fun zH=>?_);clear hK K;try simp only [za,Act.put]
                refine rtT 37 zH ?_;simp only [za,Act.put];refine rtT 38 zH ?_;simp only [za,Act.put];refine rtT 39 zH ?_;simp only [za,Act.put];refine wpAnyH_done (by kernel_rfl) ?_ _;have hJ9:=zh (hJ.out.1.more zH);obtain ⟨s9,hs9,hss9⟩:=hJ9.out.set;have HSS:=zh hss9;have HNK:Hid (zbB m t p (pre++p.take k) k=true):=by show _=_;unfold zbB;rw [HYK.out,decide_eq_true hy0,decide_eq_true HYN.out,decide_eq_false HNS.out,HFR.out,HPV.out,decide_eq_true HMN.out];simp
                clear zH hss9
                go_wp2_with (at_mapUpdate;refine zbD rfl _ _ _ _ rfl Tryz.underlying79 gs s9 y rfl rfl rfl hs9 ?_)
                intro wa hsa hga;have hJa:=zh (hJ9.out.add HSS.out hsa hga);clear hsa hga hs9
                go_wp2_with fail
                go_roundg (p.length - (k+1))
                case measure=>omega
                case rel=>exact ⟨k+1,by go_num,hklt,rfl,by rw [List.take_succ_eq_append_getElem hklt,←List.append_assoc,←HY.out];exact hJa.out,fun k' hk'=>by
                 rcases Nat.lt_or_ge k' k with h1 | h1
                 ·exact hJ.out.2 k' h1
                 ·obtain rfl:k'=k:=by omega
                  exact HNK.out⟩
               ·have HBN:=zh (decide_eq_false hbn);have hfin:Hid (zZ m ps=false):=HRF.out (pathB_nd hklt (by unfold zbB;rw [HYK.out,HPV.out,decide_eq_false HKZ.out,decide_eq_false hbn];simp));clear hbn;refine wp_region_held_drew (S:=fun W=>Ext wk W) (by kernel_rfl) ((Ext.refl wk).drew) (fun zH=>?_);refine rtT 0 zH ?_;simp only [za,Act.put];refine rtT 1 zH ?_;simp only [za,Act.put];refine rtT 2 zH ?_;simp only [za,Act.put];refine rtT 3 zH ?_;simp only [za,Act.put];refine rtT 4 zH ?_;simp only [za,Act.put];refine rtR 5 (fun K hK=>?_);go_simp;go_at_call 43;refine (HALL.out _).mono ?_;rintro e w9 ⟨rfl,hb9⟩;go_simp;refine hK.out _ _ (Ext.trans zH hb9) (fun zH=>?_);clear hK K;try simp only [za,Act.put]
                refine rtT 6 zH ?_;simp only [za,Act.put];refine rtT 7 zH ?_;simp only [za,Act.put];refine rtT 8 zH ?_;simp only [za,Act.put];refine rtT 9 zH ?_;simp only [za,Act.put];refine rtT 10 zH ?_;simp only [za,Act.put];refine rtT 11 zH ?_;simp only [za,Act.put];refine rtT 12 zH ?_;simp only [za,Act.put];refine rtT 13 zH ?_;simp only [za,Act.put];refine rtT 14 zH ?_;simp only [za,Act.put];refine rtT 15 zH ?_;simp only [za,Act.put];refine rtT 16 zH ?_;simp only [za,Act.put];refine rtT 17 zH ?_;simp only [za,Act.put];refine rtT 18 zH ?_;simp only [za,Act.put];refine rtT 19 zH ?_;simp only [za,Act.put];refine rtT 20 zH ?_;simp only [za,Act.put];refine rtT 21 zH ?_;simp only [za,Act.put];refine rtT 22 zH ?_;simp only [za,Act.put];refine rtT 23 zH ?_;simp only [za,Act.put];refine rtT 24 zH ?_;simp only [za,Act.put];refine rtT 25 zH ?_;simp only [za,Act.put];refine rtT 26 zH ?_;simp only [za,Act.put];refine rtT 27 zH ?_;simp only [za,Act.put];refine rtT 28 zH ?_;simp only [za,Act.put];refine rtT 29 zH ?_;simp only [za,Act.put];refine rtT 30 zH ?_;simp only [za,Act.put];refine rtT 31 zH ?_;simp only [za,Act.put];refine rtT 32 zH ?_;simp only [za,Act.put];refine rtT 33 zH ?_;simp only [za,Act.put];refine rtT 35 zH ?_;simp only [za,Act.put];refine rtR 34 (fun K hK=>?_);go_simp;go_at_call 44;refine (HNX.out _ zH).mono ?_;rintro e w10 ⟨v10,rfl,hb10,ho10⟩;go_simp;refine hK.out _ _ (Ext.trans zH hb10) (fun zH=>?_);clear hK K;try simp only [za,Act.put]
                refine rtR 36 (fun K hK=>?_);go_simp;go_at_call 42;refine (zv y _ (Row.of_own ho10) (by have:=za5 m prev;omega)).mono ?_;rintro e w11 ⟨he,rfl⟩;rw [HBN.out] at he;subst he;go_simp;refine hK.out _ _ (zH) (fun zH=>?_);clear hK K;try simp only [za,Act.put]
                refine rtT 37 zH ?_;simp only [za,Act.put];refine rtT 38 zH ?_;simp only [za,Act.put];refine rtT 39 zH ?_;simp only [za,Act.put];refine wpAnyH_done (by kernel_rfl) ?_ _;have HS:=zh (HE2.out.trans (hx.trans zH));clear zH
                go_wp2_with fail
                go_ret;exact ⟨zd hfin.out.symm,HS.out⟩
         ·have hke:k=p.length:=by omega
          subst hke
          have HPF:Hid (∀t',t'<t+1→pathB m t' (ps.getD t' []) (ps.take t').flatten=true):=fun t' ht'=>by
           rcases Nat.lt_or_ge t' t with h1 | h1
           ·exact HI.out.2 t' h1
           ·obtain rfl:t'=t:=by omega
            rw [HPT.out];have h2:=HPO.out hJ.out.2;have h3:=HTK.out;exact HPRE.out ▸ h2
          have HJ2:Hid (RtI w2 wk gs (ps.take (t+1)).flatten):=by
           show RtI _ _ _ _;rw [HTK.out];have:=hJ.out.1
           rwa [List.take_length] at this
          go_wp2_with fail
          go_roundg (ps.length - (t+1))
          case measure=>omega
          case rel=>exact ⟨t+1,by go_num,hlt,rfl,HJ2.out,HPF.out⟩
    ·have hte:t=ps.length:=by omega
     subst hte;have hfin:Hid (zZ m ps=true):=HOT.out HLEN.out hI.out.2
     go_wp2_with fail
     go_ret;exact ⟨zd hfin.out.symm,HE2.out.trans hx⟩
end Go.Proofs.YthbjngbhbbkkgaaGreat
namespace Go.Proofs.YthbjngbhbbkkgaaGreat
open Go.RowKit
def frP (m:MZ) (t:Nat) (fixed:List (List Int)):Int→Bool:=fun n=>ze m t n && !decide (n∈fixed.flatten)
def farP (m:MZ) (t:Nat) (fixed:List (List Int)):List (Int×Int):=bfs m (frP m t fixed) (m.n.toNat+1) 0 (zp (frP m t fixed) 0 (m.tasks.getD t ([],[])).2 [])
def zb9 (m:MZ) (F:List (Int×Int)) (fm:List Int):Option (List Int):=(zaS F fm none).map fun b=>zb7 m F ((F.lookup b).getD 0).toNat b
def zar (m:MZ) (t:Int):Bool:=decide (chk m=0) && (decide (0≤t) && decide (t<m.tasks.length))
def za9 (m:MZ) (t:Int) (fixed:List (List Int)):Option (List Int):=if zar m t=true then zb9 m (farP m t.toNat fixed) (m.tasks.getD t.toNat ([],[])).1 else none
theorem zaf {m:MZ} {t:Int}:zar m t=true↔chk m=0∧0≤t∧t<m.tasks.length:=by
 unfold zar;simp
theorem farP_fi {m:MZ} {t:Nat} {fixed:List (List Int)} (g:zx m) (ht:t<m.tasks.length):DFI m (frP m t fixed) (m.tasks.getD t ([],[])).2 (farP m t fixed).length (farP m t fixed):=by
 have h0:DFI m (frP m t fixed) (m.tasks.getD t ([],[])).2 0 (zp (frP m t fixed) 0 (m.tasks.getD t ([],[])).2 []):=DFI.start fun x hx=>by
  rw [List.getD_eq_getElem?_getD,List.getElem?_eq_getElem ht,Option.getD_some] at hx;exact g.tn _ (List.getElem_mem ht) x (.inr hx)
 obtain ⟨j,hj,e⟩:=bfs_fi g.dim (m.n.toNat+1) 0 _ h0 (Nat.zero_le _) (by omega);have:j=(farP m t fixed).length:=e;rw [←this];exact hj
structure PathI (m:MZ) (t:Nat) (fixed:List (List Int)) (p:List Int):Prop where
 ne:p≠[]
 hd:p.getD 0 0∈(m.tasks.getD t ([],[])).1
 lt:p.getD (p.length - 1) 0∈(m.tasks.getD t ([],[])).2
 rg:∀x∈p,0≤x∧x<m.n
 fr:∀x∈p,ze m t x=true∧x∉fixed.flatten
 nd:p.Nodup
 ch:∀(i:Nat) x y,p[i]?=some x→p[i+1]?=some y→y∈zi m x
 nc:∀(i j:Nat) x y,i+2≤j→p[i]?=some x→p[j]?=some y→y∉zi m x
theorem descP_ok {m:MZ} {t:Nat} {fixed:List (List Int)} {p:List Int} (g:zx m) (ht:t<m.tasks.length) (h:zb9 m (farP m t fixed) (m.tasks.getD t ([],[])).1=some p):PathI m t fixed p:=by
 have hF:=farP_fi (fixed:=fixed) g ht;generalize farP m t fixed=F at hF h;unfold zb9 at h;obtain ⟨b,hb,rfl⟩:=Option.map_eq_some_iff.1 h;obtain ⟨d,h1,h2,-,-⟩:=zbF (fun c hc=>by cases hc) hb;rw [h1,Option.getD_some];have hbm:=zag h1;have hd0:=(hF.rg _ hbm).2.2;simp only at hd0;obtain ⟨f,rfl⟩:∃f:Nat,d=(f:Int):=⟨d.toNat,by omega⟩;rw [Int.toNat_natCast];obtain ⟨a1,a2,a3,a4⟩:=down_spec g.dim hF f b h1;generalize zb7 m F f b=p at*
 have hmem:∀x∈p,∃e,(x,e)∈F:=fun x hx=>by
  obtain ⟨i,hi⟩:=List.getElem?_of_mem hx;exact ⟨_,zag (a3 i x hi).2⟩
 have hne:p≠[]:=fun e=>by rw [e] at a1;simp at a1
 refine ⟨hne,?_,?_,fun x hx=>?_,fun x hx=>?_,?_,a4,fun i j x y hij hx hy hn=>?_⟩
 ·have e0:p.getD 0 0=b:=by rw [List.getD_eq_getElem?_getD,a2,Option.getD_some]
  rw [e0];rcases h2 with h2 | h2
  ·cases h2
  ·exact h2
 ·have hl:p.length - 1<p.length:=by omega
  have e0:p.getD (p.length - 1) 0=p[p.length - 1]:=by rw [List.getD_eq_getElem?_getD,List.getElem?_eq_getElem hl,Option.getD_some]
  rw [e0];obtain ⟨h3,h4⟩:=a3 (p.length - 1) _ (List.getElem?_eq_getElem hl);have h5:=zag h4;rcases hF.bk _ h5 with ⟨-,h6⟩ | ⟨q,hq,-,h6⟩
  ·exact h6
  ·have:=(hF.rg q hq).2.2;simp only at h6;omega
 ·obtain ⟨e,he⟩:=hmem x hx;exact (hF.rg _ he).1
 ·obtain ⟨e,he⟩:=hmem x hx;have:=(hF.rg _ he).2.1;unfold frP at this;simp only [Bool.and_eq_true,Bool.not_eq_true',decide_eq_false_iff_not] at this;exact this
 ·rw [List.nodup_iff_pairwise_ne,List.pairwise_iff_getElem];intro i j hi hj hij e;have h3:=(a3 i _ (List.getElem?_eq_getElem hi));have h4:=(a3 j _ (List.getElem?_eq_getElem hj));rw [e,h4.2] at h3;have:=h3.2;injection this with this;omega
 ·obtain ⟨h3,h4⟩:=a3 i x hx;obtain ⟨h5,h6⟩:=a3 j y hy;have h7:=zag h4;have h8:=zag h6;have hyr:=(hF.rg _ h8);have hxr:=(hF.rg _ h7);have h9:=nextL_symm g.dim hxr.1.1 hxr.1.2 hn;obtain ⟨k,hk⟩:=List.getElem?_of_mem h8
  have hkl:k<F.length:=by
   rcases Nat.lt_or_ge k F.length with h | h
   ·exact h
   ·rw [List.getElem?_eq_none h] at hk;cases hk
  obtain ⟨q,hq,e,h10⟩:=hF.cl k hkl _ hk x h9 hxr.2.1;obtain ⟨q1,q2⟩:=q;simp only at e h10;subst e;rw [zbM hF.nd hq] at h4;injection h4 with h4;omega
theorem pathP_ok {m:MZ} {t:Int} {fixed:List (List Int)} {p:List Int} (h:za9 m t fixed=some p):chk m=0∧(0≤t∧t<m.tasks.length)∧PathI m t.toNat fixed p:=by
 unfold za9 at h
 split at h
 ·rename_i hk
  obtain ⟨h1,h2,h3⟩:=zaf.1 hk;exact ⟨h1,⟨h2,h3⟩,descP_ok (zx.of h1) (by omega) h⟩
 ·cases h
theorem PathI.pathB {m:MZ} {t:Nat} {fixed:List (List Int)} {p pre:List Int} (h:PathI m t fixed p) (hp:∀x∈p,x∉pre):pathB m t p pre=true:=by
 refine pathB_ok h.ne h.hd h.lt fun k hk=>?_
 have hgk:p.getD k 0=p[k]:=by rw [List.getD_eq_getElem?_getD,List.getElem?_eq_getElem hk,Option.getD_some]
 have hm:=List.getElem_mem hk;have hr:=h.rg _ hm;unfold zbB;rw [hgk,decide_eq_true hr.1,decide_eq_true hr.2,(h.fr _ hm).1]
 have h1:p[k]∉pre++p.take k:=fun hc=>by
  rcases List.mem_append.1 hc with hc | hc
  ·exact hp _ hm hc
  ·obtain ⟨i,hi,e⟩:=List.getElem_of_mem hc;rw [List.getElem_take] at e;have hi':i<k:=by rw [List.length_take] at hi;omega
   exact List.pairwise_iff_getElem.1 (List.nodup_iff_pairwise_ne.1 h.nd) i k (by omega) hk hi' e
 rw [decide_eq_false h1];rcases Nat.eq_zero_or_pos k with rfl | h0
 ·rfl
 ·have h2:p.getD (k - 1) 0=p[k - 1]:=by rw [List.getD_eq_getElem?_getD,List.getElem?_eq_getElem (by omega),Option.getD_some]
  have h3:=h.ch (k - 1) _ _ (List.getElem?_eq_getElem (by omega)) (by rw [show k - 1+1=k by omega];exact List.getElem?_eq_getElem hk);rw [h2,decide_eq_true h3];simp
def zas (m:MZ) (ch:List Int):List (List Int):=zJ m ch++(if zae m ch=true then [[]] else [])
theorem zdk {m:MZ} {ch:List Int} (h:zae m ch=false):zas m ch=zJ m ch:=by unfold zas;rw [h];simp
theorem splitL_cmp {m:MZ} {ch:List Int} (h:zae m ch=true):zas m ch=zJ m ch++[[]]:=by unfold zas;rw [h];simp
theorem finB_snoc {m:MZ} {qs:List (List Int)} {p:List Int} {x:Int}:finB m (qs++[p++[x]])=decide (x∈(m.tasks.getD qs.length ([],[])).2):=by
 unfold finB;rw [List.length_append,List.length_singleton,Nat.add_sub_cancel];have:(qs++[p++[x]]).getD qs.length []=p++[x]:=by simp [List.getD_eq_getElem?_getD]
 rw [this];simp
theorem finB_nil {m:MZ} {qs:List (List Int)}:finB m (qs++[[]])=false:=by
 unfold finB;rw [List.length_append,List.length_singleton,Nat.add_sub_cancel];have:(qs++[([]:List Int)]).getD qs.length []=[]:=by simp [List.getD_eq_getElem?_getD]
 rw [this]
 all_goals rfl
theorem addN_snoc {qs:List (List Int)} {p:List Int} {x:Int}:zbx (qs++[p]) x=qs++[p++[x]]:=by
 unfold zbx;rw [List.length_append,List.length_singleton,Nat.add_sub_cancel,List.set_append_right _ _ (Nat.le_refl _)];simp
theorem split_step {m:MZ} {ch:List Int} {qs:List (List Int)} {p:List Int} (x:Int) (hps:zJ m ch=qs++[p]) (hlen:qs.length<m.tasks.length):
  zas m (ch++[x])=qs++[p++[x]]++(if x∈(m.tasks.getD qs.length ([],[])).2 then [[]] else []):=by
 have hT:decide (m.tasks.length=0)=false:=decide_eq_false (by omega);unfold zas zae;rw [zcA,hps];unfold zbe;rw [addN_snoc,finB_snoc,List.length_append,List.length_singleton];by_cases hx:x∈(m.tasks.getD qs.length ([],[])).2
 ·rw [decide_eq_true hx,if_pos hx];by_cases hl:qs.length+1<m.tasks.length
  ·rw [if_pos ⟨rfl,hl⟩];unfold cmpB;rw [finB_nil,hT];simp
  ·rw [if_neg (fun h=>hl h.2)];unfold cmpB;rw [finB_snoc,hT,decide_eq_true hx,decide_eq_true (show (qs++[p++[x]]).length=m.tasks.length by simp;omega)];simp
 ·rw [decide_eq_false hx,if_neg hx,if_neg (fun h=>by cases h.1)];unfold cmpB;rw [finB_snoc,hT,decide_eq_false hx];simp
theorem splitL_nil (m:MZ):zas m []=[[]]:=by
 unfold zas zae;rw [psOf_nil];unfold ps0;by_cases h:m.tasks.length=0
 ·rw [if_pos h];unfold cmpB;rw [decide_eq_true h];simp
 ·rw [if_neg h];unfold cmpB;rw [decide_eq_false h];have:finB m [[]]=false:=finB_nil (qs:=[]);rw [this];simp
theorem ps_form {m:MZ} {ch:List Int} (h:zu m ch) (hc:zae m ch=false):∃qs p,zJ m ch=qs++[p]∧qs.length<m.tasks.length∧zas m ch=qs++[p]:=by
 have h1:=h.psOk;have h2:=h1.pn (zbz hc);rcases List.eq_nil_or_concat (zJ m ch) with h3 | ⟨qs,p,h3⟩
 ·rw [h3] at h2;simp at h2
 ·rw [List.concat_eq_append] at h3;have h4:=h1.pl;rw [h3] at h4;simp only [List.length_append,List.length_singleton] at h4;exact ⟨qs,p,h3,by omega,by rw [zdk hc,h3]⟩
theorem splitL_len {m:MZ} {ch:List Int} (h:zu m ch):(zae m ch=true→(zas m ch).length=m.tasks.length+1)∧(zae m ch=false→(zas m ch).length≤m.tasks.length∧0<(zas m ch).length):=by
 refine ⟨fun hc=>?_,fun hc=>?_⟩
 ·rw [splitL_cmp hc,List.length_append,List.length_singleton];unfold zae cmpB at hc;rw [Bool.or_eq_true,Bool.and_eq_true,decide_eq_true_eq,decide_eq_true_eq] at hc;rcases hc with hc | hc
  ·have:=h.psOk.pl;omega
  ·omega
 ·obtain ⟨qs,p,h1,h2,h3⟩:=ps_form h hc;rw [h3,List.length_append,List.length_singleton];omega
section
open Go.Lib
theorem zcj (d:Array Int) (hs:∀i j,i≤j→j<d.size→d[i]!≤d[j]!):∀m,m≤d.size→(compactUpTo d m).Pairwise (·<·)∧∀x,x∈compactUpTo d m↔∃j,j<m∧d[j]! =x
 | 0,_=>⟨by simp [compactUpTo],fun x=>by simp [compactUpTo]⟩
 | m+1,hm=>by
  obtain ⟨h1,h2⟩:=zcj d hs m (by omega);rw [compactUpTo_succ];by_cases hk:keeps d m=true
  ·rw [if_pos hk];refine ⟨?_,fun x=>?_⟩
   ·rw [List.pairwise_append];refine ⟨h1,by simp,fun a ha b hb=>?_⟩;rw [List.mem_singleton] at hb;subst hb;obtain ⟨j,hj,rfl⟩:=(h2 a).1 ha;unfold keeps at hk;rw [decide_eq_true_eq] at hk;rcases hk with hk | hk
    ·omega
    ·have h3:=hs j (m - 1) (by omega) (by omega);have h4:=hs (m - 1) m (by omega) (by omega);omega
   ·rw [List.mem_append,h2,List.mem_singleton];constructor
    ·rintro (⟨j,hj,e⟩ | e)
     ·exact ⟨j,by omega,e⟩
     ·exact ⟨m,by omega,e.symm⟩
    ·rintro ⟨j,hj,e⟩;by_cases hjm:j=m
     ·subst hjm;exact .inr e.symm
     ·exact .inl ⟨j,by omega,e⟩
  ·rw [if_neg hk,List.append_nil];refine ⟨h1,fun x=>?_⟩;rw [h2];unfold keeps at hk;rw [decide_eq_true_eq] at hk;have hm0:m≠0:=fun h=>hk (.inl h)
   have he:d[m]! =d[m - 1]!:=Decidable.byContradiction fun h=>hk (.inr h)
   constructor
   ·rintro ⟨j,hj,e⟩;exact ⟨j,by omega,e⟩
   ·rintro ⟨j,hj,e⟩;by_cases hjm:j=m
    ·subst hjm;exact ⟨j - 1,by omega,by rw [←he];exact e⟩
    ·exact ⟨j,by omega,e⟩
theorem compact_sorted (l:List Int):(compact (zaW l)).Pairwise (·<·)∧∀x,x∈compact (zaW l)↔x∈l:=by
 have hp:(zaW l).Pairwise (fun x y=>decide (x≤y)=true):=by
  unfold zaW;exact List.pairwise_mergeSort (fun a b c h1 h2=>by simp only [decide_eq_true_eq] at *;omega) (fun a b=>by simp only [Bool.or_eq_true,decide_eq_true_eq];omega) l
 have hs:∀i j,i≤j→j<(zaW l).toArray.size→(zaW l).toArray[i]!≤(zaW l).toArray[j]!:=by
  intro i j hij hj;rw [List.size_toArray] at hj;have hi:i<(zaW l).length:=by omega
  rw [getElem!_pos _ i (by simpa using hi),getElem!_pos _ j (by simpa using hj)];simp only [List.getElem_toArray];rcases Nat.lt_or_ge i j with h | h
  ·have:=List.pairwise_iff_getElem.1 hp i j hi hj h;simpa using this
  ·have:i=j:=by omega
   subst this;exact Int.le_refl _
 obtain ⟨h1,h2⟩:=zcj (zaW l).toArray hs (zaW l).length (by simp);refine ⟨h1,fun x=>?_⟩;unfold compact;rw [h2,←mem_sortL (l:=l)];constructor
 ·rintro ⟨j,hj,e⟩;rw [getElem!_pos _ j (by simpa using hj)] at e;simp only [List.getElem_toArray] at e;rw [←e];exact List.getElem_mem hj
 ·intro hx;obtain ⟨j,hj,e⟩:=List.getElem_of_mem hx;exact ⟨j,hj,by rw [getElem!_pos _ j (by simpa using hj)];simpa using e⟩
end
theorem pw_eq {l l':List Int} (h:l.Pairwise (·<·)) (h':l'.Pairwise (·<·)) (he:∀x,x∈l↔x∈l'):l=l':=by
 have n1:l.Nodup:=h.imp (fun hab=>by omega);have n2:l'.Nodup:=h'.imp (fun hab=>by omega);have hperm:l.Perm l':=(List.perm_ext_iff_of_nodup n1 n2).2 he;exact List.Perm.eq_of_pairwise (le:=fun a b=>a<b) (fun a b _ _ h1 h2=>by omega) h h' hperm
theorem range_pw (n:Nat):((List.range n).map Int.ofNat).Pairwise (·<·):=by
 rw [List.pairwise_map];exact (List.pairwise_lt_range (n:=n)).imp (fun h=>by simpa using h)
def begL (m:MZ) (t:Nat) (ch:List Int):List Int:=((List.range m.n.toNat).map Int.ofNat).filter fun k=>decide (k∈(m.tasks.getD t ([],[])).1) && ze m t k && !decide (k∈ch)
theorem cand_beg {m:MZ} (g:zx m) {ch:List Int} {qs:List (List Int)} (hps:zJ m ch=qs++[[]]) (hc:zae m ch=false) (hlen:qs.length<m.tasks.length):cand m ch=begL m qs.length ch:=by
 unfold cand zb3;have h1:(qs++[([]:List Int)]).length - 1=qs.length:=by simp
 have h2:(qs++[([]:List Int)]).getD qs.length []=[]:=by simp [List.getD_eq_getElem?_getD]
 unfold zae at hc;rw [hc,hps,if_neg (by simp),h1,h2];show List.filter _ _=_;obtain ⟨s1,s2⟩:=compact_sorted (m.tasks.getD qs.length ([],[])).1;refine pw_eq (s1.filter _) ((range_pw _).filter _) (fun x=>?_);show x∈List.filter _ _↔x∈begL m qs.length ch;unfold begL;rw [List.mem_filter,List.mem_filter,s2,List.mem_map];simp only [Bool.and_eq_true,decide_eq_true_eq,Bool.not_eq_true',decide_eq_false_iff_not,List.mem_range];constructor
 ·rintro ⟨hx,hf,hu⟩;rw [List.getD_eq_getElem?_getD,List.getElem?_eq_getElem hlen,Option.getD_some] at hx;have hr:=g.tn _ (List.getElem_mem hlen) x (.inl hx);refine ⟨⟨x.toNat,by omega,by show (x.toNat:Int)=x;omega⟩,⟨?_,hf⟩,hu⟩;rw [List.getD_eq_getElem?_getD,List.getElem?_eq_getElem hlen,Option.getD_some];exact hx
 ·rintro ⟨_,⟨hx,hf⟩,hu⟩;exact ⟨hx,hf,hu⟩
theorem cand_on {m:MZ} {ch:List Int} {qs:List (List Int)} {p:List Int} {y:Int} (hps:zJ m ch=qs++[p++[y]]) (hc:zae m ch=false):cand m ch=(zi m y).filter (zL m ch qs.length p (m.tasks.getD qs.length ([],[])).1):=by
 unfold cand zb3;have h1:(qs++[p++[y]]).length - 1=qs.length:=by simp
 have h2:(qs++[p++[y]]).getD qs.length []=p++[y]:=by simp [List.getD_eq_getElem?_getD]
 unfold zae at hc;rw [hc,hps,if_neg (by simp),h1,h2];simp
theorem cand_cmp {m:MZ} {ch:List Int} (hc:zae m ch=true):cand m ch=[]:=by
 unfold cand zb3;unfold zae at hc;rw [if_pos hc]
end Go.Proofs.YthbjngbhbbkkgaaGreat
