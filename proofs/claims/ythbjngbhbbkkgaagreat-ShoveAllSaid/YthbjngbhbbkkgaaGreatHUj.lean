/- RtLd RtSo -/
import Derived.Test.YthbjngbhbbkkgaaGreatHUa
import Derived.Test.YthbjngbhbbkkgaaGreatHUb
import Derived.Test.YthbjngbhbbkkgaaGreatHUc
import Derived.Test.YthbjngbhbbkkgaaGreatHUd
import Derived.Test.YthbjngbhbbkkgaaGreatHUe
import Derived.Test.YthbjngbhbbkkgaaGreatHUf
import Derived.Test.YthbjngbhbbkkgaaGreatHUg
import Derived.Test.YthbjngbhbbkkgaaGreatHUh
import Derived.Test.YthbjngbhbbkkgaaGreatHUi
import Derived.Deep.AppendLies
set_option linter.unusedVariables false
set_option linter.unusedSimpArgs false
set_option maxRecDepth 100000
set_option maxHeartbeats 16000000
namespace Go.Proofs.YthbjngbhbbkkgaaGreat
open Go.RowKit
attribute [local go_sem ↓] Go.wp_at_zero Go.wp_at_succ
def isChB (m:MZ) (ch:List Int):Bool:=(List.range ch.length).all fun k=>decide (ch.getD k 0∈cand m (ch.take k))
theorem isCh_of {m:MZ} {ch:List Int} (h:∀k,k<ch.length→ch.getD k 0∈cand m (ch.take k)):∀k,k≤ch.length→zu m (ch.take k)
 | 0,_=>by simpa using zu.nil
 | k+1,hk=>by
  rw [List.take_succ_eq_append_getElem (by omega)];have h1:=h k (by omega);rw [List.getD_eq_getElem?_getD,List.getElem?_eq_getElem (by omega),Option.getD_some] at h1;exact .snoc (isCh_of h k (by omega)) h1
theorem zbd {m:MZ} {ch:List Int}:isChB m ch=true↔zu m ch:=by
 unfold isChB;rw [List.all_eq_true];constructor
 ·intro h;have:=isCh_of (m:=m) (ch:=ch) (fun k hk=>of_decide_eq_true (h k (List.mem_range.2 hk))) ch.length (Nat.le_refl _)
  rwa [List.take_length] at this
 ·intro h k hk;have hk:=List.mem_range.1 hk;rw [decide_eq_true_eq,List.getD_eq_getElem?_getD,List.getElem?_eq_getElem hk,Option.getD_some];exact h.at hk
noncomputable def zbV (m:MZ) (ch:List Int) (st:Int):Int:=
 if chk m≠0 then chk m else if st<0 then 1 else if (isChB m ch && (decide (ch=[]) || zaF m ch))=true then 0 else 51
def loadS (m:MZ) (ch:List Int) (st:Int):RS:=⟨ch,zae m ch || (decide (ch=[]) && decide (0<st)),st⟩
theorem zaO.new {wb:World} {X Y ok:Nat→Prop} {p:Nat} {m:MZ} {st:Int} (hst:StC wb ok p m []) (hok:∀b,ok b→b<wb.heap.size→X b∨Y b) (hX:∀b,wb.heap.size≤b→X b) (hY:∀b,Y b→b<wb.heap.size):
  zaO ((wb.alloc (.cells #[ptrV p] 97)).alloc (.cells #[.slice (some ⟨wb.heap.size,0,none⟩) 1 1,.bool false,.int .i64 st] 96)) X Y (wb.heap.size+1) wb.heap.size 1 m ⟨[],false,st⟩ [p]:=by
 have hE:Ext wb ((wb.alloc (.cells #[ptrV p] 97)).alloc (.cells #[.slice (some ⟨wb.heap.size,0,none⟩) 1 1,.bool false,.int .i64 st] 96)):=((Ext.refl _).alloc _).alloc _;refine ⟨Blk.new _ _ _ (by simp),hX _ (by omega),hX _ (by omega),by omega,fun h=>by have:=hY _ h;omega,fun h=>by have:=hY _ h;omega,?_,rfl,?_⟩
 ·exact ⟨rfl,.inr ⟨wb.heap.size,1,#[ptrV p],rfl,Nat.zero_le _,(Blk.new wb _ _ rfl).alloc _,Nat.le_refl _,by unfold maxLen;omega,rfl,rfl⟩⟩
 ·intro k p' hp
  match k,hp with
  | 0,hp=>
   have:p=p':=by simpa using hp
   subst this;refine (hst.bound.ext hE).weaken fun b hb=>?_
   rcases hok b hb.1 hb.2 with h | h
   ·exact .inl ⟨h,by omega,by omega⟩
   ·exact .inr h
def zbt (w:World) (Y:Nat→Prop) (m:MZ) (ch:List Int) (st:Int) (e:Ending) (w':World):Prop:=
 ∃v,e=.returned (.tuple #[v,.int .i64 (zbV m ch st)])∧Ext w w'∧
  ((zbV m ch st≠0∧v=.pointer none)∨(zbV m ch st=0∧zx m∧zu m ch∧∃g gr cap pt,v=ptrV g∧zaO w' (fun b=>w.heap.size≤b) Y g gr cap m (loadS m ch st) pt))
structure LR (w wr:World) (Y:Nat→Prop) (g gr cap:Nat) (m:MZ) (ch:List Int) (st:Int) (k:Nat) (pt:List Nat):Prop where
 rt:zaO wr (fun b=>w.heap.size≤b) Y g gr cap m ⟨ch.take k,false,st⟩ pt
 ext:Ext w wr
 ch:zu m (ch.take k)
theorem load_fin {w w9:World} {Y:Nat→Prop} {g gr cap:Nat} {m:MZ} {ch:List Int} {st:Int} {pt:List Nat} {d:Bool} {c:List Int} (h:zaO w9 (fun b=>w.heap.size≤b) Y g gr cap m ⟨c,false,st⟩ pt) (hE:Ext w w9) (hc:c=ch) (hic:zu m ch) (hg:zx m) (hle:zbV m ch st=0) (hd:d=(loadS m ch st).done):
  zbt w Y m ch st (.returned (.tuple #[.pointer (some ⟨g,0,none⟩),.int .i64 0])) (w9.setCell ⟨g,1,none⟩ (.bool d)):=by
 subst hc;refine ⟨.pointer (some ⟨g,0,none⟩),by rw [hle],hE.setCell (p:=⟨g,1,none⟩) h.xg _,.inr ⟨hle,hg,hic,g,gr,cap,pt,rfl,?_⟩⟩;have:=h.done d;rw [hd] at this⊢;exact this
theorem load_calls {okc Y:Nat→Prop} {v vc:Value} {m:MZ} {ch:List Int} (st:Int) (w:World) (hm:zr w Y v m) (hl:Lens m) (hch:zf w okc vc ch) (hlc:ch.length≤20000000000000) (hYb:∀b,Y b→b<w.heap.size):
  Calls Tryz.prog 61 #[v,vc,.int .i64 st] w (zbt w Y m ch st):=by
 have hmz:=hm;obtain ⟨vfr,vup,vts,rfl,_,_,hts⟩:=hm;have HMZ:=zh hmz;clear hmz hts;have HCHS:=zh hch;obtain ⟨Ac,cc,rfl,hcc,hrc⟩:=hch;have HRC:=zh hrc;clear hrc;have HL:=zh hl;clear hl;have HYB:=zh hYb;clear hYb;obtain ⟨MV,hMV⟩:∃MV,MV=Value.agg #[.int .i64 m.w,.int .i64 m.h,.int .i64 m.l,vfr,vup,vts]:=⟨_,rfl⟩;obtain ⟨ck,hck⟩:∃ck,ck=chk m:=⟨_,rfl⟩;have HCK:=zh hck;clear hck;obtain ⟨i0,hi,hz0,hz1,hz2⟩:=info_parts Tryz.infoPst;have IF:=zh hi;have IZ0:=zh hz0;have IZ1:=zh hz1;have IZ2:=zh hz2;clear hi hz0 hz1 hz2 hMV
 go_enter Tryz.func61,Tryz.ntmps61
 go_wp2_with fail
 generalize hw1:w.alloc (.cells #[.int .i64 m.w,.int .i64 m.h,.int .i64 m.l,vfr,vup,vts] 32)=w1;have hb1:Ext w w1:=by rw [←hw1];exact (Ext.refl w).alloc _
 have hgm:Blk w1 w.heap.size 32 #[.int .i64 m.w,.int .i64 m.h,.int .i64 m.l,vfr,vup,vts]:=by rw [←hw1];exact heap_alloc_new _ _
 clear hw1;obtain ⟨m0,m1,m2,m3,m4,m5⟩:=zw hgm;have c0:=Ext.rule m0;have c1:=Ext.rule m1;have c2:=Ext.rule m2;have c3:=Ext.rule m3;have c4:=Ext.rule m4;have c5:=Ext.rule m5;clear m0 m1 m2 m3 m4 m5 hgm;refine (zaM w1 (HMZ.out.below hb1) HL.out).mono ?_;rintro e w2 ⟨rfl,hx2⟩;have hx2:Ext w1 w2:=hx2;have hE2:Ext w w2:=hb1.trans hx2;rw [←HCK.out];by_cases h0:ck=0
 case neg=>
  have hq1:(ck==0)=false:=by rw [beq_eq_false_iff_ne];exact h0
  have hq2:(ck != 0)=true:=by rw [bne_iff_ne];exact h0
  have hle:zbV m ch st=ck:=by unfold zbV;rw [←HCK.out,if_pos h0]
  have hfin:zbt w Y m ch st (.returned (.tuple #[.pointer none,.int .i64 ck])) w2:=⟨.pointer none,by rw [hle],hE2,.inl ⟨by rw [hle];exact h0,rfl⟩⟩;have HFIN:=zh hfin;clear hfin hle h0
  go_wp2_with fail
  go_ret2
  exact HFIN.out
 case pos=>
  subst h0;have HG:=zh (zx.of HCK.out.symm);by_cases hst:st<0
  ·have hle:zbV m ch st=1:=by unfold zbV;rw [←HCK.out,if_neg (by simp),if_pos hst]
   have hfin:zbt w Y m ch st (.returned (.tuple #[.pointer none,.int .i64 1])) w2:=⟨.pointer none,by rw [hle],hE2,.inl ⟨by rw [hle];decide,rfl⟩⟩;have HFIN:=zh hfin;clear hfin hle
   go_wp2_with fail
   go_ret2
   exact HFIN.out
  ·have hst0:0≤st:=by omega
   have hsd:decide (st<0)=false:=decide_eq_false hst
   have HLE:Hid (zbV m ch st=if (isChB m ch && (decide (ch=[]) || zaF m ch))=true then 0 else 51):=by
    show zbV m ch st=_;unfold zbV;rw [←HCK.out,if_neg (by simp),if_neg hst]
   clear hst
   go_wp2_with fail
   refine (begin_c w2 (HMZ.out.below hE2) (by have:=HG.out.tk;omega)).mono ?_;rintro e w3 ⟨p,rfl,hx3,hst3⟩;have hE3:Ext w w3:=hE2.trans hx3
   have H0:Hid (LR w ((w3.alloc (.cells #[ptrV p] 97)).alloc (.cells #[.slice (some ⟨w3.heap.size,0,none⟩) 1 1,.bool false,.int .i64 st] 96)) Y (w3.heap.size+1) w3.heap.size 1 m ch st 0 [p]):=by
    have hz:=hE3.size;have hz2:=hE2.size;refine ⟨?_,(hE3.alloc _).alloc _,by simpa using zu.nil⟩
    have:=zaO.new (X:=fun b=>w.heap.size≤b) (Y:=Y) (st:=st) hst3 (fun b hb _=>by
     rcases hb with hb | hb
     ·exact .inr hb
     ·exact .inl (by omega)) (fun b hb=>by omega) (fun b hb=>by have:=HYB.out b hb;omega)
    simpa using this
   clear hst3
   go_wp2_with fail
   generalize hw4:(w3.alloc (.cells #[.pointer (some ⟨p,0,none⟩)] 97)).alloc (.cells #[.slice (some ⟨w3.heap.size,0,none⟩) 1 1,.bool false,.int .i64 st] 96)=w4;have H0:Hid (LR w w4 Y (w3.heap.size+1) w3.heap.size 1 m ch st 0 [p]):=by rw [←hw4];exact H0
   clear hw4;generalize w3.heap.size+1=g at*;generalize w3.heap.size=gr0 at*;clear c0 c1 c2 c3 c4 c5 hx3 hE3 hE2 hx2 hb1
   go_loopg [27] ch.length (fun gk v wr=>∃(k gr cap:Nat) (pt:List Nat),v=.int .i64 k∧k≤ch.length∧gk=ch.length - k∧Hid (LR w wr Y g gr cap m ch st k pt))
   case atStart=>exact ⟨0,gr0,1,[p],rfl,Nat.zero_le _,rfl,H0⟩
   clear H0
   case round=>
    obtain ⟨k,gr,cap,pt,rfl,hk,rfl,hR⟩:=hrel;have hxr:=hR.out.ext;have hrt:=hR.out.rt;obtain ⟨p2,hp2,hst2,_⟩:=hrt.row.last;dsimp only at hp2 hst2;have hkl:(ch.take k).length=k:=by rw [List.length_take];omega
    have hk300:=hR.out.ch.len300 HG.out;rw [hkl] at hk300;have HLX:Hid (∀W,Ext wr W→Calls Tryz.prog 63 #[.pointer (some ⟨g,0,none⟩)] W fun e w'=>e=.returned (.pointer (some ⟨p2,0,none⟩))∧zG W w'):=fun W hE=>last_c (w':=W) (hrt.ext hE) hp2 (by dsimp only;omega)
    have HST:=zh hst2;have rg0:∀W,Ext wr W→W.cell? ⟨g,0,none⟩=some (.slice (some ⟨gr,0,none⟩) pt.length cap):=Ext.rule (hrt.blk.cell (k:=0) rfl);have hcap:=zbv hrt.row.1;have hptl:pt.length≤400:=by have:=hrt.row.2.1;dsimp only at this;omega
    clear hrt hp2 hst2;rcases Nat.lt_or_ge k ch.length with hlt | hge
    ·obtain ⟨bc,oc,rfl,_,hcell⟩:=zt HRC.out hlt hlt;obtain ⟨n,hn⟩:∃n,n=ch[k]:=⟨_,rfl⟩;rw [←hn] at hcell;have q0:=Ext.rule hcell;have HN:=zh hn;clear hcell hn
     go_wp2_with fail
     refine (HLX.out wr (Ext.refl _)).mono ?_;rintro e w5 ⟨rfl,hd5⟩;have hx5:Ext wr w5:=hd5.below _;clear hd5
     go_wp2_with fail
     refine (zbX w5 (HST.out.ext hx5) HG.out HL.out hR.out.ch).mono ?_;rintro e w6 ⟨v6,rfl,hM⟩;have hx6:Ext wr w6:=hx5.trans hM.ext;have HM:=zh hM.ints;clear hM hx5
     go_wp2_with fail
     refine (zv n w6 HM.out (by have:=zbR HL.out (ch.take k);omega)).mono ?_;rintro e w7 ⟨rfl,rfl⟩;by_cases hnc:n∈cand m (ch.take k)
     ·rw [decide_eq_true hnc];have HNC:=zh hnc;clear hnc;have hcs:Hid (ch.take k++[n]=ch.take (k+1)):=by show _=_;rw [List.take_succ_eq_append_getElem hlt,HN.out]
      go_wp2_with fail
      refine wp_region_held_drew (S:=fun _=>True) zS trivial (fun zH=>?_);have hd0:Ext wr w6.drew:=hx6.drew;refine rtT 0 zH ?_;simp only [za,Act.put];refine rtT 1 zH ?_;simp only [za,Act.put];refine rtT 2 zH ?_;simp only [za,Act.put];refine rtT 3 zH ?_;simp only [za,Act.put];refine rtT 5 zH ?_;simp only [za,Act.put];refine rtT 7 zH ?_;simp only [za,Act.put];refine rdA [4,6] ?_;refine AllReadyH.cons rfl (fun K hK=>?_) ?_
      ·skip
       have hx:=hd0;go_simp;clear hx;refine hK.out _ _ trivial (fun zH=>?_);clear hK K;try simp only [za,Act.put]
       refine rtR 6 (fun K hK=>?_)
       skip
       go_simp;go_at_call 63;refine (HLX.out _ hd0).mono ?_;rintro e wa2 ⟨rfl,hd2⟩;have ha2:Ext wr wa2:=hd0.trans (hd2.below _);go_simp;refine hK.out _ _ trivial (fun zH=>?_);clear hK K;try simp only [za,Act.put]
       refine rtR 8 (fun K hK=>?_)
       skip
       go_simp;go_at_call 85;refine (with_c _ (HST.out.ext ha2) HG.out HL.out hR.out.ch HNC.out).mono ?_;rintro e wa3 ⟨q,rfl,hxw,hq⟩;have HQ:=zh (push_ok (g:=g) (gr:=gr) hq ha2 hR.out.rt (fun b hb=>Nat.le_trans hxr.size hb));clear hq;have ha3:Ext wr wa3:=ha2.trans hxw;clear hxw;go_simp;refine hK.out _ _ trivial (fun zH=>?_);clear hK K;try simp only [za,Act.put]
       refine rtR 9 (fun K hK=>?_)
       skip
       go_simp;refine hK.out _ _ trivial (fun zH=>?_);clear hK K;try simp only [za,Act.put]
       refine rtR 10 (fun K hK=>?_)
       skip
       have hr4:=hR.out.rt.ext ha3;have HR4:=zh hr4;have hc4:wa3.cell? ⟨g,0,none⟩=some (.slice (some ⟨gr,0,none⟩) pt.length cap):=hr4.blk.cell (k:=0) rfl;have hf4:wa3.frozen? ⟨g,0,none⟩=false:=hr4.blk.frozen 0;clear hr4;refine step_append_lies (P:=Tryz.prog) _ (by rfl) _ _ 94 (by rfl) 0 97 i0 (.pointer none) 1 8 Tryz.underlying94 IF.out IZ0.out IZ1.out IZ2.out rfl (by decide) (.slice (some ⟨gr,0,none⟩) pt.length cap) pt.length _ (by rfl) (HR4.out.row.1.alloc _) ⟨wa3.heap.size,0,none⟩ 1 1 [ptrV q] (by rfl) rfl (cell_one_new _ _ _) (by simp [ptrV,Value.oneCell']) (by decide) (by unfold maxLen;omega) (by omega) (Nat.zero_le _) (wa3.heap.size+1) (by simp) ?_;intro g5 c5 w9 hown hg hv _;obtain ⟨gr',cap',hvv,hrt9,hch9⟩:=HR4.out.push HQ.out (fun b hb=>Nat.le_trans hxr.size (Nat.le_trans ha3.size hb)) (fun b hb=>Nat.lt_of_lt_of_le (HYB.out b hb) (Nat.le_trans hxr.size ha3.size)) hown hg (by rcases hv with hv | hv;exact .inl hv.symm;exact .inr (congrArg some hv));have hblk9:w9.heap[g]?=wa3.heap[g]?:=(hg.block g (by have:=zb HR4.out.blk;simp;omega) (fun e=>HR4.out.ne (by injection e))).trans (Below.heap_alloc _ _ _ (zb HR4.out.blk));have hc9:w9.cell? ⟨g,0,none⟩=some (.slice (some ⟨gr,0,none⟩) pt.length cap):=(World.cell?_of_block hblk9).trans hc4;have hf9:w9.frozen? ⟨g,0,none⟩=false:=(World.frozen?_of_block (a:=⟨g,0,none⟩) hblk9).trans hf4;have HE9:Hid (Ext w (w9.setCell ⟨g,0,none⟩ (.slice (some ⟨g5,0,none⟩) (pt.length+1) c5))):=Below.trans (hxr.trans ha3) (hch9.below (Nat.le_trans hxr.size ha3.size) (fun b hb=>hb));have HRT9:=zh hrt9;clear hown hg hv hrt9 hch9 hblk9 hc4 hf4;refine hK.out _ _ trivial (fun zH=>?_);clear hK K;try simp only [za,Act.put]
       refine rtR 11 (fun K hK=>?_)
       skip
       go_simp;refine hK.out _ _ trivial (fun zH=>?_);clear hK K;try simp only [za,Act.put]
       refine rtR 12 (fun K hK=>?_)
       skip
       go_simp;refine hK.out _ _ trivial (fun zH=>?_);clear hK K;try simp only [za,Act.put]
       refine rtR 13 (fun K hK=>?_)
       skip
       go_simp;refine hK.out _ _ trivial (fun zH=>?_);clear hK K;try simp only [za,Act.put]
       refine wpAnyH_done (by kernel_rfl) ?_ _
       go_wp2_with fail
       go_roundg (ch.length - (k+1))
       case measure=>omega
       case rel=>exact ⟨k+1,_,_,_,by go_num,hlt,rfl,⟨by have:=HRT9.out;rwa [hcs.out] at this,HE9.out,by rw [←hcs.out];exact .snoc hR.out.ch HNC.out⟩⟩
      refine AllReadyH.cons rfl (fun K hK=>?_) .nil
      skip
      go_simp;go_at_call 63;refine (HLX.out _ hd0).mono ?_;rintro e wa9 ⟨rfl,hd9⟩;have ha9:Ext wr wa9:=hd0.trans (hd9.below _);go_simp;refine hK.out _ _ trivial (fun zH=>?_);clear hK K;try simp only [za,Act.put]
      refine rdA [4,8] ?_;refine AllReadyH.cons rfl (fun K hK=>?_) ?_
      ·skip
       have hx:=ha9;go_simp;clear hx;refine hK.out _ _ trivial (fun zH=>?_);clear hK K;try simp only [za,Act.put]
       refine rtR 8 (fun K hK=>?_)
       skip
       go_simp;go_at_call 85;refine (with_c _ (HST.out.ext ha9) HG.out HL.out hR.out.ch HNC.out).mono ?_;rintro e wa11 ⟨q,rfl,hxw,hq⟩;have HQ:=zh (push_ok (g:=g) (gr:=gr) hq ha9 hR.out.rt (fun b hb=>Nat.le_trans hxr.size hb));clear hq;have ha11:Ext wr wa11:=ha9.trans hxw;clear hxw;go_simp;refine hK.out _ _ trivial (fun zH=>?_);clear hK K;try simp only [za,Act.put]
       refine rtR 9 (fun K hK=>?_)
       skip
       go_simp;refine hK.out _ _ trivial (fun zH=>?_);clear hK K;try simp only [za,Act.put]
       refine rtR 10 (fun K hK=>?_)
       skip
       have hr4:=hR.out.rt.ext ha11;have HR4:=zh hr4;have hc4:wa11.cell? ⟨g,0,none⟩=some (.slice (some ⟨gr,0,none⟩) pt.length cap):=hr4.blk.cell (k:=0) rfl;have hf4:wa11.frozen? ⟨g,0,none⟩=false:=hr4.blk.frozen 0;clear hr4;refine step_append_lies (P:=Tryz.prog) _ (by rfl) _ _ 94 (by rfl) 0 97 i0 (.pointer none) 1 8 Tryz.underlying94 IF.out IZ0.out IZ1.out IZ2.out rfl (by decide) (.slice (some ⟨gr,0,none⟩) pt.length cap) pt.length _ (by rfl) (HR4.out.row.1.alloc _) ⟨wa11.heap.size,0,none⟩ 1 1 [ptrV q] (by rfl) rfl (cell_one_new _ _ _) (by simp [ptrV,Value.oneCell']) (by decide) (by unfold maxLen;omega) (by omega) (Nat.zero_le _) (wa11.heap.size+1) (by simp) ?_;intro g5 c5 w9 hown hg hv _;obtain ⟨gr',cap',hvv,hrt9,hch9⟩:=HR4.out.push HQ.out (fun b hb=>Nat.le_trans hxr.size (Nat.le_trans ha11.size hb)) (fun b hb=>Nat.lt_of_lt_of_le (HYB.out b hb) (Nat.le_trans hxr.size ha11.size)) hown hg (by rcases hv with hv | hv;exact .inl hv.symm;exact .inr (congrArg some hv));have hblk9:w9.heap[g]?=wa11.heap[g]?:=(hg.block g (by have:=zb HR4.out.blk;simp;omega) (fun e=>HR4.out.ne (by injection e))).trans (Below.heap_alloc _ _ _ (zb HR4.out.blk));have hc9:w9.cell? ⟨g,0,none⟩=some (.slice (some ⟨gr,0,none⟩) pt.length cap):=(World.cell?_of_block hblk9).trans hc4;have hf9:w9.frozen? ⟨g,0,none⟩=false:=(World.frozen?_of_block (a:=⟨g,0,none⟩) hblk9).trans hf4;have HE9:Hid (Ext w (w9.setCell ⟨g,0,none⟩ (.slice (some ⟨g5,0,none⟩) (pt.length+1) c5))):=Below.trans (hxr.trans ha11) (hch9.below (Nat.le_trans hxr.size ha11.size) (fun b hb=>hb));have HRT9:=zh hrt9;clear hown hg hv hrt9 hch9 hblk9 hc4 hf4;refine hK.out _ _ trivial (fun zH=>?_);clear hK K;try simp only [za,Act.put]
       refine rtR 11 (fun K hK=>?_)
       skip
       go_simp;refine hK.out _ _ trivial (fun zH=>?_);clear hK K;try simp only [za,Act.put]
       refine rtR 12 (fun K hK=>?_)
       skip
       go_simp;refine hK.out _ _ trivial (fun zH=>?_);clear hK K;try simp only [za,Act.put]
       refine rtR 13 (fun K hK=>?_)
       skip
       go_simp;refine hK.out _ _ trivial (fun zH=>?_);clear hK K;try simp only [za,Act.put]
       refine wpAnyH_done (by kernel_rfl) ?_ _
       go_wp2_with fail
       go_roundg (ch.length - (k+1))
       case measure=>omega
       case rel=>exact ⟨k+1,_,_,_,by go_num,hlt,rfl,⟨by have:=HRT9.out;rwa [hcs.out] at this,HE9.out,by rw [←hcs.out];exact .snoc hR.out.ch HNC.out⟩⟩
      refine AllReadyH.cons rfl (fun K hK=>?_) .nil
      skip
      go_simp;go_at_call 85;refine (with_c _ (HST.out.ext ha9) HG.out HL.out hR.out.ch HNC.out).mono ?_;rintro e wa17 ⟨q,rfl,hxw,hq⟩;have HQ:=zh (push_ok (g:=g) (gr:=gr) hq ha9 hR.out.rt (fun b hb=>Nat.le_trans hxr.size hb));clear hq;have ha17:Ext wr wa17:=ha9.trans hxw;clear hxw;go_simp;refine hK.out _ _ trivial (fun zH=>?_);clear hK K;try simp only [za,Act.put]
      refine rdA [4,9] ?_;refine AllReadyH.cons rfl (fun K hK=>?_) ?_
      ·skip
       have hx:=ha17;go_simp;clear hx;refine hK.out _ _ trivial (fun zH=>?_);clear hK K;try simp only [za,Act.put]
       refine rtR 9 (fun K hK=>?_)
       skip
       go_simp;refine hK.out _ _ trivial (fun zH=>?_);clear hK K;try simp only [za,Act.put]
       refine rtR 10 (fun K hK=>?_)
       skip
       have hr4:=hR.out.rt.ext ha17;have HR4:=zh hr4;have hc4:wa17.cell? ⟨g,0,none⟩=some (.slice (some ⟨gr,0,none⟩) pt.length cap):=hr4.blk.cell (k:=0) rfl;have hf4:wa17.frozen? ⟨g,0,none⟩=false:=hr4.blk.frozen 0;clear hr4;refine step_append_lies (P:=Tryz.prog) _ (by rfl) _ _ 94 (by rfl) 0 97 i0 (.pointer none) 1 8 Tryz.underlying94 IF.out IZ0.out IZ1.out IZ2.out rfl (by decide) (.slice (some ⟨gr,0,none⟩) pt.length cap) pt.length _ (by rfl) (HR4.out.row.1.alloc _) ⟨wa17.heap.size,0,none⟩ 1 1 [ptrV q] (by rfl) rfl (cell_one_new _ _ _) (by simp [ptrV,Value.oneCell']) (by decide) (by unfold maxLen;omega) (by omega) (Nat.zero_le _) (wa17.heap.size+1) (by simp) ?_;intro g5 c5 w9 hown hg hv _;obtain ⟨gr',cap',hvv,hrt9,hch9⟩:=HR4.out.push HQ.out (fun b hb=>Nat.le_trans hxr.size (Nat.le_trans ha17.size hb)) (fun b hb=>Nat.lt_of_lt_of_le (HYB.out b hb) (Nat.le_trans hxr.size ha17.size)) hown hg (by rcases hv with hv | hv;exact .inl hv.symm;exact .inr (congrArg some hv));have hblk9:w9.heap[g]?=wa17.heap[g]?:=(hg.block g (by have:=zb HR4.out.blk;simp;omega) (fun e=>HR4.out.ne (by injection e))).trans (Below.heap_alloc _ _ _ (zb HR4.out.blk));have hc9:w9.cell? ⟨g,0,none⟩=some (.slice (some ⟨gr,0,none⟩) pt.length cap):=(World.cell?_of_block hblk9).trans hc4;have hf9:w9.frozen? ⟨g,0,none⟩=false:=(World.frozen?_of_block (a:=⟨g,0,none⟩) hblk9).trans hf4;have HE9:Hid (Ext w (w9.setCell ⟨g,0,none⟩ (.slice (some ⟨g5,0,none⟩) (pt.length+1) c5))):=Below.trans (hxr.trans ha17) (hch9.below (Nat.le_trans hxr.size ha17.size) (fun b hb=>hb));have HRT9:=zh hrt9;clear hown hg hv hrt9 hch9 hblk9 hc4 hf4;refine hK.out _ _ trivial (fun zH=>?_);clear hK K;try simp only [za,Act.put]
       refine rtR 11 (fun K hK=>?_)
       skip
       go_simp;refine hK.out _ _ trivial (fun zH=>?_);clear hK K;try simp only [za,Act.put]
       refine rtR 12 (fun K hK=>?_)
       skip
       go_simp;refine hK.out _ _ trivial (fun zH=>?_);clear hK K;try simp only [za,Act.put]
       refine rtR 13 (fun K hK=>?_)
       skip
       go_simp;refine hK.out _ _ trivial (fun zH=>?_);clear hK K;try simp only [za,Act.put]
       refine wpAnyH_done (by kernel_rfl) ?_ _
       go_wp2_with fail
       go_roundg (ch.length - (k+1))
       case measure=>omega
       case rel=>exact ⟨k+1,_,_,_,by go_num,hlt,rfl,⟨by have:=HRT9.out;rwa [hcs.out] at this,HE9.out,by rw [←hcs.out];exact .snoc hR.out.ch HNC.out⟩⟩
      refine AllReadyH.cons rfl (fun K hK=>?_) .nil
      skip
      go_simp;refine hK.out _ _ trivial (fun zH=>?_);clear hK K;try simp only [za,Act.put]
      refine rtR 4 (fun K hK=>?_)
      skip
      have hx:=(ha17.alloc (.cells #[.pointer (some ⟨q,0,none⟩)] 97));go_simp;clear hx;refine hK.out _ _ trivial (fun zH=>?_);clear hK K;try simp only [za,Act.put]
      refine rtR 10 (fun K hK=>?_)
      skip
      have hr4:=hR.out.rt.ext ha17;have HR4:=zh hr4;have hc4:wa17.cell? ⟨g,0,none⟩=some (.slice (some ⟨gr,0,none⟩) pt.length cap):=hr4.blk.cell (k:=0) rfl;have hf4:wa17.frozen? ⟨g,0,none⟩=false:=hr4.blk.frozen 0;clear hr4;refine step_append_lies (P:=Tryz.prog) _ (by rfl) _ _ 94 (by rfl) 0 97 i0 (.pointer none) 1 8 Tryz.underlying94 IF.out IZ0.out IZ1.out IZ2.out rfl (by decide) (.slice (some ⟨gr,0,none⟩) pt.length cap) pt.length _ (by rfl) (HR4.out.row.1.alloc _) ⟨wa17.heap.size,0,none⟩ 1 1 [ptrV q] (by rfl) rfl (cell_one_new _ _ _) (by simp [ptrV,Value.oneCell']) (by decide) (by unfold maxLen;omega) (by omega) (Nat.zero_le _) (wa17.heap.size+1) (by simp) ?_;intro g5 c5 w9 hown hg hv _;obtain ⟨gr',cap',hvv,hrt9,hch9⟩:=HR4.out.push HQ.out (fun b hb=>Nat.le_trans hxr.size (Nat.le_trans ha17.size hb)) (fun b hb=>Nat.lt_of_lt_of_le (HYB.out b hb) (Nat.le_trans hxr.size ha17.size)) hown hg (by rcases hv with hv | hv;exact .inl hv.symm;exact .inr (congrArg some hv));have hblk9:w9.heap[g]?=wa17.heap[g]?:=(hg.block g (by have:=zb HR4.out.blk;simp;omega) (fun e=>HR4.out.ne (by injection e))).trans (Below.heap_alloc _ _ _ (zb HR4.out.blk));have hc9:w9.cell? ⟨g,0,none⟩=some (.slice (some ⟨gr,0,none⟩) pt.length cap):=(World.cell?_of_block hblk9).trans hc4;have hf9:w9.frozen? ⟨g,0,none⟩=false:=(World.frozen?_of_block (a:=⟨g,0,none⟩) hblk9).trans hf4;have HE9:Hid (Ext w (w9.setCell ⟨g,0,none⟩ (.slice (some ⟨g5,0,none⟩) (pt.length+1) c5))):=Below.trans (hxr.trans ha17) (hch9.below (Nat.le_trans hxr.size ha17.size) (fun b hb=>hb));have HRT9:=zh hrt9;clear hown hg hv hrt9 hch9 hblk9 hc4 hf4;refine hK.out _ _ trivial (fun zH=>?_);clear hK K;try simp only [za,Act.put]
      refine rtR 11 (fun K hK=>?_)
      skip
      go_simp;refine hK.out _ _ trivial (fun zH=>?_);clear hK K;try simp only [za,Act.put]
      refine rtR 12 (fun K hK=>?_)
      skip
      go_simp;refine hK.out _ _ trivial (fun zH=>?_);clear hK K;try simp only [za,Act.put]
      refine rtR 13 (fun K hK=>?_)
      skip
      go_simp;refine hK.out _ _ trivial (fun zH=>?_);clear hK K;try simp only [za,Act.put]
      refine wpAnyH_done (by kernel_rfl) ?_ _
      go_wp2_with fail
      go_roundg (ch.length - (k+1))
      case measure=>omega
      case rel=>exact ⟨k+1,_,_,_,by go_num,hlt,rfl,⟨by have:=HRT9.out;rwa [hcs.out] at this,HE9.out,by rw [←hcs.out];exact .snoc hR.out.ch HNC.out⟩⟩
     ·rw [decide_eq_false hnc]
      have hle:zbV m ch st=51:=by
       rw [HLE.out]
       have:isChB m ch=false:=by
        rw [Bool.eq_false_iff];intro h;have h1:=(zbd.1 h).at hlt;rw [←HN.out] at h1;exact hnc h1
       rw [this]
       all_goals rfl
      have hfin:zbt w Y m ch st (.returned (.tuple #[.pointer none,.int .i64 51])) w6:=⟨.pointer none,by rw [hle],hxr.trans hx6,.inl ⟨by rw [hle];decide,rfl⟩⟩;have HFIN:=zh hfin;clear hfin hle hnc
      go_wp2_with fail
      go_ret2
      exact HFIN.out
    ·have hkk:k=ch.length:=by omega
     subst hkk;have HTK:Hid (ch.take ch.length=ch):=List.take_length;have HIC:Hid (zu m ch):=by have:=hR.out.ch;rwa [HTK.out] at this
     have hib:isChB m ch=true:=zbd.2 HIC.out;rw [hib] at HLE;have HIB:=zh hib;clear hib;rw [HTK.out] at HST;by_cases hnil:ch=[]
     ·have hz1:decide ((0:Int)<(ch.length:Int))=false:=by rw [hnil];rfl
      have hz2:((ch.length:Int)==0)=true:=by rw [hnil];rfl
      have hz3:decide (0<ch.length)=false:=by rw [hnil];rfl
      have hz4:decide (ch.length=0)=true:=by rw [hnil];rfl
      have HNIL:=zh hnil;have HLE0:Hid (zbV m ch st=0):=by show _=_;rw [HLE.out,decide_eq_true hnil];rfl
      clear hnil
      go_wp2_with fail
      refine (HLX.out wr (Ext.refl _)).mono ?_;rintro e w8 ⟨rfl,hd8⟩;have hx8:Ext wr w8:=Ext.trans (Ext.refl _) (hd8.below _);clear hd8
      go_wp2_with fail
      refine (zcH w8 (HST.out.ext hx8) HG.out HL.out HIC.out).mono ?_;rintro e w9 ⟨rfl,hd9⟩;have hx9:Ext wr w9:=hx8.trans (hd9.below _);clear hd9 hx8;obtain ⟨cb,hcb⟩:∃cb,cb=zae m ch:=⟨_,rfl⟩;rw [←hcb];have HCB:=zh hcb;clear hcb;have hrt9:=hR.out.rt.ext hx9;have hc9:w9.cell? ⟨g,1,none⟩=some (.bool false):=hrt9.blk.cell (k:=1) rfl;have hf9:w9.frozen? ⟨g,1,none⟩=false:=hrt9.blk.frozen 1;have HFIN:Hid (∀d,d=(loadS m ch st).done→zbt w Y m ch st (.returned (.tuple #[.pointer (some ⟨g,0,none⟩),.int .i64 0])) (w9.setCell ⟨g,1,none⟩ (.bool d))):=fun d hd=>load_fin hrt9 (hxr.trans hx9) HTK.out HIC.out HG.out HLE0.out hd
      clear hrt9
      cases cb with
      | true=>
       go_wp2_with fail
       go_ret2
       exact HFIN.out true (by unfold loadS;rw [←HCB.out];rfl)
      | false=>
       by_cases hsp:0<st
       ·have hs1:decide (0<st)=true:=decide_eq_true hsp
        go_wp2_with fail
        go_ret2
        exact HFIN.out true (by unfold loadS;rw [←HCB.out,HNIL.out];simp [hsp])
       ·have hs1:decide (0<st)=false:=decide_eq_false hsp
        go_wp2_with fail
        go_ret2
        exact HFIN.out false (by unfold loadS;rw [←HCB.out,HNIL.out];simp [hsp])
     ·have hpos:0<ch.length:=List.length_pos_iff.2 hnil;have hz1:decide ((0:Int)<(ch.length:Int))=true:=decide_eq_true (by omega);have hz2:((ch.length:Int)==0)=false:=by rw [beq_eq_false_iff_ne];omega
      have hz3:decide (0<ch.length)=true:=decide_eq_true hpos;have hz4:decide (ch.length=0)=false:=decide_eq_false (by omega);have HNN:=zh hnil;clear hnil
      go_wp2_with fail
      refine (HLX.out wr (Ext.refl _)).mono ?_;rintro e w5 ⟨rfl,hd5⟩;have hx5:Ext wr w5:=hd5.below _;clear hd5
      go_wp2_with fail
      refine (open_c w5 (HST.out.ext hx5) HG.out HL.out HIC.out).mono ?_;rintro e w6 ⟨rfl,hx6⟩;have hx6:Ext wr w6:=hx5.trans hx6;clear hx5;obtain ⟨ob,hob⟩:∃ob,ob=zaF m ch:=⟨_,rfl⟩;rw [←hob];have HOB:=zh hob;clear hob
      cases ob with
      | false=>
       have hle:zbV m ch st=51:=by rw [HLE.out,decide_eq_false HNN.out,←HOB.out];rfl
       have hfin:zbt w Y m ch st (.returned (.tuple #[.pointer none,.int .i64 51])) w6:=⟨.pointer none,by rw [hle],hxr.trans hx6,.inl ⟨by rw [hle];decide,rfl⟩⟩;have HFIN:=zh hfin;clear hfin hle
       go_wp2_with fail
       go_ret2
       exact HFIN.out
      | true=>
       have HLE0:Hid (zbV m ch st=0):=by show _=_;rw [HLE.out,decide_eq_false HNN.out,←HOB.out];rfl
       go_wp2_with fail
       refine (HLX.out w6 hx6).mono ?_;rintro e w8 ⟨rfl,hd8⟩;have hx8:Ext wr w8:=Ext.trans hx6 (hd8.below _);clear hd8
       go_wp2_with fail
       refine (zcH w8 (HST.out.ext hx8) HG.out HL.out HIC.out).mono ?_;rintro e w9 ⟨rfl,hd9⟩;have hx9:Ext wr w9:=hx8.trans (hd9.below _);clear hd9 hx8;obtain ⟨cb,hcb⟩:∃cb,cb=zae m ch:=⟨_,rfl⟩;rw [←hcb];have HCB:=zh hcb;clear hcb;have hrt9:=hR.out.rt.ext hx9;have hc9:w9.cell? ⟨g,1,none⟩=some (.bool false):=hrt9.blk.cell (k:=1) rfl;have hf9:w9.frozen? ⟨g,1,none⟩=false:=hrt9.blk.frozen 1;have HFIN:Hid (∀d,d=(loadS m ch st).done→zbt w Y m ch st (.returned (.tuple #[.pointer (some ⟨g,0,none⟩),.int .i64 0])) (w9.setCell ⟨g,1,none⟩ (.bool d))):=fun d hd=>load_fin hrt9 (hxr.trans hx9) HTK.out HIC.out HG.out HLE0.out hd
       clear hrt9
       cases cb with
       | true=>
        go_wp2_with fail
        go_ret2
        exact HFIN.out true (by unfold loadS;rw [←HCB.out];rfl)
       | false=>
        go_wp2_with fail
        go_ret2
        exact HFIN.out false (by unfold loadS;rw [←HCB.out];simp [HNN.out])
theorem new_calls {Y:Nat→Prop} {v:Value} {m:MZ} (w:World) (hm:zr w Y v m) (hl:Lens m) (hYb:∀b,Y b→b<w.heap.size):
  Calls Tryz.prog 27 #[v] w (zbt w Y m [] 0):=by
 have hmz:=hm;obtain ⟨vfr,vup,vts,rfl,_,_,_⟩:=hm;have HMZ:=zh hmz;clear hmz;have HL:=zh hl;clear hl;have HYB:=zh hYb;clear hYb
 go_enter Tryz.func27,Tryz.ntmps27
 go_wp2_with fail
 generalize hw1:w.alloc (.cells #[.int .i64 m.w,.int .i64 m.h,.int .i64 m.l,vfr,vup,vts] 32)=w1;have hb1:Ext w w1:=by rw [←hw1];exact (Ext.refl w).alloc _
 clear hw1;refine (load_calls (okc:=fun _=>True) 0 w1 (HMZ.out.below hb1) HL.out (zf.nil _ _) (by simp) (fun b hb=>Nat.lt_of_lt_of_le (HYB.out b hb) hb1.size)).mono ?_;rintro e w2 ⟨v2,rfl,hE,hp⟩
 have hfin:zbt w Y m [] 0 (.returned (.tuple #[v2,.int .i64 (zbV m [] 0)])) w2:=by
  refine ⟨v2,rfl,hb1.trans hE,?_⟩;rcases hp with hp | ⟨h1,h2,h3,g,gr,cap,pt,h4,h5⟩
  ·exact .inl hp
  ·exact .inr ⟨h1,h2,h3,g,gr,cap,pt,h4,h5.widen (fun b hb=>Nat.le_trans hb1.size hb)⟩
 have HFIN:=zh hfin;clear hfin hp hE
 go_wp2_with fail
 go_ret2
 exact HFIN.out
def okC (m:MZ) (ch:List Int):Bool:=decide (chk m=0) && isChB m ch
def SoPost (w:World) (Y:Nat→Prop) (m:MZ) (ch:List Int) (e:Ending) (w':World):Prop:=
 ∃v,e=.returned (.tuple #[v,.bool (okC m ch)])∧Ext w w'∧((okC m ch=false∧v=.pointer none)∨(okC m ch=true∧∃p,v=.pointer (some ⟨p,0,none⟩)∧StC w' (fun b=>Y b∨w.heap.size≤b) p m ch))
theorem zc9 {m:MZ} {ch:List Int} (h:okC m ch=true):zx m∧zu m ch:=by
 unfold okC at h;rw [Bool.and_eq_true,decide_eq_true_eq] at h;exact ⟨zx.of h.1,zbd.1 h.2⟩
theorem stateOf_calls {okc Y:Nat→Prop} {v vc:Value} {m:MZ} {ch:List Int} (w:World) (hm:zr w Y v m) (hl:Lens m) (hch:zf w okc vc ch) (hlc:ch.length≤20000000000000):
  Calls Tryz.prog 112 #[v,vc] w (SoPost w Y m ch):=by
 have hmz:=hm;obtain ⟨vfr,vup,vts,rfl,_,_,_⟩:=hm;have HMZ:=zh hmz;clear hmz;obtain ⟨Ac,cc,rfl,hcc,hrc⟩:=hch;have HRC:=zh hrc;clear hrc;have HL:=zh hl;clear hl;obtain ⟨ck,hck⟩:∃ck,ck=chk m:=⟨_,rfl⟩;have HCK:=zh hck;clear hck
 go_enter Tryz.func112,Tryz.ntmps112
 go_wp2_with fail
 generalize hw1:w.alloc (.cells #[.int .i64 m.w,.int .i64 m.h,.int .i64 m.l,vfr,vup,vts] 32)=w1;have hb1:Ext w w1:=by rw [←hw1];exact (Ext.refl w).alloc _
 have hgm:Blk w1 w.heap.size 32 #[.int .i64 m.w,.int .i64 m.h,.int .i64 m.l,vfr,vup,vts]:=by rw [←hw1];exact heap_alloc_new _ _
 clear hw1;obtain ⟨m0,m1,m2,m3,m4,m5⟩:=zw hgm;have c0:=Ext.rule m0;have c1:=Ext.rule m1;have c2:=Ext.rule m2;have c3:=Ext.rule m3;have c4:=Ext.rule m4;have c5:=Ext.rule m5;clear m0 m1 m2 m3 m4 m5 hgm;refine (zaM w1 (HMZ.out.below hb1) HL.out).mono ?_;rintro e w2 ⟨rfl,hx2⟩;have hx2:Ext w1 w2:=hx2;have hE2:Ext w w2:=hb1.trans hx2;rw [←HCK.out];by_cases h0:ck=0
 case neg=>
  have hq1:(ck==0)=false:=by rw [beq_eq_false_iff_ne];exact h0
  have hq2:(ck != 0)=true:=by rw [bne_iff_ne];exact h0
  have hle:okC m ch=false:=by unfold okC;rw [←HCK.out,decide_eq_false h0];rfl
  have hfin:SoPost w Y m ch (.returned (.tuple #[.pointer none,.bool false])) w2:=⟨.pointer none,by rw [hle],hE2,.inl ⟨hle,rfl⟩⟩;have HFIN:=zh hfin;clear hfin hle h0
  go_wp2_with fail
  go_ret2
  exact HFIN.out
 case pos=>
  subst h0;have HG:=zh (zx.of HCK.out.symm);have hdim:=HG.out.dim;have hn1:=hdim.n1;have hlay:=hdim.layer;have HD:=zh hdim;clear hdim;have HOK:Hid (okC m ch=isChB m ch):=by show _=_;unfold okC;rw [←HCK.out];rfl
  go_wp2_with fail
  refine (zal m.w m.h m.l vfr vup vts w2 (by omega) (by omega)).mono ?_;rintro e w3 ⟨rfl,hx3⟩;have hx3:Ext w2 w3:=hx3;have hE3:Ext w w3:=hE2.trans hx3;have hE13:Ext w1 w3:=Ext.trans ‹Ext w1 w2› hx3;by_cases hlen:m.w*m.h*m.l<(ch.length:Int)
  ·have hgd:decide (m.w*m.h*m.l<(ch.length:Int))=true:=decide_eq_true hlen
   have hle:okC m ch=false:=by
    rw [HOK.out,Bool.eq_false_iff];intro h;have h1:=(zbd.1 h).len HG.out;have h2:m.n=m.w*m.h*m.l:=rfl;omega
   have hfin:SoPost w Y m ch (.returned (.tuple #[.pointer none,.bool false])) w3:=⟨.pointer none,by rw [hle],hE3,.inl ⟨hle,rfl⟩⟩;have HFIN:=zh hfin;clear hfin hle
   go_wp2_with fail
   go_ret2
   exact HFIN.out
  ·have hgd:decide (m.w*m.h*m.l<(ch.length:Int))=false:=decide_eq_false hlen;have hlen3:ch.length≤300:=by omega
   clear hlen hlay hn1
   go_wp2_with fail
   refine (begin_c w3 (HMZ.out.below hE3) (by have:=HG.out.tk;omega)).mono ?_;rintro e w4 ⟨p,rfl,hx4,hst4⟩;have hE4:Ext w w4:=hE3.trans hx4
   have H0:Hid (StC w4 (fun b=>Y b∨w.heap.size≤b) p m (ch.take 0)):=by
    have:=hE3.size
    exact hst4.weaken fun b hb=>by
     rcases hb with hb | hb
     ·exact .inl hb
     ·exact .inr (by omega)
   have hic0:Hid (zu m (ch.take 0)):=by show zu m (ch.take 0);simpa using zu.nil
   clear hst4 hgd c0 c1 c2 c3 c4 c5
   go_wp2_with fail
   go_loopg [6,23] ch.length (fun gk v6 v wr=>∃(k p:Nat),v6=.pointer (some ⟨p,0,none⟩)∧v=.int .i64 k∧k≤ch.length∧gk=ch.length - k∧Hid (StC wr (fun b=>Y b∨w.heap.size≤b) p m (ch.take k))∧Hid (zu m (ch.take k))∧Hid (Ext w wr))
   case atStart=>exact ⟨0,p,rfl,rfl,Nat.zero_le _,rfl,H0,hic0,hE4⟩
   clear H0 hic0
   case round=>
    obtain ⟨k,p,rfl,rfl,hk,rfl,hS,hI,hX⟩:=hrel;have hxr:=hX.out;rcases Nat.lt_or_ge k ch.length with hlt | hge
    ·obtain ⟨bc,oc,rfl,_,hcell⟩:=zt HRC.out hlt hlt;obtain ⟨n,hn⟩:∃n,n=ch[k]:=⟨_,rfl⟩;rw [←hn] at hcell;have q0:=Ext.rule hcell;have HN:=zh hn;clear hcell hn
     go_wp2_with fail
     refine (zbX wr hS.out HG.out HL.out hI.out).mono ?_;rintro e w6 ⟨v6,rfl,hM⟩;have hx6:Ext wr w6:=hM.ext;have HM:=zh hM.ints;clear hM
     go_wp2_with fail
     refine (zv n w6 HM.out (by have:=zbR HL.out (ch.take k);omega)).mono ?_;rintro e w7 ⟨rfl,rfl⟩;by_cases hnc:n∈cand m (ch.take k)
     ·rw [decide_eq_true hnc];have HNC:=zh hnc;clear hnc;have hcs:Hid (ch.take k++[n]=ch.take (k+1)):=by show _=_;rw [List.take_succ_eq_append_getElem hlt,HN.out]
      go_wp2_with fail
      refine (with_c w6 (hS.out.ext hx6) HG.out HL.out hI.out HNC.out).mono ?_;rintro e w8 ⟨q,rfl,hx8,hq⟩
      have HQ:Hid (StC w8 (fun b=>Y b∨w.heap.size≤b) q m (ch.take (k+1))):=by
       have:=(hxr.trans hx6).size;rw [←hcs.out]
       exact hq.weaken fun b hb=>by
        rcases hb with hb | hb
        ·exact hb.1
        ·exact .inr (by omega)
      have hI2:Hid (zu m (ch.take (k+1))):=by rw [←hcs.out];exact .snoc hI.out HNC.out
      have hX2:Hid (Ext w w8):=hxr.trans (hx6.trans hx8);clear hq hx8 hx6 hxr
      go_wp2_with fail
      go_roundg (ch.length - (k+1))
      case measure=>omega
      case rel=>exact ⟨k+1,q,rfl,by go_num,hlt,rfl,HQ,hI2,hX2⟩
     ·rw [decide_eq_false hnc]
      have hle:okC m ch=false:=by
       rw [HOK.out,Bool.eq_false_iff];intro h;have h1:=(zbd.1 h).at hlt;rw [←HN.out] at h1;exact hnc h1
      have hfin:SoPost w Y m ch (.returned (.tuple #[.pointer none,.bool false])) w6:=⟨.pointer none,by rw [hle],hxr.trans hx6,.inl ⟨hle,rfl⟩⟩;have HFIN:=zh hfin;clear hfin hle hnc
      go_wp2_with fail
      go_ret2
      exact HFIN.out
    ·have hkk:k=ch.length:=by omega
     subst hkk;have HTK:Hid (ch.take ch.length=ch):=List.take_length
     have hfin:SoPost w Y m ch (.returned (.tuple #[.pointer (some ⟨p,0,none⟩),.bool true])) wr:=by
      have h1:=hI.out;have h2:=hS.out;rw [HTK.out] at h1 h2;have h3:okC m ch=true:=by rw [HOK.out];exact zbd.2 h1
      exact ⟨_,by rw [h3],hxr,.inr ⟨h3,p,rfl,h2⟩⟩
     have HFIN:=zh hfin;clear hfin
     go_wp2_with fail
     go_ret2
     exact HFIN.out
def zM (m:MZ) (ch:List Int):List Int:=if okC m ch=true then cand m ch else []
theorem zcx {okc Y:Nat→Prop} {v vc:Value} {m:MZ} {ch:List Int} (w:World) (hm:zr w Y v m) (hl:Lens m) (hch:zf w okc vc ch) (hlc:ch.length≤20000000000000):
  Calls Tryz.prog 92 #[v,vc] w fun e w'=>∃v',e=.returned v'∧Mk w w' v' (zM m ch):=by
 have hmz:=hm;obtain ⟨vfr,vup,vts,rfl,_,_,_⟩:=hm;have HMZ:=zh hmz;clear hmz;have HL:=zh hl;clear hl;have HCH:=zh hch;obtain ⟨Ac,cc,rfl,hcc,_⟩:=hch;obtain ⟨ok,hok⟩:∃ok,ok=okC m ch:=⟨_,rfl⟩;have HOK:=zh hok;clear hok
 go_enter Tryz.func92,Tryz.ntmps92
 go_wp2_with fail
 generalize hw1:w.alloc (.cells #[.int .i64 m.w,.int .i64 m.h,.int .i64 m.l,vfr,vup,vts] 32)=w1;have hb1:Ext w w1:=by rw [←hw1];exact (Ext.refl w).alloc _
 clear hw1;refine (stateOf_calls w1 (HMZ.out.below hb1) HL.out (HCH.out.below hb1) hlc).mono ?_;rintro e w2 ⟨v2,rfl,hE,hp⟩;rw [←HOK.out];rw [←HOK.out] at hp;have hE2:Ext w w2:=hb1.trans hE;rcases hp with ⟨h1,rfl⟩ | ⟨h1,p,rfl,h2⟩
 ·subst h1
  have HFIN:Hid (Mk w w2 (.slice none 0 0) (zM m ch)):=by
   show Mk _ _ _ _;unfold zM;rw [←HOK.out];exact Mk.nil' hE2
  go_wp2_with fail
  go_ret;exact ⟨_,rfl,HFIN.out⟩
 ·subst h1;have HS:=zh h2;clear h2
  go_wp2_with fail
  refine (zbX w2 HS.out (zc9 HOK.out.symm).1 HL.out (zc9 HOK.out.symm).2).mono ?_;rintro e w3 ⟨v3,rfl,hM⟩
  have HFIN:Hid (Mk w w3 v3 (zM m ch)):=by
   show Mk _ _ _ _;unfold zM;rw [←HOK.out,if_pos rfl];exact hE2.mono_mk hM
  clear hM
  go_wp2_with fail
  go_ret;exact ⟨_,rfl,HFIN.out⟩
end Go.Proofs.YthbjngbhbbkkgaaGreat
