/- RtVd RtVe RtVl RtLk -/
import Derived.Test.YthbjngbhbbkkgaaGreatHUzc
import Derived.Test.YthbjngbhbbkkgaaGreatHUze
import Derived.Test.YthbjngbhbbkkgaaGreatHUzf
set_option linter.unusedVariables false
set_option linter.unusedSimpArgs false
set_option maxRecDepth 100000
set_option maxHeartbeats 16000000
namespace Go.Proofs.YthbjngbhbbkkgaaGreat
open Go.RowKit
theorem Apart.map {ps:List (List Int)} {l:List Nat} (h:Apart ps) (hl:l.Nodup):Apart (l.map (ps.getD · [])):=by
 have key:∀i,(l.map (ps.getD · [])).getD i []=match l[i]? with | some k=>ps.getD k [] | none=>[]:=fun i=>by
  rw [List.getD_eq_getElem?_getD,List.getElem?_map]
  cases l[i]? <;> rfl
 refine ⟨fun i=>?_,fun i j x hi hj=>?_⟩
 ·rw [key]
  cases l[i]? with
  | none=>exact List.nodup_nil
  | some k=>exact h.1 k
 ·rw [key] at hi hj
  cases hi2:l[i]? with
  | none=>rw [hi2] at hi;cases hi
  | some k=>cases hj2:l[j]? with
   | none=>rw [hj2] at hj;cases hj
   | some k'=>
    rw [hi2] at hi;rw [hj2] at hj;have e:=h.2 k k' x hi hj;subst e;obtain ⟨h1,e1⟩:=List.getElem?_eq_some_iff.1 hi2;obtain ⟨h3,e3⟩:=List.getElem?_eq_some_iff.1 hj2;rcases Nat.lt_trichotomy i j with h4 | h4 | h4
    ·exact absurd (e1.trans e3.symm) (List.pairwise_iff_getElem.1 (List.nodup_iff_pairwise_ne.1 hl) i j h1 h3 h4)
    ·exact h4
    ·exact absurd (e3.trans e1.symm) (List.pairwise_iff_getElem.1 (List.nodup_iff_pairwise_ne.1 hl) j i h3 h1 h4)
theorem keepL_nodup (ps:List (List Int)) (t:Nat):(zat ps t).Nodup:=(zdh _).filter _
theorem laid_right {m:MZ} {ps qs:List (List Int)} {t:Nat} (h:zau m qs=true) (hl:ps.length=m.tasks.length) (hk:∀k,k<ps.length→(qs.getD k []≠[]↔zah ps t k=true)):zZ (zay m ps t) ((zat ps t).map (qs.getD · []))=true:=by
 obtain ⟨h0,h1,h2,h3⟩:=zC.1 h;refine zbc.2 ⟨zbk (zcB (zx.of h0) hl t),by simp [zay],fun j hj=>?_,h3.map (keepL_nodup _ _)⟩;have hj':j<(zat ps t).length:=by simpa using hj
 have hm:=zc8.1 (List.getElem_mem hj')
 have e:((zat ps t).map (qs.getD · [])).getD j []=qs.getD (zat ps t)[j] []:=by
  rw [List.getD_eq_getElem?_getD,List.getElem?_map,List.getElem?_eq_getElem hj'];rfl
 rw [e];refine (h2 (zat ps t)[j] (by omega) ((hk _ hm.1).2 hm.2)).congr rfl rfl rfl rfl ?_ ?_
 ·show ((zat ps t).map (m.tasks.getD · ([],[]))).getD j ([],[])=_;rw [List.getD_eq_getElem?_getD,List.getElem?_map,List.getElem?_eq_getElem hj'];rfl
 ·show ((zat ps t).map (m.free.getD · [])).getD j []=_;rw [List.getD_eq_getElem?_getD,List.getElem?_map,List.getElem?_eq_getElem hj'];rfl
theorem addP_none {m:MZ} {ps:List (List Int)} {t:Int} (h:(zaw m ps t).err≠0):(zaw m ps t).ps=[]∧(zaw m ps t).mv=[]:=by
 unfold zaw at h⊢
 split at h
 ·rename_i hc
  rw [if_pos hc]
  split at h
  ·exact absurd rfl h
  ·unfold zac at h⊢
   split at h
   ·rename_i hd;rw [if_pos hd];exact ⟨rfl,rfl⟩
   ·rename_i hd
    rw [if_neg hd]
    split at h
    ·exact absurd rfl h
    ·rename_i hcm
     rw [if_neg hcm]
     split <;> exact ⟨rfl,rfl⟩
 ·rename_i hc;rw [if_neg hc];exact ⟨rfl,rfl⟩
def allP (qs:List (List Int)) (k:Nat):List (List Int):=((List.range k).filter fun j=>decide (0<(qs.getD j []).length)).map (qs.getD · [])
theorem allP_yes {qs:List (List Int)} {k:Nat} (h:0<(qs.getD k []).length):allP qs (k+1)=allP qs k++[qs.getD k []]:=by
 unfold allP;rw [List.range_succ,List.filter_append,List.map_append,List.filter_cons_of_pos (by exact decide_eq_true h)]
 all_goals rfl
theorem allP_no {qs:List (List Int)} {k:Nat} (h:¬ 0<(qs.getD k []).length):allP qs (k+1)=allP qs k:=by
 unfold allP;rw [List.range_succ,List.filter_append,List.map_append,List.filter_cons_of_neg (by simpa using h)];simp
theorem allP_len (qs:List (List Int)) (k:Nat):(allP qs k).length≤k:=by
 unfold allP;rw [List.length_map];exact Nat.le_trans (List.length_filter_le _ _) (by simp)
theorem allP_mem {qs:List (List Int)} {k:Nat} {x:List Int} (h:x∈allP qs k):x=[]∨x∈qs:=by
 unfold allP at h;obtain ⟨j,-,rfl⟩:=List.mem_map.1 h;rw [List.getD_eq_getElem?_getD]
 cases hj:qs[j]? with
 | none=>exact .inl rfl
 | some y=>exact .inr (List.mem_of_getElem? hj)
theorem allP_keep {m:MZ} {ps qs:List (List Int)} {t:Nat} {mv:List Int} (K:Kept m ps t qs mv):allP qs ps.length=(zat ps t).map (qs.getD · []):=by
 unfold allP zat;congr 1;refine List.filter_congr fun k hk=>?_
 rw [List.mem_range] at hk;have h:=K.ne k hk;rw [Bool.eq_iff_iff,decide_eq_true_eq,←h];rw [List.length_pos_iff]
theorem keep_ne {m:MZ} {ps qs:List (List Int)} {t k:Nat} {mv:List Int} (K:Kept m ps t qs mv) (hk:k<ps.length):decide (0<(qs.getD k []).length)=(decide (0<(ps.getD k []).length) || decide (k=t)):=by
 have h:=K.ne k hk;rw [zcd] at h;rw [Bool.eq_iff_iff,Bool.or_eq_true,decide_eq_true_eq,decide_eq_true_eq,decide_eq_true_eq,List.length_pos_iff,List.length_pos_iff,h];exact ⟨fun h=>h.symm,fun h=>h.symm⟩
theorem keep_same {m:MZ} {ps qs:List (List Int)} {t k:Nat} {mv:List Int} (K:Kept m ps t qs mv) (hk:k<ps.length) (h1:(k:Int)∉mv) (h2:k≠t):qs.getD k []=ps.getD k []:=K.same k hk h2 h1
theorem mvP_len (ps:List (List Int)) (t k:Nat) (f mv:List Int):(mvP ps t k f mv).length≤mv.length+1:=by
 unfold mvP
 split
 ·simp
 ·omega
theorem fillP_mv {ps:List (List Int)} {t:Nat}:∀(l:List Nat) (fd o:List (List Int)) (mv:List Int),(zaE ps t l fd o mv).2.length≤mv.length+l.length
 | [],fd,o,mv=>by unfold zaE;simp
 | k :: l,fd,o,mv=>by
  unfold zaE
  split
  ·have h1:=fillP_mv (ps:=ps) (t:=t) l fd.tail (o.set k (fd.headD [])) (mvP ps t k (fd.headD []) mv);have h2:=mvP_len ps t k (fd.headD []) mv;rw [List.length_cons];omega
  ·have h1:=fillP_mv (ps:=ps) (t:=t) l fd o mv;rw [List.length_cons];omega
theorem laidL_len (ps:List (List Int)):(zaV ps).length≤ps.length:=by
 unfold zaV;rw [List.length_map];exact Nat.le_trans (List.length_filter_le _ _) (by simp)
theorem addP_mv {m:MZ} {ps:List (List Int)} {t:Int}:(zaw m ps t).mv.length≤ps.length:=by
 unfold zaw
 split
 ·split
  ·rename_i r hr
   obtain ⟨s,hs,hp⟩:=List.exists_of_findSome?_eq_some hr;rw [Option.map_eq_some_iff] at hp;obtain ⟨o,-,rfl⟩:=hp;exact Nat.le_trans (subsP_sub hs).length_le (laidL_len ps)
  ·unfold zac
   split
   ·simp
   ·split
    ·have:=fillP_mv (ps:=ps) (t:=t.toNat) (List.range ps.length) (zJ (zay m ps t.toNat) (endS m ps t.toNat).ch) ps [];simpa using this
    ·split <;> simp
 ·simp
structure AL (w1 w:World) (v:Value) (l:List (List Int)) (xs:List Value):Prop where
 ext:Ext w1 w
 own:zbj w w1.heap.size v xs
 len:xs.length=l.length
 el:∀(i:Nat) q,l[i]?=some q→∃x,xs[i]?=some x∧zf w1 (fun _=>True) x q
theorem AL.nil (w:World):AL w w (.slice none 0 0) [] []:=⟨Ext.refl w,World.ownsRow_nil _ _ _ _,rfl,fun i q h=>by cases h⟩
theorem AL.more {w1 w w':World} {v:Value} {l:List (List Int)} {xs:List Value} (h:AL w1 w v l xs) (hE:Ext w w'):AL w1 w' v l xs:=
 ⟨h.ext.trans hE,zaj h.own fun g hg=>hE.block g (World.ownsRow.lt h.own g hg).2,h.len,h.el⟩
theorem AL.intss {w1 w:World} {v:Value} {l:List (List Int)} {xs:List Value} (h:AL w1 w v l xs):zo w (fun _=>True) v l:=by
 have h1:=Row.of_own h.own;rw [h.len] at h1
 exact ⟨xs,h1.weaken fun _ _=>trivial,fun i q hq=>by
  obtain ⟨x,h2,h3⟩:=h.el i q hq;exact ⟨x,h2,h3.below h.ext⟩⟩
theorem AL.push {w1 w w':World} {v v' x:Value} {l:List (List Int)} {xs:List Value} {q:List Int} (h:AL w1 w v l xs) (hx:zf w1 (fun _=>True) x q) (ho:zbj w' w1.heap.size v' (xs++[x])) (hg:Hid (w.grownBy w' v.ownBlock)):AL w1 w' v' (l++[q]) (xs++[x]):=by
 refine ⟨zT h.ext hg h.ext.size (fun k hk=>(World.ownsRow.lt h.own k hk).1),ho,by simp [h.len],fun i q' hq=>?_⟩;rcases Nat.lt_or_ge i l.length with hi | hi
 ·rw [List.getElem?_append_left hi] at hq;obtain ⟨y,h1,h2⟩:=h.el i q' hq;exact ⟨y,by rw [List.getElem?_append_left (by rw [h.len];exact hi)];exact h1,h2⟩
 ·have hi2:i=l.length:=by
   rcases Nat.lt_or_ge i (l++[q]).length with h1 | h1
   ·simp at h1;omega
   ·rw [List.getElem?_eq_none h1] at hq;cases hq
  subst hi2;rw [List.getElem?_append_right (Nat.le_refl _),Nat.sub_self] at hq;have hp:q=q':=by simpa using hq
  subst hp;exact ⟨x,by rw [←h.len,List.getElem?_append_right (Nat.le_refl _),Nat.sub_self];rfl,hx⟩
end Go.Proofs.YthbjngbhbbkkgaaGreat
namespace Go.Proofs.YthbjngbhbbkkgaaGreat
open Go.ChangeShapes Go.WideShapes Go.ChangeAt Go.RowKit
attribute [local go_sem ↓] Go.wp_at_zero Go.wp_at_succ
theorem keeps_calls {ok1 ok2:Nat→Prop} {vm vl:Value} {ls:List (List Int)} {l:List Int} {tk:Nat} (o0 o1 o2:Int) (w:World) (hm:zo w ok1 vm ls) (hll:ls.length≤9223372036854775807) (hlx:∀x∈ls,x.length≤9223372036854775807) (hl:zf w ok2 vl l) (hl2:l.length≤9223372036854775807) (htk:tk<256):
  Calls Tryz.prog 3 #[.agg #[vm,vl,.int .i64 o0,.int .i64 o1,.int .i64 o2,.int .u8 tk]] w fun e w'=>e=.returned (.bool true)∧Ext w w':=by
 have HLS:=zh hm;have HLI:=zh hl;have HLX:=zh hlx;obtain ⟨_,⟨A,c,rfl,-,-⟩,-⟩:=hm;obtain ⟨A2,c2,rfl,-,-⟩:=hl;clear hlx
 go_enter Tryz.func3,Tryz.ntmps3
 go_wp2_with fail
 generalize hwa:w.alloc (.cells #[.slice A ls.length c,.slice A2 l.length c2,.int .i64 o0,.int .i64 o1,.int .i64 o2,.int .u8 tk] 26)=wa;have hEa:Ext w wa:=by rw [←hwa];exact (Ext.refl _).alloc _
 have hBa:Blk wa w.heap.size 26 #[.slice A ls.length c,.slice A2 l.length c2,.int .i64 o0,.int .i64 o1,.int .i64 o2,.int .u8 tk]:=by rw [←hwa];exact Blk.new _ _ _ rfl
 clear hwa;have r0:∀W,Ext wa W→W.cell? ⟨w.heap.size,0,none⟩=some (.slice A ls.length c):=Ext.rule (hBa.cell (k:=0) rfl);have r1:∀W,Ext wa W→W.cell? ⟨w.heap.size,1,none⟩=some (.slice A2 l.length c2):=Ext.rule (hBa.cell (k:=1) rfl);have r2:∀W,Ext wa W→W.cell? ⟨w.heap.size,2,none⟩=some (.int .i64 o0):=Ext.rule (hBa.cell (k:=2) rfl);have r3:∀W,Ext wa W→W.cell? ⟨w.heap.size,3,none⟩=some (.int .i64 o1):=Ext.rule (hBa.cell (k:=3) rfl);have r4:∀W,Ext wa W→W.cell? ⟨w.heap.size,4,none⟩=some (.int .i64 o2):=Ext.rule (hBa.cell (k:=4) rfl);have r5:∀W,Ext wa W→W.cell? ⟨w.heap.size,5,none⟩=some (.int .u8 tk):=Ext.rule (hBa.cell (k:=5) rfl);clear hBa;refine (zc0 wa).mono ?_;rintro e w1 ⟨rfl,hE1⟩;have hx1:Ext wa w1:=hE1
 go_wp2_with fail
 refine (kmade_calls w1 (HLS.out.below (hEa.trans hx1)) hll HLX.out (HLI.out.below (hEa.trans hx1)) hl2 htk).mono ?_;rintro e w2 ⟨vz,vp,z,ps,t,rfl,hE2,hz,hMM,hps,hlaid,htl,hpt⟩;obtain ⟨Af,cf,Au,cu,At,ct,rfl,-,-,-⟩:=hz.parts;obtain ⟨_,⟨Ap,cp,rfl,-,-⟩,-⟩:=id hps;have HZ:=zh hz;have HMM:=zh hMM;have HPS:=zh hps;have HLD:=zh hlaid;have HTL:=zh htl;have HPT:=zh hpt;have HEW:=zh ((hEa.trans hx1).trans hE2);clear hz hMM hps hlaid htl hpt hx1 hE1 hEa hE2 r0 r1 r2 r3 r4 r5 hll hl2 htk
 have hps6:ps.length≤6:=by
  have h1:=(zC.1 HLD.out).2.1;have h2:=HMM.out.tk.2;omega
 have HP6:=zh hps6;have HLN:Hid (∀x∈ps,x.length≤300):=zbL HLD.out;have htI:(t:Int)<(z.tasks.length:Int):=by have:=HTL.out;omega
 clear htI hps6;go_upto_region 3 with fail;obtain ⟨hb3,q0,q1,q2,q3,q4,q5⟩:=box6 w2 (.int .i64 z.w) (.int .i64 z.h) (.int .i64 z.l) (.slice Af z.free.length cf) (.slice Au z.up.length cu) (.slice At z.tasks.length ct);generalize w2.alloc (.cells #[.int .i64 z.w,.int .i64 z.h,.int .i64 z.l,.slice Af z.free.length cf,.slice Au z.up.length cu,.slice At z.tasks.length ct] 32)=w3 at hb3 q0 q1 q2 q3 q4 q5⊢;obtain ⟨gm,hgm⟩:∃g,g=w2.heap.size:=⟨_,rfl⟩;rw [←hgm] at q0 q1 q2 q3 q4 q5⊢;clear hgm;have HW3:=zh hb3;clear hb3;obtain ⟨r,hr⟩:∃r,r=zaw z ps (t:Int):=⟨_,rfl⟩;have hadd:=zcK (t:Int) w3 (HZ.out.below HW3.out) HMM.out.lens (HPS.out.below HW3.out) (by have:=HP6.out;omega) (fun x hx=>by have:=HLN.out x hx;omega);rw [←hr] at hadd
 have hk:r.err=0→Kept z ps t r.ps r.mv:=fun h=>by
  rw [hr] at h⊢;have:=(addP_kept h).2
  rwa [Int.toNat_natCast] at this
 have hn:r.err≠0→r.ps=[]∧r.mv=[]:=fun h=>by rw [hr] at h⊢;exact addP_none h
 have hml:r.mv.length≤ps.length:=by rw [hr];exact addP_mv
 clear hr;obtain ⟨qs,mv,why,er⟩:=r;dsimp only at hadd hk hn hml;have HADD:=zh hadd;have HK:=zh hk;have HN:=zh hn;have HML:=zh hml;clear hadd hk hn hml;have hxw:Ext w3 w3:=Ext.refl w3
 go_wp2_with fail
 refine HADD.out.mono ?_;rintro e w4 ⟨vq,vmv,vy,rfl,hE4,hq4,hm4,hy4⟩;dsimp only at hq4 hm4 hy4;obtain ⟨As,cs,Ak,ck,rfl,-⟩:=hy4.form;have HQ4:=zh hq4;have HM4:=zh hm4;obtain ⟨_,⟨Bq,dq,rfl,-,-⟩,-⟩:=id hq4;obtain ⟨Bm,dm,rfl,-,-⟩:=id hm4;have HE4:=zh hE4;clear hq4 hm4 hy4 hE4 hxw HADD;go_upto_region 4 with fail;obtain ⟨hb5,-,-,-⟩:=box3 w4 (.int .i64 why.task) (.slice As why.side.length cs) (.slice Ak why.kids.length ck);generalize w4.alloc (.cells #[.int .i64 why.task,.slice As why.side.length cs,.slice Ak why.kids.length ck] 37)=w5 at hb5⊢;have HE5:=zh hb5;clear hb5;have HX:Hid (Ext w w5):=((HEW.out.trans HW3.out).trans HE4.out).trans HE5.out;by_cases h0:er=0
 case neg=>
  have hz0:decide (er=0)=false:=decide_eq_false h0;have hz1:(er != 0)=true:=by simpa using h0
  obtain ⟨rfl,rfl⟩:=HN.out h0;clear h0 HK HN
  go_wp2_with fail
  go_ret;exact ⟨rfl,HX.out⟩
 subst h0;have K:=zh (HK.out rfl);have hql:qs.length=ps.length:=K.out.len;have HQL:=zh hql;have hqd:((qs.length:Int) != (ps.length:Int))=false:=by rw [hql];simp
 have hqd2:decide ((qs.length:Int)=(ps.length:Int))=true:=decide_eq_true (by rw [hql]);clear hql HK HN;have HQ5:=zh (HQ4.out.below HE5.out);have HM5:=zh (HM4.out.below HE5.out);have HPS5:=zh (((HPS.out.below HW3.out).below HE4.out).below HE5.out);have HZ5:=zh (((HZ.out.below HW3.out).below HE4.out).below HE5.out);have HQN:Hid (∀x∈qs,x.length≤300):=zbL K.out.laid;have q0:=fun W h=>q0 W ((HE4.out.trans HE5.out).trans h)
 have q1:=fun W h=>q1 W ((HE4.out.trans HE5.out).trans h)
 have q2:=fun W h=>q2 W ((HE4.out.trans HE5.out).trans h)
 have q3:=fun W h=>q3 W ((HE4.out.trans HE5.out).trans h)
 have q4:=fun W h=>q4 W ((HE4.out.trans HE5.out).trans h)
 have q5:=fun W h=>q5 W ((HE4.out.trans HE5.out).trans h)
 clear HQ4 HM4 HPS HZ HE4 HE5 HW3;have hxw:Ext w5 w5:=Ext.refl w5
 go_wp2_with fail
 refine (zcN w5 HZ5.out HMM.out.lens HQ5.out (by have:=HQL.out;have:=HP6.out;omega) (fun x hx=>by have:=HQN.out x hx;omega)).mono ?_;rintro e w6 ⟨rfl,hE6⟩;rw [K.out.laid];have HX6:=zh hE6;have HA0:=zh (AL.nil w6);clear hE6 hxw hqd hqd2
 go_wp2_with fail
 go_loopw [11,55] (fun v i wr=>∃(k:Nat) (xs:List Value),k≤ps.length∧i=.int .i64 (k:Nat)∧Hid (AL w6 wr v (allP qs k) xs)) (fun _ i _=>ps.length - (intOf i).toNat)
 case atStart=>exact ⟨0,[],Nat.zero_le _,rfl,HA0.out⟩
 clear HA0
 case round=>
  obtain ⟨k,xs,hk,rfl,hA⟩:=hrel;have hp6:=HP6.out;obtain ⟨wk,rfl⟩:∃wk:World,wk=wr:=⟨_,rfl⟩;have hx:Ext w5 wk:=HX6.out.trans hA.out.ext;by_cases hlt:k<ps.length
  ·have hltI:(k:Int)<(ps.length:Int):=by omega
   have hkI0:(0:Int)≤(k:Int):=by omega
   have hltq:k<qs.length:=by have:=HQL.out;omega
   have hltqI:(k:Int)<(qs.length:Int):=by omega
   obtain ⟨_,⟨_,_,eq1,-,hrq⟩,heq⟩:=HQ5.out;injection eq1 with eq1 eqn eqc;subst eq1;clear eqn eqc;obtain ⟨bq,offq,uq,rfl,-,hcq0,huq⟩:=zP hrq heq hltq hltq;obtain ⟨_,⟨_,_,eq1,-,hrp⟩,hep⟩:=HPS5.out;injection eq1 with eq1 eqn eqc;subst eq1;clear eqn eqc;obtain ⟨bp,offp,up,rfl,-,hcp0,hup⟩:=zP hrp hep hlt hlt;have hqk:qs.getD k []=qs[k]:=by rw [List.getD_eq_getElem?_getD,List.getElem?_eq_getElem hltq];rfl
   have hpk:ps.getD k []=ps[k]:=by rw [List.getD_eq_getElem?_getD,List.getElem?_eq_getElem hlt];rfl
   have hne:=keep_ne K.out hlt;have hsm:(k:Int)∉mv→k≠t→qs.getD k []=ps.getD k []:=keep_same K.out hlt;have hqx:=HQN.out _ (List.getElem_mem hltq);have hpx:=HLN.out _ (List.getElem_mem hlt);rw [hqk,hpk] at hne hsm;have hyes:0<(qs[k]).length→allP qs (k+1)=allP qs k++[qs[k]]:=fun h=>by rw [←hqk] at h⊢;exact allP_yes h
   have hno:(qs[k]).length=0→allP qs (k+1)=allP qs k:=fun h=>allP_no (by rw [hqk];omega)
   obtain ⟨x,hxx⟩:∃x,x=qs[k]:=⟨_,rfl⟩;obtain ⟨y,hyy⟩:∃y,y=ps[k]:=⟨_,rfl⟩;rw [←hxx] at huq hne hsm hqx hyes hno;rw [←hyy] at hup hne hsm hpx;have HUQ:=zh huq;have HUP:=zh hup;obtain ⟨Aq,cq,rfl,-,-⟩:=id huq;obtain ⟨Ay,cy,rfl,-,-⟩:=id hup;have rq:=Ext.rule hcq0;have rp:=Ext.rule hcp0;obtain ⟨d,hd⟩:∃d,d=decide ((k:Int)∈mv):=⟨_,rfl⟩;obtain ⟨b,hb⟩:∃b,b=decide (x=y):=⟨_,rfl⟩
   have HHAS:Hid (∀W,Ext w5 W→Calls Tryz.prog 12 #[.slice Bm mv.length dm,.int .i64 k] W fun e w'=>e=.returned (.bool d)∧W=w'):=fun W hW=>by
    rw [hd];exact zE _ W (HM5.out.below hW) (by have:=HML.out;have:=HP6.out;omega)
   have HSM:Hid (∀W,Ext w5 W→Calls Tryz.prog 13 #[.slice Aq x.length cq,.slice Ay y.length cy] W fun e w'=>e=.returned (.bool b)∧∃m,w'=W.drewN m):=fun W hW=>by
    rw [hb];exact zcs W (HUQ.out.below hW) (HUP.out.below hW) (by omega) (by omega)
   have HD1:Hid (k=t→d=false):=fun h=>by rw [hd,h];exact decide_eq_false K.out.tm
   have HD2:Hid (k≠t→d=false→b=true):=fun h1 h2=>by rw [hb];exact decide_eq_true (hsm (of_decide_eq_false (hd.symm.trans h2)) h1)
   have HYES:=zh hyes;have HNO:=zh hno;have HNE:=zh hne;clear hcq0 hcp0 huq hup hne hsm hyes hno hqk hpk hxx hyy hd hb hrq heq hrp hep hqx hpx;obtain ⟨nx,hnx⟩:∃n,n=x.length:=⟨_,rfl⟩;obtain ⟨ny,hny⟩:∃n,n=y.length:=⟨_,rfl⟩;rw [←hnx] at rq HSM HNE HYES HNO HUQ;rw [←hny] at rp HSM HNE HUP;clear hnx hny;have hwk:Ext wk wk:=Ext.refl wk;go_upto_region 12 with fail;go_cut [98] (fun v wx=>v=.bool false∧Ext wk wx)
   case first=>
    by_cases hkt:k=t
    ·have k1:((k:Int)==(t:Int))=true:=by rw [hkt];simp
     have k2:((k:Int) != (t:Int))=false:=by rw [hkt];simp
     have k3:(k==t)=true:=by rw [hkt];simp
     have k4:(k != t)=false:=by rw [hkt];simp
     have hn:=HNE.out;rw [decide_eq_true hkt,Bool.or_true,decide_eq_true_eq] at hn;have hn1:(0:Int)<(nx:Int):=by omega
     obtain rfl:d=false:=HD1.out hkt;clear hkt;rcases Nat.eq_zero_or_pos ny with rfl | hy0
     ·go_quiet ((first | (go_at_call 12;with_reducible refine (HHAS.out _ (hx.drewN _)).mono ?_;rintro e w8 ⟨he8,rfl⟩;exact ⟨he8,⟨_,rfl⟩⟩) | (go_at_call 13;exact Calls.quiet_of (HSM.out _ (hx.drewN _)))))
      go_wp2_with fail
      go_meet;exact ⟨rfl,hwk.drewN _⟩
     ·have hy1:(0:Int)<(ny:Int):=by omega
      go_quiet ((first | (go_at_call 12;with_reducible refine (HHAS.out _ (hx.drewN _)).mono ?_;rintro e w8 ⟨he8,rfl⟩;exact ⟨he8,⟨_,rfl⟩⟩) | (go_at_call 13;exact Calls.quiet_of (HSM.out _ (hx.drewN _)))))
      go_wp2_with fail
      go_meet;exact ⟨rfl,hwk.drewN _⟩
    ·have k1:((k:Int)==(t:Int))=false:=by rw [beq_eq_false_iff_ne];omega
     have k2:((k:Int) != (t:Int))=true:=by rw [bne_iff_ne];omega
     have k3:(k==t)=false:=by simpa using hkt
     have k4:(k != t)=true:=by simpa using hkt
     have hn:=HNE.out;have hbd:=HD2.out hkt;rw [decide_eq_false hkt,Bool.or_false] at hn;clear hkt;rcases Nat.eq_zero_or_pos ny with rfl | hy0
     ·obtain rfl:nx=0:=by
       rw [decide_eq_false (Nat.lt_irrefl 0)] at hn;have:=of_decide_eq_false hn;omega
      clear hn
      cases d with
      | true=>
       clear hbd;go_quiet ((first | (go_at_call 12;with_reducible refine (HHAS.out _ (hx.drewN _)).mono ?_;rintro e w8 ⟨he8,rfl⟩;exact ⟨he8,⟨_,rfl⟩⟩) | (go_at_call 13;exact Calls.quiet_of (HSM.out _ (hx.drewN _)))))
       go_wp2_with fail
       go_meet;exact ⟨rfl,hwk.drewN _⟩
      | false=>
       obtain rfl:b=true:=hbd rfl;go_quiet ((first | (go_at_call 12;with_reducible refine (HHAS.out _ (hx.drewN _)).mono ?_;rintro e w8 ⟨he8,rfl⟩;exact ⟨he8,⟨_,rfl⟩⟩) | (go_at_call 13;exact Calls.quiet_of (HSM.out _ (hx.drewN _)))))
       go_wp2_with fail
       go_meet;exact ⟨rfl,hwk.drewN _⟩
     ·have hy1:(0:Int)<(ny:Int):=by omega
      rw [decide_eq_true hy0] at hn;have hn0:0<nx:=of_decide_eq_true hn;have hn1:(0:Int)<(nx:Int):=by omega
      clear hn
      cases d with
      | true=>
       clear hbd;go_quiet ((first | (go_at_call 12;with_reducible refine (HHAS.out _ (hx.drewN _)).mono ?_;rintro e w8 ⟨he8,rfl⟩;exact ⟨he8,⟨_,rfl⟩⟩) | (go_at_call 13;exact Calls.quiet_of (HSM.out _ (hx.drewN _)))))
       go_wp2_with fail
       go_meet;exact ⟨rfl,hwk.drewN _⟩
      | false=>
       obtain rfl:b=true:=hbd rfl;go_quiet ((first | (go_at_call 12;with_reducible refine (HHAS.out _ (hx.drewN _)).mono ?_;rintro e w8 ⟨he8,rfl⟩;exact ⟨he8,⟨_,rfl⟩⟩) | (go_at_call 13;exact Calls.quiet_of (HSM.out _ (hx.drewN _)))))
       go_wp2_with fail
       go_meet;exact ⟨rfl,hwk.drewN _⟩
   case rest=>
    obtain ⟨rfl,hxc⟩:=hcut;have hx2:Ext w5 wc:=hx.trans hxc;have HAc:=zh (hA.out.more hxc);clear hx hxc hwk hA;rcases Nat.eq_zero_or_pos nx with rfl | hn0
    ·have HE:Hid (allP qs (k+1)=allP qs k):=HNO.out rfl;clear HSM HNE HYES HNO HUQ
     go_wp2_with fail
     go_roundw
     case rel=>exact ⟨k+1,xs,hlt,by go_num,by rw [HE.out];exact HAc⟩
     case measure=>simp [intOf];omega
    ·have hn1:(0:Int)<(nx:Int):=by omega
     have HE:Hid (allP qs (k+1)=allP qs k++[x]):=HYES.out hn0;have hal:=allP_len qs k;have hxl:=HAc.out.len;have hxs:xs.length≤6:=by have:=HP6.out;omega
     clear HSM HNE HYES HNO hxl hal
     go_wp2_with (at_builtin;refine za1 (ok:=fun _=>True) rfl _ _ _ rfl w6.heap.size xs [.slice Aq nx cq] _ _ rfl rfl ?h1 ?h2 ?h3 ?d1 ?d2 ?_)
     case h1=>exact World.ownsRow.alloc HAc.out.own _
     case h2=>exact row_one (zm _ _ _ rfl)
     case h3=>simp [Value.oneCell']
     case d1=>(have:=HAc.out.ext.size;simp;omega)
     case d2=>(simp;omega)
     intro v' w9 ho hg hv;have HA9:=zh ((HAc.out.more ((Ext.refl _).alloc _)).push ((HUQ.out.below HX6.out).weaken fun _ _=>trivial) ho hg);clear ho hg hv
     go_wp2_with fail
     go_roundw
     case rel=>exact ⟨k+1,_,hlt,by go_num,by rw [HE.out];exact HA9⟩
     case measure=>simp [intOf];omega
  ·obtain rfl:k=ps.length:=by omega
   obtain ⟨ns,hns⟩:=(HZ5.out.below hx).nets;have hsub:=sub_calls (t:Int) wk hns HMM.out.lens (HPS5.out.below hx) (by have:=HP6.out;omega) (fun x hx=>by have:=HLN.out x hx;omega)
   have hso:subO z ps (t:Int)=zay z ps t:=by
    unfold subO;rw [if_pos (by rw [Bool.and_eq_true];exact ⟨HLD.out,zaf.2 ⟨(zC.1 HLD.out).1,by omega,by have:=HTL.out;omega⟩⟩),Int.toNat_natCast]
   rw [hso] at hsub;have HSUB:=zh hsub
   have HRB:Hid (zZ (zay z ps t) (allP qs ps.length)=true):=by
    (show _=_)
    rw [allP_keep K.out];exact laid_right K.out.laid (zC.1 HLD.out).2.1 K.out.ne
   have hal:=allP_len qs ps.length;have HAL:=zh hal;clear hso hns hsub hal hlt
   go_wp2_with fail
   refine HSUB.out.mono ?_;rintro e wa ⟨vs,rfl,hEa,hma⟩;have HMA:=zh hma.maze;have HAa:=zh (hA.out.more hEa);have HXa:Hid (Ext w5 wa):=hx.trans hEa;clear hma hEa hx hA HSUB
   go_wp2_with fail
   refine (zcz wa HMA.out (zcC HMM.out.lens (by have:=HP6.out;omega) t) HAa.out.intss (by have:=HAL.out;have:=HP6.out;omega) (fun x hx=>by
    rcases allP_mem hx with rfl | h
    ·simp
    ·have:=HQN.out x h;omega)).mono ?_
   rintro e wb ⟨rfl,hEb⟩;rw [HRB.out];have HXb:Hid (Ext w5 wb):=HXa.out.trans hEb;clear hEb
   go_wp2_with fail
   refine (zE (t:Int) wb (HM5.out.below HXb.out) (by have:=HML.out;have:=HP6.out;omega)).mono ?_;rintro e wc ⟨rfl,rfl⟩;rw [decide_eq_false K.out.tm]
   go_wp2_with fail
   go_ret;exact ⟨rfl,HX.out.trans HXb.out⟩
theorem shoveKeeps_walk {H:Type} {enc:TypeId×Value→H} {base:Nat} {v0:Value} {d0:DataW H} {p0:List MemPlace} (W:World) (hv0:Value.okWide Tryz.prog W .any base 26 v0) (h0:DataW.Trod enc Tryz.prog W 0 (fun _=>true) true 26 v0 d0 p0):
  Calls Tryz.prog 3 #[v0] W fun e w'=>e=.returned (.bool true)∧Below W.heap.size W w':=by
 obtain ⟨va,vb,o0,o1,o2,ls,ns,tk,rfl,h2,h3,h4,h5,h6,h7,-⟩:=case31Open h0 (case31Agg hv0);exact keeps_calls o0 o1 o2 W h2 h3 h4 h5 h6 h7
end Go.Proofs.YthbjngbhbbkkgaaGreat
