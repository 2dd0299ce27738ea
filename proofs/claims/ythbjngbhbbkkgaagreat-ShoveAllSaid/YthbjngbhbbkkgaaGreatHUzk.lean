/- RtLa -/
import Derived.Test.YthbjngbhbbkkgaaGreatHUzc
import Derived.Test.YthbjngbhbbkkgaaGreatHUzj
set_option linter.unusedVariables false
set_option linter.unusedSimpArgs false
set_option maxRecDepth 100000
set_option maxHeartbeats 16000000
namespace Go.Proofs.YthbjngbhbbkkgaaGreat
open Go.ChangeShapes Go.WideShapes Go.ChangeAt Go.RowKit
attribute [local go_sem ↓] Go.wp_at_zero Go.wp_at_succ
theorem mod_1000 {n:Nat} (h:n≤300):((n:Nat):Int) % 1000=n:=by omega
theorem all_calls {ok1 ok2:Nat→Prop} {vm vl:Value} {ls:List (List Int)} {l:List Int} {tk f:Nat} (o0 o1 o2:Int) (w:World) (hm:zo w ok1 vm ls) (hll:ls.length≤9223372036854775807) (hlx:∀x∈ls,x.length≤9223372036854775807) (hl:zf w ok2 vl l) (hl2:l.length≤9223372036854775807) (htk:tk<256) (hf:f<256):
  Calls Tryz.prog 7 #[.agg #[vm,vl,.int .i64 o0,.int .i64 o1,.int .i64 o2,.int .u8 tk],.int .u8 f] w fun e w'=>e=.returned (.bool true)∧Ext w w':=by
 have HLS:=zh hm;have HLX:=zh hlx;obtain ⟨_,⟨A,c,rfl,-,-⟩,-⟩:=hm;obtain ⟨A2,c2,rfl,-,-⟩:=hl;have HFF:Hid (f<256):=hf;clear hlx htk hl2 hf
 go_enter Tryz.func7,Tryz.ntmps7
 go_wp2_with fail
 generalize hwa:w.alloc (.cells #[.slice A ls.length c,.slice A2 l.length c2,.int .i64 o0,.int .i64 o1,.int .i64 o2,.int .u8 tk] 26)=wa;have hEa:Ext w wa:=by rw [←hwa];exact (Ext.refl _).alloc _
 have hBa:Blk wa w.heap.size 26 #[.slice A ls.length c,.slice A2 l.length c2,.int .i64 o0,.int .i64 o1,.int .i64 o2,.int .u8 tk]:=by rw [←hwa];exact Blk.new _ _ _ rfl
 clear hwa;have r0:∀W,Ext wa W→W.cell? ⟨w.heap.size,0,none⟩=some (.slice A ls.length c):=Ext.rule (hBa.cell (k:=0) rfl);clear hBa;refine (zc0 wa).mono ?_;rintro e w1 ⟨rfl,hE1⟩;have hx1:Ext wa w1:=hE1
 go_wp2_with fail
 refine (made_calls w1 (HLS.out.below (hEa.trans hx1)) hll HLX.out).mono ?_;rintro e w2 hpost;obtain ⟨v',z,rfl,hE2,hz,hMM⟩:=hpost;obtain ⟨Af,cf,Au,cu,At,ct,rfl,-,-,-⟩:=hz.parts;have HZ:=zh hz;have HMM:=zh hMM;have HC:Hid (chk z=0):=zbk hMM.good;have HEW:=zh ((hEa.trans hx1).trans hE2);clear hz hMM hx1 hE1 hEa hE2 r0 hll;go_upto_region 3 with fail;obtain ⟨hb3,q0,q1,q2,q3,q4,q5⟩:=box6 w2 (.int .i64 z.w) (.int .i64 z.h) (.int .i64 z.l) (.slice Af z.free.length cf) (.slice Au z.up.length cu) (.slice At z.tasks.length ct);generalize w2.alloc (.cells #[.int .i64 z.w,.int .i64 z.h,.int .i64 z.l,.slice Af z.free.length cf,.slice Au z.up.length cu,.slice At z.tasks.length ct] 32)=w3 at hb3 q0 q1 q2 q3 q4 q5⊢;obtain ⟨gm,hgm⟩:∃g,g=w2.heap.size:=⟨_,rfl⟩;rw [←hgm] at q0 q1 q2 q3 q4 q5⊢;clear hgm;have HW3:=zh (HEW.out.trans hb3);have HZ3:=zh (HZ.out.below hb3);clear hb3 HEW HZ;have hn3:z.tasks.length≤3:=HMM.out.tk.2;have hn1:1≤z.tasks.length:=HMM.out.tk.1
 have hmk:∀W:World,(Instr.makeSlice 22 (.int .i64 (z.tasks.length:Nat)) (.int .i64 (z.tasks.length:Nat))).run Tryz.prog W=.ok (.slice (some ⟨W.heap.size,0,none⟩) z.tasks.length z.tasks.length) (W.alloc (.cells (madeCells #[.slice none 0 0] z.tasks.length) 23)):=fun W=>
  run_make_row' 22 23 (.slice none 0 0) 24 Tryz.underlying22 Tryz.infoInts rfl .i64 .i64 z.tasks.length (by omega) (by omega) W
 have hx3:Ext w3 w3:=Ext.refl w3;go_upto_region 5 with fail;have hC0:=CP.new w3 z.tasks.length;generalize w3.alloc (.cells (madeCells #[.slice none 0 0] z.tasks.length) 23)=w4 at hC0⊢;have HI4:=zh (by have h:=hC0.intss z.tasks.length (by simp);rw [List.length_replicate] at h;exact h);have HE4:=zh hC0.ext;have HA0:Hid (AllR z f 0 (List.replicate z.tasks.length [])):=AllR.zero HC.out;obtain ⟨g,hg⟩:∃g,g=w3.heap.size:=⟨_,rfl⟩;rw [←hg] at HI4⊢;clear hg hC0 hmk hx3
 go_wp2_with fail
 go_loopw [8,9] (fun v8 i wr=>∃(k:Nat) (ps:List (List Int)),k≤z.tasks.length∧i=.int .i64 (k:Nat)∧Hid (zo wr (fun _=>True) v8 ps)∧Hid (AllR z f k ps)∧Hid (Ext w3 wr)) (fun _ i _=>z.tasks.length - (intOf i).toNat)
 case atStart=>exact ⟨0,_,Nat.zero_le _,rfl,HI4.out,HA0.out,HE4.out⟩
 clear HI4 HA0 HE4
 case round=>
  obtain ⟨k,ps,hk,rfl,hI,hA,hE⟩:=hrel;obtain ⟨wk,rfl⟩:∃wk:World,wk=wr:=⟨_,rfl⟩;have hx:Ext w3 wk:=hE.out;have hpl:ps.length=z.tasks.length:=hA.out.len;have HPX:Hid (∀x∈ps,x.length≤300):=zbL hA.out.laid;have HPL:=zh hpl;by_cases hlt:k<z.tasks.length
  ·have hltI:(k:Int)<(z.tasks.length:Int):=by omega
   obtain ⟨t,ht⟩:∃t,t=(k+f) % z.tasks.length:=⟨_,rfl⟩;have htl:t<z.tasks.length:=by rw [ht];exact Nat.mod_lt _ (by omega)
   have hf:=HFF.out;have hw2:((k:Int)+(f:Int)).tmod (z.tasks.length:Int)=(t:Int):=by rw [ht];rfl
   have hw3:IntKind.i64.wrap (((k:Int)+(f:Int)).tmod (z.tasks.length:Int))=(t:Int):=by rw [hw2,IntKind.wrap_i64];omega
   have hkn:k<3:=by omega
   have hw1:IntKind.i64.wrap ((k:Int)+(f:Int))=(k:Int)+(f:Int):=by rw [IntKind.wrap_i64];omega
   have hz0:((z.tasks.length:Int)==0)=false:=by rw [beq_eq_false_iff_ne];omega
   have hz1:(z.tasks.length:Int)≠0:=by omega
   obtain ⟨r,hr⟩:∃r,r=zaw z ps (t:Int):=⟨_,rfl⟩;have hadd:=zcK (t:Int) wk (HZ3.out.below hx) HMM.out.lens hI.out (by omega) (fun x hx=>by have:=HPX.out x hx;omega);have hround:=hA.out.round hlt ht
   have h54:r.err=54→zaT (zay z ps t) r.why=true:=fun h=>by
    rw [hr] at h⊢;have h1:=(addP_refused h).2.2.1
    rwa [Int.toNat_natCast] at h1
   have hwl:r.why.Lens:=by
    rw [hr];exact addP_lens HMM.out.lens (by omega)
   rw [←hr] at hadd hround;clear hr;have HT:Hid (t=(k+f) % z.tasks.length):=ht;have HTL:Hid (t<z.tasks.length):=htl;obtain ⟨qs,mv,why,er⟩:=r;dsimp only at hadd h54 hround hwl;have HADD:=zh hadd;have H54:=zh h54;have HRD:=zh hround;have HWL:=zh hwl;clear hadd h54 hround hwl ht hpl;obtain ⟨_,⟨Ap,cp,rfl,-,-⟩,-⟩:=id hI.out;go_upto_region 9 with fail
   go_wp2_with fail
   refine HADD.out.mono ?_;rintro e w5 ⟨vq,vmv,vy,rfl,hE5,hq5,hm5,hy5⟩;dsimp only at hq5 hm5 hy5;have HY5:=zh hy5;have HQ5:=zh hq5;obtain ⟨As,cs,Ak,ck,rfl,-⟩:=hy5.form;obtain ⟨_,⟨Bq,dq,rfl,-,-⟩,-⟩:=id hq5;obtain ⟨Bm,dm,rfl,-,-⟩:=id hm5;have HE5:=zh hE5;clear hq5 hm5 hy5 hE5 HADD;go_upto_region 10 with fail;obtain ⟨hb6,p0,p1,p2⟩:=box3 w5 (.int .i64 why.task) (.slice As why.side.length cs) (.slice Ak why.kids.length ck);generalize w5.alloc (.cells #[.int .i64 why.task,.slice As why.side.length cs,.slice Ak why.kids.length ck] 37)=w6 at hb6 p0 p1 p2⊢;obtain ⟨gy,hgy⟩:∃g,g=w5.heap.size:=⟨_,rfl⟩;rw [←hgy] at p0 p1 p2⊢;clear hgy;have HE6:Hid (Ext wk w6):=HE5.out.trans hb6;have HQ6:=zh (HQ5.out.below hb6);have HY6:=zh (HY5.out.ext hb6);have HX6:Hid (Ext w3 w6):=hx.trans HE6.out;have hx6:Ext w3 w6:=HX6.out;have hx66:Ext w6 w6:=Ext.refl w6;clear hb6 HE5 HQ5 HY5 hx;rcases HRD.out with rfl | rfl | ⟨rfl,hA2,hl1,hl3⟩
   ·have HCP:Hid (zaT (zay z ps t) why=true):=H54.out rfl;obtain ⟨ns,hns⟩:=(HZ3.out.below HX6.out).nets
    have hso:subO z ps (t:Int)=zay z ps t:=by
     unfold subO;rw [if_pos (by rw [Bool.and_eq_true];exact ⟨hA.out.laid,zaf.2 ⟨HC.out,by omega,by have:=HTL.out;omega⟩⟩),Int.toNat_natCast]
    have HSUB:Hid (∀W,Ext w6 W→Calls Tryz.prog 15 #[.agg #[.int .i64 z.w,.int .i64 z.h,.int .i64 z.l,.slice Af z.free.length cf,.slice Au z.up.length cu,.slice At z.tasks.length ct],.slice Ap ps.length cp,.int .i64 (t:Nat)] W fun e w'=>∃vs,e=.returned vs∧Ext W w'∧Calls Tryz.prog 30 #[vs,.agg #[.int .i64 why.task,.slice As why.side.length cs,.slice Ak why.kids.length ck]] w' fun e w''=>e=.returned (.bool true)∧Ext w' w''):=fun W hW=>by
     have h:=sub_calls (t:Int) W (hns.below hW) HMM.out.lens ((hI.out.below HE6.out).below hW) (by have:=HPL.out;omega) (fun x hx=>by have:=HPX.out x hx;omega);rw [hso] at h;refine h.mono ?_;rintro e w' ⟨vs,rfl,hE',hms⟩;refine ⟨vs,rfl,hE',?_⟩;have hck:=pcheck_calls w' hms.maze (zcC HMM.out.lens (by have:=HPL.out;omega) t) ((HY6.out.ext hW).ext hE') HWL.out (by have:=checkP_size HCP.out;omega);rw [HCP.out] at hck;exact hck
    clear hns hso HRD H54;have q0:=fun W h=>q0 W (hx6.trans h)
    have q1:=fun W h=>q1 W (hx6.trans h)
    have q2:=fun W h=>q2 W (hx6.trans h)
    have q3:=fun W h=>q3 W (hx6.trans h)
    have q4:=fun W h=>q4 W (hx6.trans h)
    have q5:=fun W h=>q5 W (hx6.trans h)
    go_upto_region 11 with fail;refine wp_region_held_drew (S:=(fun W=>Ext w6 W)) zS (hx66.drew) (fun zH=>?_);have hHd:Ext w6 w6.drew:=zH;clear hHd;generalize w6.drew=wd at zH⊢;refine rtT 0 zH ?_;simp only [za,Act.put];refine rtT 1 zH ?_;simp only [za,Act.put];refine rtT 2 zH ?_;simp only [za,Act.put];refine rtT 3 zH ?_;simp only [za,Act.put];refine rtT 4 zH ?_;simp only [za,Act.put];refine rtT 6 zH ?_;simp only [za,Act.put];refine rtR 5 (fun K hK=>?_);go_simp;go_at_call 15;refine (HSUB.out _ zH).mono ?_;rintro e w7 ⟨vs,rfl,hE7,hCK⟩;have HCK:=zh hCK;clear hCK;go_simp;refine hK.out _ _ (zH.trans hE7) (fun zH=>?_);clear hK K;try simp only [za,Act.put]
    refine rtR 7 (fun K hK=>?_);go_simp;go_at_call 30;refine HCK.out.mono ?_;rintro e w8 ⟨rfl,hE8⟩;go_simp;refine hK.out _ _ (zH.trans hE8) (fun zH=>?_);clear hK K;try simp only [za,Act.put]
    refine rtT 8 zH ?_;simp only [za,Act.put];refine rtT 9 zH ?_;simp only [za,Act.put];refine wpAnyH_done (by kernel_rfl) ?_ _
    go_wp2_with fail
    go_ret;exact ⟨rfl,HW3.out.trans (HX6.out.trans zH)⟩
   ·clear HRD H54
    go_wp2_with fail
    go_ret;exact ⟨rfl,HW3.out.trans HX6.out⟩
   ·have hql:qs.length=z.tasks.length:=hA2.len;have HA2:=zh hA2;have HQX:Hid (∀x∈qs,x.length≤300):=zbL hA2.laid;have hlaid:=zcN w6 (HZ3.out.below HX6.out) HMM.out.lens HQ6.out (by omega) (fun x hx=>by have:=HQX.out x hx;omega);rw [hA2.laid] at hlaid;have HLAID:=zh hlaid;have hd1:((qs.length:Int) != (z.tasks.length:Int))=false:=by rw [hql];simp
    have HQL:=zh hql;have htq:t<qs.length:=by rw [hql];exact HTL.out
    have htqI:(t:Int)<(qs.length:Int):=by omega
    have ht0:(0:Int)≤(t:Int):=by omega
    obtain ⟨_,⟨_,_,eq1,-,hrq⟩,heq⟩:=HQ6.out;injection eq1 with eq1 eqn eqc;subst eq1;clear eqn eqc;obtain ⟨bq,offq,uq,rfl,-,hcq0,huq⟩:=zP hrq heq htq htq;have hqk:qs.getD t []=qs[t]:=by rw [List.getD_eq_getElem?_getD,List.getElem?_eq_getElem htq];rfl
    rw [hqk] at hl1 hl3;obtain ⟨x,hxx⟩:∃x,x=qs[t]:=⟨_,rfl⟩;rw [←hxx] at huq hl1 hl3;obtain ⟨Aq,cq,rfl,-,-⟩:=id huq;have rq:=Ext.rule hcq0;obtain ⟨nx,hnx⟩:∃n,n=x.length:=⟨_,rfl⟩;rw [←hnx] at hl1 hl3 rq;have hmd:=mod_1000 hl3;have hnz:((nx:Int)==0)=false:=by rw [beq_eq_false_iff_ne];omega
    have HMOD:Hid (∀W,Calls Tryz.prog 32 #[.int .i64 (nx:Nat),.int .i64 1000] W fun e w'=>e=.returned (.int .i64 (nx:Nat))∧W=w'):=fun W=>by
     have h:=mod_calls (nx:Int) 1000 W (by omega) (by omega);rw [hmd] at h;exact h
    clear HRD H54 hA2 hlaid hql hrq heq hcq0 huq hqk hxx hnx hmd hl1 hl3 HY6
    go_wp2_with fail
    refine HLAID.out.mono ?_;rintro e w7 ⟨rfl,hE7⟩;have hx67:Ext w6 w7:=hE7;clear hE7 HLAID hx66
    go_wp2_with fail
    refine (HMOD.out _).mono ?_;rintro e w8 ⟨rfl,rfl⟩;have HQ7:Hid (zo w7 (fun _=>True) (.slice (some ⟨bq,offq,none⟩) qs.length dq) qs):=(HQ6.out.below hx67).weaken fun _ _=>trivial
    have HX7:Hid (Ext w3 w7):=HX6.out.trans hx67
    go_wp2_with fail
    go_roundw
    case rel=>exact ⟨k+1,qs,hlt,by go_num,HQ7.out,HA2.out,HX7.out⟩
    case measure=>simp [intOf];omega
  ·obtain rfl:k=z.tasks.length:=by omega
   have hrb:=zcz wk (HZ3.out.below hx) HMM.out.lens hI.out (by omega) (fun x hx=>by have:=HPX.out x hx;omega);rw [hA.out.done] at hrb;have HRB:=zh hrb;obtain ⟨_,⟨Ap,cp,rfl,-,-⟩,-⟩:=id hI.out;clear hrb hlt hk hpl hn3 hn1
   go_wp2_with fail
   refine HRB.out.mono ?_;rintro e w5 ⟨rfl,hE5⟩;have HX5:Hid (Ext w w5):=HW3.out.trans (hx.trans hE5);clear hE5
   go_wp2_with fail
   go_ret;exact ⟨rfl,HX5.out⟩
theorem shoveAll_walk {H:Type} {enc:TypeId×Value→H} {base:Nat} {v0:Value} {d0:DataW H} {p0:List MemPlace} (W:World) (hv0:Value.okWide Tryz.prog W .any base 26 v0) (h0:DataW.Trod enc Tryz.prog W 0 (fun _=>true) true 26 v0 d0 p0) (a1:Int) (w1:(Lit.int .u8 a1).wf=true):
  Calls Tryz.prog 7 #[v0,.int .u8 a1] W fun e w'=>e=.returned (.bool true)∧Below W.heap.size W w':=by
 have hw:=w1;simp only [Lit.wf,IntKind.has,Bool.and_eq_true,decide_eq_true_eq] at hw;have e1:IntKind.u8.min=0:=rfl;have e2:IntKind.u8.max=255:=rfl;obtain ⟨n,rfl⟩:∃n:Nat,a1=(n:Int):=⟨a1.toNat,by omega⟩;obtain ⟨va,vb,o0,o1,o2,ls,ns,tk,rfl,h2,h3,h4,h5,h6,h7,-⟩:=case31Open h0 (case31Agg hv0);exact all_calls o0 o1 o2 W h2 h3 h4 h5 h6 h7 (by omega)
end Go.Proofs.YthbjngbhbbkkgaaGreat
