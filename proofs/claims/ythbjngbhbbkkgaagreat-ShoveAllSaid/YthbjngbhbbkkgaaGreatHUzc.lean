/- RtKd RtOp RtKo -/
import Derived.Test.YthbjngbhbbkkgaaGreatHUzb
import Derived.ProofKit
import Derived.OpenShut
set_option linter.unusedVariables false
set_option linter.unusedSimpArgs false
set_option maxRecDepth 100000
set_option maxHeartbeats 16000000
namespace Go.Proofs.YthbjngbhbbkkgaaGreat
open Go.RowKit
attribute [local go_sem ↓] Go.wp_at_zero Go.wp_at_succ
theorem intss3 {w:World} {ok:Nat→Prop} {g:Nat} {v1 v2 v3:Value} {a b c:List Int} (hb:Blk w g 23 #[v1,v2,v3]) (hg:ok g) (h1:zf w ok v1 a) (h2:zf w ok v2 b) (h3:zf w ok v3 c):zo w ok (.slice (some ⟨g,0,none⟩) 3 3) [a,b,c]:=by
 refine ⟨[v1,v2,v3],⟨_,_,rfl,Nat.le_refl _,zY.block (cs:=#[v1,v2,v3]) hb hg rfl⟩,fun i x hx=>?_⟩
 match i,hx with
 | 0,hx=>(injection hx with hx;subst hx;exact ⟨_,rfl,h1⟩)
 | 1,hx=>(injection hx with hx;subst hx;exact ⟨_,rfl,h2⟩)
 | 2,hx=>(injection hx with hx;subst hx;exact ⟨_,rfl,h3⟩)
 | k+3,hx=>cases hx
theorem intss1 {w:World} {ok:Nat→Prop} {g:Nat} {v1:Value} {a:List Int} (hb:Blk w g 23 #[v1]) (hg:ok g) (h1:zf w ok v1 a):zo w ok (.slice (some ⟨g,0,none⟩) 1 1) [a]:=by
 refine ⟨[v1],⟨_,_,rfl,Nat.le_refl _,zY.block (cs:=#[v1]) hb hg rfl⟩,fun i x hx=>?_⟩
 match i,hx with
 | 0,hx=>(injection hx with hx;subst hx;exact ⟨_,rfl,h1⟩)
 | k+1,hx=>cases hx
theorem e1_lens:Lens e1:=⟨by decide,by decide,by decide,by decide⟩
theorem e2_lens:Lens e2:=⟨by decide,by decide,by decide,by decide⟩
def wK1 (w:World):World:=(((((w.alloc (.cells #[.int .i64 0,.int .i64 1,.int .i64 2] 3)).alloc (.cells #[.slice (some ⟨w.heap.size,0,none⟩) 3 3,.slice none 0 0,.slice none 0 0] 23)).alloc (.cells #[.int .i64 0,.int .i64 1,.int .i64 2] 3)).alloc (.cells #[.int .i64 6,.int .i64 7,.int .i64 8] 3)).alloc (.cells #[.slice (some ⟨w.heap.size+1+1,0,none⟩) 3 3,.slice none 0 0,.slice (some ⟨w.heap.size+1+1+1,0,none⟩) 3 3] 23))
theorem kadd1 {ok:Nat→Prop} {v:Value} (w:World) (hM:zr w ok v e1):Calls Tryz.prog 34 #[v,.slice (some ⟨w.heap.size+1,0,none⟩) 3 3,.int .i64 2,.slice (some ⟨w.heap.size+1+1+1+1,0,none⟩) 3 3,.slice none 0 0] (wK1 w) fun e w'=>e=.returned (.bool true)∧Ext w w':=by
 have hE:Ext w (wK1 w):=(((((Ext.refl _).alloc _).alloc _).alloc _).alloc _).alloc _;have hf:zo (wK1 w) (fun _=>True) (.slice (some ⟨w.heap.size+1,0,none⟩) 3 3) [[0,1,2],[],[]]:=(intss3 (Blk.ext (Blk.new _ _ _ (by simp)) ((((Ext.refl _).alloc _).alloc _).alloc _)) trivial ⟨_,_,rfl,Nat.le_refl _,zY.block (cs:=#[.int .i64 0,.int .i64 1,.int .i64 2]) (Blk.ext (Blk.new _ _ _ (by simp)) (((((Ext.refl _).alloc _).alloc _).alloc _).alloc _)) trivial rfl⟩ (zf.nil _ _) (zf.nil _ _));have hw:zo (wK1 w) (fun _=>True) (.slice (some ⟨w.heap.size+1+1+1+1,0,none⟩) 3 3) [[0,1,2],[],[6,7,8]]:=(intss3 (Blk.ext (Blk.new _ _ _ (by simp)) (Ext.refl _)) trivial ⟨_,_,rfl,Nat.le_refl _,zY.block (cs:=#[.int .i64 0,.int .i64 1,.int .i64 2]) (Blk.ext (Blk.new _ _ _ (by simp)) (((Ext.refl _).alloc _).alloc _)) trivial rfl⟩ (zf.nil _ _) ⟨_,_,rfl,Nat.le_refl _,zY.block (cs:=#[.int .i64 6,.int .i64 7,.int .i64 8]) (Blk.ext (Blk.new _ _ _ (by simp)) ((Ext.refl _).alloc _)) trivial rfl⟩);have hq:zf (wK1 w) (fun _=>True) (.slice none 0 0) []:=(zf.nil _ _);have h:=zcZ 2 _ (hM.below hE) e1_lens hf (by decide) (by decide) hw (by decide) (by decide) hq (by decide);rw [add_x (zx.of e1_chk).dim] at h;obtain ⟨h1,h2,h3⟩:=e1_add;have h':=h (by rw [h2];decide) (by rw [h2];decide) (by rw [h3];decide);rw [h1,h2,h3] at h';refine h'.mono ?_;rintro e w' ⟨rfl,hE'⟩;exact ⟨rfl,hE.trans hE'⟩
def wK2 (w:World):World:=(((((w.alloc (.cells #[.int .i64 6,.int .i64 7,.int .i64 8] 3)).alloc (.cells #[.slice none 0 0,.slice none 0 0,.slice (some ⟨w.heap.size,0,none⟩) 3 3] 23)).alloc (.cells #[.int .i64 3,.int .i64 0,.int .i64 1,.int .i64 2,.int .i64 5] 3)).alloc (.cells #[.int .i64 6,.int .i64 7,.int .i64 8] 3)).alloc (.cells #[.slice (some ⟨w.heap.size+1+1,0,none⟩) 5 5,.slice none 0 0,.slice (some ⟨w.heap.size+1+1+1,0,none⟩) 3 3] 23))
theorem kadd2 {ok:Nat→Prop} {v:Value} (w:World) (hM:zr w ok v e2):Calls Tryz.prog 34 #[v,.slice (some ⟨w.heap.size+1,0,none⟩) 3 3,.int .i64 0,.slice (some ⟨w.heap.size+1+1+1+1,0,none⟩) 3 3,.slice none 0 0] (wK2 w) fun e w'=>e=.returned (.bool true)∧Ext w w':=by
 have hE:Ext w (wK2 w):=(((((Ext.refl _).alloc _).alloc _).alloc _).alloc _).alloc _;have hf:zo (wK2 w) (fun _=>True) (.slice (some ⟨w.heap.size+1,0,none⟩) 3 3) [[],[],[6,7,8]]:=(intss3 (Blk.ext (Blk.new _ _ _ (by simp)) ((((Ext.refl _).alloc _).alloc _).alloc _)) trivial (zf.nil _ _) (zf.nil _ _) ⟨_,_,rfl,Nat.le_refl _,zY.block (cs:=#[.int .i64 6,.int .i64 7,.int .i64 8]) (Blk.ext (Blk.new _ _ _ (by simp)) (((((Ext.refl _).alloc _).alloc _).alloc _).alloc _)) trivial rfl⟩);have hw:zo (wK2 w) (fun _=>True) (.slice (some ⟨w.heap.size+1+1+1+1,0,none⟩) 3 3) [[3,0,1,2,5],[],[6,7,8]]:=(intss3 (Blk.ext (Blk.new _ _ _ (by simp)) (Ext.refl _)) trivial ⟨_,_,rfl,Nat.le_refl _,zY.block (cs:=#[.int .i64 3,.int .i64 0,.int .i64 1,.int .i64 2,.int .i64 5]) (Blk.ext (Blk.new _ _ _ (by simp)) (((Ext.refl _).alloc _).alloc _)) trivial rfl⟩ (zf.nil _ _) ⟨_,_,rfl,Nat.le_refl _,zY.block (cs:=#[.int .i64 6,.int .i64 7,.int .i64 8]) (Blk.ext (Blk.new _ _ _ (by simp)) ((Ext.refl _).alloc _)) trivial rfl⟩);have hq:zf (wK2 w) (fun _=>True) (.slice none 0 0) []:=(zf.nil _ _);have h:=zcZ 0 _ (hM.below hE) e2_lens hf (by decide) (by decide) hw (by decide) (by decide) hq (by decide);rw [add_x (zx.of e2_chk).dim] at h;obtain ⟨h1,h2,h3⟩:=e2_add;have h':=h (by rw [h2];decide) (by rw [h2];decide) (by rw [h3];decide);rw [h1,h2,h3] at h';refine h'.mono ?_;rintro e w' ⟨rfl,hE'⟩;exact ⟨rfl,hE.trans hE'⟩
def wK3 (w:World):World:=((((((w.alloc (.cells #[.int .i64 3,.int .i64 6,.int .i64 7,.int .i64 8,.int .i64 5] 3)).alloc (.cells #[.slice (some ⟨w.heap.size,0,none⟩) 5 5,.slice none 0 0,.slice none 0 0] 23)).alloc (.cells #[.int .i64 3,.int .i64 0,.int .i64 1,.int .i64 2,.int .i64 5] 3)).alloc (.cells #[.int .i64 6,.int .i64 7,.int .i64 8] 3)).alloc (.cells #[.slice (some ⟨w.heap.size+1+1,0,none⟩) 5 5,.slice none 0 0,.slice (some ⟨w.heap.size+1+1+1,0,none⟩) 3 3] 23)).alloc (.cells #[.int .i64 0] 3))
theorem kadd3 {ok:Nat→Prop} {v:Value} (w:World) (hM:zr w ok v e2):Calls Tryz.prog 34 #[v,.slice (some ⟨w.heap.size+1,0,none⟩) 3 3,.int .i64 2,.slice (some ⟨w.heap.size+1+1+1+1,0,none⟩) 3 3,.slice (some ⟨w.heap.size+1+1+1+1+1,0,none⟩) 1 1] (wK3 w) fun e w'=>e=.returned (.bool true)∧Ext w w':=by
 have hE:Ext w (wK3 w):=((((((Ext.refl _).alloc _).alloc _).alloc _).alloc _).alloc _).alloc _;have hf:zo (wK3 w) (fun _=>True) (.slice (some ⟨w.heap.size+1,0,none⟩) 3 3) [[3,6,7,8,5],[],[]]:=(intss3 (Blk.ext (Blk.new _ _ _ (by simp)) (((((Ext.refl _).alloc _).alloc _).alloc _).alloc _)) trivial ⟨_,_,rfl,Nat.le_refl _,zY.block (cs:=#[.int .i64 3,.int .i64 6,.int .i64 7,.int .i64 8,.int .i64 5]) (Blk.ext (Blk.new _ _ _ (by simp)) ((((((Ext.refl _).alloc _).alloc _).alloc _).alloc _).alloc _)) trivial rfl⟩ (zf.nil _ _) (zf.nil _ _));have hw:zo (wK3 w) (fun _=>True) (.slice (some ⟨w.heap.size+1+1+1+1,0,none⟩) 3 3) [[3,0,1,2,5],[],[6,7,8]]:=(intss3 (Blk.ext (Blk.new _ _ _ (by simp)) ((Ext.refl _).alloc _)) trivial ⟨_,_,rfl,Nat.le_refl _,zY.block (cs:=#[.int .i64 3,.int .i64 0,.int .i64 1,.int .i64 2,.int .i64 5]) (Blk.ext (Blk.new _ _ _ (by simp)) ((((Ext.refl _).alloc _).alloc _).alloc _)) trivial rfl⟩ (zf.nil _ _) ⟨_,_,rfl,Nat.le_refl _,zY.block (cs:=#[.int .i64 6,.int .i64 7,.int .i64 8]) (Blk.ext (Blk.new _ _ _ (by simp)) (((Ext.refl _).alloc _).alloc _)) trivial rfl⟩);have hq:zf (wK3 w) (fun _=>True) (.slice (some ⟨w.heap.size+1+1+1+1+1,0,none⟩) 1 1) [0]:=⟨_,_,rfl,Nat.le_refl _,zY.block (cs:=#[.int .i64 0]) (Blk.ext (Blk.new _ _ _ (by simp)) (Ext.refl _)) trivial rfl⟩;have h:=zcZ 2 _ (hM.below hE) e2_lens hf (by decide) (by decide) hw (by decide) (by decide) hq (by decide);rw [add_x (zx.of e2_chk).dim] at h;obtain ⟨h1,h2,h3⟩:=e2_add2;have h':=h (by rw [h2];decide) (by rw [h2];decide) (by rw [h3];decide);rw [h1,h2,h3] at h';refine h'.mono ?_;rintro e w' ⟨rfl,hE'⟩;exact ⟨rfl,hE.trans hE'⟩
theorem ex3_calls (a b c d e f:Int) (w:World):
  Calls Tryz.prog 33 #[.slice (some ⟨w.heap.size,0,none⟩) 3 3] (w.alloc (.cells #[.int .i64 a,.int .i64 b,.int .i64 c,.int .i64 d,.int .i64 e,.int .i64 f] 70)) fun e' w'=>∃v,e'=.returned v∧Ext w w'∧zr w' (fun x=>w.heap.size≤x) v (exN [(a,b),(c,d),(e,f)]):=by
 refine (kexample_calls [(a,b),(c,d),(e,f)] w.heap.size _ (by simp) ?_).mono ?_
 ·intro k x hx;have hb:Blk (w.alloc (.cells #[.int .i64 a,.int .i64 b,.int .i64 c,.int .i64 d,.int .i64 e,.int .i64 f] 70)) w.heap.size 70 _:=Blk.new _ _ _ rfl
  match k,hx with
  | 0,hx=>(injection hx with hx;subst hx;exact ⟨hb.cell (k:=0) rfl,hb.cell (k:=1) rfl⟩)
  | 1,hx=>(injection hx with hx;subst hx;exact ⟨hb.cell (k:=2) rfl,hb.cell (k:=3) rfl⟩)
  | 2,hx=>(injection hx with hx;subst hx;exact ⟨hb.cell (k:=4) rfl,hb.cell (k:=5) rfl⟩)
  | k+3,hx=>cases hx
 rintro e w1 ⟨v1,rfl,hE1,hM1⟩;exact ⟨v1,rfl,Ext.trans ((Ext.refl w).alloc _) hE1,hM1.weaken fun b hb=>by simp at hb;omega⟩
theorem zc0 (w:World):
  Calls Tryz.prog 8 #[] w fun e w'=>e=.returned (.bool true)∧Ext w w':=by
 go_enter Tryz.func8,Tryz.ntmps8
 go_wp2_with fail
 refine (ex3_calls 0 2 1 7 6 8 w).mono ?_;rintro e w1 ⟨v1,rfl,hW1,hM1⟩;have HM1:Hid (zr w1 (fun b=>w.heap.size≤b) v1 e1):=hM1;clear hM1;obtain ⟨Af,cf,Au,cu,At,ct,rfl,-,-,-⟩:=HM1.out.parts;go_upto_region 2 with fail;obtain ⟨hE2,r0,r1,r2,r3,r4,r5⟩:=box6 w1 (.int .i64 e1.w) (.int .i64 e1.h) (.int .i64 e1.l) (.slice Af e1.free.length cf) (.slice Au e1.up.length cu) (.slice At e1.tasks.length ct);generalize w1.alloc (.cells #[.int .i64 e1.w,.int .i64 e1.h,.int .i64 e1.l,.slice Af e1.free.length cf,.slice Au e1.up.length cu,.slice At e1.tasks.length ct] 32)=w2 at hE2 r0 r1 r2 r3 r4 r5⊢;obtain ⟨g1,hg1⟩:∃g,g=w1.heap.size:=⟨_,rfl⟩;rw [←hg1] at r0 r1 r2 r3 r4 r5⊢;clear hg1;have HW2:Hid (Ext w w2):=hW1.trans hE2;have HM2:=zh (HM1.out.below hE2);clear hW1 HM1 hE2
 go_wp2_with fail
 refine (ex3_calls 3 5 1 7 6 8 w2).mono ?_;rintro e w3 ⟨v3,rfl,hW3,hM3⟩;have HM3:Hid (zr w3 (fun b=>w2.heap.size≤b) v3 e2):=hM3;clear hM3;obtain ⟨Bf,df,Bu,du,Bt,dt,rfl,-,-,-⟩:=HM3.out.parts;go_upto_region 3 with fail;obtain ⟨hE4,s0,s1,s2,s3,s4,s5⟩:=box6 w3 (.int .i64 e2.w) (.int .i64 e2.h) (.int .i64 e2.l) (.slice Bf e2.free.length df) (.slice Bu e2.up.length du) (.slice Bt e2.tasks.length dt);generalize w3.alloc (.cells #[.int .i64 e2.w,.int .i64 e2.h,.int .i64 e2.l,.slice Bf e2.free.length df,.slice Bu e2.up.length du,.slice Bt e2.tasks.length dt] 32)=w4 at hE4 s0 s1 s2 s3 s4 s5⊢;obtain ⟨g3,hg3⟩:∃g,g=w3.heap.size:=⟨_,rfl⟩;rw [←hg3] at s0 s1 s2 s3 s4 s5⊢;clear hg3;have HW4:Hid (Ext w2 w4):=hW3.trans hE4;have HM4:=zh (HM3.out.below hE4);have HN4:=zh (HM2.out.below HW4.out);have k0:=fun W h=>r0 W ((hW3.trans hE4).trans h)
 have k1:=fun W h=>r1 W ((hW3.trans hE4).trans h)
 have k2:=fun W h=>r2 W ((hW3.trans hE4).trans h)
 have k3:=fun W h=>r3 W ((hW3.trans hE4).trans h)
 have k4:=fun W h=>r4 W ((hW3.trans hE4).trans h)
 have k5:=fun W h=>r5 W ((hW3.trans hE4).trans h)
 clear r0 r1 r2 r3 r4 r5 hW3 hE4 HM3 HM2;have hx4:Ext w4 w4:=Ext.refl w4;have hxa:=zQ w4
 go_wp2_with fail
 have hp:=zcO 0 w4 HN4.out e1_lens (zbK w4 fun _=>True) (by simp) (by simp);rw [e1_path] at hp;refine hp.mono ?_;rintro e w5 ⟨u5,rfl,hk5⟩;have hk5':Mk w4 w5 u5 [0,1,2]:=hk5;clear hp hk5;obtain ⟨Ap,cp,rfl,-⟩:=za6 hk5'.own;have HW5:=zh hk5'.ext;have HP5:Hid (zf w5 (fun b=>w4.heap.size≤b) (.slice Ap ([0,1,2]:List Int).length cp) [0,1,2]):=Row.of_own hk5'.own;clear hk5';have q0:=fun W h=>k0 W (HW5.out.trans h)
 have t0:=fun W h=>s0 W (HW5.out.trans h)
 have q1:=fun W h=>k1 W (HW5.out.trans h)
 have t1:=fun W h=>s1 W (HW5.out.trans h)
 have q2:=fun W h=>k2 W (HW5.out.trans h)
 have t2:=fun W h=>s2 W (HW5.out.trans h)
 have q3:=fun W h=>k3 W (HW5.out.trans h)
 have t3:=fun W h=>s3 W (HW5.out.trans h)
 have q4:=fun W h=>k4 W (HW5.out.trans h)
 have t4:=fun W h=>s4 W (HW5.out.trans h)
 have q5:=fun W h=>k5 W (HW5.out.trans h)
 have t5:=fun W h=>s5 W (HW5.out.trans h)
 clear k0 k1 k2 k3 k4 k5 s0 s1 s2 s3 s4 s5 hx4 hxa;have HM5:=zh (HM4.out.below HW5.out);have HN5:=zh (HN4.out.below HW5.out);have hx5:Ext w5 w5:=Ext.refl w5;have hxa:=zQ w5;go_upto_region 4 with fail
 go_wp2_with fail
 have hE6:Ext w5 ((w5.alloc (.cells #[.int .i64 1] 3)).alloc (.cells #[.slice (some ⟨w5.heap.size,0,none⟩) 1 1] 23)):=((Ext.refl _).alloc _).alloc _
 have hf6:zo ((w5.alloc (.cells #[.int .i64 1] 3)).alloc (.cells #[.slice (some ⟨w5.heap.size,0,none⟩) 1 1] 23)) (fun _=>True) (.slice (some ⟨w5.heap.size+1,0,none⟩) 1 1) [[1]]:=
  intss1 (Blk.new _ _ _ (by simp)) trivial ⟨_,_,rfl,Nat.le_refl _,zY.block (cs:=#[.int .i64 1]) (Blk.ext (Blk.new w5 _ 3 rfl) ((Ext.refl _).alloc _)) trivial rfl⟩
 have hp:=zcO 0 _ (HN5.out.below hE6) e1_lens hf6 (by simp) (by simp);rw [e1_path2] at hp;refine hp.mono ?_;rintro e w6 ⟨u6,rfl,hk6⟩;have hk6':Mk _ w6 u6 [0,3,6,7,8,5,2]:=hk6;clear hp hk6;obtain ⟨Aq,cq,rfl,-⟩:=za6 hk6'.own;have HW6:Hid (Ext w5 w6):=hE6.trans hk6'.ext;have HQ6:Hid (zf w6 _ (.slice Aq ([0,3,6,7,8,5,2]:List Int).length cq) [0,3,6,7,8,5,2]):=Row.of_own hk6'.own;clear hk6' hE6 hf6;have k0:=fun W h=>q0 W (HW6.out.trans h)
 have s0:=fun W h=>t0 W (HW6.out.trans h)
 have k1:=fun W h=>q1 W (HW6.out.trans h)
 have s1:=fun W h=>t1 W (HW6.out.trans h)
 have k2:=fun W h=>q2 W (HW6.out.trans h)
 have s2:=fun W h=>t2 W (HW6.out.trans h)
 have k3:=fun W h=>q3 W (HW6.out.trans h)
 have s3:=fun W h=>t3 W (HW6.out.trans h)
 have k4:=fun W h=>q4 W (HW6.out.trans h)
 have s4:=fun W h=>t4 W (HW6.out.trans h)
 have k5:=fun W h=>q5 W (HW6.out.trans h)
 have s5:=fun W h=>t5 W (HW6.out.trans h)
 clear q0 q1 q2 q3 q4 q5 t0 t1 t2 t3 t4 t5 hx5 hxa;have HP6:=zh (HP5.out.below HW6.out);have HM6:=zh (HM5.out.below HW6.out);have HN6:=zh (HN5.out.below HW6.out);have hx6:Ext w6 w6:=Ext.refl w6;have hxa:=zQ w6;go_upto_region 5 with fail
 go_wp2_with fail
 have hB3:zf (w6.alloc (.cells #[.int .i64 0,.int .i64 1,.int .i64 2] 3)) (fun _=>True) (.slice (some ⟨w6.heap.size,0,none⟩) 3 3) [0,1,2]:=⟨_,_,rfl,Nat.le_refl _,zY.block (cs:=#[.int .i64 0,.int .i64 1,.int .i64 2]) (Blk.new w6 _ 3 rfl) trivial rfl⟩;refine (zcs _ (HP6.out.below ((Ext.refl w6).alloc _)) hB3 (by simp) (by simp)).mono ?_;rintro e w7 ⟨rfl,hD⟩;have HW7:Hid (Ext w6 w7):=Ext.trans ((Ext.refl w6).alloc _) (hD.below _);clear hD hB3;rw [show decide (([0,1,2]:List Int)=[0,1,2])=true from rfl];have q0:=fun W h=>k0 W (HW7.out.trans h)
 have t0:=fun W h=>s0 W (HW7.out.trans h)
 have q1:=fun W h=>k1 W (HW7.out.trans h)
 have t1:=fun W h=>s1 W (HW7.out.trans h)
 have q2:=fun W h=>k2 W (HW7.out.trans h)
 have t2:=fun W h=>s2 W (HW7.out.trans h)
 have q3:=fun W h=>k3 W (HW7.out.trans h)
 have t3:=fun W h=>s3 W (HW7.out.trans h)
 have q4:=fun W h=>k4 W (HW7.out.trans h)
 have t4:=fun W h=>s4 W (HW7.out.trans h)
 have q5:=fun W h=>k5 W (HW7.out.trans h)
 have t5:=fun W h=>s5 W (HW7.out.trans h)
 clear k0 k1 k2 k3 k4 k5 s0 s1 s2 s3 s4 s5 hx6 hxa;have hx7:Ext w7 w7:=Ext.refl w7;have hxa:=zQ w7
 go_wp2_with fail
 have hB7:zf (w7.alloc (.cells #[.int .i64 0,.int .i64 3,.int .i64 6,.int .i64 7,.int .i64 8,.int .i64 5,.int .i64 2] 3)) (fun _=>True) (.slice (some ⟨w7.heap.size,0,none⟩) 7 7) [0,3,6,7,8,5,2]:=⟨_,_,rfl,Nat.le_refl _,zY.block (cs:=#[.int .i64 0,.int .i64 3,.int .i64 6,.int .i64 7,.int .i64 8,.int .i64 5,.int .i64 2]) (Blk.new w7 _ 3 rfl) trivial rfl⟩;refine (zcs _ (HQ6.out.below (HW7.out.trans ((Ext.refl w7).alloc _))) hB7 (by simp) (by simp)).mono ?_;rintro e w8 ⟨rfl,hD⟩;have HW8:Hid (Ext w7 w8):=Ext.trans ((Ext.refl w7).alloc _) (hD.below _);clear hD hB7;rw [show decide (([0,3,6,7,8,5,2]:List Int)=[0,3,6,7,8,5,2])=true from rfl];have k0:=fun W h=>q0 W (HW8.out.trans h)
 have s0:=fun W h=>t0 W (HW8.out.trans h)
 have k1:=fun W h=>q1 W (HW8.out.trans h)
 have s1:=fun W h=>t1 W (HW8.out.trans h)
 have k2:=fun W h=>q2 W (HW8.out.trans h)
 have s2:=fun W h=>t2 W (HW8.out.trans h)
 have k3:=fun W h=>q3 W (HW8.out.trans h)
 have s3:=fun W h=>t3 W (HW8.out.trans h)
 have k4:=fun W h=>q4 W (HW8.out.trans h)
 have s4:=fun W h=>t4 W (HW8.out.trans h)
 have k5:=fun W h=>q5 W (HW8.out.trans h)
 have s5:=fun W h=>t5 W (HW8.out.trans h)
 clear q0 q1 q2 q3 q4 q5 t0 t1 t2 t3 t4 t5 hx7 hxa;have HM8:=zh ((HM6.out.below HW7.out).below HW8.out);have HN8:=zh ((HN6.out.below HW7.out).below HW8.out);have hx8:Ext w8 w8:=Ext.refl w8;have hxa:=zQ w8;go_upto_region 6 with fail
 go_wp2_with fail
 refine (kadd1 w8 HN8.out).mono ?_;rintro e w9 ⟨rfl,hE⟩;have HW9:=zh hE;clear hE;have q0:=fun W h=>k0 W (HW9.out.trans h)
 have t0:=fun W h=>s0 W (HW9.out.trans h)
 have q1:=fun W h=>k1 W (HW9.out.trans h)
 have t1:=fun W h=>s1 W (HW9.out.trans h)
 have q2:=fun W h=>k2 W (HW9.out.trans h)
 have t2:=fun W h=>s2 W (HW9.out.trans h)
 have q3:=fun W h=>k3 W (HW9.out.trans h)
 have t3:=fun W h=>s3 W (HW9.out.trans h)
 have q4:=fun W h=>k4 W (HW9.out.trans h)
 have t4:=fun W h=>s4 W (HW9.out.trans h)
 have q5:=fun W h=>k5 W (HW9.out.trans h)
 have t5:=fun W h=>s5 W (HW9.out.trans h)
 clear k0 k1 k2 k3 k4 k5 s0 s1 s2 s3 s4 s5 hx8 hxa;have HM9:=zh (HM8.out.below HW9.out);have HN9:=zh (HN8.out.below HW9.out);have hx9:Ext w9 w9:=Ext.refl w9;have hxa:=zQ w9
 go_wp2_with fail
 refine (kadd2 w9 HM9.out).mono ?_;rintro e wa ⟨rfl,hE⟩;have HWa:=zh hE;clear hE;have k0:=fun W h=>q0 W (HWa.out.trans h)
 have s0:=fun W h=>t0 W (HWa.out.trans h)
 have k1:=fun W h=>q1 W (HWa.out.trans h)
 have s1:=fun W h=>t1 W (HWa.out.trans h)
 have k2:=fun W h=>q2 W (HWa.out.trans h)
 have s2:=fun W h=>t2 W (HWa.out.trans h)
 have k3:=fun W h=>q3 W (HWa.out.trans h)
 have s3:=fun W h=>t3 W (HWa.out.trans h)
 have k4:=fun W h=>q4 W (HWa.out.trans h)
 have s4:=fun W h=>t4 W (HWa.out.trans h)
 have k5:=fun W h=>q5 W (HWa.out.trans h)
 have s5:=fun W h=>t5 W (HWa.out.trans h)
 clear q0 q1 q2 q3 q4 q5 t0 t1 t2 t3 t4 t5 hx9 hxa;have HMa:=zh (HM9.out.below HWa.out);have HNa:=zh (HN9.out.below HWa.out);have hxw:Ext wa wa:=Ext.refl wa;have hxa:=zQ wa;go_upto_region 7 with fail
 go_wp2_with fail
 have hEa:Ext wa ((wa.alloc (.cells #[.int .i64 0,.int .i64 1,.int .i64 2] 3)).alloc (.cells #[.slice (some ⟨wa.heap.size,0,none⟩) 3 3,.slice none 0 0,.slice none 0 0] 23)):=((Ext.refl _).alloc _).alloc _
 have hf:zo ((wa.alloc (.cells #[.int .i64 0,.int .i64 1,.int .i64 2] 3)).alloc (.cells #[.slice (some ⟨wa.heap.size,0,none⟩) 3 3,.slice none 0 0,.slice none 0 0] 23)) (fun _=>True) (.slice (some ⟨wa.heap.size+1,0,none⟩) 3 3) [[0,1,2],[],[]]:=
  intss3 (Blk.new _ _ _ (by simp)) trivial ⟨_,_,rfl,Nat.le_refl _,zY.block (cs:=#[.int .i64 0,.int .i64 1,.int .i64 2]) (Blk.ext (Blk.new wa _ _ rfl) ((Ext.refl _).alloc _)) trivial rfl⟩ (zf.nil _ _) (zf.nil _ _)
 have hp:=zcK 1 _ (HNa.out.below hEa) e1_lens hf (by decide) (by decide);rw [add_x (zx.of e1_chk).dim] at hp;refine hp.mono ?_;rintro e wb ⟨vp,vmm,vy,rfl,hE,hp2,hm2,hy2⟩;rw [e1_ref.1];have hch:=e1_ref.2;have hwl:=e1_why;generalize addX e1 [[0,1,2],[],[]] 1=r at hp2 hm2 hy2 hch hwl;obtain ⟨As,cs,Ak,ck,rfl,-⟩:=hy2.form;have HWb:=zh (hEa.trans hE);have HY:=zh hy2;have HCH:=zh hch;have HWL:=zh hwl;clear hE hp hf hEa hp2 hm2 hy2 hch hwl;have q0:=fun W h=>k0 W (HWb.out.trans h)
 have t0:=fun W h=>s0 W (HWb.out.trans h)
 have q1:=fun W h=>k1 W (HWb.out.trans h)
 have t1:=fun W h=>s1 W (HWb.out.trans h)
 have q2:=fun W h=>k2 W (HWb.out.trans h)
 have t2:=fun W h=>s2 W (HWb.out.trans h)
 have q3:=fun W h=>k3 W (HWb.out.trans h)
 have t3:=fun W h=>s3 W (HWb.out.trans h)
 have q4:=fun W h=>k4 W (HWb.out.trans h)
 have t4:=fun W h=>s4 W (HWb.out.trans h)
 have q5:=fun W h=>k5 W (HWb.out.trans h)
 have t5:=fun W h=>s5 W (HWb.out.trans h)
 clear k0 k1 k2 k3 k4 k5 s0 s1 s2 s3 s4 s5 hxw hxa;have HMb:=zh (HMa.out.below HWb.out);have HNb:=zh (HNa.out.below HWb.out);have hxw:Ext wb wb:=Ext.refl wb;have hxa:=zQ wb;go_upto_region 8 with fail;obtain ⟨hbc,y0,y1,y2⟩:=box3 wb (.int .i64 r.why.task) (.slice As r.why.side.length cs) (.slice Ak r.why.kids.length ck);generalize wb.alloc (.cells #[.int .i64 r.why.task,.slice As r.why.side.length cs,.slice Ak r.why.kids.length ck] 37)=wc at hbc y0 y1 y2⊢;obtain ⟨gw,hgw⟩:∃g,g=wb.heap.size:=⟨_,rfl⟩;rw [←hgw] at y0 y1 y2⊢;clear hgw;have HWc:=zh hbc;clear hbc;have k0:=fun W h=>q0 W (HWc.out.trans h)
 have s0:=fun W h=>t0 W (HWc.out.trans h)
 have k1:=fun W h=>q1 W (HWc.out.trans h)
 have s1:=fun W h=>t1 W (HWc.out.trans h)
 have k2:=fun W h=>q2 W (HWc.out.trans h)
 have s2:=fun W h=>t2 W (HWc.out.trans h)
 have k3:=fun W h=>q3 W (HWc.out.trans h)
 have s3:=fun W h=>t3 W (HWc.out.trans h)
 have k4:=fun W h=>q4 W (HWc.out.trans h)
 have s4:=fun W h=>t4 W (HWc.out.trans h)
 have k5:=fun W h=>q5 W (HWc.out.trans h)
 have s5:=fun W h=>t5 W (HWc.out.trans h)
 clear q0 q1 q2 q3 q4 q5 t0 t1 t2 t3 t4 t5 hxw hxa;have HMc:=zh (HMb.out.below HWc.out);have HNc:=zh (HNb.out.below HWc.out);have HYc:=zh (HY.out.ext HWc.out)
 have HSO:Hid (subO e1 [[0,1,2],[],[]] 1=zay e1 [[0,1,2],[],[]] 1):=by
  (show _=_)
  unfold subO;rw [if_pos e1_laid]
  all_goals rfl
 have HALL:Hid (Ext w wc):=((((((((HW2.out.trans HW4.out).trans HW5.out).trans HW6.out).trans HW7.out).trans HW8.out).trans HW9.out).trans HWa.out).trans HWb.out).trans HWc.out;clear HY HMb HNb HWc HWb HWa HMa HNa HM9 HN9 HW9 HW8 HW7 HW6 HW5 HW4 HW2;have hxc:Ext wc wc:=Ext.refl wc;refine wp_region_held_drew (S:=(fun W=>Ext wc W)) zS (hxc.drew) (fun zH=>?_);have hHd:Ext wc wc.drew:=zH;generalize wc.drew=wd at zH hHd⊢;refine rtT 0 zH ?_;simp only [za,Act.put];refine rtT 1 zH ?_;simp only [za,Act.put];refine rtT 2 zH ?_;simp only [za,Act.put];refine rtT 3 zH ?_;simp only [za,Act.put];refine rtT 7 zH ?_;simp only [za,Act.put];refine rtR 4 (fun K hK=>?_);go_simp;have hHd1:Ext wc (wd.alloc (.cells #[.int .i64 0,.int .i64 1,.int .i64 2] 3)):=hHd.alloc _;refine hK.out _ _ (hHd1) (fun zH=>?_);clear hK K;try simp only [za,Act.put]
 refine rtR 5 (fun K hK=>?_);go_simp;have hHd2:Ext wc ((wd.alloc (.cells #[.int .i64 0,.int .i64 1,.int .i64 2] 3)).alloc (.cells #[.slice (some ⟨wd.heap.size,0,none⟩) 3 3,.slice none 0 0,.slice none 0 0] 23)):=hHd1.alloc _;refine hK.out _ _ (hHd2) (fun zH=>?_);clear hK K;try simp only [za,Act.put]
 refine rtR 6 (fun K hK=>?_);go_simp;go_at_call 15;obtain ⟨ns,hns⟩:=(HNc.out.below hHd2).nets;have hf2:zo ((wd.alloc (.cells #[.int .i64 0,.int .i64 1,.int .i64 2] 3)).alloc (.cells #[.slice (some ⟨wd.heap.size,0,none⟩) 3 3,.slice none 0 0,.slice none 0 0] 23)) (fun _=>True) (.slice (some ⟨wd.heap.size+1,0,none⟩) 3 3) [[0,1,2],[],[]]:=intss3 (Blk.new _ _ _ (by simp)) trivial ⟨_,_,rfl,Nat.le_refl _,zY.block (cs:=#[.int .i64 0,.int .i64 1,.int .i64 2]) (Blk.ext (Blk.new wd _ _ rfl) ((Ext.refl _).alloc _)) trivial rfl⟩ (zf.nil _ _) (zf.nil _ _);refine (sub_calls 1 _ hns e1_lens hf2 (by decide) (by decide)).mono ?_;rintro e wp ⟨vs,rfl,hEp,hmp⟩;have hmp2:=hmp.maze;rw [HSO.out] at hmp2;have hHd3:Ext wc wp:=hHd2.trans hEp;go_simp;refine hK.out _ _ (hHd3) (fun zH=>?_);clear hK K;try simp only [za,Act.put]
 refine rtR 8 (fun K hK=>?_);go_simp;go_at_call 35;refine (vCheck_calls wp hmp2 (zcC e1_lens (by decide) 1) (HYc.out.ext hHd3) (lens_ofB _ HWL.out.1) HWL.out.2).mono ?_;rintro e wq ⟨rfl,hEq⟩;rw [HCH.out];have hHd9:Ext wc wq:=hHd3.trans hEq;go_simp;refine hK.out _ _ (hHd9) (fun zH=>?_);clear hK K;try simp only [za,Act.put]
 refine rtT 9 zH ?_;simp only [za,Act.put];refine rtT 10 zH ?_;simp only [za,Act.put];refine wpAnyH_done (by kernel_rfl) ?_ _;have hx9:Ext wc wq:=hHd9;clear zH;have q0:=fun W h=>s0 W (hx9.trans h)
 have q1:=fun W h=>s1 W (hx9.trans h)
 have q2:=fun W h=>s2 W (hx9.trans h)
 have q3:=fun W h=>s3 W (hx9.trans h)
 have q4:=fun W h=>s4 W (hx9.trans h)
 have q5:=fun W h=>s5 W (hx9.trans h)
 clear k0 k1 k2 k3 k4 k5 s0 s1 s2 s3 s4 s5 hxc;have HMq:=zh (HMc.out.below hx9);have HAq:=zh (HALL.out.trans hx9);clear hx9 HNc HYc HMc HALL hHd9;have hxw:Ext wq wq:=Ext.refl wq;have hxa:=zQ wq
 go_wp2_with fail
 refine (kadd3 wq HMq.out).mono ?_;rintro e wz ⟨rfl,hEz⟩;have HZ:=zh (HAq.out.trans hEz);clear hEz hxw hxa q0 q1 q2 q3 q4 q5
 go_wp2_with fail
 go_ret;exact ⟨rfl,HZ.out⟩
end Go.Proofs.YthbjngbhbbkkgaaGreat
namespace Go.Proofs.YthbjngbhbbkkgaaGreat
open Go.ChangeShapes Go.WideShapes Go.ChangeAt Go.RowKit
theorem spot_none {w:World} {a:Addr} {v:Value} (h:w.cell? a=some v):a.spot=none:=by
 unfold World.cell? at h
 split at h
 ·split at h
  ·cases h
  ·rename_i h1
   cases hs:a.spot
   ·rfl
   ·rw [hs] at h1;simp at h1
 ·cases h
theorem addr_at {a:Addr} (h:a.spot=none) (n:Nat):a.add n=⟨a.block,a.off+n,none⟩:=by
 obtain ⟨b,o,s⟩:=a;simp only at h;subst h;unfold Addr.add
 split
 ·rename_i h0;subst h0;rfl
 ·rfl
theorem chooseList {β:Type} {p:Nat→β→Prop}:∀(n:Nat),(∀i,i<n→∃b,p i b)→∃l:List β,l.length=n∧∀i b,l[i]?=some b→p i b
 | 0,_=>⟨[],rfl,fun i b h=>by simp at h⟩
 | n+1,h=>by
  obtain ⟨l,hl,h1⟩:=chooseList n (fun i hi=>h i (by omega));obtain ⟨b,hb⟩:=h n (by omega);refine ⟨l++[b],by simp [hl],fun i x hx=>?_⟩;rcases Nat.lt_or_ge i l.length with hi | hi
  ·rw [List.getElem?_append_left hi] at hx;exact h1 i x hx
  ·have hi2:i=l.length:=by
    rcases Nat.lt_or_ge i (l++[b]).length with h2 | h2
    ·simp at h2;omega
    ·rw [List.getElem?_eq_none h2] at hx;cases hx
   subst hi2;rw [List.getElem?_append_right (Nat.le_refl _),Nat.sub_self] at hx;have:b=x:=by simpa using hx
   subst this;rw [hl];exact hb
section
variable {H:Type} {enc:TypeId×Value→H} {w:World} {base:Nat} {held:Bool} {fuel:Nat} {cs:List Value} {x:DataW H×List MemPlace}
theorem sliceOpen {t e:TypeId} {sz:Nat} (ht:Tryz.prog.underlying t=some (.slice e)) (hsz:Tryz.prog.cellsOf e=sz) (h0:0<sz) (h:DataW.trod enc Tryz.prog w base (fun _=>true) held fuel t cs=some x):
  ∃A len c,cs=[.slice A len c]∧len≤c∧len≤9223372036854775807∧(0<len→∃b off,A=some ⟨b,off,none⟩∧∀i,i<len→∃(cl:List Value) (n:Nat) (y:DataW H×List MemPlace),cl.length=sz∧(∀j,j<sz→w.cell? ⟨b,off+(i*sz+j),none⟩=cl[j]?)∧DataW.trod enc Tryz.prog w base (fun _=>true) held n e cl=some y):=by
 rcases DataW.trod_slice ht h with ⟨rfl,_⟩ | ⟨a,len,cap,elems,rest,n,_,rfl,_,hb,hl,hm,hlen,hel,_,_⟩
 ·exact ⟨none,0,0,rfl,Nat.le_refl _,by decide,fun h=>by omega⟩
 ·refine ⟨some a,len,cap,rfl,hl,by unfold maxLen at hm;omega,fun hpos=>?_⟩
  have each:∀i,i<len→∃(cl:List Value) (y:DataW H×List MemPlace),w.cells? base (a.add (i*sz)) sz=some cl∧DataW.trod enc Tryz.prog w base (fun _=>true) held n e cl=some y:=fun i hi=>by
   have h1:=hel i hi;rw [hsz,List.getElem?_eq_getElem (by omega)] at h1;obtain ⟨cl,h2,h3⟩:=Option.bind_eq_some_iff.1 h1;exact ⟨cl,_,h2,h3⟩
  have hs:a.spot=none:=by
   obtain ⟨cl,y,h2,_⟩:=each 0 hpos;obtain ⟨_,h4,h5⟩:=World.cells?_some h2;have h6:=h5 0 h0;rw [List.getElem?_eq_getElem (by omega)] at h6;have h7:=spot_none h6;rw [Nat.zero_mul] at h7;unfold Addr.add at h7
   rwa [if_pos rfl,if_pos rfl] at h7
  refine ⟨a.block,a.off,?_,fun i hi=>?_⟩
  ·obtain ⟨b,o,s⟩:=a;simp only at hs;subst hs;rfl
  ·obtain ⟨cl,y,h2,h3⟩:=each i hi;obtain ⟨_,h4,h5⟩:=World.cells?_some h2;refine ⟨cl,n,y,h4,fun j hj=>?_,h3⟩;have h6:=h5 j hj;rw [addr_at hs,addr_at rfl] at h6;rw [←Nat.add_assoc];exact h6
theorem eachOpen {α:Type} {R:Value→α→Prop} {t e:TypeId} (ht:Tryz.prog.underlying t=some (.slice e)) (hsz:Tryz.prog.cellsOf e=1)
  (hR:∀n cl y,DataW.trod enc Tryz.prog w base (fun _=>true) held n e cl=some y→∃v a,cl=[v]∧R v a) (h:DataW.trod enc Tryz.prog w base (fun _=>true) held fuel t cs=some x):
  ∃v l,cs=[v]∧Each R w (fun _=>True) v l∧l.length≤9223372036854775807∧∀a∈l,∃u,R u a:=by
 obtain ⟨A,len,c,rfl,hlc,hlm,hel0⟩:=sliceOpen ht hsz (by omega) h;rcases Nat.eq_zero_or_pos len with rfl | hpos
 ·exact ⟨_,[],rfl,⟨[],⟨A,c,rfl,hlc,zY.nil _ _ _ _⟩,fun i y hy=>by simp at hy⟩,by simp,fun a ha=>by cases ha⟩
 ·obtain ⟨b,off,rfl,hel⟩:=hel0 hpos;clear hel0
  obtain ⟨l,hl,hp⟩:=chooseList (β:=Value×α) (p:=fun i va=>w.cell? ⟨b,off+i,none⟩=some va.1∧R va.1 va.2) len (fun i hi=>by
   obtain ⟨cl,n,y,h1,h2,h3⟩:=hel i hi;obtain ⟨v,a,rfl,hr⟩:=hR n cl y h3;have:=h2 0 (by omega);rw [Nat.mul_one,Nat.add_zero] at this;exact ⟨(v,a),this,hr⟩)
  refine ⟨_,l.map (·.2),rfl,⟨l.map (·.1),⟨_,c,by rw [List.length_map,hl],by rw [List.length_map,hl];exact hlc,by simp,fun _=>⟨b,off,rfl,trivial,fun j u hu=>?_⟩⟩,fun i y hy=>?_⟩,by rw [List.length_map,hl];exact hlm,fun a ha=>?_⟩
  ·rw [List.getElem?_map] at hu;obtain ⟨va,h1,rfl⟩:=Option.map_eq_some_iff.1 hu;exact (hp j va h1).1
  ·rw [List.getElem?_map] at hy;obtain ⟨va,h1,rfl⟩:=Option.map_eq_some_iff.1 hy;exact ⟨va.1,by rw [List.getElem?_map,h1];rfl,(hp i va h1).2⟩
  ·obtain ⟨va,h1,rfl⟩:=List.mem_map.1 ha;obtain ⟨i,hi,rfl⟩:=List.getElem_of_mem h1;exact ⟨_,(hp i _ (List.getElem?_eq_getElem hi)).2⟩
theorem row_of_each {α:Type} {f:α→Value} {v:Value} {l:List α} (h:Each (fun u a=>u=f a) w (fun _=>True) v l):Row w (fun _=>True) 1 v l.length (l.map f):=by
 obtain ⟨vs,hr,he⟩:=h
 have:vs=l.map f:=by
  have hlen:=hr;obtain ⟨A,c,_,_,hA⟩:=hlen;have hl:vs.length=l.length:=by have:=hA.1;omega
  refine List.ext_getElem? fun i=>?_
  rcases Nat.lt_or_ge i l.length with hi | hi
  ·obtain ⟨u,hu,hr⟩:=he i _ (List.getElem?_eq_getElem hi);rw [hu,List.getElem?_map,List.getElem?_eq_getElem hi,hr];rfl
  ·rw [List.getElem?_eq_none (by omega),List.getElem?_eq_none (by simp;omega)]
 rw [←this];exact hr
theorem intsOpen (h:DataW.trod enc Tryz.prog w base (fun _=>true) held fuel 23 cs=some x):∃v l,cs=[v]∧zf w (fun _=>True) v l∧l.length≤9223372036854775807:=by
 obtain ⟨v,l,rfl,he,hl,_⟩:=eachOpen (R:=fun u a=>u=Value.int .i64 a) Tryz.underlying23 (by kernel_rfl) (fun n cl y hy=>by
  obtain ⟨k,rfl,_,_⟩:=DataW.trod_int Tryz.underlying3 hy;exact ⟨_,k,rfl,rfl⟩) h
 exact ⟨v,l,rfl,row_of_each he,hl⟩
theorem intssOpen (h:DataW.trod enc Tryz.prog w base (fun _=>true) held fuel 22 cs=some x):∃v l,cs=[v]∧zo w (fun _=>True) v l∧l.length≤9223372036854775807∧∀a∈l,a.length≤9223372036854775807:=by
 obtain ⟨v,l,rfl,he,hl,hin⟩:=eachOpen (R:=fun u a=>zf w (fun _=>True) u a∧a.length≤9223372036854775807) Tryz.underlying22 (by kernel_rfl) (fun n cl y hy=>by
  obtain ⟨v,l,rfl,h1,h2⟩:=intsOpen hy;exact ⟨v,l,rfl,h1,h2⟩) h
 obtain ⟨vs,hr,he2⟩:=he
 exact ⟨v,l,rfl,⟨vs,hr,fun i y hy=>by
  obtain ⟨u,h1,h2,_⟩:=he2 i y hy;exact ⟨u,h1,h2⟩⟩,hl,fun a ha=>by obtain ⟨u,h⟩:=hin a ha;exact h.2⟩
theorem intOpen (h:DataW.trod enc Tryz.prog w base (fun _=>true) held fuel 3 cs=some x):∃n,cs=[.int .i64 n]∧-9223372036854775808≤n∧n≤9223372036854775807:=by
 obtain ⟨k,rfl,_,hw⟩:=DataW.trod_int Tryz.underlying3 h;refine ⟨k,rfl,?_⟩;have this:=hw;simp only [Lit.wf,IntKind.has,Bool.and_eq_true,decide_eq_true_eq] at this;have e1:IntKind.i64.min=-9223372036854775808:=rfl;have e2:IntKind.i64.max=9223372036854775807:=rfl;omega
theorem fieldOpen {t:TypeId} {fs:Array Field} (ht:Tryz.prog.underlying t=some (.struct fs)) (h:DataW.trod enc Tryz.prog w base (fun _=>true) held fuel t cs=some x):
  cs.length=Tryz.prog.cellsOf t∧∀(i ty off sz:Nat),(fs[i]?).map (fun f=>(f.type,f.offset))=some (ty,off)→Tryz.prog.cellsOf ty=sz→∃n y,DataW.trod enc Tryz.prog w base (fun _=>true) held n ty ((cs.drop off).take sz)=some y:=by
 obtain ⟨xs,n,_,_,hl,hxs,hf⟩:=DataW.trod_struct ht h;refine ⟨hl,fun i ty off sz hi hsz=>?_⟩;obtain ⟨f,hi,he⟩:=Option.map_eq_some_iff.1 hi;injection he with he1 he2;have h1:=hf i f hi;have h2:i<fs.size:=(Array.getElem?_eq_some_iff.1 hi).1;rw [List.getElem?_eq_getElem (by omega),he1,he2,hsz] at h1;exact ⟨n,_,h1⟩
theorem cellsT24:Tryz.prog.cellsOf 23=1:=by kernel_rfl
theorem cellsT22:Tryz.prog.cellsOf 22=1:=by kernel_rfl
theorem cellsT23:Tryz.prog.cellsOf 24=3:=by kernel_rfl
theorem cellsT3:Tryz.prog.cellsOf 3=1:=by kernel_rfl
theorem agg_of {v:Value} {l:List Value} (h:v.cells.toList=l) (h2:∃cs,v=.agg cs):v=.agg l.toArray:=by
 obtain ⟨cs,rfl⟩:=h2;subst h;rfl
end
theorem cellsK6:Tryz.prog.cellsOf 26=6:=by kernel_rfl
theorem cellsKu8:Tryz.prog.cellsOf 5=1:=by kernel_rfl
theorem len6 {α:Type} {l:List α} (h:l.length=6):∃a b c d e f,l=[a,b,c,d,e,f]:=by
 match l,h with
 | [a,b,c,d,e,f],_=>exact ⟨a,b,c,d,e,f,rfl⟩
theorem case31Agg {W:World} {b:Nat} {v:Value} (h:Value.okWide Tryz.prog W .any b 26 v):∃cs,v=.agg cs:=by
 unfold Value.okWide at h;rw [Tryz.underlying26] at h;obtain ⟨cs,h,_⟩:=h;exact ⟨cs,h⟩
section
variable {H:Type} {enc:TypeId×Value→H} {w:World} {base:Nat} {held:Bool} {fuel:Nat} {cs:List Value} {x:DataW H×List MemPlace}
theorem u8Open (h:DataW.trod enc Tryz.prog w base (fun _=>true) held fuel 5 cs=some x):∃n:Nat,cs=[.int .u8 n]∧n<256:=by
 obtain ⟨k,rfl,_,hw⟩:=DataW.trod_int Tryz.underlying5 h;have this:=hw;simp only [Lit.wf,IntKind.has,Bool.and_eq_true,decide_eq_true_eq] at this;have e1:IntKind.u8.min=0:=rfl;have e2:IntKind.u8.max=255:=rfl;exact ⟨k.toNat,by rw [Int.toNat_of_nonneg (by omega)],by omega⟩
theorem case31Open {v:Value} {d:DataW H} {p:List MemPlace} (h:DataW.Trod enc Tryz.prog w base (fun _=>true) held 26 v d p) (hv:∃cs,v=.agg cs):
  ∃v0 v1 o0 o1 o2 ls ns,∃tk:Nat,v=.agg #[v0,v1,.int .i64 o0,.int .i64 o1,.int .i64 o2,.int .u8 tk]∧zo w (fun _=>True) v0 ls∧ls.length≤9223372036854775807∧(∀l∈ls,l.length≤9223372036854775807)∧
   zf w (fun _=>True) v1 ns∧ns.length≤9223372036854775807∧tk<256∧(-9223372036854775808≤o0∧o0≤9223372036854775807)∧(-9223372036854775808≤o1∧o1≤9223372036854775807)∧(-9223372036854775808≤o2∧o2≤9223372036854775807):=by
 obtain ⟨fuel,h⟩:=h;obtain ⟨hl,hf⟩:=fieldOpen Tryz.underlying26 h;rw [cellsK6] at hl;obtain ⟨c0,c1,c2,c3,c4,c5,hc⟩:=len6 hl;have hva:=agg_of hc hv;rw [hc] at hf;obtain ⟨n0,y0,h0⟩:=hf 0 _ _ _ rfl cellsT22;obtain ⟨n1,y1,h1⟩:=hf 1 _ _ _ rfl cellsT24;obtain ⟨n2,y2,h2⟩:=hf 2 _ _ _ rfl cellsT23;obtain ⟨n3,y3,h3⟩:=hf 3 _ _ _ rfl cellsKu8;have h0:DataW.trod enc Tryz.prog w base (fun _=>true) held n0 22 [c0]=some y0:=h0;have h1:DataW.trod enc Tryz.prog w base (fun _=>true) held n1 23 [c1]=some y1:=h1;have h2:DataW.trod enc Tryz.prog w base (fun _=>true) held n2 24 [c2,c3,c4]=some y2:=h2;have h3:DataW.trod enc Tryz.prog w base (fun _=>true) held n3 5 [c5]=some y3:=h3;obtain ⟨v0,ls,e0,i0,i1,i2⟩:=intssOpen h0;injection e0 with e0;subst e0;obtain ⟨v1,ns,e1,i3,i4⟩:=intsOpen h1;injection e1 with e1;subst e1;obtain ⟨tk,e5,i5⟩:=u8Open h3;injection e5 with e5;subst e5;obtain ⟨xs,m,_,_,hl1,hxl,hx⟩:=DataW.trod_array Tryz.underlying24 h2;rw [cellsT3] at hx;have a0:=hx 0 (by omega);have a1:=hx 1 (by omega);have a2:=hx 2 (by omega);rw [List.getElem?_eq_getElem (by omega)] at a0 a1 a2;have a0:DataW.trod enc Tryz.prog w base (fun _=>true) held m 3 [c2]=_:=a0;have a1:DataW.trod enc Tryz.prog w base (fun _=>true) held m 3 [c3]=_:=a1;have a2:DataW.trod enc Tryz.prog w base (fun _=>true) held m 3 [c4]=_:=a2;obtain ⟨o0,e0,b0⟩:=intOpen a0;obtain ⟨o1,e1,b1⟩:=intOpen a1;obtain ⟨o2,e2,b2⟩:=intOpen a2;injection e0 with e0;injection e1 with e1;injection e2 with e2;subst e0 e1 e2;exact ⟨_,_,o0,o1,o2,ls,ns,tk,hva,i0,i1,i2,i3,i4,i5,b0,b1,b2⟩
end
end Go.Proofs.YthbjngbhbbkkgaaGreat
