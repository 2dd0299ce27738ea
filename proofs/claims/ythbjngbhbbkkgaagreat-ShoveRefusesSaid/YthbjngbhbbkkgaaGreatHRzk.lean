import Derived.Test.YthbjngbhbbkkgaaGreatHRzj
import Derived.ProofKit
import Derived.OpenShut
set_option linter.unusedVariables false
set_option linter.unusedSimpArgs false
set_option maxRecDepth 100000
set_option maxHeartbeats 16000000
namespace Go.Proofs.YthbjngbhbbkkgaaGreat
variable {t:Int} {ps:List (List Int)} {a:List Int} {m:MZ} {g:Nat} {ok:Nat->Prop} {p:PT} {v v1:Value}
section
open Go.RowKit
attribute [local go_sem ↓] Go.wp_at_zero Go.wp_at_succ
attribute [local go_sem] Oper.semAt_some
theorem pathsO_nil (o:AO m=0):zq m []=[]:=by
 unfold zq;rw [if_pos (okC_of o zx.nil)];rw [List.filter_eq_nil_iff];intro x z;have h1:=(zx.nil (m:=m)).psOk;have h3:=flat_le z;rw [h1.fl] at h3;have:x.length=0:=by simpa using h3
 simp [this]
theorem curT_nil (o:AO m=0):zR m []=0:=by
 unfold zR;rw [pathsO_nil o];rfl
theorem vCheck_calls {okp:Nat->Prop} {vp:Value} (w:World) (hm:zw w ok v m) (hl:Lens m) (hp:Dz w okp vp p) (a0:p.Lens) (b0:p.size<=4000000000000000000):
  Calls Tryz.prog 35 #[v,vp] w fun e w'=>e=.returned (.bool (BD m p))/\zb w w':=by
 have HM:=zh hm;have HL:=zh hl;have HP:=zh hp;have O:=zh a0;have Q:=zh b0;obtain ⟨Af,cf,Au,cu,At,ct,rfl,-,-,-⟩:=hm.parts;obtain ⟨As,cs,Ak,ck,rfl,-⟩:=hp.form;have b7:=hl.ts;clear hm hl hp a0;obtain ⟨R,hR⟩:=zad (BD m p);rw [<-hR];have HR:=zh hR;clear hR
 go_enter Tryz.func35,Tryz.ntmps35
 go_upto_region 1 with fail;obtain ⟨J,r0,r1,r2,r3,r4,r5⟩:=box6 w (.int .i64 m.w) (.int .i64 m.h) (.int .i64 m.l) (.slice Af m.free.length cf) (.slice Au m.up.length cu) (.slice At m.tasks.length ct);have L:(w.alloc (.cells #[.int .i64 m.w,.int .i64 m.h,.int .i64 m.l,.slice Af m.free.length cf,.slice Au m.up.length cu,.slice At m.tasks.length ct] 32)).heap.size=w.heap.size+1:=by simp
 generalize w.alloc _=w0 at J r0 r1 r2 r3 r4 r5 L⊢;obtain ⟨G,p0,p1,p2⟩:=box3 w0 (.int .i64 p.task) (.slice As p.side.length cs) (.slice Ak p.kids.length ck);generalize w0.alloc _=w1 at G p0 p1 p2⊢;rw [L] at p0 p1 p2;obtain ⟨gm,V⟩:=zad w.heap.size;rw [<-V] at r0 r1 r2 r3 r4 r5 p0 p1 p2⊢;have B:=zh G;have o:=zh (J.trans G);have r0:=fun W h=>r0 W (B.out.trans h)
 have r1:=fun W h=>r1 W (B.out.trans h)
 have r2:=fun W h=>r2 W (B.out.trans h)
 have r3:=fun W h=>r3 W (B.out.trans h)
 have r4:=fun W h=>r4 W (B.out.trans h)
 have r5:=fun W h=>r5 W (B.out.trans h)
 clear V J G L;have E:zb w1 w1:=zb.refl w1
 go_wp2_with fail
 refine (Db w1 (HM.out.below o.out) HL.out).mono ?_;rintro e w2 ⟨rfl,T⟩;clear E;have E:zb w1 w2:=T;obtain ⟨ck0,D⟩:∃c,c=AO m:=⟨_,rfl⟩;rw [<-D];have M:=zh D;clear T D;by_cases h0:ck0=0
 ·subst h0;have HC:Hid (AO m=0):=M.out.symm;by_cases h1:0<m.tasks.length
  ·have a4:(0:Int)<(m.tasks.length:Int):=by omega
   have a3:Hid (¬ m.tasks.length<=zR m []):=by (show ¬ _);rw [curT_nil HC.out];omega
   go_wp2_with fail
   refine (vsize_calls 4000000000000000000 w2 (HP.out.ext (o.out.trans E)) Q.out O.out (EG _)).mono ?_;rintro e w3 ⟨rfl,U⟩;have E:zb w1 w3:=E.trans U;obtain ⟨z,hz⟩:=zad p.size;rw [<-hz];have HZ:=zh hz;clear hz U;by_cases h2:z<=3000
   ·have a6:(z:Int)<=3000:=by omega
    go_wp2_with fail
    refine (vholds_calls HL.out HC.out 4000000000000000000 _ _ _ _ _ _ _ _ w3 (HM.out.below (o.out.trans E)) (zj.nil _ (fun _=>True)) zx.nil a3.out (HP.out.ext (o.out.trans E)) Q.out O.out).mono ?_;rintro e w4 ⟨rfl,a7⟩;have I:Hid (R=Bl m p []):=by (show _=_);rw [HR.out];unfold BD;rw [EJ HC.out,EJ h1,<-HZ.out,EJ h2];rfl
    go_wp2_with fail
    go_ret;exact ⟨ze I.out.symm,(o.out.trans E).trans a7⟩
   ·have a6:¬ ((z:Int)<=3000):=by omega
    have I:Hid (R=false):=by (show _=_);rw [HR.out];unfold BD;rw [<-HZ.out,EK h2];simp
    go_wp2_with fail
    go_ret;exact ⟨ze I.out.symm,o.out.trans E⟩
  ·have a4:¬ ((0:Int)<(m.tasks.length:Int)):=by omega
   have a5:m.tasks.length=0:=by omega
   have I:Hid (R=false):=by (show _=_);rw [HR.out];unfold BD;rw [EK h1];simp
   clear a5
   go_wp2_with fail
   go_ret;exact ⟨ze I.out.symm,o.out.trans E⟩
 ·have b6:(ck0==0)=false:=by rw [ET];exact h0
  have I:Hid (R=false):=by (show _=_);rw [HR.out];unfold BD;rw [EK (by rw [<-M.out];exact h0)];rfl
  clear h0
  go_wp2_with fail
  go_ret;exact ⟨ze I.out.symm,o.out.trans E⟩
end
section
open Go.RowKit
mutual
def lensB:PT->Bool
 | .node _ s ks=>decide (s.length<=20000000000000) && (decide (ks.length<=20000000000000) && lensLB ks)
def lensLB:List PT->Bool
 | []=>true
 | k :: ks=>lensB k && lensLB ks
end
mutual
theorem lens_ofB:∀(p:PT),lensB p=true->p.Lens
 | .node _ s ks,h=>by
  unfold lensB at h;simp only [ES,EQ] at h;unfold PT.Lens;exact ⟨h.1,h.2.1,lensL_ofB ks h.2.2⟩
theorem lensL_ofB:∀(ks:List PT),lensLB ks=true->PT.LensL ks
 | [],_=>by unfold PT.LensL;exact True.intro
 | k :: ks,h=>by
  unfold lensLB at h;simp only [ES] at h;unfold PT.LensL;exact ⟨lens_ofB k h.1,lensL_ofB ks h.2⟩
end
def e1:MZ:=exN [(0,2),(1,7),(6,8)]
def e2:MZ:=exN [(3,5),(1,7),(6,8)]
theorem e1_chk:AO e1=0:=by decide +kernel
theorem e2_chk:AO e2=0:=by decide +kernel
theorem e1_path:BM e1 0 []=some [0,1,2]:=by decide +kernel
theorem e1_path2:BM e1 0 [[1]]=some [0,3,6,7,8,5,2]:=by decide +kernel
theorem e1_add:(addX e1 [[0,1,2],[],[]] 2).err=0/\(addX e1 [[0,1,2],[],[]] 2).ps=[[0,1,2],[],[6,7,8]]/\(addX e1 [[0,1,2],[],[]] 2).mv=[]:=by decide +kernel
theorem e2_add:(addX e2 [[],[],[6,7,8]] 0).err=0/\(addX e2 [[],[],[6,7,8]] 0).ps=[[3,0,1,2,5],[],[6,7,8]]/\(addX e2 [[],[],[6,7,8]] 0).mv=[]:=by decide +kernel
theorem e2_add2:(addX e2 [[3,6,7,8,5],[],[]] 2).err=0/\(addX e2 [[3,6,7,8,5],[],[]] 2).ps=[[3,0,1,2,5],[],[6,7,8]]/\(addX e2 [[3,6,7,8,5],[],[]] 2).mv=[0]:=by decide +kernel
theorem e1_ref:(addX e1 [[0,1,2],[],[]] 1).err=54/\BD (Bx e1 [[0,1,2],[],[]] 1) (addX e1 [[0,1,2],[],[]] 1).why=true:=by decide +kernel
theorem e1_why:lensB (addX e1 [[0,1,2],[],[]] 1).why=true/\(addX e1 [[0,1,2],[],[]] 1).why.size<=4000000000000000000:=by decide +kernel
theorem e1_laid:(By e1 [[0,1,2],[],[]] && AM e1 1)=true:=by decide +kernel
end
section
open Go.RowKit
attribute [local go_sem ↓] Go.wp_at_zero Go.wp_at_succ
theorem intss3 {w:World} {v2 v3:Value} {b c:List Int} (z:zk w g 23 #[v1,v2,v3]) (B:ok g) (h1:zj w ok v1 a) (h2:zj w ok v2 b) (h3:zj w ok v3 c):zv w ok (.slice (some ⟨g,0,none⟩) 3 3) [a,b,c]:=by
 refine ⟨[v1,v2,v3],⟨_,_,rfl,EG _,Ae.block (cs:=#[v1,v2,v3]) z B rfl⟩,fun i x o=>?_⟩
 match i,o with
 | 0,o=>(injection o with o;subst o;exact ⟨_,rfl,h1⟩)
 | 1,o=>(injection o with o;subst o;exact ⟨_,rfl,h2⟩)
 | 2,o=>(injection o with o;subst o;exact ⟨_,rfl,h3⟩)
 | k+3,o=>cases o
theorem intss1 {w:World} (z:zk w g 23 #[v1]) (B:ok g) (h1:zj w ok v1 a):zv w ok (.slice (some ⟨g,0,none⟩) 1 1) [a]:=by
 refine ⟨[v1],⟨_,_,rfl,EG _,Ae.block (cs:=#[v1]) z B rfl⟩,fun i x o=>?_⟩
 match i,o with
 | 0,o=>(injection o with o;subst o;exact ⟨_,rfl,h1⟩)
 | k+1,o=>cases o
theorem e1_lens:Lens e1:=⟨by decide,by decide,by decide,by decide⟩
theorem e2_lens:Lens e2:=⟨by decide,by decide,by decide,by decide⟩
def wK1 (w:World):World:=(((((w.alloc (.cells #[.int .i64 0,.int .i64 1,.int .i64 2] 3)).alloc (.cells #[.slice (some ⟨w.heap.size,0,none⟩) 3 3,.slice none 0 0,.slice none 0 0] 23)).alloc (.cells #[.int .i64 0,.int .i64 1,.int .i64 2] 3)).alloc (.cells #[.int .i64 6,.int .i64 7,.int .i64 8] 3)).alloc (.cells #[.slice (some ⟨w.heap.size+1+1,0,none⟩) 3 3,.slice none 0 0,.slice (some ⟨w.heap.size+1+1+1,0,none⟩) 3 3] 23))
theorem kadd1 (w:World) (D:zw w ok v e1):Calls Tryz.prog 34 #[v,.slice (some ⟨w.heap.size+1,0,none⟩) 3 3,.int .i64 2,.slice (some ⟨w.heap.size+1+1+1+1,0,none⟩) 3 3,.slice none 0 0] (wK1 w) fun e w'=>e=.returned (.bool true)/\zb w w':=by
 have B:zb w (wK1 w):=(((((zb.refl _).alloc _).alloc _).alloc _).alloc _).alloc _;have E:zv (wK1 w) (fun _=>True) (.slice (some ⟨w.heap.size+1,0,none⟩) 3 3) [[0,1,2],[],[]]:=(intss3 (zk.ext (zk.new _ _ _ (by simp)) ((((zb.refl _).alloc _).alloc _).alloc _)) trivial ⟨_,_,rfl,EG _,Ae.block (cs:=#[.int .i64 0,.int .i64 1,.int .i64 2]) (zk.ext (zk.new _ _ _ (by simp)) (((((zb.refl _).alloc _).alloc _).alloc _).alloc _)) trivial rfl⟩ (zj.nil _ _) (zj.nil _ _));have I:zv (wK1 w) (fun _=>True) (.slice (some ⟨w.heap.size+1+1+1+1,0,none⟩) 3 3) [[0,1,2],[],[6,7,8]]:=(intss3 (zk.ext (zk.new _ _ _ (by simp)) (zb.refl _)) trivial ⟨_,_,rfl,EG _,Ae.block (cs:=#[.int .i64 0,.int .i64 1,.int .i64 2]) (zk.ext (zk.new _ _ _ (by simp)) (((zb.refl _).alloc _).alloc _)) trivial rfl⟩ (zj.nil _ _) ⟨_,_,rfl,EG _,Ae.block (cs:=#[.int .i64 6,.int .i64 7,.int .i64 8]) (zk.ext (zk.new _ _ _ (by simp)) ((zb.refl _).alloc _)) trivial rfl⟩);have G:zj (wK1 w) (fun _=>True) (.slice none 0 0) []:=(zj.nil _ _);have h:=Ej 2 _ (D.below B) e1_lens E (by decide) (by decide) I (by decide) (by decide) G (by decide);rw [add_x (zC.of e1_chk).dim] at h;obtain ⟨h1,h2,h3⟩:=e1_add;have z:=h (by rw [h2];decide) (by rw [h2];decide) (by rw [h3];decide);rw [h1,h2,h3] at z;refine z.mono ?_;rintro e w' ⟨rfl,o⟩;exact ⟨rfl,B.trans o⟩
def wK2 (w:World):World:=(((((w.alloc (.cells #[.int .i64 6,.int .i64 7,.int .i64 8] 3)).alloc (.cells #[.slice none 0 0,.slice none 0 0,.slice (some ⟨w.heap.size,0,none⟩) 3 3] 23)).alloc (.cells #[.int .i64 3,.int .i64 0,.int .i64 1,.int .i64 2,.int .i64 5] 3)).alloc (.cells #[.int .i64 6,.int .i64 7,.int .i64 8] 3)).alloc (.cells #[.slice (some ⟨w.heap.size+1+1,0,none⟩) 5 5,.slice none 0 0,.slice (some ⟨w.heap.size+1+1+1,0,none⟩) 3 3] 23))
theorem kadd2 (w:World) (D:zw w ok v e2):Calls Tryz.prog 34 #[v,.slice (some ⟨w.heap.size+1,0,none⟩) 3 3,.int .i64 0,.slice (some ⟨w.heap.size+1+1+1+1,0,none⟩) 3 3,.slice none 0 0] (wK2 w) fun e w'=>e=.returned (.bool true)/\zb w w':=by
 have B:zb w (wK2 w):=(((((zb.refl _).alloc _).alloc _).alloc _).alloc _).alloc _;have E:zv (wK2 w) (fun _=>True) (.slice (some ⟨w.heap.size+1,0,none⟩) 3 3) [[],[],[6,7,8]]:=(intss3 (zk.ext (zk.new _ _ _ (by simp)) ((((zb.refl _).alloc _).alloc _).alloc _)) trivial (zj.nil _ _) (zj.nil _ _) ⟨_,_,rfl,EG _,Ae.block (cs:=#[.int .i64 6,.int .i64 7,.int .i64 8]) (zk.ext (zk.new _ _ _ (by simp)) (((((zb.refl _).alloc _).alloc _).alloc _).alloc _)) trivial rfl⟩);have I:zv (wK2 w) (fun _=>True) (.slice (some ⟨w.heap.size+1+1+1+1,0,none⟩) 3 3) [[3,0,1,2,5],[],[6,7,8]]:=(intss3 (zk.ext (zk.new _ _ _ (by simp)) (zb.refl _)) trivial ⟨_,_,rfl,EG _,Ae.block (cs:=#[.int .i64 3,.int .i64 0,.int .i64 1,.int .i64 2,.int .i64 5]) (zk.ext (zk.new _ _ _ (by simp)) (((zb.refl _).alloc _).alloc _)) trivial rfl⟩ (zj.nil _ _) ⟨_,_,rfl,EG _,Ae.block (cs:=#[.int .i64 6,.int .i64 7,.int .i64 8]) (zk.ext (zk.new _ _ _ (by simp)) ((zb.refl _).alloc _)) trivial rfl⟩);have G:zj (wK2 w) (fun _=>True) (.slice none 0 0) []:=(zj.nil _ _);have h:=Ej 0 _ (D.below B) e2_lens E (by decide) (by decide) I (by decide) (by decide) G (by decide);rw [add_x (zC.of e2_chk).dim] at h;obtain ⟨h1,h2,h3⟩:=e2_add;have z:=h (by rw [h2];decide) (by rw [h2];decide) (by rw [h3];decide);rw [h1,h2,h3] at z;refine z.mono ?_;rintro e w' ⟨rfl,o⟩;exact ⟨rfl,B.trans o⟩
def wK3 (w:World):World:=((((((w.alloc (.cells #[.int .i64 3,.int .i64 6,.int .i64 7,.int .i64 8,.int .i64 5] 3)).alloc (.cells #[.slice (some ⟨w.heap.size,0,none⟩) 5 5,.slice none 0 0,.slice none 0 0] 23)).alloc (.cells #[.int .i64 3,.int .i64 0,.int .i64 1,.int .i64 2,.int .i64 5] 3)).alloc (.cells #[.int .i64 6,.int .i64 7,.int .i64 8] 3)).alloc (.cells #[.slice (some ⟨w.heap.size+1+1,0,none⟩) 5 5,.slice none 0 0,.slice (some ⟨w.heap.size+1+1+1,0,none⟩) 3 3] 23)).alloc (.cells #[.int .i64 0] 3))
theorem kadd3 (w:World) (D:zw w ok v e2):Calls Tryz.prog 34 #[v,.slice (some ⟨w.heap.size+1,0,none⟩) 3 3,.int .i64 2,.slice (some ⟨w.heap.size+1+1+1+1,0,none⟩) 3 3,.slice (some ⟨w.heap.size+1+1+1+1+1,0,none⟩) 1 1] (wK3 w) fun e w'=>e=.returned (.bool true)/\zb w w':=by
 have B:zb w (wK3 w):=((((((zb.refl _).alloc _).alloc _).alloc _).alloc _).alloc _).alloc _;have E:zv (wK3 w) (fun _=>True) (.slice (some ⟨w.heap.size+1,0,none⟩) 3 3) [[3,6,7,8,5],[],[]]:=(intss3 (zk.ext (zk.new _ _ _ (by simp)) (((((zb.refl _).alloc _).alloc _).alloc _).alloc _)) trivial ⟨_,_,rfl,EG _,Ae.block (cs:=#[.int .i64 3,.int .i64 6,.int .i64 7,.int .i64 8,.int .i64 5]) (zk.ext (zk.new _ _ _ (by simp)) ((((((zb.refl _).alloc _).alloc _).alloc _).alloc _).alloc _)) trivial rfl⟩ (zj.nil _ _) (zj.nil _ _));have I:zv (wK3 w) (fun _=>True) (.slice (some ⟨w.heap.size+1+1+1+1,0,none⟩) 3 3) [[3,0,1,2,5],[],[6,7,8]]:=(intss3 (zk.ext (zk.new _ _ _ (by simp)) ((zb.refl _).alloc _)) trivial ⟨_,_,rfl,EG _,Ae.block (cs:=#[.int .i64 3,.int .i64 0,.int .i64 1,.int .i64 2,.int .i64 5]) (zk.ext (zk.new _ _ _ (by simp)) ((((zb.refl _).alloc _).alloc _).alloc _)) trivial rfl⟩ (zj.nil _ _) ⟨_,_,rfl,EG _,Ae.block (cs:=#[.int .i64 6,.int .i64 7,.int .i64 8]) (zk.ext (zk.new _ _ _ (by simp)) (((zb.refl _).alloc _).alloc _)) trivial rfl⟩);have G:zj (wK3 w) (fun _=>True) (.slice (some ⟨w.heap.size+1+1+1+1+1,0,none⟩) 1 1) [0]:=⟨_,_,rfl,EG _,Ae.block (cs:=#[.int .i64 0]) (zk.ext (zk.new _ _ _ (by simp)) (zb.refl _)) trivial rfl⟩;have h:=Ej 2 _ (D.below B) e2_lens E (by decide) (by decide) I (by decide) (by decide) G (by decide);rw [add_x (zC.of e2_chk).dim] at h;obtain ⟨h1,h2,h3⟩:=e2_add2;have z:=h (by rw [h2];decide) (by rw [h2];decide) (by rw [h3];decide);rw [h1,h2,h3] at z;refine z.mono ?_;rintro e w' ⟨rfl,o⟩;exact ⟨rfl,B.trans o⟩
theorem ex3_calls (a b c d e f:Int) (w:World):
  Calls Tryz.prog 33 #[.slice (some ⟨w.heap.size,0,none⟩) 3 3] (w.alloc (.cells #[.int .i64 a,.int .i64 b,.int .i64 c,.int .i64 d,.int .i64 e,.int .i64 f] 70)) fun e' w'=>∃v,e'=.returned v/\zb w w'/\zw w' (fun x=>w.heap.size<=x) v (exN [(a,b),(c,d),(e,f)]):=by
 refine (kexample_calls [(a,b),(c,d),(e,f)] w.heap.size _ (by simp) ?_).mono ?_
 ·intro k x o;have z:zk (w.alloc (.cells #[.int .i64 a,.int .i64 b,.int .i64 c,.int .i64 d,.int .i64 e,.int .i64 f] 70)) w.heap.size 70 _:=zk.new _ _ _ rfl
  match k,o with
  | 0,o=>(injection o with o;subst o;exact ⟨z.cell (k:=0) rfl,z.cell (k:=1) rfl⟩)
  | 1,o=>(injection o with o;subst o;exact ⟨z.cell (k:=2) rfl,z.cell (k:=3) rfl⟩)
  | 2,o=>(injection o with o;subst o;exact ⟨z.cell (k:=4) rfl,z.cell (k:=5) rfl⟩)
  | k+3,o=>cases o
 rintro e w1 ⟨v1,rfl,B,D⟩;exact ⟨v1,rfl,zb.trans ((zb.refl w).alloc _) B,D.weaken fun b z=>by simp at z;omega⟩
theorem ksanity_calls (w:World):
  Calls Tryz.prog 8 #[] w fun e w'=>e=.returned (.bool true)/\zb w w':=by
 go_enter Tryz.func8,Tryz.ntmps8
 go_wp2_with fail
 refine (ex3_calls 0 2 1 7 6 8 w).mono ?_;rintro e w1 ⟨v1,rfl,e9,e7⟩;have b0:Hid (zw w1 (fun b=>w.heap.size<=b) v1 e1):=e7;clear e7;obtain ⟨Af,cf,Au,cu,At,ct,rfl,-,-,-⟩:=b0.out.parts;go_upto_region 2 with fail;obtain ⟨a4,r0,r1,r2,r3,r4,r5⟩:=box6 w1 (.int .i64 e1.w) (.int .i64 e1.h) (.int .i64 e1.l) (.slice Af e1.free.length cf) (.slice Au e1.up.length cu) (.slice At e1.tasks.length ct);generalize w1.alloc _=w2 at a4 r0 r1 r2 r3 r4 r5⊢;obtain ⟨g1,f1⟩:∃g,g=w1.heap.size:=⟨_,rfl⟩;rw [<-f1] at r0 r1 r2 r3 r4 r5⊢;clear f1;have d7:Hid (zb w w2):=e9.trans a4;have c0:=zh (b0.out.below a4);clear e9 b0 a4
 go_wp2_with fail
 refine (ex3_calls 3 5 1 7 6 8 w2).mono ?_;rintro e w3 ⟨v3,rfl,Q,e8⟩;have b1:Hid (zw w3 (fun b=>w2.heap.size<=b) v3 e2):=e8;clear e8;obtain ⟨Bf,df,Bu,du,Bt,dt,rfl,-,-,-⟩:=b1.out.parts;go_upto_region 3 with fail;obtain ⟨O,s0,s1,s2,s3,s4,s5⟩:=box6 w3 (.int .i64 e2.w) (.int .i64 e2.h) (.int .i64 e2.l) (.slice Bf e2.free.length df) (.slice Bu e2.up.length du) (.slice Bt e2.tasks.length dt);generalize w3.alloc _=w4 at O s0 s1 s2 s3 s4 s5⊢;obtain ⟨g3,f2⟩:∃g,g=w3.heap.size:=⟨_,rfl⟩;rw [<-f2] at s0 s1 s2 s3 s4 s5⊢;clear f2;have b4:Hid (zb w2 w4):=Q.trans O;have g4:=zh (b1.out.below O);have c7:=zh (c0.out.below b4.out);have k0:=fun W h=>r0 W ((Q.trans O).trans h)
 have k1:=fun W h=>r1 W ((Q.trans O).trans h)
 have k2:=fun W h=>r2 W ((Q.trans O).trans h)
 have k3:=fun W h=>r3 W ((Q.trans O).trans h)
 have k4:=fun W h=>r4 W ((Q.trans O).trans h)
 have k5:=fun W h=>r5 W ((Q.trans O).trans h)
 clear r0 r1 r2 r3 r4 r5 Q O b1 c0;have i3:zb w4 w4:=zb.refl w4;have D:=zS w4
 go_wp2_with fail
 have hp:=path_calls 0 w4 c7.out e1_lens (CL w4 fun _=>True) (by simp) (by simp);rw [e1_path] at hp;refine hp.mono ?_;rintro e w5 ⟨u5,rfl,f4⟩;have T:Mk w4 w5 u5 [0,1,2]:=f4;clear hp f4;obtain ⟨Ap,cp,rfl,-⟩:=Bd T.own;have E:=zh T.ext;have h4:Hid (zj w5 (fun b=>w4.heap.size<=b) (.slice Ap ([0,1,2]:List Int).length cp) [0,1,2]):=AI.of_own T.own;clear T;have q0:=fun W h=>k0 W (E.out.trans h)
 have t0:=fun W h=>s0 W (E.out.trans h)
 have q1:=fun W h=>k1 W (E.out.trans h)
 have t1:=fun W h=>s1 W (E.out.trans h)
 have q2:=fun W h=>k2 W (E.out.trans h)
 have t2:=fun W h=>s2 W (E.out.trans h)
 have q3:=fun W h=>k3 W (E.out.trans h)
 have t3:=fun W h=>s3 W (E.out.trans h)
 have q4:=fun W h=>k4 W (E.out.trans h)
 have t4:=fun W h=>s4 W (E.out.trans h)
 have q5:=fun W h=>k5 W (E.out.trans h)
 have t5:=fun W h=>s5 W (E.out.trans h)
 clear k0 k1 k2 k3 k4 k5 s0 s1 s2 s3 s4 s5 i3 D;have g5:=zh (g4.out.below E.out);have c8:=zh (c7.out.below E.out);have i4:zb w5 w5:=zb.refl w5;have D:=zS w5;go_upto_region 4 with fail
 go_wp2_with fail
 have b5:zb w5 ((w5.alloc (.cells #[.int .i64 1] 3)).alloc (.cells #[.slice (some ⟨w5.heap.size,0,none⟩) 1 1] 23)):=((zb.refl _).alloc _).alloc _
 have f0:zv ((w5.alloc (.cells #[.int .i64 1] 3)).alloc (.cells #[.slice (some ⟨w5.heap.size,0,none⟩) 1 1] 23)) (fun _=>True) (.slice (some ⟨w5.heap.size+1,0,none⟩) 1 1) [[1]]:=
  intss1 (zk.new _ _ _ (by simp)) trivial ⟨_,_,rfl,EG _,Ae.block (cs:=#[.int .i64 1]) (zk.ext (zk.new w5 _ 3 rfl) ((zb.refl _).alloc _)) trivial rfl⟩
 have hp:=path_calls 0 _ (c8.out.below b5) e1_lens f0 (by simp) (by simp);rw [e1_path2] at hp;refine hp.mono ?_;rintro e w6 ⟨u6,rfl,f5⟩;have U:Mk _ w6 u6 [0,3,6,7,8,5,2]:=f5;clear hp f5;obtain ⟨Aq,cq,rfl,-⟩:=Bd U.own;have o:Hid (zb w5 w6):=b5.trans U.ext;have h6:Hid (zj w6 _ (.slice Aq ([0,3,6,7,8,5,2]:List Int).length cq) [0,3,6,7,8,5,2]):=AI.of_own U.own;clear U b5 f0;have k0:=fun W h=>q0 W (o.out.trans h)
 have s0:=fun W h=>t0 W (o.out.trans h)
 have k1:=fun W h=>q1 W (o.out.trans h)
 have s1:=fun W h=>t1 W (o.out.trans h)
 have k2:=fun W h=>q2 W (o.out.trans h)
 have s2:=fun W h=>t2 W (o.out.trans h)
 have k3:=fun W h=>q3 W (o.out.trans h)
 have s3:=fun W h=>t3 W (o.out.trans h)
 have k4:=fun W h=>q4 W (o.out.trans h)
 have s4:=fun W h=>t4 W (o.out.trans h)
 have k5:=fun W h=>q5 W (o.out.trans h)
 have s5:=fun W h=>t5 W (o.out.trans h)
 clear q0 q1 q2 q3 q4 q5 t0 t1 t2 t3 t4 t5 i4 D;have h5:=zh (h4.out.below o.out);have g6:=zh (g5.out.below o.out);have g9:=zh (c8.out.below o.out);have i5:zb w6 w6:=zb.refl w6;have D:=zS w6;go_upto_region 5 with fail
 go_wp2_with fail
 have e0:zj (w6.alloc (.cells #[.int .i64 0,.int .i64 1,.int .i64 2] 3)) (fun _=>True) (.slice (some ⟨w6.heap.size,0,none⟩) 3 3) [0,1,2]:=⟨_,_,rfl,EG _,Ae.block (cs:=#[.int .i64 0,.int .i64 1,.int .i64 2]) (zk.new w6 _ 3 rfl) trivial rfl⟩;refine (Ea _ (h5.out.below ((zb.refl w6).alloc _)) e0 (by simp) (by simp)).mono ?_;rintro e w7 ⟨rfl,hD⟩;have z:Hid (zb w6 w7):=zb.trans ((zb.refl w6).alloc _) (hD.below _);clear hD e0;rw [show decide (([0,1,2]:List Int)=[0,1,2])=true from rfl];have q0:=fun W h=>k0 W (z.out.trans h)
 have t0:=fun W h=>s0 W (z.out.trans h)
 have q1:=fun W h=>k1 W (z.out.trans h)
 have t1:=fun W h=>s1 W (z.out.trans h)
 have q2:=fun W h=>k2 W (z.out.trans h)
 have t2:=fun W h=>s2 W (z.out.trans h)
 have q3:=fun W h=>k3 W (z.out.trans h)
 have t3:=fun W h=>s3 W (z.out.trans h)
 have q4:=fun W h=>k4 W (z.out.trans h)
 have t4:=fun W h=>s4 W (z.out.trans h)
 have q5:=fun W h=>k5 W (z.out.trans h)
 have t5:=fun W h=>s5 W (z.out.trans h)
 clear k0 k1 k2 k3 k4 k5 s0 s1 s2 s3 s4 s5 i5 D;have i6:zb w7 w7:=zb.refl w7;have D:=zS w7
 go_wp2_with fail
 have e3:zj (w7.alloc (.cells #[.int .i64 0,.int .i64 3,.int .i64 6,.int .i64 7,.int .i64 8,.int .i64 5,.int .i64 2] 3)) (fun _=>True) (.slice (some ⟨w7.heap.size,0,none⟩) 7 7) [0,3,6,7,8,5,2]:=⟨_,_,rfl,EG _,Ae.block (cs:=#[.int .i64 0,.int .i64 3,.int .i64 6,.int .i64 7,.int .i64 8,.int .i64 5,.int .i64 2]) (zk.new w7 _ 3 rfl) trivial rfl⟩;refine (Ea _ (h6.out.below (z.out.trans ((zb.refl w7).alloc _))) e3 (by simp) (by simp)).mono ?_;rintro e w8 ⟨rfl,hD⟩;have G:Hid (zb w7 w8):=zb.trans ((zb.refl w7).alloc _) (hD.below _);clear hD e3;rw [show decide (([0,3,6,7,8,5,2]:List Int)=[0,3,6,7,8,5,2])=true from rfl];have k0:=fun W h=>q0 W (G.out.trans h)
 have s0:=fun W h=>t0 W (G.out.trans h)
 have k1:=fun W h=>q1 W (G.out.trans h)
 have s1:=fun W h=>t1 W (G.out.trans h)
 have k2:=fun W h=>q2 W (G.out.trans h)
 have s2:=fun W h=>t2 W (G.out.trans h)
 have k3:=fun W h=>q3 W (G.out.trans h)
 have s3:=fun W h=>t3 W (G.out.trans h)
 have k4:=fun W h=>q4 W (G.out.trans h)
 have s4:=fun W h=>t4 W (G.out.trans h)
 have k5:=fun W h=>q5 W (G.out.trans h)
 have s5:=fun W h=>t5 W (G.out.trans h)
 clear q0 q1 q2 q3 q4 q5 t0 t1 t2 t3 t4 t5 i6 D;have g7:=zh ((g6.out.below z.out).below G.out);have c9:=zh ((g9.out.below z.out).below G.out);have i7:zb w8 w8:=zb.refl w8;have D:=zS w8;go_upto_region 6 with fail
 go_wp2_with fail
 refine (kadd1 w8 c9.out).mono ?_;rintro e w9 ⟨rfl,hE⟩;have I:=zh hE;clear hE;have q0:=fun W h=>k0 W (I.out.trans h)
 have t0:=fun W h=>s0 W (I.out.trans h)
 have q1:=fun W h=>k1 W (I.out.trans h)
 have t1:=fun W h=>s1 W (I.out.trans h)
 have q2:=fun W h=>k2 W (I.out.trans h)
 have t2:=fun W h=>s2 W (I.out.trans h)
 have q3:=fun W h=>k3 W (I.out.trans h)
 have t3:=fun W h=>s3 W (I.out.trans h)
 have q4:=fun W h=>k4 W (I.out.trans h)
 have t4:=fun W h=>s4 W (I.out.trans h)
 have q5:=fun W h=>k5 W (I.out.trans h)
 have t5:=fun W h=>s5 W (I.out.trans h)
 clear k0 k1 k2 k3 k4 k5 s0 s1 s2 s3 s4 s5 i7 D;have b2:=zh (g7.out.below I.out);have d4:=zh (c9.out.below I.out);have M:zb w9 w9:=zb.refl w9;have D:=zS w9
 go_wp2_with fail
 refine (kadd2 w9 b2.out).mono ?_;rintro e wa ⟨rfl,hE⟩;have J:=zh hE;clear hE;have k0:=fun W h=>q0 W (J.out.trans h)
 have s0:=fun W h=>t0 W (J.out.trans h)
 have k1:=fun W h=>q1 W (J.out.trans h)
 have s1:=fun W h=>t1 W (J.out.trans h)
 have k2:=fun W h=>q2 W (J.out.trans h)
 have s2:=fun W h=>t2 W (J.out.trans h)
 have k3:=fun W h=>q3 W (J.out.trans h)
 have s3:=fun W h=>t3 W (J.out.trans h)
 have k4:=fun W h=>q4 W (J.out.trans h)
 have s4:=fun W h=>t4 W (J.out.trans h)
 have k5:=fun W h=>q5 W (J.out.trans h)
 have s5:=fun W h=>t5 W (J.out.trans h)
 clear q0 q1 q2 q3 q4 q5 t0 t1 t2 t3 t4 t5 M D;have c4:=zh (b2.out.below J.out);have b3:=zh (d4.out.below J.out);have a3:zb wa wa:=zb.refl wa;have D:=zS wa;go_upto_region 7 with fail
 go_wp2_with fail
 have b6:zb wa ((wa.alloc (.cells #[.int .i64 0,.int .i64 1,.int .i64 2] 3)).alloc (.cells #[.slice (some ⟨wa.heap.size,0,none⟩) 3 3,.slice none 0 0,.slice none 0 0] 23)):=((zb.refl _).alloc _).alloc _
 have hf:zv ((wa.alloc (.cells #[.int .i64 0,.int .i64 1,.int .i64 2] 3)).alloc (.cells #[.slice (some ⟨wa.heap.size,0,none⟩) 3 3,.slice none 0 0,.slice none 0 0] 23)) (fun _=>True) (.slice (some ⟨wa.heap.size+1,0,none⟩) 3 3) [[0,1,2],[],[]]:=
  intss3 (zk.new _ _ _ (by simp)) trivial ⟨_,_,rfl,EG _,Ae.block (cs:=#[.int .i64 0,.int .i64 1,.int .i64 2]) (zk.ext (zk.new wa _ _ rfl) ((zb.refl _).alloc _)) trivial rfl⟩ (zj.nil _ _) (zj.nil _ _)
 have hp:=hadd_calls 1 _ (b3.out.below b6) e1_lens hf (by decide) (by decide);rw [add_x (zC.of e1_chk).dim] at hp;refine hp.mono ?_;rintro e wb ⟨vp,vmm,vy,rfl,hE,f7,f6,a5⟩;rw [e1_ref.1];have b8:=e1_ref.2;have b9:=e1_why;generalize addX e1 [[0,1,2],[],[]] 1=r at f7 f6 a5 b8 b9;obtain ⟨As,cs,Ak,ck,rfl,-⟩:=a5.form;have L:=zh (b6.trans hE);have HY:=zh a5;have g0:=zh b8;have d8:=zh b9;clear hE hp hf b6 f7 f6 a5 b8 b9;have q0:=fun W h=>k0 W (L.out.trans h)
 have t0:=fun W h=>s0 W (L.out.trans h)
 have q1:=fun W h=>k1 W (L.out.trans h)
 have t1:=fun W h=>s1 W (L.out.trans h)
 have q2:=fun W h=>k2 W (L.out.trans h)
 have t2:=fun W h=>s2 W (L.out.trans h)
 have q3:=fun W h=>k3 W (L.out.trans h)
 have t3:=fun W h=>s3 W (L.out.trans h)
 have q4:=fun W h=>k4 W (L.out.trans h)
 have t4:=fun W h=>s4 W (L.out.trans h)
 have q5:=fun W h=>k5 W (L.out.trans h)
 have t5:=fun W h=>s5 W (L.out.trans h)
 clear k0 k1 k2 k3 k4 k5 s0 s1 s2 s3 s4 s5 a3 D;have c5:=zh (c4.out.below L.out);have d5:=zh (b3.out.below L.out);have a3:zb wb wb:=zb.refl wb;have D:=zS wb;go_upto_region 8 with fail;obtain ⟨b7,y0,y1,y2⟩:=box3 wb (.int .i64 r.why.task) (.slice As r.why.side.length cs) (.slice Ak r.why.kids.length ck);generalize wb.alloc _=wc at b7 y0 y1 y2⊢;obtain ⟨gw,f3⟩:∃g,g=wb.heap.size:=⟨_,rfl⟩;rw [<-f3] at y0 y1 y2⊢;clear f3;have B:=zh b7;clear b7;have k0:=fun W h=>q0 W (B.out.trans h)
 have s0:=fun W h=>t0 W (B.out.trans h)
 have k1:=fun W h=>q1 W (B.out.trans h)
 have s1:=fun W h=>t1 W (B.out.trans h)
 have k2:=fun W h=>q2 W (B.out.trans h)
 have s2:=fun W h=>t2 W (B.out.trans h)
 have k3:=fun W h=>q3 W (B.out.trans h)
 have s3:=fun W h=>t3 W (B.out.trans h)
 have k4:=fun W h=>q4 W (B.out.trans h)
 have s4:=fun W h=>t4 W (B.out.trans h)
 have k5:=fun W h=>q5 W (B.out.trans h)
 have s5:=fun W h=>t5 W (B.out.trans h)
 clear q0 q1 q2 q3 q4 q5 t0 t1 t2 t3 t4 t5 a3 D;have c6:=zh (c5.out.below B.out);have d6:=zh (d5.out.below B.out);have d9:=zh (HY.out.ext B.out)
 have h7:Hid (subO e1 [[0,1,2],[],[]] 1=Bx e1 [[0,1,2],[],[]] 1):=by
  (show _=_)
  unfold subO;rw [if_pos e1_laid];rfl
 have a6:Hid (zb w wc):=((((((((d7.out.trans b4.out).trans E.out).trans o.out).trans z.out).trans G.out).trans I.out).trans J.out).trans L.out).trans B.out;clear HY c5 d5 B L J c4 b3 b2 d4 I G z o E b4 d7;have f8:zb wc wc:=zb.refl wc;refine EW (S:=(fun W=>zb wc W)) Ag (f8.drew) fun zH=>?_;have e6:zb wc wc.drew:=zH;generalize wc.drew=wd at zH e6⊢;refine zf 0 zH ?_;refine zf 1 zH ?_;simp only [za,ED];refine zf 2 zH ?_;refine zf 3 zH ?_;simp only [za,ED];refine zf 7 zH ?_;simp only [za,ED];refine zE 4 fun K hK=>?_;go_simp;have a8:zb wc (wd.alloc (.cells #[.int .i64 0,.int .i64 1,.int .i64 2] 3)):=e6.alloc _;refine zae hK (a8) fun zH=>?_;clear hK K;try simp only [za,ED]
 refine zE 5 fun K hK=>?_;go_simp;have V:zb wc ((wd.alloc (.cells #[.int .i64 0,.int .i64 1,.int .i64 2] 3)).alloc (.cells #[.slice (some ⟨wd.heap.size,0,none⟩) 3 3,.slice none 0 0,.slice none 0 0] 23)):=a8.alloc _;refine zae hK (V) fun zH=>?_;clear hK K;try simp only [za,ED]
 refine zE 6 fun K hK=>?_;go_simp;go_at_call 15;obtain ⟨ns,i2⟩:=(d6.out.below V).nets;have i0:zv ((wd.alloc (.cells #[.int .i64 0,.int .i64 1,.int .i64 2] 3)).alloc (.cells #[.slice (some ⟨wd.heap.size,0,none⟩) 3 3,.slice none 0 0,.slice none 0 0] 23)) (fun _=>True) (.slice (some ⟨wd.heap.size+1,0,none⟩) 3 3) [[0,1,2],[],[]]:=intss3 (zk.new _ _ _ (by simp)) trivial ⟨_,_,rfl,EG _,Ae.block (cs:=#[.int .i64 0,.int .i64 1,.int .i64 2]) (zk.ext (zk.new wd _ _ rfl) ((zb.refl _).alloc _)) trivial rfl⟩ (zj.nil _ _) (zj.nil _ _);refine (sub_calls 1 _ i2 e1_lens i0 (by decide) (by decide)).mono ?_;rintro e wp ⟨vs,rfl,h8,i1⟩;have a9:=i1.maze;rw [h7.out] at a9;have a0:zb wc wp:=V.trans h8;go_simp;refine zae hK (a0) fun zH=>?_;clear hK K;try simp only [za,ED]
 refine zE 8 fun K hK=>?_;go_simp;go_at_call 35;refine (vCheck_calls wp a9 (subM_lens e1_lens (by decide) 1) (d9.out.ext a0) (lens_ofB _ d8.out.1) d8.out.2).mono ?_;rintro e wq ⟨rfl,h9⟩;rw [g0.out];have a1:zb wc wq:=a0.trans h9;go_simp;refine zae hK (a1) fun zH=>?_;clear hK K;try simp only [za,ED]
 refine zf 9 zH ?_;refine zf 10 zH ?_;simp only [za,ED];refine Fk (by kernel_rfl) ?_ _;have M:zb wc wq:=a1;clear zH;have q0:=fun W h=>s0 W (M.trans h)
 have q1:=fun W h=>s1 W (M.trans h)
 have q2:=fun W h=>s2 W (M.trans h)
 have q3:=fun W h=>s3 W (M.trans h)
 have q4:=fun W h=>s4 W (M.trans h)
 have q5:=fun W h=>s5 W (M.trans h)
 clear k0 k1 k2 k3 k4 k5 s0 s1 s2 s3 s4 s5 f8;have g8:=zh (c6.out.below M);have f9:=zh (a6.out.trans M);clear M d6 d9 c6 a6 a1;have a3:zb wq wq:=zb.refl wq;have D:=zS wq
 go_wp2_with fail
 refine (kadd3 wq g8.out).mono ?_;rintro e wz ⟨rfl,e5⟩;have HZ:=zh (f9.out.trans e5);clear e5 a3 D q0 q1 q2 q3 q4 q5
 go_wp2_with fail
 go_ret;exact ⟨rfl,HZ.out⟩
end
section
open Go.ChangeShapes Go.WideShapes Go.ChangeAt Go.RowKit
theorem spot_none {w:World} {a:Addr} (h:w.cell? a=some v):a.spot=none:=by
 unfold World.cell? at h
 split at h
 ·split at h
  ·cases h
  ·rename_i h1
   cases o:a.spot
   ·rfl
   ·rw [o] at h1;simp at h1
 ·cases h
theorem addr_at {a:Addr} (h:a.spot=none) (n:Nat):a.add n=⟨a.block,a.off+n,none⟩:=by
 obtain ⟨b,o,s⟩:=a;simp only at h;subst h;unfold Addr.add
 split
 ·rename_i h0;subst h0;rfl
 ·rfl
theorem chooseList {β:Type} {p:Nat->β->Prop}:∀(n:Nat),(∀i,i<n->∃b,p i b)->∃l:List β,l.length=n/\∀i b,l[i]?=some b->p i b
 | 0,_=>⟨[],rfl,fun i b h=>by simp at h⟩
 | n+1,h=>by
  obtain ⟨l,B,h1⟩:=chooseList n (fun i hi=>h i (by omega));obtain ⟨b,D⟩:=h n (by omega);refine ⟨l++[b],by simp [B],fun i x o=>?_⟩;rcases Fc i l.length with hi | hi
  ·rw [EL hi] at o;exact h1 i x o
  ·have z:i=l.length:=by
    rcases Fc i (l++[b]).length with h2 | h2
    ·simp at h2;omega
    ·rw [EZ h2] at o;cases o
   subst z;rw [EM (EG _),Nat.sub_self] at o;have:b=x:=by simpa using o
   subst this;rw [B];exact D
section
variable {H:Type} {enc:TypeId×Value->H} {w:World} {base:Nat} {held:Bool} {fuel:Nat} {cs:List Value} {x:DataW H×List MemPlace}
theorem sliceOpen {t e:TypeId} {sz:Nat} (U:Tryz.prog.underlying t=some (.slice e)) (L:Tryz.prog.cellsOf e=sz) (h0:0<sz) (h:DataW.trod enc Tryz.prog w base (fun _=>true) held fuel t cs=some x):
  ∃A len c,cs=[.slice A len c]/\len<=c/\len<=9223372036854775807/\(0<len->∃b off,A=some ⟨b,off,none⟩/\∀i,i<len->∃(cl:List Value) (n:Nat) (y:DataW H×List MemPlace),cl.length=sz/\(∀j,j<sz->w.cell? ⟨b,off+(i*sz+j),none⟩=cl[j]?)/\DataW.trod enc Tryz.prog w base (fun _=>true) held n e cl=some y):=by
 rcases DataW.trod_slice U h with ⟨rfl,_⟩ | ⟨a,len,cap,elems,rest,n,_,rfl,_,V,T,hm,O,G,_,_⟩
 ·exact ⟨none,0,0,rfl,EG _,by decide,fun h=>by omega⟩
 ·refine ⟨some a,len,cap,rfl,T,by unfold maxLen at hm;omega,fun B=>?_⟩
  have each:∀i,i<len->∃(cl:List Value) (y:DataW H×List MemPlace),w.cells? base (a.add (i*sz)) sz=some cl/\DataW.trod enc Tryz.prog w base (fun _=>true) held n e cl=some y:=fun i I=>by
   have h1:=G i I;rw [L,EE (by omega)] at h1;obtain ⟨cl,h2,h3⟩:=Option.bind_eq_some_iff.1 h1;exact ⟨cl,_,h2,h3⟩
  have J:a.spot=none:=by
   obtain ⟨cl,y,h2,_⟩:=each 0 B;obtain ⟨_,M,D⟩:=World.cells?_some h2;have z:=D 0 h0;rw [EE (by omega)] at z;have E:=spot_none z;rw [Nat.zero_mul] at E;unfold Addr.add at E
   rwa [if_pos rfl,if_pos rfl] at E
  refine ⟨a.block,a.off,?_,fun i I=>?_⟩
  ·obtain ⟨b,o,s⟩:=a;simp only at J;subst J;rfl
  ·obtain ⟨cl,y,h2,h3⟩:=each i I;obtain ⟨_,M,D⟩:=World.cells?_some h2;refine ⟨cl,n,y,M,fun j Q=>?_,h3⟩;have z:=D j Q;rw [addr_at J,addr_at rfl] at z;rw [<-Nat.add_assoc];exact z
theorem eachOpen {α:Type} {R:Value->α->Prop} {t e:TypeId} (T:Tryz.prog.underlying t=some (.slice e)) (L:Tryz.prog.cellsOf e=1)
  (O:∀n cl y,DataW.trod enc Tryz.prog w base (fun _=>true) held n e cl=some y->∃v a,cl=[v]/\R v a) (h:DataW.trod enc Tryz.prog w base (fun _=>true) held fuel t cs=some x):
  ∃v l,cs=[v]/\Each R w (fun _=>True) v l/\l.length<=9223372036854775807/\∀a∈l,∃u,R u a:=by
 obtain ⟨A,len,c,rfl,z,J,o⟩:=sliceOpen T L (by omega) h;rcases Fs len with rfl | hpos
 ·exact ⟨_,[],rfl,⟨[],⟨A,c,rfl,z,Ae.nil _ _ _ _⟩,fun i y B=>by simp at B⟩,by simp,fun a D=>by cases D⟩
 ·obtain ⟨b,off,rfl,E⟩:=o hpos;clear o
  obtain ⟨l,I,hp⟩:=chooseList (β:=Value×α) (p:=fun i va=>w.cell? ⟨b,off+i,none⟩=some va.1/\R va.1 va.2) len (fun i G=>by
   obtain ⟨cl,n,y,h1,h2,h3⟩:=E i G;obtain ⟨v,a,rfl,Q⟩:=O n cl y h3;have:=h2 0 (by omega);rw [Nat.mul_one,Nat.add_zero] at this;exact ⟨(v,a),this,Q⟩)
  refine ⟨_,l.map (·.2),rfl,⟨l.map (·.1),⟨_,c,by rw [Fr,I],by rw [Fr,I];exact z,by simp,fun _=>⟨b,off,rfl,trivial,fun j u M=>?_⟩⟩,fun i y B=>?_⟩,by rw [Fr,I];exact J,fun a D=>?_⟩
  ·rw [Fq] at M;obtain ⟨va,h1,rfl⟩:=Option.map_eq_some_iff.1 M;exact (hp j va h1).1
  ·rw [Fq] at B;obtain ⟨va,h1,rfl⟩:=Option.map_eq_some_iff.1 B;exact ⟨va.1,by rw [Fq,h1];rfl,(hp i va h1).2⟩
  ·obtain ⟨va,h1,rfl⟩:=FH.1 D;obtain ⟨i,G,rfl⟩:=Fm h1;exact ⟨_,(hp i _ (EE G)).2⟩
theorem row_of_each {α:Type} {f:α->Value} {l:List α} (h:Each (fun u a=>u=f a) w (fun _=>True) v l):AI w (fun _=>True) 1 v l.length (l.map f):=by
 obtain ⟨vs,z,he⟩:=h
 have:vs=l.map f:=by
  have o:=z;obtain ⟨A,c,_,_,hA⟩:=o;have D:vs.length=l.length:=by have:=hA.1;omega
  refine List.ext_getElem? fun i=>?_
  rcases Fc i l.length with hi | hi
  ·obtain ⟨u,B,z⟩:=he i _ (EE hi);rw [B,Fq,EE hi,z];rfl
  ·rw [EZ (by omega),EZ (by simp;omega)]
 rw [<-this];exact z
theorem intsOpen (h:DataW.trod enc Tryz.prog w base (fun _=>true) held fuel 23 cs=some x):∃v l,cs=[v]/\zj w (fun _=>True) v l/\l.length<=9223372036854775807:=by
 obtain ⟨v,l,rfl,he,o,_⟩:=eachOpen (R:=fun u a=>u=Value.int .i64 a) Tryz.underlying23 (by kernel_rfl) (fun n cl y z=>by
  obtain ⟨k,rfl,_,_⟩:=DataW.trod_int Tryz.underlying3 z;exact ⟨_,k,rfl,rfl⟩) h
 exact ⟨v,l,rfl,row_of_each he,o⟩
theorem intssOpen (h:DataW.trod enc Tryz.prog w base (fun _=>true) held fuel 22 cs=some x):∃v l,cs=[v]/\zv w (fun _=>True) v l/\l.length<=9223372036854775807/\∀a∈l,a.length<=9223372036854775807:=by
 obtain ⟨v,l,rfl,he,E,z⟩:=eachOpen (R:=fun u a=>zj w (fun _=>True) u a/\a.length<=9223372036854775807) Tryz.underlying22 (by kernel_rfl) (fun n cl y B=>by
  obtain ⟨v,l,rfl,h1,h2⟩:=intsOpen B;exact ⟨v,l,rfl,h1,h2⟩) h
 obtain ⟨vs,G,o⟩:=he
 exact ⟨v,l,rfl,⟨vs,G,fun i y B=>by
  obtain ⟨u,h1,h2,_⟩:=o i y B;exact ⟨u,h1,h2⟩⟩,E,fun a D=>by obtain ⟨u,h⟩:=z a D;exact h.2⟩
theorem intOpen (h:DataW.trod enc Tryz.prog w base (fun _=>true) held fuel 3 cs=some x):∃n,cs=[.int .i64 n]/\-9223372036854775808<=n/\n<=9223372036854775807:=by
 obtain ⟨k,rfl,_,o⟩:=DataW.trod_int Tryz.underlying3 h;refine ⟨k,rfl,?_⟩;have this:=o;simp only [Lit.wf,IntKind.has,ES,EQ] at this;have e1:IntKind.i64.min=-9223372036854775808:=rfl;have e2:IntKind.i64.max=9223372036854775807:=rfl;omega
theorem fieldOpen {t:TypeId} {fs:Array Field} (I:Tryz.prog.underlying t=some (.struct fs)) (h:DataW.trod enc Tryz.prog w base (fun _=>true) held fuel t cs=some x):
  cs.length=Tryz.prog.cellsOf t/\∀(i ty off sz:Nat),(fs[i]?).map (fun f=>(f.type,f.offset))=some (ty,off)->Tryz.prog.cellsOf ty=sz->∃n y,DataW.trod enc Tryz.prog w base (fun _=>true) held n ty ((cs.drop off).take sz)=some y:=by
 obtain ⟨xs,n,_,_,G,J,E⟩:=DataW.trod_struct I h;refine ⟨G,fun i ty off sz o D=>?_⟩;obtain ⟨f,o,he⟩:=Option.map_eq_some_iff.1 o;injection he with z B;have h1:=E i f o;have h2:i<fs.size:=(FE.1 o).1;rw [EE (by omega),z,B,D] at h1;exact ⟨n,_,h1⟩
theorem cellsT24:Tryz.prog.cellsOf 23=1:=by kernel_rfl
theorem cellsT22:Tryz.prog.cellsOf 22=1:=by kernel_rfl
theorem cellsT23:Tryz.prog.cellsOf 24=3:=by kernel_rfl
theorem cellsT3:Tryz.prog.cellsOf 3=1:=by kernel_rfl
theorem agg_of {l:List Value} (h:v.cells.toList=l) (h2:∃cs,v=.agg cs):v=.agg l.toArray:=by
 obtain ⟨cs,rfl⟩:=h2;subst h;rfl
end
theorem cellsK6:Tryz.prog.cellsOf 26=6:=by kernel_rfl
theorem cellsKu8:Tryz.prog.cellsOf 5=1:=by kernel_rfl
theorem len6 {α:Type} {l:List α} (h:l.length=6):∃a b c d e f,l=[a,b,c,d,e,f]:=by
 match l,h with
 | [a,b,c,d,e,f],_=>exact ⟨a,b,c,d,e,f,rfl⟩
theorem case31Agg {W:World} {b:Nat} (h:Value.okWide Tryz.prog W .any b 26 v):∃cs,v=.agg cs:=by
 unfold Value.okWide at h;rw [Tryz.underlying26] at h;obtain ⟨cs,h,_⟩:=h;exact ⟨cs,h⟩
section
variable {H:Type} {enc:TypeId×Value->H} {w:World} {base:Nat} {held:Bool} {fuel:Nat} {cs:List Value} {x:DataW H×List MemPlace}
theorem u8Open (h:DataW.trod enc Tryz.prog w base (fun _=>true) held fuel 5 cs=some x):∃n:Nat,cs=[.int .u8 n]/\n<256:=by
 obtain ⟨k,rfl,_,o⟩:=DataW.trod_int Tryz.underlying5 h;have this:=o;simp only [Lit.wf,IntKind.has,ES,EQ] at this;have e1:IntKind.u8.min=0:=rfl;have e2:IntKind.u8.max=255:=rfl;exact ⟨k.toNat,by rw [Int.toNat_of_nonneg (by omega)],by omega⟩
theorem case31Open {d:DataW H} {p:List MemPlace} (h:DataW.Trod enc Tryz.prog w base (fun _=>true) held 26 v d p) (I:∃cs,v=.agg cs):
  ∃v0 v1 o0 o1 o2 ls ns,∃tk:Nat,v=.agg #[v0,v1,.int .i64 o0,.int .i64 o1,.int .i64 o2,.int .u8 tk]/\zv w (fun _=>True) v0 ls/\ls.length<=9223372036854775807/\(∀l∈ls,l.length<=9223372036854775807)/\
   zj w (fun _=>True) v1 ns/\ns.length<=9223372036854775807/\tk<256/\(-9223372036854775808<=o0/\o0<=9223372036854775807)/\(-9223372036854775808<=o1/\o1<=9223372036854775807)/\(-9223372036854775808<=o2/\o2<=9223372036854775807):=by
 obtain ⟨fuel,h⟩:=h;obtain ⟨E,o⟩:=fieldOpen Tryz.underlying26 h;rw [cellsK6] at E;obtain ⟨c0,c1,c2,c3,c4,c5,D⟩:=len6 E;have B:=agg_of D I;rw [D] at o;obtain ⟨n0,y0,h0⟩:=o 0 _ _ _ rfl cellsT22;obtain ⟨n1,y1,h1⟩:=o 1 _ _ _ rfl cellsT24;obtain ⟨n2,y2,h2⟩:=o 2 _ _ _ rfl cellsT23;obtain ⟨n3,y3,h3⟩:=o 3 _ _ _ rfl cellsKu8;have h0:DataW.trod enc Tryz.prog w base (fun _=>true) held n0 22 [c0]=some y0:=h0;have h1:DataW.trod enc Tryz.prog w base (fun _=>true) held n1 23 [c1]=some y1:=h1;have h2:DataW.trod enc Tryz.prog w base (fun _=>true) held n2 24 [c2,c3,c4]=some y2:=h2;have h3:DataW.trod enc Tryz.prog w base (fun _=>true) held n3 5 [c5]=some y3:=h3;obtain ⟨v0,ls,e0,i0,i1,i2⟩:=intssOpen h0;injection e0 with e0;subst e0;obtain ⟨v1,ns,e1,i3,i4⟩:=intsOpen h1;injection e1 with e1;subst e1;obtain ⟨tk,e5,i5⟩:=u8Open h3;injection e5 with e5;subst e5;obtain ⟨xs,m,_,_,G,J,z⟩:=DataW.trod_array Tryz.underlying24 h2;rw [cellsT3] at z;have a0:=z 0 (by omega);have a1:=z 1 (by omega);have a2:=z 2 (by omega);rw [EE (by omega)] at a0 a1 a2;have a0:DataW.trod enc Tryz.prog w base (fun _=>true) held m 3 [c2]=_:=a0;have a1:DataW.trod enc Tryz.prog w base (fun _=>true) held m 3 [c3]=_:=a1;have a2:DataW.trod enc Tryz.prog w base (fun _=>true) held m 3 [c4]=_:=a2;obtain ⟨o0,e0,b0⟩:=intOpen a0;obtain ⟨o1,e1,b1⟩:=intOpen a1;obtain ⟨o2,e2,b2⟩:=intOpen a2;injection e0 with e0;injection e1 with e1;injection e2 with e2;subst e0 e1 e2;exact ⟨_,_,o0,o1,o2,ls,ns,tk,B,i0,i1,i2,i3,i4,i5,b0,b1,b2⟩
end
end
section
open Go.RowKit
theorem lensL_all:∀{ks:List PT},(∀k∈ks,k.Lens)->PT.LensL ks
 | [],_=>by unfold PT.LensL;exact True.intro
 | k :: ks,h=>by
  unfold PT.LensL;exact ⟨h k (Ft ..),lensL_all fun x o=>h x (Fa _ o)⟩
theorem Dj:PT.zero.Lens:=by
 unfold PT.zero PT.Lens;exact ⟨by simp,by simp,lensL_all fun k o=>absurd o (FF)⟩
theorem kidsR_lens {f:Int->Nat->Int×PT×Nat}:∀(l:List Int) (k:Nat) (acc:List PT),(∀n k,(f n k).2.1.Lens)->(∀p∈acc,p.Lens)->(∀p∈(zZ f l k acc).2.1,p.Lens)/\(zZ f l k acc).2.1.length<=acc.length+l.length
 | [],k,acc,_,o=>by unfold zZ;exact ⟨o,Nat.le_add_right ..⟩
 | n :: l,k,acc,z,o=>by
  unfold zZ;by_cases h0:(f n k).1=0
  ·rw [if_pos h0]
   obtain ⟨h1,h2⟩:=kidsR_lens l (f n k).2.2 (acc++[(f n k).2.1]) z (fun p hp=>by
    rcases Fx.1 hp with hp | hp
    ·exact o p hp
    ·rw [Fo.1 hp];exact z n k)
   refine ⟨h1,?_⟩;simp only [EO,zab,zac] at h2⊢;omega
  ·rw [if_neg h0];exact ⟨fun p hp=>absurd hp (FF),by simp⟩
theorem sideP_len (m:MZ) (ch:List Int) (t:Nat):(Cw m ch t).length<=1000:=by
 unfold Cw reachO
 split
 ·rename_i h
  unfold Cg;refine EI (Fi _ _) ?_;have h1:=(zC.of h.1).dim.n1;have h2:m.n=m.w*m.h*m.l:=rfl;simp;omega
 ·simp
theorem candO_len (o:Lens m) (ch:List Int):(zO m ch).length<=400000000000:=by
 unfold zO
 split
 ·exact CT o ch
 ·simp
theorem proveP_lens {m:MZ} (o:Lens m):∀(f:Nat) (ch:List Int) (k:Nat),(zu m f ch k).2.1.Lens
 | 0,ch,k=>by unfold zu;exact Dj
 | f+1,ch,k=>by
  unfold zu
  split
  ·exact Dj
  ·split
   ·exact Dj
   ·split
    ·rename_i t _
     show PT.Lens (.node t (Cw m ch t) []);unfold PT.Lens;have:=sideP_len m ch t;exact ⟨by omega,by simp,lensL_all fun k z=>absurd z (FF)⟩
    ·obtain ⟨h1,h2⟩:=kidsR_lens (f:=fun n k=>zu m f (ch++[n]) k) (zO m ch) (k+1) [] (fun n k=>proveP_lens o f _ k) (fun p hp=>absurd hp (FF));have h3:=candO_len o ch;simp only
     split
     ·show PT.Lens (.node _ [] _);unfold PT.Lens;refine ⟨by simp,?_,lensL_all h1⟩;simp only [zac] at h2;omega
     ·exact Dj
theorem makeP_lens (o:Lens m):(BV m).2.Lens:=by
 unfold BV
 split
 ·exact proveP_lens o _ _ _
 ·exact Dj
theorem addP_why:(BW m ps t).why=.zero\/(BW m ps t).why=(BV (Bx m ps t.toNat)).2:=by
 unfold BW
 split
 ·split
  ·exact .inl rfl
  ·unfold AD
   split
   ·exact .inl rfl
   ·split
    ·exact .inl rfl
    ·split
     ·exact .inr rfl
     ·exact .inl rfl
 ·exact .inl rfl
theorem addP_lens (o:Lens m) (hp:ps.length<=20000000000000):(BW m ps t).why.Lens:=by
 rcases addP_why (m:=m) (ps:=ps) (t:=t) with h | h
 ·rw [h];exact Dj
 ·rw [h];exact makeP_lens (subM_lens o hp _)
theorem checkP_size (h:BD m p=true):p.size<=3000:=by
 unfold BD at h;simp only [ES,EQ] at h;exact h.2.2.1
end
end Go.Proofs.YthbjngbhbbkkgaaGreat
