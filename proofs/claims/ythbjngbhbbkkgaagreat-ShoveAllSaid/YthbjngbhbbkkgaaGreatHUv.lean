/- RtPm -/
import Derived.Test.YthbjngbhbbkkgaaGreatHUa
import Derived.Test.YthbjngbhbbkkgaaGreatHUb
import Derived.Test.YthbjngbhbbkkgaaGreatHUc
import Derived.Test.YthbjngbhbbkkgaaGreatHUd
import Derived.Test.YthbjngbhbbkkgaaGreatHUe
import Derived.Test.YthbjngbhbbkkgaaGreatHUf
import Derived.Test.YthbjngbhbbkkgaaGreatHUg
import Derived.Test.YthbjngbhbbkkgaaGreatHUh
import Derived.Test.YthbjngbhbbkkgaaGreatHUi
import Derived.Test.YthbjngbhbbkkgaaGreatHUj
import Derived.Test.YthbjngbhbbkkgaaGreatHUk
import Derived.Test.YthbjngbhbbkkgaaGreatHUl
import Derived.Test.YthbjngbhbbkkgaaGreatHUm
import Derived.Test.YthbjngbhbbkkgaaGreatHUn
import Derived.Test.YthbjngbhbbkkgaaGreatHUo
import Derived.Test.YthbjngbhbbkkgaaGreatHUp
import Derived.Test.YthbjngbhbbkkgaaGreatHUq
import Derived.Test.YthbjngbhbbkkgaaGreatHUr
import Derived.Test.YthbjngbhbbkkgaaGreatHUu
import Derived.Recover
set_option linter.unusedVariables false
set_option linter.unusedSimpArgs false
set_option maxRecDepth 100000
set_option maxHeartbeats 16000000
namespace Go.Proofs.YthbjngbhbbkkgaaGreat
open Go.RowKit
attribute [local go_sem ↓] Go.wp_at_zero Go.wp_at_succ
theorem make1_panics (gp ge:Nat) (x:Int) (older:List PanicEntry) (w:World) {a b c d:Value} (hp:Blk w gp 37 #[a,b,c]) (he:Blk w ge 38 #[d]) (hne:gp≠ge):
  CallsD Tryz.prog 100 #[.pointer (some ⟨gp,0,none⟩),.pointer (some ⟨ge,0,none⟩)] (.panicking ({ v:=.iface 38 (.int .i64 x),recovered:=false } :: older)) w fun e u' w'=>
   e=.returned (.tuple #[])∧u'=.panicking ({ v:=.iface 38 (.int .i64 x),recovered:=true } :: older)∧w'=(((w.setCell ⟨gp,0,none⟩ (.int .i64 0)).setCell ⟨gp,1,none⟩ (.slice none 0 0)).setCell ⟨gp,2,none⟩ (.slice none 0 0)).setCell ⟨ge,0,none⟩ (.int .i64 x):=by
 have c0:=hp.cell (k:=0) rfl;have c1:=hp.cell (k:=1) rfl;have c2:=hp.cell (k:=2) rfl;have ce:=he.cell (k:=0) rfl;have f0:=fun j=>hp.frozen j
 have fe:=he.frozen 0;refine callsD_of_wpS Tryz.func100 rfl fun c₀ cs hu=>?_
 apply wpS_seq;apply wpS_region;simp [wpOpsS,go_sem,recoverD,hu,Tryz.ntmps100,Exit.thenS];refine wpS_of_wp ?_;have hta:∀W,(Instr.typeAssert (.iface 38 (.int .i64 x)) 20 38 true).run Tryz.prog W=.ok (.tuple #[.int .i64 x,.bool true]) W:=fun W=>by kernel_rfl
 go_wp2;cases c₀
 simp_all [bodyPostS,results,Tryz.results100]
theorem proveP_zero {m:MZ}:∀(f:Nat) (ch:List Int) (k:Nat),(zq m f ch k).1≠0→(zq m f ch k).2.1=PT.zero
 | 0,ch,k,h=>by unfold zq;rfl
 | f+1,ch,k,h=>by
  by_cases h1:m.tasks.length≤zO m ch
  ·rw [proveP_end h1]
  ·by_cases h2:3000<k+1
   ·rw [proveP_many h1 h2]
   ·cases h3:cutT m ch with
    | some t=>rw [proveP_cut h1 h2 h3] at h;exact absurd rfl h
    | none=>
     rw [proveP_kids h1 h2 h3] at h⊢
     split
     ·next h4=>rw [if_pos h4] at h;exact absurd rfl h
     ·rfl
theorem case_fin4 {P:World→Prop} {W:World} {gp ge:Nat} {a0 a1 a2 z0 z1 z2 d e:Value} (h:∀WZ,Blk WZ gp 37 #[a0,a1,a2]→Blk WZ ge 38 #[d]→Chg (fun b=>b=gp∨b=ge) W WZ→P WZ) (hb:Blk W gp 37 #[z0,z1,z2]) (he:Blk W ge 38 #[e]):
  P ((((W.setCell ⟨gp,0,none⟩ a0).setCell ⟨gp,1,none⟩ a1).setCell ⟨gp,2,none⟩ a2).setCell ⟨ge,0,none⟩ d):=by
 have hne:gp≠ge:=hb.ne_ he (by decide);have h1:Blk (setL gp 0 [a0,a1,a2] W) gp 37 #[a0,a1,a2]:=setL_blk [a0,a1,a2] [z0,z1,z2] [] W rfl hb;have h2:Blk (setL gp 0 [a0,a1,a2] W) ge 38 #[e]:=(zcu gp ge (Ne.symm hne) _ 0 W).trans he;refine h _ (h1.setOther (a:=⟨ge,0,none⟩) hne d) (h2.set (k:=0) d) ⟨rfl,rfl,rfl,?_,fun b hb hn=>?_⟩
 ·simp
 ·refine (Below.heap_setCell _ ⟨ge,0,none⟩ _ b (fun e=>hn (.inr e))).trans (zcu gp b (fun e=>hn (.inl e)) [a0,a1,a2] 0 W)
theorem make1_idle (gp ge:Nat) (w:World):
  CallsD Tryz.prog 100 #[.pointer (some ⟨gp,0,none⟩),.pointer (some ⟨ge,0,none⟩)] .returning w fun e u' w'=>e=.returned (.tuple #[])∧u'=.returning∧w'=w:=by
 refine callsD_of_wpS Tryz.func100 rfl fun c₀ cs hu=>?_
 apply wpS_seq;apply wpS_region;simp [wpOpsS,go_sem,recoverD,hu,Tryz.ntmps100,Exit.thenS];refine wpS_of_wp ?_;go_wp2;cases c₀
 simp_all [bodyPostS,results,Tryz.results100]
theorem pmake_calls {ok:Nat→Prop} {v:Value} {m:MZ} (w:World) (hm:zr w ok v m) (hl:Lens m):
  Calls Tryz.prog 74 #[v] w fun e w'=>∃v',e=.returned (.tuple #[v',.int .i64 (zbi m).1])∧Ext w w'∧PrV w' (fun b=>w.heap.size≤b) v' (zbi m).2:=by
 have HM:=zh hm;have HL:=zh hl;obtain ⟨Af,cf,Au,cu,At,ct,rfl,-,-,-⟩:=hm.parts;clear hm hl;have hmf:∀(fn:Fn) (first cap:Array Value) (w:World),(Instr.makeFunc fn first cap).run Tryz.prog w=.ok (.func fn first cap) w:=fun _ _ _ _=>rfl
 go_enter_defers Tryz.func74,Tryz.ntmps74
 go_upto_region 1 with fail;obtain ⟨hb0,r0,r1,r2,r3,r4,r5⟩:=box6 w (.int .i64 m.w) (.int .i64 m.h) (.int .i64 m.l) (.slice Af m.free.length cf) (.slice Au m.up.length cu) (.slice At m.tasks.length ct);have hs0:(w.alloc (.cells #[.int .i64 m.w,.int .i64 m.h,.int .i64 m.l,.slice Af m.free.length cf,.slice Au m.up.length cu,.slice At m.tasks.length ct] 32)).heap.size=w.heap.size+1:=by simp
 generalize w.alloc (.cells #[.int .i64 m.w,.int .i64 m.h,.int .i64 m.l,.slice Af m.free.length cf,.slice Au m.up.length cu,.slice At m.tasks.length ct] 32)=w0 at hb0 r0 r1 r2 r3 r4 r5 hs0⊢;have hBP:=Blk.new w0 #[.int .i64 0,.slice none 0 0,.slice none 0 0] 37 (g:=w0.heap.size) rfl;have hb1:Ext w0 (w0.alloc (.cells #[.int .i64 0,.slice none 0 0,.slice none 0 0] 37)):=(Ext.refl w0).alloc _;have hs1:(w0.alloc (.cells #[.int .i64 0,.slice none 0 0,.slice none 0 0] 37)).heap.size=w0.heap.size+1:=by simp
 generalize w0.alloc (.cells #[.int .i64 0,.slice none 0 0,.slice none 0 0] 37)=w1 at hBP hb1 hs1⊢;have hBE:=Blk.new w1 #[.int .i64 0] 38 (g:=w1.heap.size) rfl;have hb2:Ext w1 (w1.alloc (.cells #[.int .i64 0] 38)):=(Ext.refl w1).alloc _;generalize w1.alloc (.cells #[.int .i64 0] 38)=w2 at hBE hb2⊢;rw [hs1,hs0] at hBE;rw [hs0] at hBP;obtain ⟨gm,hgm⟩:∃gm,gm=w.heap.size:=⟨_,rfl⟩;rw [←hgm] at r0 r1 r2 r3 r4 r5 hBP hBE⊢;have HGM:Hid (gm=w.heap.size):=hgm;have HB0:=zh (hb1.trans hb2);have r0:=fun W h=>r0 W (HB0.out.trans h)
 have r1:=fun W h=>r1 W (HB0.out.trans h)
 have r2:=fun W h=>r2 W (HB0.out.trans h)
 have r3:=fun W h=>r3 W (HB0.out.trans h)
 have r4:=fun W h=>r4 W (HB0.out.trans h)
 have r5:=fun W h=>r5 W (HB0.out.trans h)
 have HP:=zh (hBP.ext hb2);have HE:=zh hBE;have HW2:=zh (hb0.trans (hb1.trans hb2));clear hgm hb0 hs0 hb1 hs1 hb2 hBP hBE;have hx:Ext w2 w2:=Ext.refl w2
 go_wp2_with fail
 refine (zaM w2 (HM.out.below HW2.out) HL.out).mono ?_;rintro e w3 ⟨rfl,hE3⟩;have hx3:Ext w2 w3:=hE3;have HP3:=zh (HP.out.ext hE3);have HE3:=zh (HE.out.ext hE3);obtain ⟨ck,hck⟩:∃ck,ck=chk m:=⟨_,rfl⟩;have HCK:=zh hck;rw [←hck];clear hx hE3 hck;by_cases h0:ck=0
 ·subst h0;have HC:Hid (chk m=0):=HCK.out.symm;clear HCK;have hxa:=zQ w2
  go_wp2_with fail
  have hGX:=Blk.new w3 #[.int .i64 0] 137 (g:=w3.heap.size) rfl;have hE4:Ext w3 (w3.alloc (.cells #[.int .i64 0] 137)):=(Ext.refl w3).alloc _;have hs4:(w3.alloc (.cells #[.int .i64 0] 137)).heap.size=w3.heap.size+1:=by simp
  generalize w3.alloc (.cells #[.int .i64 0] 137)=w4 at hGX hE4 hs4⊢;obtain ⟨gx,hgx⟩:∃gx,gx=w3.heap.size:=⟨_,rfl⟩;rw [←hgx] at hGX hs4⊢;have HGX:Hid (gm+2<gx∧w4.heap.size=gx+1):=⟨by rw [hgx];have:=zb HE3.out;omega,hs4⟩;have HX4:=zh hGX;have HW4:Hid (Ext w w4):=HW2.out.trans (hx3.trans hE4);have HP4:=zh (HP3.out.ext hE4);have HE4:=zh (HE3.out.ext hE4);clear hGX hs4 hgx hx3 hE4 hxa r0 r1 r2 r3 r4 r5;refine (of_calls (ok:=fun b=>ok b∧b<w.heap.size) w4 (HM.out.bound.below HW4.out) HL.out HC.out (zf.nil _ _) zu.nil).mono ?_;rintro e w5 ⟨vp,rfl,hE5,hP5⟩;have HX5:=zh (HX4.out.ext hE5);have HW5:=zh (HW4.out.trans hE5);have HP5:=zh (HP4.out.ext hE5);have HE5:=zh (HE4.out.ext hE5);have HPS:=zh hP5;clear hE5 hP5
  have HPV:Hid (∀r,r=zq m (m.n.toNat+2) [] 0→Calls Tryz.prog 101 #[.pointer (some ⟨gx,0,none⟩),stv m (.slice Af m.free.length cf) (.slice Au m.up.length cu) (.slice At m.tasks.length ct) (.slice none 0 0) vp (zO m [])] w5 (zc3 w5 gx r)):=fun r hr=>by
   rw [hr];exact prove_calls HL.out HC.out (m.n.toNat+2) [] 0 gx _ _ _ w5 HPS.out zu.nil (by simp) (by omega) HX5.out (fun b hb=>by have h1:=HGX.out;have h2:=HGM.out;rcases hb with hb | hb <;> omega)
  obtain ⟨r,hr⟩:∃r,r=zq m (m.n.toNat+2) [] 0:=⟨_,rfl⟩;have HMK:Hid (zbi m=(r.1,r.2.1)):=by (show _=_);unfold zbi;rw [if_pos HC.out,hr]
  have HPR:=zh (HPV.out r hr);have HZERO:Hid (r.1≠0→r.2.1=PT.zero):=fun h=>by rw [hr] at h⊢;exact proveP_zero _ _ _ h
  clear HPV hr;unfold stv at HPR⊢
  go_wp2_with fail
  refine HPR.out.mono ?_;rintro e w6 ⟨hC6,(⟨h0,v6,rfl,hPr,hX6⟩ | ⟨h0,rfl⟩)⟩
  ·have HP6:=zh (hC6.blk HP5.out (by have:=HGX.out;omega));have HE6:=zh (hC6.blk HE5.out (by have:=HGX.out;omega));have HC6:=zh hC6;have HR:=zh hPr;have HZ:=zh h0;obtain ⟨As,cs,Ak,ck,rfl,-⟩:=hPr.form;have c0:=HP6.out.cell (k:=0) rfl;have c1:=HP6.out.cell (k:=1) rfl;have c2:=HP6.out.cell (k:=2) rfl;have ce:=HE6.out.cell (k:=0) rfl;have f0:=fun j=>HP6.out.frozen j
   have fe:=HE6.out.frozen 0;clear hC6 h0 hPr hX6
   go_wp2_with fail
   refine case_fin4 (P:=fun W=>bodyPostD Tryz.prog Tryz.f74 _ Exit.ret _ W) (gp:=gm+1) (ge:=gm+1+1) ?_ HP6.out HE6.out;intro WZ hbp hbe hC;have y0:=hbp.cell (k:=0) rfl;have y1:=hbp.cell (k:=1) rfl;have y2:=hbp.cell (k:=2) rfl;have y3:=hbe.cell (k:=0) rfl;refine leaves_cons (f:=100) (args:=#[.pointer (some ⟨gm+1,0,none⟩),.pointer (some ⟨gm+1+1,0,none⟩)]) (by simp) (by simp [go_sem]) ?_;refine (make1_idle _ _ _).mono ?_;rintro e u' w'' ⟨rfl,rfl,rfl⟩;refine ⟨.tuple #[.agg #[.int .i64 r.2.1.task,.slice As r.2.1.side.length cs,.slice Ak r.2.1.kids.length ck],.int .i64 0],by simp [results,Tryz.results74,go_sem,y0,y1,y2,y3],.agg #[.int .i64 r.2.1.task,.slice As r.2.1.side.length cs,.slice Ak r.2.1.kids.length ck],?_,?_,?_⟩
   ·rw [HMK.out,HZ.out]
   ·exact (((Chg.of_ext (X:=fun b=>gm≤b) HW5.out).trans HC6.out (fun k _ h=>by have:=HGX.out;omega)).trans hC (fun k _ h=>by omega)).below (Nat.le_refl _) (fun b hb=>by rw [HGM.out] at hb;exact hb)
   ·rw [HMK.out];exact HR.out.keepW (fun b hb hlt=>hC.block b hlt (by have h1:=HGX.out;have h2:=zb HX5.out;omega)) (fun b hb=>by have h1:=HGX.out;have h2:=zb HX5.out;have h3:=HGM.out;omega)
  ·have HP6:=zh (hC6.blk HP5.out (by have:=HGX.out;omega));have HE6:=zh (hC6.blk HE5.out (by have:=HGX.out;omega));have HC6:=zh hC6;clear hC6
   go_wp2_with fail
   refine leaves_cons (f:=100) (args:=#[.pointer (some ⟨gm+1,0,none⟩),.pointer (some ⟨gm+1+1,0,none⟩)]) (by simp) (by simp [go_sem]) ?_;refine (make1_panics _ _ _ _ _ HP6.out HE6.out (by omega)).mono ?_;rintro e u' w'' ⟨rfl,rfl,rfl⟩;refine case_fin4 (P:=fun W=>Leaves Tryz.prog Tryz.f74 _ _ _ _ W) (gp:=gm+1) (ge:=gm+1+1) ?_ HP6.out HE6.out;intro WZ hbp hbe hC;have y0:=hbp.cell (k:=0) rfl;have y1:=hbp.cell (k:=1) rfl;have y2:=hbp.cell (k:=2) rfl;have y3:=hbe.cell (k:=0) rfl;refine ⟨.tuple #[.agg #[.int .i64 0,.slice none 0 0,.slice none 0 0],.int .i64 r.1],by simp [results,Tryz.results74,go_sem,y0,y1,y2,y3],.agg #[.int .i64 0,.slice none 0 0,.slice none 0 0],?_,?_,?_⟩
   ·rw [HMK.out]
   ·exact (((Chg.of_ext (X:=fun b=>gm≤b) HW5.out).trans HC6.out (fun k _ h=>by have:=HGX.out;omega)).trans hC (fun k _ h=>by omega)).below (Nat.le_refl _) (fun b hb=>by rw [HGM.out] at hb;exact hb)
   ·rw [HMK.out];have:r.2.1=PT.zero:=HZERO.out h0;rw [this];exact PrV.zero _ _
 ·have hq1:(ck==0)=false:=by rw [beq_eq_false_iff_ne];exact h0
  have hq2:(ck != 0)=true:=by rw [bne_iff_ne];exact h0
  have c0:=HP3.out.cell (k:=0) rfl;have c1:=HP3.out.cell (k:=1) rfl;have c2:=HP3.out.cell (k:=2) rfl;have ce:=HE3.out.cell (k:=0) rfl;have f0:=fun j=>HP3.out.frozen j
  have fe:=HE3.out.frozen 0;have HN:Hid (zbi m=(ck,.zero)):=by (show _=_);unfold zbi;rw [if_neg (by rw [←HCK.out];exact h0),HCK.out]
  clear h0
  go_wp2_with fail
  refine case_fin4 (P:=fun W=>bodyPostD Tryz.prog Tryz.f74 _ Exit.ret _ W) (gp:=gm+1) (ge:=gm+1+1) ?_ HP3.out HE3.out;intro WZ hbp hbe hC;have y0:=hbp.cell (k:=0) rfl;have y1:=hbp.cell (k:=1) rfl;have y2:=hbp.cell (k:=2) rfl;have y3:=hbe.cell (k:=0) rfl;refine ⟨.tuple #[.agg #[.int .i64 0,.slice none 0 0,.slice none 0 0],.int .i64 ck],by simp [results,Tryz.results74,go_sem,y0,y1,y2,y3],.agg #[.int .i64 0,.slice none 0 0,.slice none 0 0],?_,?_,?_⟩
  ·rw [HN.out]
  ·exact ((Chg.of_ext (X:=fun b=>gm≤b) (HW2.out.trans hx3)).trans hC (fun k _ h=>by omega)).below (Nat.le_refl _) (fun b hb=>by rw [HGM.out] at hb;exact hb)
  ·rw [HN.out];exact PrV.zero _ _
end Go.Proofs.YthbjngbhbbkkgaaGreat
