import Derived.Test.YthbjngbhbbkkgaaGreatHRzc
import Derived.Recover
set_option linter.unusedVariables false
set_option linter.unusedSimpArgs false
set_option maxRecDepth 100000
set_option maxHeartbeats 16000000
namespace Go.Proofs.YthbjngbhbbkkgaaGreat
variable {m:MZ} {d:Value}
section
open Go.RowKit
attribute [local go_sem ↓] Go.wp_at_zero Go.wp_at_succ
theorem make1_panics (gp ge:Nat) (x:Int) (older:List PanicEntry) (w:World) {a b c:Value} (hp:zk w gp 37 #[a,b,c]) (he:zk w ge 38 #[d]) (o:gp≠ge):
  CallsD Tryz.prog 100 #[.pointer (some ⟨gp,0,none⟩),.pointer (some ⟨ge,0,none⟩)] (.panicking ({ v:=.iface 38 (.int .i64 x),recovered:=false } :: older)) w fun e u' w'=>
   e=.returned (.tuple #[])/\u'=.panicking ({ v:=.iface 38 (.int .i64 x),recovered:=true } :: older)/\w'=(((w.setCell ⟨gp,0,none⟩ (.int .i64 0)).setCell ⟨gp,1,none⟩ (.slice none 0 0)).setCell ⟨gp,2,none⟩ (.slice none 0 0)).setCell ⟨ge,0,none⟩ (.int .i64 x):=by
 have c0:=hp.cell (k:=0) rfl;have c1:=hp.cell (k:=1) rfl;have c2:=hp.cell (k:=2) rfl;have ce:=he.cell (k:=0) rfl;have f0:=fun j=>hp.frozen j
 have fe:=he.frozen 0;refine callsD_of_wpS Tryz.func100 rfl fun c₀ cs B=>?_
 apply wpS_seq;apply wpS_region;simp [wpOpsS,go_sem,recoverD,B,Tryz.ntmps100,Exit.thenS];refine wpS_of_wp ?_;have z:∀W,(Instr.typeAssert (.iface 38 (.int .i64 x)) 20 38 true).run Tryz.prog W=.ok (.tuple #[.int .i64 x,.bool true]) W:=fun W=>by kernel_rfl
 go_wp2;cases c₀
 simp_all [bodyPostS,results,Tryz.results100]
theorem proveP_zero:∀(f:Nat) (ch:List Int) (k:Nat),(zu m f ch k).1≠0->(zu m f ch k).2.1=PT.zero
 | 0,ch,k,h=>by unfold zu;rfl
 | f+1,ch,k,h=>by
  by_cases h1:m.tasks.length<=zR m ch
  ·rw [proveP_end h1]
  ·by_cases h2:3000<k+1
   ·rw [proveP_many h1 h2]
   ·cases h3:cutT m ch with
    | some t=>rw [proveP_cut h1 h2 h3] at h;exact absurd rfl h
    | none=>
     rw [proveP_kids h1 h2 h3] at h⊢
     split
     ·next o=>rw [if_pos o] at h;exact absurd rfl h
     ·rfl
theorem case_fin4 {P:World->Prop} {W:World} {gp ge:Nat} {a0 a1 a2 z0 z1 z2 e:Value} (h:∀WZ,zk WZ gp 37 #[a0,a1,a2]->zk WZ ge 38 #[d]->zp (fun b=>b=gp\/b=ge) W WZ->P WZ) (z:zk W gp 37 #[z0,z1,z2]) (he:zk W ge 38 #[e]):
  P ((((W.setCell ⟨gp,0,none⟩ a0).setCell ⟨gp,1,none⟩ a1).setCell ⟨gp,2,none⟩ a2).setCell ⟨ge,0,none⟩ d):=by
 have o:gp≠ge:=z.ne_ he (by decide);have h1:zk (setL gp 0 [a0,a1,a2] W) gp 37 #[a0,a1,a2]:=setL_blk [a0,a1,a2] [z0,z1,z2] [] W rfl z;have h2:zk (setL gp 0 [a0,a1,a2] W) ge 38 #[e]:=(Dx gp ge (Ne.symm o) _ 0 W).trans he;refine h _ (h1.setOther (a:=⟨ge,0,none⟩) o d) (h2.set (k:=0) d) ⟨rfl,rfl,rfl,?_,fun b z B=>?_⟩
 ·simp
 ·refine (EP _ ⟨ge,0,none⟩ _ b (fun e=>B (.inr e))).trans (Dx gp b (fun e=>B (.inl e)) [a0,a1,a2] 0 W)
theorem make1_idle (gp ge:Nat) (w:World):
  CallsD Tryz.prog 100 #[.pointer (some ⟨gp,0,none⟩),.pointer (some ⟨ge,0,none⟩)] .returning w fun e u' w'=>e=.returned (.tuple #[])/\u'=.returning/\w'=w:=by
 refine callsD_of_wpS Tryz.func100 rfl fun c₀ cs o=>?_
 apply wpS_seq;apply wpS_region;simp [wpOpsS,go_sem,recoverD,o,Tryz.ntmps100,Exit.thenS];refine wpS_of_wp ?_;go_wp2;cases c₀
 simp_all [bodyPostS,results,Tryz.results100]
theorem pmake_calls {ok:Nat->Prop} {v:Value} (w:World) (hm:zw w ok v m) (hl:Lens m):
  Calls Tryz.prog 74 #[v] w fun e w'=>∃v',e=.returned (.tuple #[v',.int .i64 (BV m).1])/\zb w w'/\Dz w' (fun b=>w.heap.size<=b) v' (BV m).2:=by
 have HM:=zh hm;have HL:=zh hl;obtain ⟨Af,cf,Au,cu,At,ct,rfl,-,-,-⟩:=hm.parts;clear hm hl;have f4:∀(fn:Fn) (first cap:Array Value) (w:World),(Instr.makeFunc fn first cap).run Tryz.prog w=.ok (.func fn first cap) w:=fun _ _ _ _=>rfl
 go_enter_defers Tryz.func74,Tryz.ntmps74
 go_upto_region 1 with fail;obtain ⟨b2,r0,r1,r2,r3,r4,r5⟩:=box6 w (.int .i64 m.w) (.int .i64 m.h) (.int .i64 m.l) (.slice Af m.free.length cf) (.slice Au m.up.length cu) (.slice At m.tasks.length ct);have a5:(w.alloc (.cells #[.int .i64 m.w,.int .i64 m.h,.int .i64 m.l,.slice Af m.free.length cf,.slice Au m.up.length cu,.slice At m.tasks.length ct] 32)).heap.size=w.heap.size+1:=by simp
 generalize w.alloc _=w0 at b2 r0 r1 r2 r3 r4 r5 a5⊢;have O:=zk.new w0 #[.int .i64 0,.slice none 0 0,.slice none 0 0] 37 (g:=w0.heap.size) rfl;have a4:zb w0 (w0.alloc (.cells #[.int .i64 0,.slice none 0 0,.slice none 0 0] 37)):=(zb.refl w0).alloc _;have b6:(w0.alloc (.cells #[.int .i64 0,.slice none 0 0,.slice none 0 0] 37)).heap.size=w0.heap.size+1:=by simp
 generalize w0.alloc _=w1 at O a4 b6⊢;have M:=zk.new w1 #[.int .i64 0] 38 (g:=w1.heap.size) rfl;have U:zb w1 (w1.alloc (.cells #[.int .i64 0] 38)):=(zb.refl w1).alloc _;generalize w1.alloc _=w2 at M U⊢;rw [b6,a5] at M;rw [a5] at O;obtain ⟨gm,b4⟩:=zad w.heap.size;rw [<-b4] at r0 r1 r2 r3 r4 r5 O M⊢;have L:Hid (gm=w.heap.size):=b4;have E:=zh (a4.trans U);have r0:=fun W h=>r0 W (E.out.trans h)
 have r1:=fun W h=>r1 W (E.out.trans h)
 have r2:=fun W h=>r2 W (E.out.trans h)
 have r3:=fun W h=>r3 W (E.out.trans h)
 have r4:=fun W h=>r4 W (E.out.trans h)
 have r5:=fun W h=>r5 W (E.out.trans h)
 have HP:=zh (O.ext U);have HE:=zh M;have a8:=zh (b2.trans (a4.trans U));clear b4 b2 a5 a4 b6 U O M;have hx:zb w2 w2:=zb.refl w2
 go_wp2_with fail
 refine (Bv w2 (HM.out.below a8.out) HL.out).mono ?_;rintro e w3 ⟨rfl,a2⟩;have b7:zb w2 w3:=a2;have I:=zh (HP.out.ext a2);have J:=zh (HE.out.ext a2);obtain ⟨ck,b3⟩:=zad (AO m);have a0:=zh b3;rw [<-b3];clear hx a2 b3;by_cases h0:ck=0
 ·subst h0;have HC:Hid (AO m=0):=a0.out.symm;clear a0;have e5:=zS w2
  go_wp2_with fail
  have a3:=zk.new w3 #[.int .i64 0] 137 (g:=w3.heap.size) rfl;have Q:zb w3 (w3.alloc (.cells #[.int .i64 0] 137)):=(zb.refl w3).alloc _;have a6:(w3.alloc (.cells #[.int .i64 0] 137)).heap.size=w3.heap.size+1:=by simp
  generalize w3.alloc _=w4 at a3 Q a6⊢;obtain ⟨gx,b5⟩:=zad w3.heap.size;rw [<-b5] at a3 a6⊢;have z:Hid (gm+2<gx/\w4.heap.size=gx+1):=⟨by rw [b5];have:=zd J.out;omega,a6⟩;have e0:=zh a3;have c8:Hid (zb w w4):=a8.out.trans (b7.trans Q);have d8:=zh (I.out.ext Q);have d6:=zh (J.out.ext Q);clear a3 a6 b5 b7 Q e5 r0 r1 r2 r3 r4 r5;refine (of_calls (ok:=fun b=>ok b/\b<w.heap.size) w4 (HM.out.bound.below c8.out) HL.out HC.out (zj.nil _ _) zx.nil).mono ?_;rintro e w5 ⟨vp,rfl,T,d4⟩;have a9:=zh (e0.out.ext T);have c9:=zh (c8.out.trans T);have c5:=zh (d8.out.ext T);have c4:=zh (d6.out.ext T);have d9:=zh d4;clear T d4
  have c7:Hid (∀r,r=zu m (m.n.toNat+2) [] 0->Calls Tryz.prog 101 #[.pointer (some ⟨gx,0,none⟩),Ey m (.slice Af m.free.length cf) (.slice Au m.up.length cu) (.slice At m.tasks.length ct) (.slice none 0 0) vp (zR m [])] w5 (DE w5 gx r)):=fun r hr=>by
   rw [hr];exact prove_calls HL.out HC.out (m.n.toNat+2) [] 0 gx _ _ _ w5 d9.out zx.nil (by simp) (by omega) a9.out (fun b hb=>by have h1:=z.out;have h2:=L.out;rcases hb with hb | hb <;> omega)
  obtain ⟨r,hr⟩:=zad (zu m (m.n.toNat+2) [] 0);have a1:Hid (BV m=(r.1,r.2.1)):=by (show _=_);unfold BV;rw [if_pos HC.out,hr]
  have c6:=zh (c7.out r hr);have b0:Hid (r.1≠0->r.2.1=PT.zero):=fun h=>by rw [hr] at h⊢;exact proveP_zero _ _ _ h
  clear c7 hr;unfold Ey at c6⊢
  go_wp2_with fail
  refine c6.out.mono ?_;rintro e w6 ⟨D,(⟨h0,v6,rfl,b1,e3⟩ | ⟨h0,rfl⟩)⟩
  ·have B:=zh (D.blk c5.out (by have:=z.out;omega));have G:=zh (D.blk c4.out (by have:=z.out;omega));have a7:=zh D;have HR:=zh b1;have HZ:=zh h0;obtain ⟨As,cs,Ak,ck,rfl,-⟩:=b1.form;have c0:=B.out.cell (k:=0) rfl;have c1:=B.out.cell (k:=1) rfl;have c2:=B.out.cell (k:=2) rfl;have ce:=G.out.cell (k:=0) rfl;have f0:=fun j=>B.out.frozen j
   have fe:=G.out.frozen 0;clear D h0 b1 e3
   go_wp2_with fail
   refine case_fin4 (P:=fun W=>bodyPostD Tryz.prog Tryz.f74 _ Exit.ret _ W) (gp:=gm+1) (ge:=gm+1+1) ?_ B.out G.out;intro WZ o V hC;have y0:=o.cell (k:=0) rfl;have y1:=o.cell (k:=1) rfl;have y2:=o.cell (k:=2) rfl;have y3:=V.cell (k:=0) rfl;refine leaves_cons (f:=100) (args:=#[.pointer (some ⟨gm+1,0,none⟩),.pointer (some ⟨gm+1+1,0,none⟩)]) (by simp) (by simp [go_sem]) ?_;refine (make1_idle _ _ _).mono ?_;rintro e u' w'' ⟨rfl,rfl,rfl⟩;refine ⟨.tuple #[.agg #[.int .i64 r.2.1.task,.slice As r.2.1.side.length cs,.slice Ak r.2.1.kids.length ck],.int .i64 0],by simp [results,Tryz.results74,go_sem,y0,y1,y2,y3],.agg #[.int .i64 r.2.1.task,.slice As r.2.1.side.length cs,.slice Ak r.2.1.kids.length ck],?_,?_,?_⟩
   ·rw [a1.out,HZ.out]
   ·exact (((zp.of_ext (X:=fun b=>gm<=b) c9.out).trans a7.out (fun k _ h=>by have:=z.out;omega)).trans hC (fun k _ h=>by omega)).below (EG _) (fun b hb=>by rw [L.out] at hb;exact hb)
   ·rw [a1.out];exact HR.out.keepW (fun b hb e4=>hC.block b e4 (by have h1:=z.out;have h2:=zd a9.out;omega)) (fun b hb=>by have h1:=z.out;have h2:=zd a9.out;have h3:=L.out;omega)
  ·have B:=zh (D.blk c5.out (by have:=z.out;omega));have G:=zh (D.blk c4.out (by have:=z.out;omega));have a7:=zh D;clear D
   go_wp2_with fail
   refine leaves_cons (f:=100) (args:=#[.pointer (some ⟨gm+1,0,none⟩),.pointer (some ⟨gm+1+1,0,none⟩)]) (by simp) (by simp [go_sem]) ?_;refine (make1_panics _ _ _ _ _ B.out G.out (by omega)).mono ?_;rintro e u' w'' ⟨rfl,rfl,rfl⟩;refine case_fin4 (P:=fun W=>Leaves Tryz.prog Tryz.f74 _ _ _ _ W) (gp:=gm+1) (ge:=gm+1+1) ?_ B.out G.out;intro WZ o V hC;have y0:=o.cell (k:=0) rfl;have y1:=o.cell (k:=1) rfl;have y2:=o.cell (k:=2) rfl;have y3:=V.cell (k:=0) rfl;refine ⟨.tuple #[.agg #[.int .i64 0,.slice none 0 0,.slice none 0 0],.int .i64 r.1],by simp [results,Tryz.results74,go_sem,y0,y1,y2,y3],.agg #[.int .i64 0,.slice none 0 0,.slice none 0 0],?_,?_,?_⟩
   ·rw [a1.out]
   ·exact (((zp.of_ext (X:=fun b=>gm<=b) c9.out).trans a7.out (fun k _ h=>by have:=z.out;omega)).trans hC (fun k _ h=>by omega)).below (EG _) (fun b hb=>by rw [L.out] at hb;exact hb)
   ·rw [a1.out];have:r.2.1=PT.zero:=b0.out h0;rw [this];exact Dz.zero _ _
 ·have f5:(ck==0)=false:=by rw [ET];exact h0
  have f6:(ck != 0)=true:=by rw [bne_iff_ne];exact h0
  have c0:=I.out.cell (k:=0) rfl;have c1:=I.out.cell (k:=1) rfl;have c2:=I.out.cell (k:=2) rfl;have ce:=J.out.cell (k:=0) rfl;have f0:=fun j=>I.out.frozen j
  have fe:=J.out.frozen 0;have HN:Hid (BV m=(ck,.zero)):=by (show _=_);unfold BV;rw [if_neg (by rw [<-a0.out];exact h0),a0.out]
  clear h0
  go_wp2_with fail
  refine case_fin4 (P:=fun W=>bodyPostD Tryz.prog Tryz.f74 _ Exit.ret _ W) (gp:=gm+1) (ge:=gm+1+1) ?_ I.out J.out;intro WZ o V hC;have y0:=o.cell (k:=0) rfl;have y1:=o.cell (k:=1) rfl;have y2:=o.cell (k:=2) rfl;have y3:=V.cell (k:=0) rfl;refine ⟨.tuple #[.agg #[.int .i64 0,.slice none 0 0,.slice none 0 0],.int .i64 ck],by simp [results,Tryz.results74,go_sem,y0,y1,y2,y3],.agg #[.int .i64 0,.slice none 0 0,.slice none 0 0],?_,?_,?_⟩
  ·rw [HN.out]
  ·exact ((zp.of_ext (X:=fun b=>gm<=b) (a8.out.trans b7)).trans hC (fun k _ h=>by omega)).below (EG _) (fun b hb=>by rw [L.out] at hb;exact hb)
  ·rw [HN.out];exact Dz.zero _ _
end
end Go.Proofs.YthbjngbhbbkkgaaGreat
