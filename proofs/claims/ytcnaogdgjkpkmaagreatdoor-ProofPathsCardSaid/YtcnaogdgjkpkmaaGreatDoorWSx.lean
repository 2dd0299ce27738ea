import Derived.Test.YtcnaogdgjkpkmaaGreatDoorWSw
import Derived.Recover
import Derived.StillTailTactics
set_option linter.unusedVariables false
set_option linter.unusedSimpArgs false
set_option maxRecDepth 100000
set_option maxHeartbeats 16000000
namespace Go.Proofs.YtcnaogdgjkpkmaaGreatDoor
variable {cs:Array Value} {x:Int} {m:MZ} {g k:Nat} {a b c d z0 z1 z2:Value} {P:World->Prop}
section
open Go.RowKit
attribute [local go_sem ↓] Go.wp_at_zero Go.wp_at_succ
theorem make1_panics (gp ge:Nat) (x:Int) (older:List PanicEntry) (w:World) (hp:zj w gp 27 #[a,b,c]) (he:zj w ge 37 #[d]) (o:gp≠ge):
  CallsD Tryz.prog 49 #[.pointer (some ⟨gp,0,none⟩),.pointer (some ⟨ge,0,none⟩)] (.panicking ({ v:=.iface 37 (.int .i64 x),recovered:=false } :: older)) w fun e u' w'=>
   e=.returned (.tuple #[])/\u'=.panicking ({ v:=.iface 37 (.int .i64 x),recovered:=true } :: older)/\w'=(((w.setCell ⟨gp,0,none⟩ (.int .i64 0)).setCell ⟨gp,1,none⟩ (.slice none 0 0)).setCell ⟨gp,2,none⟩ (.slice none 0 0)).setCell ⟨ge,0,none⟩ (.int .i64 x):=by
 have c0:=hp.cell (k:=0) rfl;have c1:=hp.cell (k:=1) rfl;have c2:=hp.cell (k:=2) rfl;have ce:=he.cell (k:=0) rfl;have f0:=fun j=>hp.frozen j
 have fe:=he.frozen 0;refine callsD_of_wpS Tryz.func49 rfl fun c₀ cs D=>?_
 apply wpS_seq;apply wpS_region;simp [wpOpsS,go_sem,recoverD,D,Tryz.ntmps49,Exit.thenS];refine wpS_of_wp ?_;have r:∀W,(Instr.typeAssert (.iface 37 (.int .i64 x)) 20 37 true).run Tryz.prog W=.ok (.tuple #[.int .i64 x,.bool true]) W:=fun W=>by kernel_rfl
 go_wp2;cases c₀
 simp_all [bodyPostS,results,Tryz.results49]
theorem proveP_zero:∀(f:Nat) (ch:List Int) (k:Nat),(zr m f ch k).1≠0->(zr m f ch k).2.1=PT.zero
 | 0,ch,k,h=>by unfold zr;rfl
 | f+1,ch,k,h=>by
  by_cases h1:m.tasks.length<=zS m ch
  ·rw [proveP_end h1]
  ·by_cases h2:3000<k+1
   ·rw [proveP_many h1 h2]
   ·cases o:cutT m ch with
    | some t=>rw [proveP_cut h1 h2 o] at h;exact absurd rfl h
    | none=>
     rw [proveP_kids h1 h2 o] at h⊢
     split
     ·next r=>rw [if_pos r] at h;exact absurd rfl h
     ·rfl
theorem case_fin4 {W:World} {gp ge:Nat} {a0 a1 a2 e:Value} (h:∀WZ,zj WZ gp 27 #[a0,a1,a2]->zj WZ ge 37 #[d]->zm (fun b=>b=gp\/b=ge) W WZ->P WZ) (r:zj W gp 27 #[z0,z1,z2]) (he:zj W ge 37 #[e]):
  P ((((W.setCell ⟨gp,0,none⟩ a0).setCell ⟨gp,1,none⟩ a1).setCell ⟨gp,2,none⟩ a2).setCell ⟨ge,0,none⟩ d):=by
 have o:gp≠ge:=r.ne_ he (by decide);have h1:zj (setL gp 0 [a0,a1,a2] W) gp 27 #[a0,a1,a2]:=setL_blk [a0,a1,a2] [z0,z1,z2] [] W rfl r;have h2:zj (setL gp 0 [a0,a1,a2] W) ge 37 #[e]:=(BX gp ge (Ne.symm o) _ 0 W).trans he;refine h _ (h1.setOther (a:=⟨ge,0,none⟩) o d) (h2.set (k:=0) d) ⟨rfl,rfl,rfl,?_,fun b r D=>?_⟩
 ·simp
 ·refine (DL _ ⟨ge,0,none⟩ _ b (fun e=>D (.inr e))).trans (BX gp b (fun e=>D (.inl e)) [a0,a1,a2] 0 W)
theorem make1_idle (gp ge:Nat) (w:World):
  CallsD Tryz.prog 49 #[.pointer (some ⟨gp,0,none⟩),.pointer (some ⟨ge,0,none⟩)] .returning w fun e u' w'=>e=.returned (.tuple #[])/\u'=.returning/\w'=w:=by
 refine callsD_of_wpS Tryz.func49 rfl fun c₀ cs o=>?_
 apply wpS_seq;apply wpS_region;simp [wpOpsS,go_sem,recoverD,o,Tryz.ntmps49,Exit.thenS];refine wpS_of_wp ?_;go_wp2;cases c₀
 simp_all [bodyPostS,results,Tryz.results49]
theorem By {ok:Nat->Prop} {v:Value} (w:World) (hm:zM w ok v m) (hl:Lens m):
  Calls Tryz.prog 19 #[v] w fun e w'=>∃v',e=.returned (.tuple #[v',.int .i64 (Bf m).1])/\zc w w'/\Ay w' (fun b=>w.heap.size<=b) v' (Bf m).2:=by
 have HM:=zh hm;have HL:=zh hl;obtain ⟨Af,cf,Au,cu,At,ct,rfl,-,-,-⟩:=hm.parts;clear hm hl;have f7:∀(fn:Fn) (first cap:Array Value) (w:World),(Instr.makeFunc fn first cap).run Tryz.prog w=.ok (.func fn first cap) w:=fun _ _ _ _=>rfl
 go_enter_defers Tryz.func19,Tryz.ntmps19
 go_upto_region 1 with fail;obtain ⟨b5,r0,r1,r2,r3,r4,r5⟩:=box6 w (.int .i64 m.w) (.int .i64 m.h) (.int .i64 m.l) (.slice Af m.free.length cf) (.slice Au m.up.length cu) (.slice At m.tasks.length ct);have a8:(w.alloc (.cells #[.int .i64 m.w,.int .i64 m.h,.int .i64 m.l,.slice Af m.free.length cf,.slice Au m.up.length cu,.slice At m.tasks.length ct] 35)).heap.size=w.heap.size+1:=by simp
 generalize w.alloc _=w0 at b5 r0 r1 r2 r3 r4 r5 a8⊢;have U:=zj.new w0 #[.int .i64 0,.slice none 0 0,.slice none 0 0] 27 (g:=w0.heap.size) rfl;have a7:zc w0 (w0.alloc (.cells #[.int .i64 0,.slice none 0 0,.slice none 0 0] 27)):=(zc.refl w0).alloc _;have b9:(w0.alloc (.cells #[.int .i64 0,.slice none 0 0,.slice none 0 0] 27)).heap.size=w0.heap.size+1:=by simp
 generalize w0.alloc _=w1 at U a7 b9⊢;have Q:=zj.new w1 #[.int .i64 0] 37 (g:=w1.heap.size) rfl;have a1:zc w1 (w1.alloc (.cells #[.int .i64 0] 37)):=(zc.refl w1).alloc _;generalize w1.alloc _=w2 at Q a1⊢;rw [b9,a8] at Q;rw [a8] at U;obtain ⟨gm,b7⟩:=EH w.heap.size;rw [<-b7] at r0 r1 r2 r3 r4 r5 U Q⊢;have O:Hid (gm=w.heap.size):=b7;have I:=zh (a7.trans a1);have r0:=fun W h=>r0 W (I.out.trans h)
 have r1:=fun W h=>r1 W (I.out.trans h)
 have r2:=fun W h=>r2 W (I.out.trans h)
 have r3:=fun W h=>r3 W (I.out.trans h)
 have r4:=fun W h=>r4 W (I.out.trans h)
 have r5:=fun W h=>r5 W (I.out.trans h)
 have HP:=zh (U.ext a1);have HE:=zh Q;have b1:=zh (b5.trans (a7.trans a1));clear b7 b5 a8 a7 b9 a1 U Q;have hx:zc w2 w2:=zc.refl w2
 go_wp2_with fail
 refine (Be w2 (HM.out.below b1.out) HL.out).mono ?_;rintro e w3 ⟨rfl,a5⟩;have c6:zc w2 w3:=a5;have K:=zh (HP.out.ext a5);have M:=zh (HE.out.ext a5);obtain ⟨ck,b6⟩:=EH (Br m);have a3:=zh b6;rw [<-b6];clear hx a5 b6;by_cases h0:ck=0
 ·subst h0;have HC:Hid (Br m=0):=a3.out.symm;clear a3;have e8:=Ct w2
  go_wp2_with fail
  have a6:=zj.new w3 #[.int .i64 0] 86 (g:=w3.heap.size) rfl;have V:zc w3 (w3.alloc (.cells #[.int .i64 0] 86)):=(zc.refl w3).alloc _;have a9:(w3.alloc (.cells #[.int .i64 0] 86)).heap.size=w3.heap.size+1:=by simp
  generalize w3.alloc _=w4 at a6 V a9⊢;obtain ⟨gx,b8⟩:=EH w3.heap.size;rw [<-b8] at a6 a9⊢;have D:Hid (gm+2<gx/\w4.heap.size=gx+1):=⟨by rw [b8];have:=zb M.out;omega,a9⟩;have e5:=zh a6;have d7:Hid (zc w w4):=b1.out.trans (c6.trans V);have e3:=zh (K.out.ext V);have e1:=zh (M.out.ext V);clear a6 a9 b8 c6 V e8 r0 r1 r2 r3 r4 r5;refine (of_calls (ok:=fun b=>ok b/\b<w.heap.size) w4 (HM.out.bound.below d7.out) HL.out HC.out (zn.nil _ _) zw.nil).mono ?_;rintro e w5 ⟨vp,rfl,a0,d9⟩;have b2:=zh (e5.out.ext a0);have d8:=zh (d7.out.trans a0);have d4:=zh (e3.out.ext a0);have c9:=zh (e1.out.ext a0);have e4:=zh d9;clear a0 d9
  have d6:Hid (∀r,r=zr m (m.n.toNat+2) [] 0->Calls Tryz.prog 50 #[.pointer (some ⟨gx,0,none⟩),Dw m (.slice Af m.free.length cf) (.slice Au m.up.length cu) (.slice At m.tasks.length ct) (.slice none 0 0) vp (zS m [])] w5 (CL w5 gx r)):=fun r hr=>by
   rw [hr];exact prove_calls HL.out HC.out (m.n.toNat+2) [] 0 gx _ _ _ w5 e4.out zw.nil (by simp) (by omega) b2.out (fun b hb=>by have h1:=D.out;have h2:=O.out;rcases hb with hb | hb <;> omega)
  obtain ⟨r,hr⟩:=EH (zr m (m.n.toNat+2) [] 0);have a4:Hid (Bf m=(r.1,r.2.1)):=by (show _=_);unfold Bf;rw [if_pos HC.out,hr]
  have d5:=zh (d6.out r hr);have b3:Hid (r.1≠0->r.2.1=PT.zero):=fun h=>by rw [hr] at h⊢;exact proveP_zero _ _ _ h
  clear d6 hr;unfold Dw at d5⊢
  go_wp2_with fail
  refine d5.out.mono ?_;rintro e w6 ⟨G,(⟨h0,v6,rfl,b4,e6⟩ | ⟨h0,rfl⟩)⟩
  ·have E:=zh (G.blk d4.out (by have:=D.out;omega));have J:=zh (G.blk c9.out (by have:=D.out;omega));have b0:=zh G;have HR:=zh b4;have HZ:=zh h0;obtain ⟨As,cs,Ak,ck,rfl,-⟩:=b4.form;have c0:=E.out.cell (k:=0) rfl;have c1:=E.out.cell (k:=1) rfl;have c2:=E.out.cell (k:=2) rfl;have ce:=J.out.cell (k:=0) rfl;have f0:=fun j=>E.out.frozen j
   have fe:=J.out.frozen 0;clear G h0 b4 e6
   go_wp2_with fail
   refine case_fin4 (P:=fun W=>bodyPostD Tryz.prog Tryz.f19 _ Exit.ret _ W) (gp:=gm+1) (ge:=gm+1+1) ?_ E.out J.out;intro WZ o a2 hC;have y0:=o.cell (k:=0) rfl;have y1:=o.cell (k:=1) rfl;have y2:=o.cell (k:=2) rfl;have y3:=a2.cell (k:=0) rfl;refine leaves_cons (f:=49) (args:=#[.pointer (some ⟨gm+1,0,none⟩),.pointer (some ⟨gm+1+1,0,none⟩)]) (by simp) (by simp [go_sem]) ?_;refine (make1_idle _ _ _).mono ?_;rintro e u' w'' ⟨rfl,rfl,rfl⟩;refine ⟨.tuple #[.agg #[.int .i64 r.2.1.task,.slice As r.2.1.side.length cs,.slice Ak r.2.1.kids.length ck],.int .i64 0],by simp [results,Tryz.results19,go_sem,y0,y1,y2,y3],.agg #[.int .i64 r.2.1.task,.slice As r.2.1.side.length cs,.slice Ak r.2.1.kids.length ck],?_,?_,?_⟩
   ·rw [a4.out,HZ.out]
   ·exact (((zm.of_ext (X:=fun b=>gm<=b) d8.out).trans b0.out (fun k _ h=>by have:=D.out;omega)).trans hC (fun k _ h=>by omega)).below (DC _) (fun b hb=>by rw [O.out] at hb;exact hb)
   ·rw [a4.out];exact HR.out.keepW (fun b hb e7=>hC.block b e7 (by have h1:=D.out;have h2:=zb b2.out;omega)) (fun b hb=>by have h1:=D.out;have h2:=zb b2.out;have h3:=O.out;omega)
  ·have E:=zh (G.blk d4.out (by have:=D.out;omega));have J:=zh (G.blk c9.out (by have:=D.out;omega));have b0:=zh G;clear G
   go_wp2_with fail
   refine leaves_cons (f:=49) (args:=#[.pointer (some ⟨gm+1,0,none⟩),.pointer (some ⟨gm+1+1,0,none⟩)]) (by simp) (by simp [go_sem]) ?_;refine (make1_panics _ _ _ _ _ E.out J.out (by omega)).mono ?_;rintro e u' w'' ⟨rfl,rfl,rfl⟩;refine case_fin4 (P:=fun W=>Leaves Tryz.prog Tryz.f19 _ _ _ _ W) (gp:=gm+1) (ge:=gm+1+1) ?_ E.out J.out;intro WZ o a2 hC;have y0:=o.cell (k:=0) rfl;have y1:=o.cell (k:=1) rfl;have y2:=o.cell (k:=2) rfl;have y3:=a2.cell (k:=0) rfl;refine ⟨.tuple #[.agg #[.int .i64 0,.slice none 0 0,.slice none 0 0],.int .i64 r.1],by simp [results,Tryz.results19,go_sem,y0,y1,y2,y3],.agg #[.int .i64 0,.slice none 0 0,.slice none 0 0],?_,?_,?_⟩
   ·rw [a4.out]
   ·exact (((zm.of_ext (X:=fun b=>gm<=b) d8.out).trans b0.out (fun k _ h=>by have:=D.out;omega)).trans hC (fun k _ h=>by omega)).below (DC _) (fun b hb=>by rw [O.out] at hb;exact hb)
   ·rw [a4.out];have:r.2.1=PT.zero:=b3.out h0;rw [this];exact Ay.zero _ _
 ·have f8:(ck==0)=false:=by rw [DP];exact h0
  have f9:(ck != 0)=true:=by rw [bne_iff_ne];exact h0
  have c0:=K.out.cell (k:=0) rfl;have c1:=K.out.cell (k:=1) rfl;have c2:=K.out.cell (k:=2) rfl;have ce:=M.out.cell (k:=0) rfl;have f0:=fun j=>K.out.frozen j
  have fe:=M.out.frozen 0;have HN:Hid (Bf m=(ck,.zero)):=by (show _=_);unfold Bf;rw [if_neg (by rw [<-a3.out];exact h0),a3.out]
  clear h0
  go_wp2_with fail
  refine case_fin4 (P:=fun W=>bodyPostD Tryz.prog Tryz.f19 _ Exit.ret _ W) (gp:=gm+1) (ge:=gm+1+1) ?_ K.out M.out;intro WZ o a2 hC;have y0:=o.cell (k:=0) rfl;have y1:=o.cell (k:=1) rfl;have y2:=o.cell (k:=2) rfl;have y3:=a2.cell (k:=0) rfl;refine ⟨.tuple #[.agg #[.int .i64 0,.slice none 0 0,.slice none 0 0],.int .i64 ck],by simp [results,Tryz.results19,go_sem,y0,y1,y2,y3],.agg #[.int .i64 0,.slice none 0 0,.slice none 0 0],?_,?_,?_⟩
  ·rw [HN.out]
  ·exact ((zm.of_ext (X:=fun b=>gm<=b) (b1.out.trans c6)).trans hC (fun k _ h=>by omega)).below (DC _) (fun b hb=>by rw [O.out] at hb;exact hb)
  ·rw [HN.out];exact Ay.zero _ _
end
section
open Go.RowKit
structure J6 (B:Nat) (w0:World) (ge n t:Nat) (e:Nat->Bool) (v:Nat->Value) (W:World):Prop where
 gb:w0.grownBy W (some ge)
 dr:zP B W ge
 v0:e 0=true->∃g a b c,v 0=.slice (some ⟨g,0,none⟩) 3 3/\w0.heap.size<=g/\zj W g 9 #[.string a,.string b,.string c]
 v1:e 1=true->v 1=.int .i64 (t:Int)
 v2:e 2=true->∃g a b c,v 2=.pointer (some ⟨g,t,none⟩)/\w0.heap.size<=g/\zj W g 9 #[.string a,.string b,.string c]
 v3:e 3=true->∃s,v 3=.string s
 v4:e 4=true->v 4=.pointer (some ⟨ge,0,none⟩)
 v5:e 5=true->v 5=.int .i64 (n:Int)
 v6:e 6=true->∃x,v 6=.int .i64 x/\0<=x/\x<(n:Int)
 v7:e 7=true->∃g x,v 7=.slice (some ⟨g,0,none⟩) 1 1/\w0.heap.size<=g/\zj W g 3 #[.int .i64 x]/\0<=x/\x<(n:Int)
 v8:e 8=true->v 8=.pointer (some ⟨ge,0,none⟩)
 v9:e 9=true->v 9=.int .i64 (n:Int)
 v10:e 10=true->∃x,v 10=.int .i64 x/\0<=x/\x<(n:Int)
 v11:e 11=true->∃g x,v 11=.slice (some ⟨g,0,none⟩) 1 1/\w0.heap.size<=g/\zj W g 3 #[.int .i64 x]/\0<=x/\x<(n:Int)
 ne:e 7=true->e 11=true->(v 7).ownBlock≠(v 11).ownBlock
 v12:e 12=true->v 12=.agg #[v 3,v 7,v 11]/\e 3=true/\e 7=true/\e 11=true
 v13:e 13=true->∃g,v 13=.pointer (some ⟨g,0,none⟩)/\w0.heap.size<=g/\(e 14=false->zj W g 101 #[.string ⟨#[]⟩,.slice none 0 0,.slice none 0 0])/\(e 14=true->zj W g 101 #[v 3,v 7,v 11])
 d14:e 14=true->e 12=true/\e 13=true
section
variable {B:Nat} {w0 W W':World} {ge n t:Nat} {e:Nat->Bool} {v:Nat->Value}
theorem J6.init (o:zP B w0 ge) (he:∀j∈[0,1,2,3,4,5,6,7,8,9,10,11,12,13,14],e j=false):J6 B w0 ge n t e v w0.drew:=
 ⟨⟨rfl,rfl,rfl,DC _,fun _ _ _=>rfl⟩,o,fun a=>ff (he 0 (by simp)) a,fun a=>ff (he 1 (by simp)) a,fun a=>ff (he 2 (by simp)) a,fun a=>ff (he 3 (by simp)) a,fun a=>ff (he 4 (by simp)) a,fun a=>ff (he 5 (by simp)) a,fun a=>ff (he 6 (by simp)) a,fun a=>ff (he 7 (by simp)) a,fun a=>ff (he 8 (by simp)) a,fun a=>ff (he 9 (by simp)) a,fun a=>ff (he 10 (by simp)) a,fun a=>ff (he 11 (by simp)) a,fun a=>ff (he 7 (by simp)) a,fun a=>ff (he 12 (by simp)) a,fun a=>ff (he 13 (by simp)) a,fun a=>ff (he 14 (by simp)) a⟩
theorem J6.move (h:J6 B w0 ge n t e v W) (gb:W.grownBy W' (some ge)) (dr:zP B W' ge) (r:∀g ty cs,w0.heap.size<=g->zj W g ty cs->zj W' g ty cs):J6 B w0 ge n t e v W':=
 ⟨h.gb.trans gb,dr,fun a=>let ⟨g,x,y,z,h1,h2,o⟩:=h.v0 a;⟨g,x,y,z,h1,h2,r _ _ _ h2 o⟩,h.v1,fun a=>let ⟨g,x,y,z,h1,h2,o⟩:=h.v2 a;⟨g,x,y,z,h1,h2,r _ _ _ h2 o⟩,h.v3,h.v4,h.v5,h.v6,
  fun a=>let ⟨g,x,h1,h2,o,D⟩:=h.v7 a;⟨g,x,h1,h2,r _ _ _ h2 o,D⟩,h.v8,h.v9,h.v10,fun a=>let ⟨g,x,h1,h2,o,D⟩:=h.v11 a;⟨g,x,h1,h2,r _ _ _ h2 o,D⟩,h.ne,h.v12,
  fun a=>let ⟨g,h1,h2,o,D⟩:=h.v13 a;⟨g,h1,h2,fun b=>r _ _ _ h2 (o b),fun b=>r _ _ _ h2 (D b)⟩,h.d14⟩
theorem J6.hge (h:J6 B w0 ge n t e v W) (o:ge<w0.heap.size):w0.heap.size<=W.heap.size:=h.gb.size
theorem J6.alloc (h:J6 B w0 ge n t e v W) (r:B<=w0.heap.size) (o:Obj):J6 B w0 ge n t e v (W.alloc o):=
 h.move ⟨rfl,rfl,rfl,by simp,fun i E _=>DV _ _ _ E⟩ (h.dr.ext ((zc.refl _).alloc _) (DE r h.gb.size)) (fun g ty cs _ D=>D.alloc o)
theorem J6.call (h:J6 B w0 ge n t e v W) (D:ge<w0.heap.size) (gb:W.grownBy W' (some ge)) (dr:zP B W' ge):J6 B w0 ge n t e v W':=
 h.move gb dr (fun g ty cs r o=>(gb.block g (zb o) (fun e=>by injection e with e;omega)).trans o)
theorem J6.n12 (h:J6 B w0 ge n t e v W) (o:e 12=false):e 14=false:=notT (fun a=>(h.d14 a).1) o
theorem J6.n13 (h:J6 B w0 ge n t e v W) (o:e 13=false):e 14=false:=notT (fun a=>(h.d14 a).2) o
theorem J6.n3 (h:J6 B w0 ge n t e v W) (o:e 3=false):e 12=false:=notT (fun a=>(h.v12 a).2.1) o
theorem J6.n7 (h:J6 B w0 ge n t e v W) (o:e 7=false):e 12=false:=notT (fun a=>(h.v12 a).2.2.1) o
theorem J6.n11 (h:J6 B w0 ge n t e v W) (o:e 11=false):e 12=false:=notT (fun a=>(h.v12 a).2.2.2) o
theorem J6.s0 (h:J6 B w0 ge n t e v W) (o:B<=w0.heap.size) (a b c:ByteArray):J6 B w0 ge n t (zV e 0 true) (zV v 0 (.slice (some ⟨W.heap.size,0,none⟩) 3 3)) (W.alloc (.cells #[.string a,.string b,.string c] 9)):=
 let k:=h.alloc o (.cells #[.string a,.string b,.string c] 9)
 ⟨k.gb,k.dr,fun _=>⟨_,a,b,c,rfl,h.gb.size,zj.new _ _ _ rfl⟩,k.v1,k.v2,k.v3,k.v4,k.v5,k.v6,k.v7,k.v8,k.v9,k.v10,k.v11,k.ne,k.v12,k.v13,k.d14⟩
theorem J6.s1 (h:J6 B w0 ge n t e v W):J6 B w0 ge n t (zV e 1 true) (zV v 1 (.int .i64 (t:Int))) W:=
 ⟨h.gb,h.dr,h.v0,fun _=>rfl,h.v2,h.v3,h.v4,h.v5,h.v6,h.v7,h.v8,h.v9,h.v10,h.v11,h.ne,h.v12,h.v13,h.d14⟩
theorem J6.s2 (h:J6 B w0 ge n t e v W) {a b c:ByteArray} (r:w0.heap.size<=g) (o:zj W g 9 #[.string a,.string b,.string c]):J6 B w0 ge n t (zV e 2 true) (zV v 2 (.pointer (some ⟨g,t,none⟩))) W:=
 ⟨h.gb,h.dr,h.v0,h.v1,fun _=>⟨g,a,b,c,rfl,r,o⟩,h.v3,h.v4,h.v5,h.v6,h.v7,h.v8,h.v9,h.v10,h.v11,h.ne,h.v12,h.v13,h.d14⟩
theorem J6.s3 (h:J6 B w0 ge n t e v W) (r:e 3=false) (s:ByteArray):J6 B w0 ge n t (zV e 3 true) (zV v 3 (.string s)) W:=
 ⟨h.gb,h.dr,h.v0,h.v1,h.v2,fun _=>⟨s,rfl⟩,h.v4,h.v5,h.v6,h.v7,h.v8,h.v9,h.v10,h.v11,h.ne,fun a=>ff (b:=e 12) (h.n3 r) a,fun a=>let ⟨g,h1,h2,o,D⟩:=h.v13 a;⟨g,h1,h2,o,fun b=>ff (b:=e 14) (h.n12 (h.n3 r)) b⟩,h.d14⟩
theorem J6.s4 (h:J6 B w0 ge n t e v W):J6 B w0 ge n t (zV e 4 true) (zV v 4 (.pointer (some ⟨ge,0,none⟩))) W:=
 ⟨h.gb,h.dr,h.v0,h.v1,h.v2,h.v3,fun _=>rfl,h.v5,h.v6,h.v7,h.v8,h.v9,h.v10,h.v11,h.ne,h.v12,h.v13,h.d14⟩
theorem J6.s5 (h:J6 B w0 ge n t e v W):J6 B w0 ge n t (zV e 5 true) (zV v 5 (.int .i64 (n:Int))) W:=
 ⟨h.gb,h.dr,h.v0,h.v1,h.v2,h.v3,h.v4,fun _=>rfl,h.v6,h.v7,h.v8,h.v9,h.v10,h.v11,h.ne,h.v12,h.v13,h.d14⟩
theorem J6.s6 (h:J6 B w0 ge n t e v W) (r:ge<w0.heap.size) (gb:W.grownBy W' (some ge)) (dr:zP B W' ge) (D:0<=x) (o:x<(n:Int)):J6 B w0 ge n t (zV e 6 true) (zV v 6 (.int .i64 x)) W':=
 let k:=h.call r gb dr
 ⟨k.gb,k.dr,k.v0,k.v1,k.v2,k.v3,k.v4,k.v5,fun _=>⟨x,rfl,D,o⟩,k.v7,k.v8,k.v9,k.v10,k.v11,k.ne,k.v12,k.v13,k.d14⟩
theorem J6.s7 (h:J6 B w0 ge n t e v W) (G:B<=w0.heap.size) (D:e 7=false) (I:0<=x) (r:x<(n:Int)):J6 B w0 ge n t (zV e 7 true) (zV v 7 (.slice (some ⟨W.heap.size,0,none⟩) 1 1)) (W.alloc (.cells #[.int .i64 x] 3)):=
 let k:=h.alloc G (.cells #[.int .i64 x] 3)
 ⟨k.gb,k.dr,k.v0,k.v1,k.v2,k.v3,k.v4,k.v5,k.v6,fun _=>⟨_,x,rfl,h.gb.size,zj.new _ _ _ rfl,I,r⟩,k.v8,k.v9,k.v10,k.v11,fun _ b=>by
  obtain ⟨g,y,h1,_,E,_⟩:=h.v11 b;show (Value.slice (some ⟨W.heap.size,0,none⟩) 1 1).ownBlock≠(v 11).ownBlock;rw [h1];intro e;have:=zb E;have e:some W.heap.size=some g:=e;injection e with e;omega,fun a=>ff (b:=e 12) (h.n7 D) a,fun a=>let ⟨g,h1,h2,o,J⟩:=k.v13 a;⟨g,h1,h2,o,fun b=>ff (b:=e 14) (h.n12 (h.n7 D)) b⟩,k.d14⟩
theorem J6.s8 (h:J6 B w0 ge n t e v W):J6 B w0 ge n t (zV e 8 true) (zV v 8 (.pointer (some ⟨ge,0,none⟩))) W:=
 ⟨h.gb,h.dr,h.v0,h.v1,h.v2,h.v3,h.v4,h.v5,h.v6,h.v7,fun _=>rfl,h.v9,h.v10,h.v11,h.ne,h.v12,h.v13,h.d14⟩
theorem J6.s9 (h:J6 B w0 ge n t e v W):J6 B w0 ge n t (zV e 9 true) (zV v 9 (.int .i64 (n:Int))) W:=
 ⟨h.gb,h.dr,h.v0,h.v1,h.v2,h.v3,h.v4,h.v5,h.v6,h.v7,h.v8,fun _=>rfl,h.v10,h.v11,h.ne,h.v12,h.v13,h.d14⟩
theorem J6.s10 (h:J6 B w0 ge n t e v W) (r:ge<w0.heap.size) (gb:W.grownBy W' (some ge)) (dr:zP B W' ge) (D:0<=x) (o:x<(n:Int)):J6 B w0 ge n t (zV e 10 true) (zV v 10 (.int .i64 x)) W':=
 let k:=h.call r gb dr
 ⟨k.gb,k.dr,k.v0,k.v1,k.v2,k.v3,k.v4,k.v5,k.v6,k.v7,k.v8,k.v9,fun _=>⟨x,rfl,D,o⟩,k.v11,k.ne,k.v12,k.v13,k.d14⟩
theorem J6.s11 (h:J6 B w0 ge n t e v W) (G:B<=w0.heap.size) (D:e 11=false) (I:0<=x) (r:x<(n:Int)):J6 B w0 ge n t (zV e 11 true) (zV v 11 (.slice (some ⟨W.heap.size,0,none⟩) 1 1)) (W.alloc (.cells #[.int .i64 x] 3)):=
 let k:=h.alloc G (.cells #[.int .i64 x] 3)
 ⟨k.gb,k.dr,k.v0,k.v1,k.v2,k.v3,k.v4,k.v5,k.v6,k.v7,k.v8,k.v9,k.v10,fun _=>⟨_,x,rfl,h.gb.size,zj.new _ _ _ rfl,I,r⟩,fun a _=>by
  obtain ⟨g,y,h1,_,E,_⟩:=h.v7 a;show (v 7).ownBlock≠(Value.slice (some ⟨W.heap.size,0,none⟩) 1 1).ownBlock;rw [h1];intro e;have:=zb E;have e:some g=some W.heap.size:=e;injection e with e;omega,fun a=>ff (b:=e 12) (h.n11 D) a,fun a=>let ⟨g,h1,h2,o,J⟩:=k.v13 a;⟨g,h1,h2,o,fun b=>ff (b:=e 14) (h.n12 (h.n11 D)) b⟩,k.d14⟩
theorem J6.s12 (h:J6 B w0 ge n t e v W) (r:e 3=true) (D:e 7=true) (o:e 11=true):J6 B w0 ge n t (zV e 12 true) (zV v 12 (.agg #[v 3,v 7,v 11])) W:=
 ⟨h.gb,h.dr,h.v0,h.v1,h.v2,h.v3,h.v4,h.v5,h.v6,h.v7,h.v8,h.v9,h.v10,h.v11,h.ne,fun _=>⟨rfl,r,D,o⟩,h.v13,fun a=>⟨rfl,(h.d14 a).2⟩⟩
theorem J6.s13 (h:J6 B w0 ge n t e v W) (r:B<=w0.heap.size) (o:e 13=false):J6 B w0 ge n t (zV e 13 true) (zV v 13 (.pointer (some ⟨W.heap.size,0,none⟩))) (W.alloc (.cells #[.string ⟨#[]⟩,.slice none 0 0,.slice none 0 0] 101)):=
 let k:=h.alloc r (.cells #[.string ⟨#[]⟩,.slice none 0 0,.slice none 0 0] 101)
 ⟨k.gb,k.dr,k.v0,k.v1,k.v2,k.v3,k.v4,k.v5,k.v6,k.v7,k.v8,k.v9,k.v10,k.v11,k.ne,k.v12,fun _=>⟨_,rfl,h.gb.size,fun _=>zj.new _ _ _ rfl,fun b=>ff (b:=e 14) (h.n13 o) b⟩,fun a=>ff (b:=e 14) (h.n13 o) a⟩
theorem J6.s14 (h:J6 B w0 ge n t e v W) (hB:B<=w0.heap.size) (K:e 12=true) (M:e 13=true) {x:Value} (hv:v 13=.pointer (some ⟨g,0,none⟩)) (V:w0.heap.size<=g) (U:zj W g 101 #[.string ⟨#[]⟩,.slice none 0 0,.slice none 0 0]) (hl:ge<w0.heap.size):
  J6 B w0 ge n t (zV e 14 true) (zV v 14 x) (((W.setCell ⟨g,0,none⟩ (v 3)).setCell ⟨g,1,none⟩ (v 7)).setCell ⟨g,2,none⟩ (v 11)):=by
 have E:∀g',g'≠g->(((W.setCell ⟨g,0,none⟩ (v 3)).setCell ⟨g,1,none⟩ (v 7)).setCell ⟨g,2,none⟩ (v 11)).heap[g']?=W.heap[g']?:=fun g' D=>
  (DL _ ⟨g,2,none⟩ _ g' D).trans ((DL _ ⟨g,1,none⟩ _ g' D).trans (DL _ ⟨g,0,none⟩ _ g' D))
 have J:∀g' ty cs,ty≠101->zj W g' ty cs->zj (((W.setCell ⟨g,0,none⟩ (v 3)).setCell ⟨g,1,none⟩ (v 7)).setCell ⟨g,2,none⟩ (v 11)) g' ty cs:=fun g' ty cs Q G=>(E g' (zj.ne_ G U Q)).trans G
 have o:Below B W (((W.setCell ⟨g,0,none⟩ (v 3)).setCell ⟨g,1,none⟩ (v 7)).setCell ⟨g,2,none⟩ (v 11)):=(((Below.refl B W).setCell (p:=⟨g,0,none⟩) (by show B<=g;omega) _).setCell (p:=⟨g,1,none⟩) (by show B<=g;omega) _).setCell (p:=⟨g,2,none⟩) (by show B<=g;omega) _;refine ⟨⟨h.gb.os,h.gb.tape,h.gb.output,DE h.gb.size o.size,fun i hi I=>(E i (by omega)).trans (h.gb.block i hi I)⟩,h.dr.keep o (E ge (by omega)),fun a=>?_,h.v1,fun a=>?_,h.v3,h.v4,h.v5,h.v6,fun a=>?_,h.v8,h.v9,h.v10,fun a=>?_,h.ne,h.v12,fun _=>⟨g,hv,V,fun a=>(by cases a),fun _=>?_⟩,fun _=>⟨K,M⟩⟩
 ·obtain ⟨g',a1,b1,c1,h1,h2,r⟩:=h.v0 a;exact ⟨g',a1,b1,c1,h1,h2,J _ _ _ (by decide) r⟩
 ·obtain ⟨g',a1,b1,c1,h1,h2,r⟩:=h.v2 a;exact ⟨g',a1,b1,c1,h1,h2,J _ _ _ (by decide) r⟩
 ·obtain ⟨g',x',h1,h2,r,O⟩:=h.v7 a;exact ⟨g',x',h1,h2,J _ _ _ (by decide) r,O⟩
 ·obtain ⟨g',x',h1,h2,r,O⟩:=h.v11 a;exact ⟨g',x',h1,h2,J _ _ _ (by decide) r,O⟩
 ·exact ((U.set (k:=0) (v 3)).set (k:=1) (v 7)).set (k:=2) (v 11)
theorem own1 {W:World} {S:Nat} (o:zj W g 3 #[.int .i64 x]) (r:S<=g):zF W S (.slice (some ⟨g,0,none⟩) 1 1) [x]:=
 ⟨rfl,.inr ⟨g,1,#[.int .i64 x],rfl,r,o,DC _,by unfold maxLen;omega,rfl,rfl⟩⟩
theorem J6.fin {S:Nat} (h:J6 B w0 ge n t (fun _=>true) v W) (hB:B<=S) (hS:S<=w0.heap.size) (O:S<=ge):∃s g7 g11 gt x1 x2,v 3=.string s/\v 7=.slice (some ⟨g7,0,none⟩) 1 1/\v 11=.slice (some ⟨g11,0,none⟩) 1 1/\v 13=.pointer (some ⟨gt,0,none⟩)/\
  R1 B W S ge gt n s (.slice (some ⟨g7,0,none⟩) 1 1) (.slice (some ⟨g11,0,none⟩) 1 1) [x1] [x2]:=by
 obtain ⟨s,U⟩:=h.v3 rfl;obtain ⟨g7,x1,r,V,I,J⟩:=h.v7 rfl;obtain ⟨g11,x2,D,a0,K,M⟩:=h.v11 rfl;obtain ⟨gt,E,Q,_,o⟩:=h.v13 rfl;have o:=o rfl;have G:=h.ne rfl rfl;rw [U,r,D] at o;rw [r,D] at G;refine ⟨s,g7,g11,gt,x1,x2,U,r,D,E,hB,DE hS h.gb.size,h.dr,O,o,by omega,own1 I (by omega),own1 K (by omega),.inr G,by simp,by simp,fun y hy=>?_⟩;rcases hy with hy | hy
 ·rw [Ej] at hy;rw [hy];exact J
 ·rw [Ej] at hy;rw [hy];exact M
end
structure MadeM (m:MZ):Prop where
 good:Am m
 w:2<=m.w/\m.w<=4
 h:1<=m.h/\m.h<=4
 l:1<=m.l/\m.l<=2
 n:2<=m.n/\m.n<=16
 tk:1<=m.tasks.length/\m.tasks.length<=3
 te:∀t∈m.tasks,(t.1≠[]/\t.2≠[])/\t.1.length<=2/\t.2.length<=2
 lens:Lens m
theorem dims {W H L:Int} (hW:2<=W/\W<=4) (D:1<=H/\H<=4) (hL:L=1\/(L=2/\W<=3/\H<=2)):2<=W*H/\W*H<=16/\2<=W*H*L/\W*H*L<=16:=by
 have h1:W=2\/W=3\/W=4:=by omega
 have h2:H=1\/H=2\/H=3\/H=4:=by omega
 rcases h1 with rfl | rfl | rfl <;> rcases h2 with rfl | rfl | rfl | rfl <;> rcases hL with rfl | ⟨rfl,o,r⟩ <;> omega
theorem chooseL {β:Type} {p:Nat->β->Prop}:∀(n:Nat),(∀i,i<n->∃b,p i b)->∃l:List β,l.length=n/\∀i b,l[i]?=some b->p i b
 | 0,_=>⟨[],rfl,fun i b h=>by simp at h⟩
 | n+1,h=>by
  obtain ⟨l,D,h1⟩:=chooseL n (fun i hi=>h i (by omega));obtain ⟨b,E⟩:=h n (by omega);refine ⟨l++[b],by simp [D],fun i x o=>?_⟩;rcases DZ i l.length with hi | hi
  ·rw [DH hi] at o;exact h1 i x o
  ·have r:i=l.length:=by
    rcases DZ i (l++[b]).length with h2 | h2
    ·simp at h2;omega
    ·rw [DW h2] at o;cases o
   subst r;rw [DI (DC _),Nat.sub_self] at o;have:b=x:=by simpa using o
   subst this;rw [D];exact E
structure RU (w1:World) (B:Nat) (w:World) (S gm gd:Nat) (W H L:Int) (n tF tT:Nat) (vF vU vT:Value) (fs ts:List Value) (us:List Bool):Prop where
 hB:B=w1.heap.size
 hBS:B<=S
 ms:MS B w S gm gd W H L n tF tT vF vU vT fs ts
 ow:OwnB w S vU us
 ex:zc w1 w
section
variable {w1 w w':World} {B S gm gd:Nat} {W H L:Int} {n tF tT:Nat} {vF vU vU' vT:Value} {fs ts:List Value} {us:List Bool}
theorem RU.ext (h:RU w1 B w S gm gd W H L n tF tT vF vU vT fs ts us) (o:zc w w'):RU w1 B w' S gm gd W H L n tF tT vF vU vT fs ts us:=
 ⟨h.hB,h.hBS,h.ms.extS o,zy h.ow fun g r=>o.block g (World.ownsRow.lt h.ow g r).2,h.ex.trans o⟩
theorem RU.drawn (h:RU w1 B w S gm gd W H L n tF tT vF vU vT fs ts us) (G:zP B w' gd) (r:w.grownBy w' (some gd)):RU w1 B w' S gm gd W H L n tF tT vF vU vT fs ts us:=by
 obtain ⟨cs,E⟩:=h.ms.dr.blk;refine ⟨h.hB,h.hBS,h.ms.drawn G r,zy h.ow fun g o=>r.block g (World.ownsRow.lt h.ow g o).2 (fun e=>?_),Below.grown h.ex r h.ex.size (fun k D=>by injection D with D;have:=h.ms.dr.1;have:=h.hB;omega)⟩;injection e with e;exact zg h.ow E (by decide) (o.trans (congrArg some e))
theorem RU.add (h:RU w1 B w S gm gd W H L n tF tT vF vU vT fs ts us) {x:Bool} {w5:World} {o:Obj} (E:w5.ownsRow S 4 1 vU' (us.length+1) (us.map Value.bool++[.bool x])) (D:(w.alloc o).grownBy w5 vU.ownBlock):
  RU w1 B (w5.setCell ⟨gm,4,none⟩ vU') S gm gd W H L n tF tT vF vU' vT fs ts (us++[x]):=by
 obtain ⟨h1,h2,r⟩:=h.ms.addU h.hBS h.ow E D;exact ⟨h.hB,h.hBS,h1,h2,Below.trans h.ex (h.hB ▸ r)⟩
theorem RU.maze {t:Nat} (h:RU w1 B w S gm gd W H L n t t vF vU vT fs ts us) (hW:2<=W/\W<=4) (hH:1<=H/\H<=4) (hL:L=1\/(L=2/\W<=3/\H<=2)) (V:(n:Int)=W*H*L) (ht:1<=t/\t<=3) (hu:us.length=n):
  ∃m,zM w (fun b=>B<=b) (.agg #[.int .i64 W,.int .i64 H,.int .i64 L,vF,vU,vT]) m/\MadeM m:=by
 obtain ⟨d1,d2,d3,d4⟩:=dims hW hH hL
 obtain ⟨fr,U,Q⟩:=chooseL (p:=fun j (l:List Bool)=>∃u,fs[j]?=some u/\AZ w (fun b=>B<=b) u l/\l.length=n) t (fun j o=>by
  obtain ⟨u,h1,l,h2,D,_⟩:=h.ms.fd j o;exact ⟨l,u,h1,h2.bools,D⟩)
 obtain ⟨tk,a0,E⟩:=chooseL (p:=fun j (l:List Int×List Int)=>∃s u1 u2,ts[j*3]?=some (.string s)/\ts[j*3+1]?=some u1/\ts[j*3+2]?=some u2/\zn w (fun b=>B<=b) u1 l.1/\zn w (fun b=>B<=b) u2 l.2/\(l.1≠[]/\l.2≠[])/\(l.1.length<=2/\l.2.length<=2)/\(∀x,x∈l.1\/x∈l.2->0<=x/\x<(n:Int))) t (fun j o=>by
  obtain ⟨s,u1,u2,h1,h2,D,l1,l2,I,J,K,M,O,_⟩:=h.ms.td j o;exact ⟨(l1,l2),s,u1,u2,h1,h2,D,An.of_own I,An.of_own J,K,M,O⟩)
 have G:∀x∈tk,∃j,tk[j]?=some x:=fun x r=>by
  obtain ⟨j,o,rfl⟩:=Ei r;exact ⟨j,DA o⟩
 have hg:Am ⟨W,H,L,fr,us,tk⟩:=by
  refine ⟨⟨by show 1<=W;omega,by show W<=300;omega,by show 1<=H;omega,by show H<=300;omega,by show 1<=L;omega,by show L<=300;omega,by show W*H*L<=300;omega,?_⟩,?_,?_,?_,?_⟩
  ·show (us.length:Int)=W*H*L;rw [hu,V]
  ·show fr.length=tk.length;omega
  ·intro f hf;obtain ⟨j,o,rfl⟩:=Ei hf;obtain ⟨u,_,_,D⟩:=Q j _ (DA o);show ((fr[j]).length:Int)=W*H*L;rw [D,V]
  ·show tk.length<=6;omega
  ·intro x r y hy;obtain ⟨j,o⟩:=G x r;obtain ⟨s,u1,u2,h1,h2,D,I,J,K,M,O⟩:=E j x o;have:=O y hy;show 0<=y/\y<W*H*L;rw [<-V];exact this
 refine ⟨⟨W,H,L,fr,us,tk⟩,⟨vF,vU,vT,rfl,?_,?_,?_⟩,⟨hg,hW,hH,by show 1<=L/\L<=2;omega,by show 2<=W*H*L/\W*H*L<=16;omega,by show 1<=tk.length/\tk.length<=3;omega,fun x r=>?_,⟨by show fr.length<=_;omega,by show us.length<=_;omega,by show tk.length<=_;omega,fun x r=>?_⟩⟩⟩
 ·refine ⟨fs,by show An w _ 1 vF fr.length fs;rw [U];exact An.of_own h.ms.F,fun i x r=>?_⟩;obtain ⟨u,h1,h2,_⟩:=Q i x r;exact ⟨u,h1,h2⟩
 ·exact (OwnB.bools h.ow).weaken fun b hb=>DE h.hBS hb
 ·refine ⟨ts,by show An w _ 3 vT tk.length ts;rw [a0];exact An.of_own h.ms.T,fun i x r=>?_⟩;obtain ⟨s,u1,u2,h1,h2,D,I,J,_⟩:=E i x r;exact ⟨s,u1,u2,h1,h2,D,I,J⟩
 ·obtain ⟨j,o⟩:=G x r;obtain ⟨s,u1,u2,h1,h2,D,I,J,K,M,O⟩:=E j x o;exact ⟨K,M⟩
 ·obtain ⟨j,o⟩:=G x r;obtain ⟨s,u1,u2,h1,h2,D,I,J,K,M,O⟩:=E j x o;exact ⟨by omega,by omega⟩
end
theorem case_fin {W:World} {g2:Nat} {t:TypeId} {e f z3 z4 z5:Value} (h:∀WZ,zj WZ g2 t #[a,b,c,d,e,f]->Below g2 W WZ->(∀k,k<W.heap.size->k≠g2->WZ.heap[k]?=W.heap[k]?)->P WZ) (D:zj W g2 t #[z0,z1,z2,z3,z4,z5]):
  P ((((((W.setCell ⟨g2,0,none⟩ a).setCell ⟨g2,1,none⟩ b).setCell ⟨g2,2,none⟩ c).setCell ⟨g2,3,none⟩ d).setCell ⟨g2,4,none⟩ e).setCell ⟨g2,5,none⟩ f):=by
 refine h _ ?_ ((((((Below.refl g2 W).setCell (p:=⟨g2,0,none⟩) (DC _) _).setCell (p:=⟨g2,1,none⟩) (DC _) _).setCell (p:=⟨g2,2,none⟩) (DC _) _).setCell (p:=⟨g2,3,none⟩) (DC _) _).setCell (p:=⟨g2,4,none⟩) (DC _) _ |>.setCell (p:=⟨g2,5,none⟩) (DC _) _) fun k _ o=>?_
 ·have r:=(((((D.set (k:=0) a).set (k:=1) b).set (k:=2) c).set (k:=3) d).set (k:=4) e).set (k:=5) f;exact r
 ·exact (DL _ ⟨g2,5,none⟩ _ k o).trans ((DL _ ⟨g2,4,none⟩ _ k o).trans ((DL _ ⟨g2,3,none⟩ _ k o).trans ((DL _ ⟨g2,2,none⟩ _ k o).trans ((DL _ ⟨g2,1,none⟩ _ k o).trans (DL _ ⟨g2,0,none⟩ _ k o)))))
def SB (w W:World):Prop:=∀g ty cs,zj w g ty cs->ty≠4->W.heap[g]?=w.heap[g]?
theorem SB.rule {w:World} {ty:TypeId} {v:Value} (r:zj w g ty cs) (o:ty≠4) (D:w.cell? ⟨g,k,none⟩=some v):∀W,SB w W->W.cell? ⟨g,k,none⟩=some v:=
 fun W h=>(DS (a:=⟨g,k,none⟩) (h g ty cs r o)).trans D
theorem SB.set {w W:World} (h:SB w W) (D:zj w g 4 cs) (x:Value):SB w (W.setCell ⟨g,k,none⟩ x):=
 fun g' ty' cs' o r=>(DL W ⟨g,k,none⟩ x g' (zj.ne_ o D r)).trans (h g' ty' cs' o r)
theorem SB.drew (w:World):SB w w.drew:=fun _ _ _ _ _=>rfl
def AD (w:World) (e:Ending) (w':World):Prop:=∃v' m,e=.returned v'/\zc w w'/\zM w' (fun b=>w.heap.size<=b) v' m/\MadeM m
end
end Go.Proofs.YtcnaogdgjkpkmaaGreatDoor
