import Derived.Test.YtfjjdmpndmbfoaaGreatDoorWTm
import Derived.Recover
import Derived.StillTailTactics
set_option linter.unusedVariables false
set_option linter.unusedSimpArgs false
set_option maxRecDepth 100000
set_option maxHeartbeats 16000000
namespace Go.Proofs.YtfjjdmpndmbfoaaGreatDoor
variable {cs:Array Value} {x:Int} {m:MZ} {g k:Nat} {a b c d z0 z1 z2:Value} {P:World->Prop}
section
open Go.RowKit
attribute [local go_sem ↓] Go.wp_at_zero Go.wp_at_succ
theorem make1_panics (gp ge:Nat) (x:Int) (older:List PanicEntry) (w:World) (hp:zg w gp 42 #[a,b,c]) (he:zg w ge 31 #[d]) (o:gp≠ge):
  CallsD Tryz.prog 64 #[.pointer (some ⟨gp,0,none⟩),.pointer (some ⟨ge,0,none⟩)] (.panicking ({ v:=.iface 31 (.int .i64 x),recovered:=false } :: older)) w fun e u' w'=>
   e=.returned (.tuple #[])/\u'=.panicking ({ v:=.iface 31 (.int .i64 x),recovered:=true } :: older)/\w'=(((w.setCell ⟨gp,0,none⟩ (.int .i64 0)).setCell ⟨gp,1,none⟩ (.slice none 0 0)).setCell ⟨gp,2,none⟩ (.slice none 0 0)).setCell ⟨ge,0,none⟩ (.int .i64 x):=by
 have c0:=hp.cell (k:=0) rfl;have c1:=hp.cell (k:=1) rfl;have c2:=hp.cell (k:=2) rfl;have ce:=he.cell (k:=0) rfl;have f0:=fun j=>hp.frozen j
 have fe:=he.frozen 0;refine callsD_of_wpS Tryz.func64 rfl fun c₀ cs E=>?_
 apply wpS_seq;apply wpS_region;simp [wpOpsS,go_sem,recoverD,E,Tryz.ntmps64,Exit.thenS];refine wpS_of_wp ?_;have D:∀W,(Instr.typeAssert (.iface 31 (.int .i64 x)) 20 31 true).run Tryz.prog W=.ok (.tuple #[.int .i64 x,.bool true]) W:=fun W=>by kernel_rfl
 go_wp2;cases c₀
 simp_all [bodyPostS,results,Tryz.results64]
theorem proveP_zero:∀(f:Nat) (ch:List Int) (k:Nat),(zu m f ch k).1≠0->(zu m f ch k).2.1=PT.zero
 | 0,ch,k,h=>by unfold zu;rfl
 | f+1,ch,k,h=>by
  by_cases h1:m.tasks.length<=AB m ch
  ·rw [proveP_end h1]
  ·by_cases o:3000<k+1
   ·rw [proveP_many h1 o]
   ·cases D:cutT m ch with
    | some t=>rw [proveP_cut h1 o D] at h;exact absurd rfl h
    | none=>
     rw [proveP_kids h1 o D] at h⊢
     split
     ·next E=>rw [if_pos E] at h;exact absurd rfl h
     ·rfl
theorem case_fin4 {W:World} {gp ge:Nat} {a0 a1 a2 e:Value} (h:∀WZ,zg WZ gp 42 #[a0,a1,a2]->zg WZ ge 31 #[d]->zk (fun b=>b=gp\/b=ge) W WZ->P WZ) (D:zg W gp 42 #[z0,z1,z2]) (he:zg W ge 31 #[e]):
  P ((((W.setCell ⟨gp,0,none⟩ a0).setCell ⟨gp,1,none⟩ a1).setCell ⟨gp,2,none⟩ a2).setCell ⟨ge,0,none⟩ d):=by
 have o:gp≠ge:=D.ne_ he (by decide);have h1:zg (setL gp 0 [a0,a1,a2] W) gp 42 #[a0,a1,a2]:=setL_blk [a0,a1,a2] [z0,z1,z2] [] W rfl D;have G:zg (setL gp 0 [a0,a1,a2] W) ge 31 #[e]:=(CB gp ge (Ne.symm o) _ 0 W).trans he;refine h _ (h1.setOther (a:=⟨ge,0,none⟩) o d) (G.set (k:=0) d) ⟨rfl,rfl,rfl,?_,fun b D E=>?_⟩
 ·simp
 ·refine (DN _ ⟨ge,0,none⟩ _ b (fun e=>E (.inr e))).trans (CB gp b (fun e=>E (.inl e)) [a0,a1,a2] 0 W)
theorem make1_idle (gp ge:Nat) (w:World):
  CallsD Tryz.prog 64 #[.pointer (some ⟨gp,0,none⟩),.pointer (some ⟨ge,0,none⟩)] .returning w fun e u' w'=>e=.returned (.tuple #[])/\u'=.returning/\w'=w:=by
 refine callsD_of_wpS Tryz.func64 rfl fun c₀ cs o=>?_
 apply wpS_seq;apply wpS_region;simp [wpOpsS,go_sem,recoverD,o,Tryz.ntmps64,Exit.thenS];refine wpS_of_wp ?_;go_wp2;cases c₀
 simp_all [bodyPostS,results,Tryz.results64]
theorem pmake_calls {ok:Nat->Prop} {v:Value} (w:World) (hm:Ad w ok v m) (hl:Lens m):
  Calls Tryz.prog 36 #[v] w fun e w'=>∃v',e=.returned (.tuple #[v',.int .i64 (zW m).1])/\zc w w'/\Ck w' (fun b=>w.heap.size<=b) v' (zW m).2:=by
 have HM:=zh hm;have HL:=zh hl;obtain ⟨Af,cf,Au,cu,At,ct,rfl,-,-,-⟩:=hm.parts;clear hm hl;have f8:∀(fn:Fn) (first cap:Array Value) (w:World),(Instr.makeFunc fn first cap).run Tryz.prog w=.ok (.func fn first cap) w:=fun _ _ _ _=>rfl
 go_enter_defers Tryz.func36,Tryz.ntmps36
 go_upto_region 1 with fail;obtain ⟨b5,r0,r1,r2,r3,r4,r5⟩:=box6 w (.int .i64 m.w) (.int .i64 m.h) (.int .i64 m.l) (.slice Af m.free.length cf) (.slice Au m.up.length cu) (.slice At m.tasks.length ct);have a8:(w.alloc (.cells #[.int .i64 m.w,.int .i64 m.h,.int .i64 m.l,.slice Af m.free.length cf,.slice Au m.up.length cu,.slice At m.tasks.length ct] 29)).heap.size=w.heap.size+1:=by simp
 generalize w.alloc _=w0 at b5 r0 r1 r2 r3 r4 r5 a8⊢;have U:=zg.new w0 #[.int .i64 0,.slice none 0 0,.slice none 0 0] 42 (g:=w0.heap.size) rfl;have a7:zc w0 (w0.alloc (.cells #[.int .i64 0,.slice none 0 0,.slice none 0 0] 42)):=(zc.refl w0).alloc _;have b9:(w0.alloc (.cells #[.int .i64 0,.slice none 0 0,.slice none 0 0] 42)).heap.size=w0.heap.size+1:=by simp
 generalize w0.alloc _=w1 at U a7 b9⊢;have Q:=zg.new w1 #[.int .i64 0] 31 (g:=w1.heap.size) rfl;have a1:zc w1 (w1.alloc (.cells #[.int .i64 0] 31)):=(zc.refl w1).alloc _;generalize w1.alloc _=w2 at Q a1⊢;rw [b9,a8] at Q;rw [a8] at U;obtain ⟨gm,b7⟩:=EH w.heap.size;rw [<-b7] at r0 r1 r2 r3 r4 r5 U Q⊢;have O:Hid (gm=w.heap.size):=b7;have I:=zh (a7.trans a1);have r0:=fun W h=>r0 W (I.out.trans h)
 have r1:=fun W h=>r1 W (I.out.trans h)
 have r2:=fun W h=>r2 W (I.out.trans h)
 have r3:=fun W h=>r3 W (I.out.trans h)
 have r4:=fun W h=>r4 W (I.out.trans h)
 have r5:=fun W h=>r5 W (I.out.trans h)
 have HP:=zh (U.ext a1);have HE:=zh Q;have b1:=zh (b5.trans (a7.trans a1));clear b7 b5 a8 a7 b9 a1 U Q;have hx:zc w2 w2:=zc.refl w2
 go_wp2_with fail
 refine (By w2 (HM.out.below b1.out) HL.out).mono ?_;rintro e w3 ⟨rfl,a5⟩;have c6:zc w2 w3:=a5;have K:=zh (HP.out.ext a5);have M:=zh (HE.out.ext a5);obtain ⟨ck,b6⟩:=EH (BS m);have a3:=zh b6;rw [<-b6];clear hx a5 b6;by_cases h0:ck=0
 ·subst h0;have HC:Hid (BS m=0):=a3.out.symm;clear a3;have e8:=ext_allocs w2
  go_wp2_with fail
  have a6:=zg.new w3 #[.int .i64 0] 125 (g:=w3.heap.size) rfl;have V:zc w3 (w3.alloc (.cells #[.int .i64 0] 125)):=(zc.refl w3).alloc _;have a9:(w3.alloc (.cells #[.int .i64 0] 125)).heap.size=w3.heap.size+1:=by simp
  generalize w3.alloc _=w4 at a6 V a9⊢;obtain ⟨gx,b8⟩:=EH w3.heap.size;rw [<-b8] at a6 a9⊢;have D:Hid (gm+2<gx/\w4.heap.size=gx+1):=⟨by rw [b8];have:=za M.out;omega,a9⟩;have e5:=zh a6;have d7:Hid (zc w w4):=b1.out.trans (c6.trans V);have e3:=zh (K.out.ext V);have e1:=zh (M.out.ext V);clear a6 a9 b8 c6 V e8 r0 r1 r2 r3 r4 r5;refine (of_calls (ok:=fun b=>ok b/\b<w.heap.size) w4 (HM.out.bound.below d7.out) HL.out HC.out (zl.nil _ _) zG.nil).mono ?_;rintro e w5 ⟨vp,rfl,a0,d9⟩;have b2:=zh (e5.out.ext a0);have d8:=zh (d7.out.trans a0);have d4:=zh (e3.out.ext a0);have c9:=zh (e1.out.ext a0);have e4:=zh d9;clear a0 d9
  have d6:Hid (∀r,r=zu m (m.n.toNat+2) [] 0->Calls Tryz.prog 65 #[.pointer (some ⟨gx,0,none⟩),stv m (.slice Af m.free.length cf) (.slice Au m.up.length cu) (.slice At m.tasks.length ct) (.slice none 0 0) vp (AB m [])] w5 (CN w5 gx r)):=fun r hr=>by
   rw [hr];exact prove_calls HL.out HC.out (m.n.toNat+2) [] 0 gx _ _ _ w5 e4.out zG.nil (by simp) (by omega) b2.out (fun b hb=>by have h1:=D.out;have h2:=O.out;rcases hb with hb | hb <;> omega)
  obtain ⟨r,hr⟩:=EH (zu m (m.n.toNat+2) [] 0);have a4:Hid (zW m=(r.1,r.2.1)):=by (show _=_);unfold zW;rw [if_pos HC.out,hr]
  have d5:=zh (d6.out r hr);have b3:Hid (r.1≠0->r.2.1=PT.zero):=fun h=>by rw [hr] at h⊢;exact proveP_zero _ _ _ h
  clear d6 hr;unfold stv at d5⊢
  go_wp2_with fail
  refine d5.out.mono ?_;rintro e w6 ⟨G,(⟨h0,v6,rfl,b4,e6⟩ | ⟨h0,rfl⟩)⟩
  ·have E:=zh (G.blk d4.out (by have:=D.out;omega));have J:=zh (G.blk c9.out (by have:=D.out;omega));have b0:=zh G;have HR:=zh b4;have HZ:=zh h0;obtain ⟨As,cs,Ak,ck,rfl,-⟩:=b4.form;have c0:=E.out.cell (k:=0) rfl;have c1:=E.out.cell (k:=1) rfl;have c2:=E.out.cell (k:=2) rfl;have ce:=J.out.cell (k:=0) rfl;have f0:=fun j=>E.out.frozen j
   have fe:=J.out.frozen 0;clear G h0 b4 e6
   go_wp2_with fail
   refine case_fin4 (P:=fun W=>bodyPostD Tryz.prog Tryz.f36 _ Exit.ret _ W) (gp:=gm+1) (ge:=gm+1+1) ?_ E.out J.out;intro WZ o a2 hC;have y0:=o.cell (k:=0) rfl;have y1:=o.cell (k:=1) rfl;have y2:=o.cell (k:=2) rfl;have y3:=a2.cell (k:=0) rfl;refine leaves_cons (f:=64) (args:=#[.pointer (some ⟨gm+1,0,none⟩),.pointer (some ⟨gm+1+1,0,none⟩)]) (by simp) (by simp [go_sem]) ?_;refine (make1_idle _ _ _).mono ?_;rintro e u' w'' ⟨rfl,rfl,rfl⟩;refine ⟨.tuple #[.agg #[.int .i64 r.2.1.task,.slice As r.2.1.side.length cs,.slice Ak r.2.1.kids.length ck],.int .i64 0],by simp [results,Tryz.results36,go_sem,y0,y1,y2,y3],.agg #[.int .i64 r.2.1.task,.slice As r.2.1.side.length cs,.slice Ak r.2.1.kids.length ck],?_,?_,?_⟩
   ·rw [a4.out,HZ.out]
   ·exact (((zk.of_ext (X:=fun b=>gm<=b) d8.out).trans b0.out (fun k _ h=>by have:=D.out;omega)).trans hC (fun k _ h=>by omega)).below (DE _) (fun b hb=>by rw [O.out] at hb;exact hb)
   ·rw [a4.out];exact HR.out.keepW (fun b hb e7=>hC.block b e7 (by have h1:=D.out;have h2:=za b2.out;omega)) (fun b hb=>by have h1:=D.out;have h2:=za b2.out;have h3:=O.out;omega)
  ·have E:=zh (G.blk d4.out (by have:=D.out;omega));have J:=zh (G.blk c9.out (by have:=D.out;omega));have b0:=zh G;clear G
   go_wp2_with fail
   refine leaves_cons (f:=64) (args:=#[.pointer (some ⟨gm+1,0,none⟩),.pointer (some ⟨gm+1+1,0,none⟩)]) (by simp) (by simp [go_sem]) ?_;refine (make1_panics _ _ _ _ _ E.out J.out (by omega)).mono ?_;rintro e u' w'' ⟨rfl,rfl,rfl⟩;refine case_fin4 (P:=fun W=>Leaves Tryz.prog Tryz.f36 _ _ _ _ W) (gp:=gm+1) (ge:=gm+1+1) ?_ E.out J.out;intro WZ o a2 hC;have y0:=o.cell (k:=0) rfl;have y1:=o.cell (k:=1) rfl;have y2:=o.cell (k:=2) rfl;have y3:=a2.cell (k:=0) rfl;refine ⟨.tuple #[.agg #[.int .i64 0,.slice none 0 0,.slice none 0 0],.int .i64 r.1],by simp [results,Tryz.results36,go_sem,y0,y1,y2,y3],.agg #[.int .i64 0,.slice none 0 0,.slice none 0 0],?_,?_,?_⟩
   ·rw [a4.out]
   ·exact (((zk.of_ext (X:=fun b=>gm<=b) d8.out).trans b0.out (fun k _ h=>by have:=D.out;omega)).trans hC (fun k _ h=>by omega)).below (DE _) (fun b hb=>by rw [O.out] at hb;exact hb)
   ·rw [a4.out];have:r.2.1=PT.zero:=b3.out h0;rw [this];exact Ck.zero _ _
 ·have f9:(ck==0)=false:=by rw [DR];exact h0
  have g0:(ck != 0)=true:=by rw [bne_iff_ne];exact h0
  have c0:=K.out.cell (k:=0) rfl;have c1:=K.out.cell (k:=1) rfl;have c2:=K.out.cell (k:=2) rfl;have ce:=M.out.cell (k:=0) rfl;have f0:=fun j=>K.out.frozen j
  have fe:=M.out.frozen 0;have HN:Hid (zW m=(ck,.zero)):=by (show _=_);unfold zW;rw [if_neg (by rw [<-a3.out];exact h0),a3.out]
  clear h0
  go_wp2_with fail
  refine case_fin4 (P:=fun W=>bodyPostD Tryz.prog Tryz.f36 _ Exit.ret _ W) (gp:=gm+1) (ge:=gm+1+1) ?_ K.out M.out;intro WZ o a2 hC;have y0:=o.cell (k:=0) rfl;have y1:=o.cell (k:=1) rfl;have y2:=o.cell (k:=2) rfl;have y3:=a2.cell (k:=0) rfl;refine ⟨.tuple #[.agg #[.int .i64 0,.slice none 0 0,.slice none 0 0],.int .i64 ck],by simp [results,Tryz.results36,go_sem,y0,y1,y2,y3],.agg #[.int .i64 0,.slice none 0 0,.slice none 0 0],?_,?_,?_⟩
  ·rw [HN.out]
  ·exact ((zk.of_ext (X:=fun b=>gm<=b) (b1.out.trans c6)).trans hC (fun k _ h=>by omega)).below (DE _) (fun b hb=>by rw [O.out] at hb;exact hb)
  ·rw [HN.out];exact Ck.zero _ _
end
section
open Go.RowKit
structure J6 (B:Nat) (w0:World) (ge n t:Nat) (e:Nat->Bool) (v:Nat->Value) (W:World):Prop where
 gb:w0.grownBy W (some ge)
 dr:zP B W ge
 v0:e 0=true->∃(g:Nat) (a b c:NetS),v 0=.slice (some ⟨g,0,none⟩) 3 3/\w0.heap.size<=g/\zg W g 9 #[.string a,.string b,.string c]
 v1:e 1=true->v 1=.int .i64 (t:Int)
 v2:e 2=true->∃(g:Nat) (a b c:NetS),v 2=.pointer (some ⟨g,t,none⟩)/\w0.heap.size<=g/\zg W g 9 #[.string a,.string b,.string c]
 v3:e 3=true->∃s:NetS,v 3=.string s
 v4:e 4=true->v 4=.pointer (some ⟨ge,0,none⟩)
 v5:e 5=true->v 5=.int .i64 (n:Int)
 v6:e 6=true->∃x,v 6=.int .i64 x/\0<=x/\x<(n:Int)
 v7:e 7=true->∃g x,v 7=.slice (some ⟨g,0,none⟩) 1 1/\w0.heap.size<=g/\zg W g 3 #[.int .i64 x]/\0<=x/\x<(n:Int)
 v8:e 8=true->v 8=.pointer (some ⟨ge,0,none⟩)
 v9:e 9=true->v 9=.int .i64 (n:Int)
 v10:e 10=true->∃x,v 10=.int .i64 x/\0<=x/\x<(n:Int)
 v11:e 11=true->∃g x,v 11=.slice (some ⟨g,0,none⟩) 1 1/\w0.heap.size<=g/\zg W g 3 #[.int .i64 x]/\0<=x/\x<(n:Int)
 ne:e 7=true->e 11=true->(v 7).ownBlock≠(v 11).ownBlock
 v12:e 12=true->v 12=.agg #[v 3,v 7,v 11]/\e 3=true/\e 7=true/\e 11=true
 v13:e 13=true->∃g,v 13=.pointer (some ⟨g,0,none⟩)/\w0.heap.size<=g/\(e 14=false->zg W g 72 #[.string ⟨#[]⟩,.slice none 0 0,.slice none 0 0])/\(e 14=true->zg W g 72 #[v 3,v 7,v 11])
 d14:e 14=true->e 12=true/\e 13=true
section
variable {B:Nat} {w0 W W':World} {ge n t:Nat} {e:Nat->Bool} {v:Nat->Value}
theorem J6.init (o:zP B w0 ge) (he:∀j∈[0,1,2,3,4,5,6,7,8,9,10,11,12,13,14],e j=false):J6 B w0 ge n t e v w0.drew:=
 ⟨⟨rfl,rfl,rfl,DE _,fun _ _ _=>rfl⟩,o,fun a=>ff (he 0 (by simp)) a,fun a=>ff (he 1 (by simp)) a,fun a=>ff (he 2 (by simp)) a,fun a=>ff (he 3 (by simp)) a,fun a=>ff (he 4 (by simp)) a,fun a=>ff (he 5 (by simp)) a,fun a=>ff (he 6 (by simp)) a,fun a=>ff (he 7 (by simp)) a,fun a=>ff (he 8 (by simp)) a,fun a=>ff (he 9 (by simp)) a,fun a=>ff (he 10 (by simp)) a,fun a=>ff (he 11 (by simp)) a,fun a=>ff (he 7 (by simp)) a,fun a=>ff (he 12 (by simp)) a,fun a=>ff (he 13 (by simp)) a,fun a=>ff (he 14 (by simp)) a⟩
theorem J6.move (h:J6 B w0 ge n t e v W) (gb:W.grownBy W' (some ge)) (dr:zP B W' ge) (E:∀g ty cs,w0.heap.size<=g->zg W g ty cs->zg W' g ty cs):J6 B w0 ge n t e v W':=
 ⟨h.gb.trans gb,dr,fun a=>let ⟨g,x,y,z,h1,o,D⟩:=h.v0 a;⟨g,x,y,z,h1,o,E _ _ _ o D⟩,h.v1,fun a=>let ⟨g,x,y,z,h1,o,D⟩:=h.v2 a;⟨g,x,y,z,h1,o,E _ _ _ o D⟩,h.v3,h.v4,h.v5,h.v6,
  fun a=>let ⟨g,x,h1,o,D,G⟩:=h.v7 a;⟨g,x,h1,o,E _ _ _ o D,G⟩,h.v8,h.v9,h.v10,fun a=>let ⟨g,x,h1,o,D,G⟩:=h.v11 a;⟨g,x,h1,o,E _ _ _ o D,G⟩,h.ne,h.v12,
  fun a=>let ⟨g,h1,o,D,G⟩:=h.v13 a;⟨g,h1,o,fun b=>E _ _ _ o (D b),fun b=>E _ _ _ o (G b)⟩,h.d14⟩
theorem J6.hge (h:J6 B w0 ge n t e v W) (o:ge<w0.heap.size):w0.heap.size<=W.heap.size:=h.gb.size
theorem J6.alloc (h:J6 B w0 ge n t e v W) (D:B<=w0.heap.size) (o:Obj):J6 B w0 ge n t e v (W.alloc o):=
 h.move ⟨rfl,rfl,rfl,by simp,fun i G _=>DW _ _ _ G⟩ (h.dr.ext ((zc.refl _).alloc _) (DG D h.gb.size)) (fun g ty cs _ E=>E.alloc o)
theorem J6.call (h:J6 B w0 ge n t e v W) (E:ge<w0.heap.size) (gb:W.grownBy W' (some ge)) (dr:zP B W' ge):J6 B w0 ge n t e v W':=
 h.move gb dr (fun g ty cs D o=>(gb.block g (za o) (fun e=>by injection e with e;omega)).trans o)
theorem J6.n12 (h:J6 B w0 ge n t e v W) (o:e 12=false):e 14=false:=notT (fun a=>(h.d14 a).1) o
theorem J6.n13 (h:J6 B w0 ge n t e v W) (o:e 13=false):e 14=false:=notT (fun a=>(h.d14 a).2) o
theorem J6.n3 (h:J6 B w0 ge n t e v W) (o:e 3=false):e 12=false:=notT (fun a=>(h.v12 a).2.1) o
theorem J6.n7 (h:J6 B w0 ge n t e v W) (o:e 7=false):e 12=false:=notT (fun a=>(h.v12 a).2.2.1) o
theorem J6.n11 (h:J6 B w0 ge n t e v W) (o:e 11=false):e 12=false:=notT (fun a=>(h.v12 a).2.2.2) o
theorem J6.s0 (h:J6 B w0 ge n t e v W) (o:B<=w0.heap.size) (a b c:NetS):J6 B w0 ge n t (Ag e 0 true) (Ag v 0 (.slice (some ⟨W.heap.size,0,none⟩) 3 3)) (W.alloc (.cells #[.string a,.string b,.string c] 9)):=
 let k:=h.alloc o (.cells #[.string a,.string b,.string c] 9)
 ⟨k.gb,k.dr,fun _=>⟨_,a,b,c,rfl,h.gb.size,zg.new _ _ _ rfl⟩,k.v1,k.v2,k.v3,k.v4,k.v5,k.v6,k.v7,k.v8,k.v9,k.v10,k.v11,k.ne,k.v12,k.v13,k.d14⟩
theorem J6.s1 (h:J6 B w0 ge n t e v W):J6 B w0 ge n t (Ag e 1 true) (Ag v 1 (.int .i64 (t:Int))) W:=
 ⟨h.gb,h.dr,h.v0,fun _=>rfl,h.v2,h.v3,h.v4,h.v5,h.v6,h.v7,h.v8,h.v9,h.v10,h.v11,h.ne,h.v12,h.v13,h.d14⟩
theorem J6.s2 (h:J6 B w0 ge n t e v W) {a b c:NetS} (D:w0.heap.size<=g) (o:zg W g 9 #[.string a,.string b,.string c]):J6 B w0 ge n t (Ag e 2 true) (Ag v 2 (.pointer (some ⟨g,t,none⟩))) W:=
 ⟨h.gb,h.dr,h.v0,h.v1,fun _=>⟨g,a,b,c,rfl,D,o⟩,h.v3,h.v4,h.v5,h.v6,h.v7,h.v8,h.v9,h.v10,h.v11,h.ne,h.v12,h.v13,h.d14⟩
theorem J6.s3 (h:J6 B w0 ge n t e v W) (D:e 3=false) (s:NetS):J6 B w0 ge n t (Ag e 3 true) (Ag v 3 (.string s)) W:=
 ⟨h.gb,h.dr,h.v0,h.v1,h.v2,fun _=>⟨s,rfl⟩,h.v4,h.v5,h.v6,h.v7,h.v8,h.v9,h.v10,h.v11,h.ne,fun a=>ff (b:=e 12) (h.n3 D) a,fun a=>let ⟨g,h1,E,o,G⟩:=h.v13 a;⟨g,h1,E,o,fun b=>ff (b:=e 14) (h.n12 (h.n3 D)) b⟩,h.d14⟩
theorem J6.s4 (h:J6 B w0 ge n t e v W):J6 B w0 ge n t (Ag e 4 true) (Ag v 4 (.pointer (some ⟨ge,0,none⟩))) W:=
 ⟨h.gb,h.dr,h.v0,h.v1,h.v2,h.v3,fun _=>rfl,h.v5,h.v6,h.v7,h.v8,h.v9,h.v10,h.v11,h.ne,h.v12,h.v13,h.d14⟩
theorem J6.s5 (h:J6 B w0 ge n t e v W):J6 B w0 ge n t (Ag e 5 true) (Ag v 5 (.int .i64 (n:Int))) W:=
 ⟨h.gb,h.dr,h.v0,h.v1,h.v2,h.v3,h.v4,fun _=>rfl,h.v6,h.v7,h.v8,h.v9,h.v10,h.v11,h.ne,h.v12,h.v13,h.d14⟩
theorem J6.s6 (h:J6 B w0 ge n t e v W) (D:ge<w0.heap.size) (gb:W.grownBy W' (some ge)) (dr:zP B W' ge) (E:0<=x) (o:x<(n:Int)):J6 B w0 ge n t (Ag e 6 true) (Ag v 6 (.int .i64 x)) W':=
 let k:=h.call D gb dr
 ⟨k.gb,k.dr,k.v0,k.v1,k.v2,k.v3,k.v4,k.v5,fun _=>⟨x,rfl,E,o⟩,k.v7,k.v8,k.v9,k.v10,k.v11,k.ne,k.v12,k.v13,k.d14⟩
theorem J6.s7 (h:J6 B w0 ge n t e v W) (J:B<=w0.heap.size) (E:e 7=false) (K:0<=x) (D:x<(n:Int)):J6 B w0 ge n t (Ag e 7 true) (Ag v 7 (.slice (some ⟨W.heap.size,0,none⟩) 1 1)) (W.alloc (.cells #[.int .i64 x] 3)):=
 let k:=h.alloc J (.cells #[.int .i64 x] 3)
 ⟨k.gb,k.dr,k.v0,k.v1,k.v2,k.v3,k.v4,k.v5,k.v6,fun _=>⟨_,x,rfl,h.gb.size,zg.new _ _ _ rfl,K,D⟩,k.v8,k.v9,k.v10,k.v11,fun _ b=>by
  obtain ⟨g,y,h1,_,I,_⟩:=h.v11 b;show (Value.slice (some ⟨W.heap.size,0,none⟩) 1 1).ownBlock≠(v 11).ownBlock;rw [h1];intro e;have:=za I;have e:some W.heap.size=some g:=e;injection e with e;omega,fun a=>ff (b:=e 12) (h.n7 E) a,fun a=>let ⟨g,h1,G,o,M⟩:=k.v13 a;⟨g,h1,G,o,fun b=>ff (b:=e 14) (h.n12 (h.n7 E)) b⟩,k.d14⟩
theorem J6.s8 (h:J6 B w0 ge n t e v W):J6 B w0 ge n t (Ag e 8 true) (Ag v 8 (.pointer (some ⟨ge,0,none⟩))) W:=
 ⟨h.gb,h.dr,h.v0,h.v1,h.v2,h.v3,h.v4,h.v5,h.v6,h.v7,fun _=>rfl,h.v9,h.v10,h.v11,h.ne,h.v12,h.v13,h.d14⟩
theorem J6.s9 (h:J6 B w0 ge n t e v W):J6 B w0 ge n t (Ag e 9 true) (Ag v 9 (.int .i64 (n:Int))) W:=
 ⟨h.gb,h.dr,h.v0,h.v1,h.v2,h.v3,h.v4,h.v5,h.v6,h.v7,h.v8,fun _=>rfl,h.v10,h.v11,h.ne,h.v12,h.v13,h.d14⟩
theorem J6.s10 (h:J6 B w0 ge n t e v W) (D:ge<w0.heap.size) (gb:W.grownBy W' (some ge)) (dr:zP B W' ge) (E:0<=x) (o:x<(n:Int)):J6 B w0 ge n t (Ag e 10 true) (Ag v 10 (.int .i64 x)) W':=
 let k:=h.call D gb dr
 ⟨k.gb,k.dr,k.v0,k.v1,k.v2,k.v3,k.v4,k.v5,k.v6,k.v7,k.v8,k.v9,fun _=>⟨x,rfl,E,o⟩,k.v11,k.ne,k.v12,k.v13,k.d14⟩
theorem J6.s11 (h:J6 B w0 ge n t e v W) (J:B<=w0.heap.size) (E:e 11=false) (K:0<=x) (D:x<(n:Int)):J6 B w0 ge n t (Ag e 11 true) (Ag v 11 (.slice (some ⟨W.heap.size,0,none⟩) 1 1)) (W.alloc (.cells #[.int .i64 x] 3)):=
 let k:=h.alloc J (.cells #[.int .i64 x] 3)
 ⟨k.gb,k.dr,k.v0,k.v1,k.v2,k.v3,k.v4,k.v5,k.v6,k.v7,k.v8,k.v9,k.v10,fun _=>⟨_,x,rfl,h.gb.size,zg.new _ _ _ rfl,K,D⟩,fun a _=>by
  obtain ⟨g,y,h1,_,I,_⟩:=h.v7 a;show (v 7).ownBlock≠(Value.slice (some ⟨W.heap.size,0,none⟩) 1 1).ownBlock;rw [h1];intro e;have:=za I;have e:some g=some W.heap.size:=e;injection e with e;omega,fun a=>ff (b:=e 12) (h.n11 E) a,fun a=>let ⟨g,h1,G,o,M⟩:=k.v13 a;⟨g,h1,G,o,fun b=>ff (b:=e 14) (h.n12 (h.n11 E)) b⟩,k.d14⟩
theorem J6.s12 (h:J6 B w0 ge n t e v W) (D:e 3=true) (E:e 7=true) (o:e 11=true):J6 B w0 ge n t (Ag e 12 true) (Ag v 12 (.agg #[v 3,v 7,v 11])) W:=
 ⟨h.gb,h.dr,h.v0,h.v1,h.v2,h.v3,h.v4,h.v5,h.v6,h.v7,h.v8,h.v9,h.v10,h.v11,h.ne,fun _=>⟨rfl,D,E,o⟩,h.v13,fun a=>⟨rfl,(h.d14 a).2⟩⟩
theorem J6.s13 (h:J6 B w0 ge n t e v W) (D:B<=w0.heap.size) (o:e 13=false):J6 B w0 ge n t (Ag e 13 true) (Ag v 13 (.pointer (some ⟨W.heap.size,0,none⟩))) (W.alloc (.cells #[.string ⟨#[]⟩,.slice none 0 0,.slice none 0 0] 72)):=
 let k:=h.alloc D (.cells #[.string ⟨#[]⟩,.slice none 0 0,.slice none 0 0] 72)
 ⟨k.gb,k.dr,k.v0,k.v1,k.v2,k.v3,k.v4,k.v5,k.v6,k.v7,k.v8,k.v9,k.v10,k.v11,k.ne,k.v12,fun _=>⟨_,rfl,h.gb.size,fun _=>zg.new _ _ _ rfl,fun b=>ff (b:=e 14) (h.n13 o) b⟩,fun a=>ff (b:=e 14) (h.n13 o) a⟩
theorem J6.s14 (h:J6 B w0 ge n t e v W) (hB:B<=w0.heap.size) (O:e 12=true) (Q:e 13=true) {x:Value} (hv:v 13=.pointer (some ⟨g,0,none⟩)) (hg:w0.heap.size<=g) (hb:zg W g 72 #[.string ⟨#[]⟩,.slice none 0 0,.slice none 0 0]) (hl:ge<w0.heap.size):
  J6 B w0 ge n t (Ag e 14 true) (Ag v 14 x) (((W.setCell ⟨g,0,none⟩ (v 3)).setCell ⟨g,1,none⟩ (v 7)).setCell ⟨g,2,none⟩ (v 11)):=by
 have I:∀g',g'≠g->(((W.setCell ⟨g,0,none⟩ (v 3)).setCell ⟨g,1,none⟩ (v 7)).setCell ⟨g,2,none⟩ (v 11)).heap[g']?=W.heap[g']?:=fun g' G=>
  (DN _ ⟨g,2,none⟩ _ g' G).trans ((DN _ ⟨g,1,none⟩ _ g' G).trans (DN _ ⟨g,0,none⟩ _ g' G))
 have M:∀g' ty cs,ty≠72->zg W g' ty cs->zg (((W.setCell ⟨g,0,none⟩ (v 3)).setCell ⟨g,1,none⟩ (v 7)).setCell ⟨g,2,none⟩ (v 11)) g' ty cs:=fun g' ty cs V J=>(I g' (zg.ne_ J hb V)).trans J
 have o:Below B W (((W.setCell ⟨g,0,none⟩ (v 3)).setCell ⟨g,1,none⟩ (v 7)).setCell ⟨g,2,none⟩ (v 11)):=(((Below.refl B W).setCell (p:=⟨g,0,none⟩) (by show B<=g;omega) _).setCell (p:=⟨g,1,none⟩) (by show B<=g;omega) _).setCell (p:=⟨g,2,none⟩) (by show B<=g;omega) _;refine ⟨⟨h.gb.os,h.gb.tape,h.gb.output,DG h.gb.size o.size,fun i hi K=>(I i (by omega)).trans (h.gb.block i hi K)⟩,h.dr.keep o (I ge (by omega)),fun a=>?_,h.v1,fun a=>?_,h.v3,h.v4,h.v5,h.v6,fun a=>?_,h.v8,h.v9,h.v10,fun a=>?_,h.ne,h.v12,fun _=>⟨g,hv,hg,fun a=>(by cases a),fun _=>?_⟩,fun _=>⟨O,Q⟩⟩
 ·obtain ⟨g',a1,b1,c1,h1,D,E⟩:=h.v0 a;exact ⟨g',a1,b1,c1,h1,D,M _ _ _ (by decide) E⟩
 ·obtain ⟨g',a1,b1,c1,h1,D,E⟩:=h.v2 a;exact ⟨g',a1,b1,c1,h1,D,M _ _ _ (by decide) E⟩
 ·obtain ⟨g',x',h1,D,E,U⟩:=h.v7 a;exact ⟨g',x',h1,D,M _ _ _ (by decide) E,U⟩
 ·obtain ⟨g',x',h1,D,E,U⟩:=h.v11 a;exact ⟨g',x',h1,D,M _ _ _ (by decide) E,U⟩
 ·exact ((hb.set (k:=0) (v 3)).set (k:=1) (v 7)).set (k:=2) (v 11)
theorem own1 {W:World} {S:Nat} (o:zg W g 3 #[.int .i64 x]) (D:S<=g):zY W S (.slice (some ⟨g,0,none⟩) 1 1) [x]:=
 ⟨rfl,.inr ⟨g,1,#[.int .i64 x],rfl,D,o,DE _,by unfold maxLen;omega,rfl,rfl⟩⟩
theorem J6.fin {S:Nat} (h:J6 B w0 ge n t (fun _=>true) v W) (hB:B<=S) (hS:S<=w0.heap.size) (Q:S<=ge):∃(s:NetS) (g7 g11 gt:Nat) (x1 x2:Int),v 3=.string s/\v 7=.slice (some ⟨g7,0,none⟩) 1 1/\v 11=.slice (some ⟨g11,0,none⟩) 1 1/\v 13=.pointer (some ⟨gt,0,none⟩)/\
  R1 B W S ge gt n s (.slice (some ⟨g7,0,none⟩) 1 1) (.slice (some ⟨g11,0,none⟩) 1 1) [x1] [x2]:=by
 obtain ⟨s,V⟩:=h.v3 rfl;obtain ⟨g7,x1,D,a0,J,K⟩:=h.v7 rfl;obtain ⟨g11,x2,E,a1,M,O⟩:=h.v11 rfl;obtain ⟨gt,G,U,_,o⟩:=h.v13 rfl;have o:=o rfl;have I:=h.ne rfl rfl;rw [V,D,E] at o;rw [D,E] at I;refine ⟨s,g7,g11,gt,x1,x2,V,D,E,G,hB,DG hS h.gb.size,h.dr,Q,o,by omega,own1 J (by omega),own1 M (by omega),.inr I,by simp,by simp,fun y hy=>?_⟩;rcases hy with hy | hy
 ·rw [Ek] at hy;rw [hy];exact K
 ·rw [Ek] at hy;rw [hy];exact O
end
structure MadeM (m:MZ):Prop where
 good:zX m
 w:2<=m.w/\m.w<=4
 h:1<=m.h/\m.h<=4
 l:1<=m.l/\m.l<=2
 n:2<=m.n/\m.n<=16
 tk:1<=m.tasks.length/\m.tasks.length<=3
 te:∀t∈m.tasks,(t.1≠[]/\t.2≠[])/\t.1.length<=2/\t.2.length<=2
 lens:Lens m
theorem dims {W H L:Int} (hW:2<=W/\W<=4) (G:1<=H/\H<=4) (hL:L=1\/(L=2/\W<=3/\H<=2)):2<=W*H/\W*H<=16/\2<=W*H*L/\W*H*L<=16:=by
 have h1:W=2\/W=3\/W=4:=by omega
 have o:H=1\/H=2\/H=3\/H=4:=by omega
 rcases h1 with rfl | rfl | rfl <;> rcases o with rfl | rfl | rfl | rfl <;> rcases hL with rfl | ⟨rfl,D,E⟩ <;> omega
theorem chooseL {β:Type} {p:Nat->β->Prop}:∀(n:Nat),(∀i,i<n->∃b,p i b)->∃l:List β,l.length=n/\∀i b,l[i]?=some b->p i b
 | 0,_=>⟨[],rfl,fun i b h=>by simp at h⟩
 | n+1,h=>by
  obtain ⟨l,E,h1⟩:=chooseL n (fun i hi=>h i (by omega));obtain ⟨b,G⟩:=h n (by omega);refine ⟨l++[b],by simp [E],fun i x o=>?_⟩;rcases Ea i l.length with hi | hi
  ·rw [DJ hi] at o;exact h1 i x o
  ·have D:i=l.length:=by
    rcases Ea i (l++[b]).length with h2 | h2
    ·simp at h2;omega
    ·rw [DX h2] at o;cases o
   subst D;rw [DK (DE _),Nat.sub_self] at o;have:b=x:=by simpa using o
   subst this;rw [E];exact G
structure RU (w1:World) (B:Nat) (w:World) (S gm gd:Nat) (W H L:Int) (n tF tT:Nat) (vF vU vT:Value) (fs ts:List Value) (us:List Bool):Prop where
 hB:B=w1.heap.size
 hBS:B<=S
 ms:MS B w S gm gd W H L n tF tT vF vU vT fs ts
 ow:OwnB w S vU us
 ex:zc w1 w
section
variable {w1 w w':World} {B S gm gd:Nat} {W H L:Int} {n tF tT:Nat} {vF vU vU' vT:Value} {fs ts:List Value} {us:List Bool}
theorem RU.ext (h:RU w1 B w S gm gd W H L n tF tT vF vU vT fs ts us) (o:zc w w'):RU w1 B w' S gm gd W H L n tF tT vF vU vT fs ts us:=
 ⟨h.hB,h.hBS,h.ms.extS o,Az h.ow fun g D=>o.block g (World.ownsRow.lt h.ow g D).2,h.ex.trans o⟩
theorem RU.drawn (h:RU w1 B w S gm gd W H L n tF tT vF vU vT fs ts us) (I:zP B w' gd) (D:w.grownBy w' (some gd)):RU w1 B w' S gm gd W H L n tF tT vF vU vT fs ts us:=by
 obtain ⟨cs,G⟩:=h.ms.dr.blk;refine ⟨h.hB,h.hBS,h.ms.drawn I D,Az h.ow fun g o=>D.block g (World.ownsRow.lt h.ow g o).2 (fun e=>?_),Below.grown h.ex D h.ex.size (fun k E=>by injection E with E;have:=h.ms.dr.1;have:=h.hB;omega)⟩;injection e with e;exact zf h.ow G (by decide) (o.trans (congrArg some e))
theorem RU.add (h:RU w1 B w S gm gd W H L n tF tT vF vU vT fs ts us) {x:Bool} {w5:World} {o:Obj} (I:w5.ownsRow S 4 1 vU' (us.length+1) (us.map Value.bool++[.bool x])) (G:(w.alloc o).grownBy w5 vU.ownBlock):
  RU w1 B (w5.setCell ⟨gm,4,none⟩ vU') S gm gd W H L n tF tT vF vU' vT fs ts (us++[x]):=by
 obtain ⟨h1,D,E⟩:=h.ms.addU h.hBS h.ow I G;exact ⟨h.hB,h.hBS,h1,D,Below.trans h.ex (h.hB ▸ E)⟩
theorem RU.maze {t:Nat} (h:RU w1 B w S gm gd W H L n t t vF vU vT fs ts us) (hW:2<=W/\W<=4) (hH:1<=H/\H<=4) (hL:L=1\/(L=2/\W<=3/\H<=2)) (hn:(n:Int)=W*H*L) (ht:1<=t/\t<=3) (hu:us.length=n):
  ∃m ns,BD w (fun b=>B<=b) (.agg #[.int .i64 W,.int .i64 H,.int .i64 L,vF,vU,vT]) m ns/\MadeM m/\∀s∈ns,s.size<=1:=by
 obtain ⟨d1,d2,d3,d4⟩:=dims hW hH hL
 obtain ⟨fr,a0,V⟩:=chooseL (p:=fun j (l:List Bool)=>∃u,fs[j]?=some u/\AR w (fun b=>B<=b) u l/\l.length=n) t (fun j o=>by
  obtain ⟨u,h1,l,E,G,_⟩:=h.ms.fd j o;exact ⟨l,u,h1,E.bools,G⟩)
 obtain ⟨tk,a3,I⟩:=chooseL (p:=fun j (l:List Int×List Int)=>∃(s:NetS) (u1 u2:Value),ts[j*3]?=some (.string s)/\ts[j*3+1]?=some u1/\ts[j*3+2]?=some u2/\zl w (fun b=>B<=b) u1 l.1/\zl w (fun b=>B<=b) u2 l.2/\(l.1≠[]/\l.2≠[])/\(l.1.length<=2/\l.2.length<=2)/\(∀x,x∈l.1\/x∈l.2->0<=x/\x<(n:Int))) t (fun j o=>by
  obtain ⟨s,u1,u2,h1,E,G,l1,l2,K,M,O,Q,U,_⟩:=h.ms.td j o;exact ⟨(l1,l2),s,u1,u2,h1,E,G,Bc.of_own K,Bc.of_own M,O,Q,U⟩)
 obtain ⟨nl,a9,a2⟩:=chooseL (p:=fun j (s:NetS)=>ts[j*3]?=some (.string s)) t (fun j o=>by
  obtain ⟨s,u1,u2,h1,_⟩:=h.ms.td j o;exact ⟨s,h1⟩)
 have J:∀x∈tk,∃j,tk[j]?=some x:=fun x D=>by
  obtain ⟨j,o,rfl⟩:=Ej D;exact ⟨j,DC o⟩
 have hg:zX ⟨W,H,L,fr,us,tk⟩:=by
  refine ⟨⟨by show 1<=W;omega,by show W<=300;omega,by show 1<=H;omega,by show H<=300;omega,by show 1<=L;omega,by show L<=300;omega,by show W*H*L<=300;omega,?_⟩,?_,?_,?_,?_⟩
  ·show (us.length:Int)=W*H*L;rw [hu,hn]
  ·show fr.length=tk.length;omega
  ·intro f hf;obtain ⟨j,o,rfl⟩:=Ej hf;obtain ⟨u,_,_,G⟩:=V j _ (DC o);show ((fr[j]).length:Int)=W*H*L;rw [G,hn]
  ·show tk.length<=6;omega
  ·intro x D y hy;obtain ⟨j,o⟩:=J x D;obtain ⟨s,u1,u2,h1,E,G,K,M,O,Q,U⟩:=I j x o;have:=U y hy;show 0<=y/\y<W*H*L;rw [<-hn];exact this
 refine ⟨⟨W,H,L,fr,us,tk⟩,nl.map (fun s=>s.1),⟨vF,vU,vT,rfl,?_,?_,?_⟩,⟨hg,hW,hH,by show 1<=L/\L<=2;omega,by show 2<=W*H*L/\W*H*L<=16;omega,by show 1<=tk.length/\tk.length<=3;omega,fun x D=>?_,⟨by show fr.length<=_;omega,by show us.length<=_;omega,by show tk.length<=_;omega,fun x D=>?_⟩⟩,fun x D=>?_⟩
 ·refine ⟨fs,by show Bc w _ 1 vF fr.length fs;rw [a0];exact Bc.of_own h.ms.F,fun i x D=>?_⟩;obtain ⟨u,h1,E,_⟩:=V i x D;exact ⟨u,h1,E⟩
 ·exact (OwnB.bools h.ow).weaken fun b hb=>DG h.hBS hb
 ·refine ⟨by rw [Em];show nl.length=tk.length;omega,ts,by show Bc w _ 3 vT tk.length ts;rw [a3];exact Bc.of_own h.ms.T,fun i x s D hs=>?_⟩;obtain ⟨s',u1,u2,-,E,G,K,M,_⟩:=I i x D;rw [El] at hs;obtain ⟨y,hy,rfl⟩:=Option.map_eq_some_iff.1 hs;exact ⟨u1,u2,a2 i y hy,E,G,K,M⟩
 ·obtain ⟨j,o⟩:=J x D;obtain ⟨s,u1,u2,h1,E,G,K,M,O,Q,U⟩:=I j x o;exact ⟨O,Q⟩
 ·obtain ⟨j,o⟩:=J x D;obtain ⟨s,u1,u2,h1,E,G,K,M,O,Q,U⟩:=I j x o;exact ⟨by omega,by omega⟩
 ·obtain ⟨y,-,rfl⟩:=EA.1 D;exact y.2
end
theorem case_fin {W:World} {g2:Nat} {t:TypeId} {e f z3 z4 z5:Value} (h:∀WZ,zg WZ g2 t #[a,b,c,d,e,f]->Below g2 W WZ->(∀k,k<W.heap.size->k≠g2->WZ.heap[k]?=W.heap[k]?)->P WZ) (E:zg W g2 t #[z0,z1,z2,z3,z4,z5]):
  P ((((((W.setCell ⟨g2,0,none⟩ a).setCell ⟨g2,1,none⟩ b).setCell ⟨g2,2,none⟩ c).setCell ⟨g2,3,none⟩ d).setCell ⟨g2,4,none⟩ e).setCell ⟨g2,5,none⟩ f):=by
 refine h _ ?_ ((((((Below.refl g2 W).setCell (p:=⟨g2,0,none⟩) (DE _) _).setCell (p:=⟨g2,1,none⟩) (DE _) _).setCell (p:=⟨g2,2,none⟩) (DE _) _).setCell (p:=⟨g2,3,none⟩) (DE _) _).setCell (p:=⟨g2,4,none⟩) (DE _) _ |>.setCell (p:=⟨g2,5,none⟩) (DE _) _) fun k _ o=>?_
 ·have D:=(((((E.set (k:=0) a).set (k:=1) b).set (k:=2) c).set (k:=3) d).set (k:=4) e).set (k:=5) f;exact D
 ·exact (DN _ ⟨g2,5,none⟩ _ k o).trans ((DN _ ⟨g2,4,none⟩ _ k o).trans ((DN _ ⟨g2,3,none⟩ _ k o).trans ((DN _ ⟨g2,2,none⟩ _ k o).trans ((DN _ ⟨g2,1,none⟩ _ k o).trans (DN _ ⟨g2,0,none⟩ _ k o)))))
def SB (w W:World):Prop:=∀g ty cs,zg w g ty cs->ty≠4->W.heap[g]?=w.heap[g]?
theorem SB.rule {w:World} {ty:TypeId} {v:Value} (D:zg w g ty cs) (o:ty≠4) (E:w.cell? ⟨g,k,none⟩=some v):∀W,SB w W->W.cell? ⟨g,k,none⟩=some v:=
 fun W h=>(DT (a:=⟨g,k,none⟩) (h g ty cs D o)).trans E
theorem SB.set {w W:World} (h:SB w W) (E:zg w g 4 cs) (x:Value):SB w (W.setCell ⟨g,k,none⟩ x):=
 fun g' ty' cs' o D=>(DN W ⟨g,k,none⟩ x g' (zg.ne_ o E D)).trans (h g' ty' cs' o D)
theorem SB.drew (w:World):SB w w.drew:=fun _ _ _ _ _=>rfl
def Aj (w:World) (e:Ending) (w':World):Prop:=∃v' m ns,e=.returned v'/\zc w w'/\BD w' (fun b=>w.heap.size<=b) v' m ns/\MadeM m/\∀s∈ns,s.size<=1
end
end Go.Proofs.YtfjjdmpndmbfoaaGreatDoor
