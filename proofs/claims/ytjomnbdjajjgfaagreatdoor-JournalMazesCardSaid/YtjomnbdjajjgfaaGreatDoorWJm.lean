import Derived.Test.YtjomnbdjajjgfaaGreatDoorWJl
import Derived.Recover
import Derived.StillTailTactics
set_option linter.unusedVariables false
set_option linter.unusedSimpArgs false
set_option maxRecDepth 100000
set_option maxHeartbeats 16000000
namespace Go.Proofs.YtjomnbdjajjgfaaGreatDoor
variable {cs:Array Value} {x:Int} {m:MZ} {g k:Nat} {a b c d z0 z1 z2:Value} {P:World->Prop}
section
open Go.RowKit
attribute [local go_sem ↓] Go.wp_at_zero Go.wp_at_succ
theorem make1_panics (gp ge:Nat) (x:Int) (older:List PanicEntry) (w:World) (hp:ze w gp 41 #[a,b,c]) (he:ze w ge 42 #[d]) (o:gp≠ge):
  CallsD Tryz.prog 110 #[.pointer (some ⟨gp,0,none⟩),.pointer (some ⟨ge,0,none⟩)] (.panicking ({ v:=.iface 42 (.int .i64 x),recovered:=false } :: older)) w fun e u' w'=>
   e=.returned (.tuple #[])/\u'=.panicking ({ v:=.iface 42 (.int .i64 x),recovered:=true } :: older)/\w'=(((w.setCell ⟨gp,0,none⟩ (.int .i64 0)).setCell ⟨gp,1,none⟩ (.slice none 0 0)).setCell ⟨gp,2,none⟩ (.slice none 0 0)).setCell ⟨ge,0,none⟩ (.int .i64 x):=by
 have c0:=hp.cell (k:=0) rfl;have c1:=hp.cell (k:=1) rfl;have c2:=hp.cell (k:=2) rfl;have ce:=he.cell (k:=0) rfl;have f0:=fun j=>hp.frozen j
 have fe:=he.frozen 0;refine callsD_of_wpS Tryz.func110 rfl fun c₀ cs E=>?_
 apply wpS_seq;apply wpS_region;simp [wpOpsS,go_sem,recoverD,E,Tryz.ntmps110,Exit.thenS];refine wpS_of_wp ?_;have D:∀W,(Instr.typeAssert (.iface 42 (.int .i64 x)) 20 42 true).run Tryz.prog W=.ok (.tuple #[.int .i64 x,.bool true]) W:=fun W=>by kernel_rfl
 go_wp2;cases c₀
 simp_all [bodyPostS,results,Tryz.results110]
theorem Fg:∀(f:Nat) (ch:List Int) (k:Nat),(zk m f ch k).1≠0->(zk m f ch k).2.1=PT.zero
 | 0,ch,k,h=>by unfold zk;rfl
 | f+1,ch,k,h=>by
  by_cases h1:m.tasks.length<=Bd m ch
  ·rw [proveP_end h1]
  ·by_cases h2:3000<k+1
   ·rw [Ff h1 h2]
   ·cases h3:cutT m ch with
    | some t=>rw [EI h1 h2 h3] at h;exact absurd rfl h
    | none=>
     rw [Fe h1 h2 h3] at h⊢
     split
     ·next h4=>rw [if_pos h4] at h;exact absurd rfl h
     ·rfl
theorem case_fin4 {W:World} {gp ge:Nat} {a0 a1 a2 e:Value} (h:∀WZ,ze WZ gp 41 #[a0,a1,a2]->ze WZ ge 42 #[d]->zu (fun b=>b=gp\/b=ge) W WZ->P WZ) (D:ze W gp 41 #[z0,z1,z2]) (he:ze W ge 42 #[e]):
  P ((((W.setCell ⟨gp,0,none⟩ a0).setCell ⟨gp,1,none⟩ a1).setCell ⟨gp,2,none⟩ a2).setCell ⟨ge,0,none⟩ d):=by
 have o:gp≠ge:=D.ne_ he (by decide);have h1:ze (setL gp 0 [a0,a1,a2] W) gp 41 #[a0,a1,a2]:=setL_blk [a0,a1,a2] [z0,z1,z2] [] W rfl D;have h2:ze (setL gp 0 [a0,a1,a2] W) ge 42 #[e]:=(Eb gp ge (Ne.symm o) _ 0 W).trans he;refine h _ (h1.setOther (a:=⟨ge,0,none⟩) o d) (h2.set (k:=0) d) ⟨rfl,rfl,rfl,?_,fun b D E=>?_⟩
 ·simp
 ·refine (FH _ ⟨ge,0,none⟩ _ b (fun e=>E (.inr e))).trans (Eb gp b (fun e=>E (.inl e)) [a0,a1,a2] 0 W)
theorem make1_idle (gp ge:Nat) (w:World):
  CallsD Tryz.prog 110 #[.pointer (some ⟨gp,0,none⟩),.pointer (some ⟨ge,0,none⟩)] .returning w fun e u' w'=>e=.returned (.tuple #[])/\u'=.returning/\w'=w:=by
 refine callsD_of_wpS Tryz.func110 rfl fun c₀ cs o=>?_
 apply wpS_seq;apply wpS_region;simp [wpOpsS,go_sem,recoverD,o,Tryz.ntmps110,Exit.thenS];refine wpS_of_wp ?_;go_wp2;cases c₀
 simp_all [bodyPostS,results,Tryz.results110]
theorem Fd {ok:Nat->Prop} {v:Value} (w:World) (hm:zL w ok v m) (hl:Lens m):
  Calls Tryz.prog 55 #[v] w fun e w'=>∃v',e=.returned (.tuple #[v',.int .i64 (zA m).1])/\za w w'/\Ce w' (fun b=>w.heap.size<=b) v' (zA m).2:=by
 have HM:=zh hm;have HL:=zh hl;obtain ⟨Af,cf,Au,cu,At,ct,rfl,-,-,-⟩:=hm.parts;clear hm hl;have f8:∀(fn:Fn) (first cap:Array Value) (w:World),(Instr.makeFunc fn first cap).run Tryz.prog w=.ok (.func fn first cap) w:=fun _ _ _ _=>rfl
 go_enter_defers Tryz.func55,Tryz.ntmps55
 go_upto_region 1 with fail;obtain ⟨b6,r0,r1,r2,r3,r4,r5⟩:=box6 w (.int .i64 m.w) (.int .i64 m.h) (.int .i64 m.l) (.slice Af m.free.length cf) (.slice Au m.up.length cu) (.slice At m.tasks.length ct);have a9:(w.alloc (.cells #[.int .i64 m.w,.int .i64 m.h,.int .i64 m.l,.slice Af m.free.length cf,.slice Au m.up.length cu,.slice At m.tasks.length ct] 32)).heap.size=w.heap.size+1:=by simp
 generalize w.alloc _=w0 at b6 r0 r1 r2 r3 r4 r5 a9⊢;have V:=ze.new w0 #[.int .i64 0,.slice none 0 0,.slice none 0 0] 41 (g:=w0.heap.size) rfl;have a8:za w0 (w0.alloc (.cells #[.int .i64 0,.slice none 0 0,.slice none 0 0] 41)):=(za.refl w0).alloc _;have c6:(w0.alloc (.cells #[.int .i64 0,.slice none 0 0,.slice none 0 0] 41)).heap.size=w0.heap.size+1:=by simp
 generalize w0.alloc _=w1 at V a8 c6⊢;have U:=ze.new w1 #[.int .i64 0] 42 (g:=w1.heap.size) rfl;have a2:za w1 (w1.alloc (.cells #[.int .i64 0] 42)):=(za.refl w1).alloc _;generalize w1.alloc _=w2 at U a2⊢;rw [c6,a9] at U;rw [a9] at V;obtain ⟨gm,b8⟩:=zaI w.heap.size;rw [<-b8] at r0 r1 r2 r3 r4 r5 V U⊢;have Q:Hid (gm=w.heap.size):=b8;have I:=zh (a8.trans a2);have r0:=fun W h=>r0 W (I.out.trans h)
 have r1:=fun W h=>r1 W (I.out.trans h)
 have r2:=fun W h=>r2 W (I.out.trans h)
 have r3:=fun W h=>r3 W (I.out.trans h)
 have r4:=fun W h=>r4 W (I.out.trans h)
 have r5:=fun W h=>r5 W (I.out.trans h)
 have HP:=zh (V.ext a2);have HE:=zh U;have b2:=zh (b6.trans (a8.trans a2));clear b8 b6 a9 a8 c6 a2 V U;have hx:za w2 w2:=za.refl w2
 go_wp2_with fail
 refine (BQ w2 (HM.out.below b2.out) HL.out).mono ?_;rintro e w3 ⟨rfl,a6⟩;have c7:za w2 w3:=a6;have M:=zh (HP.out.ext a6);have O:=zh (HE.out.ext a6);obtain ⟨ck,b7⟩:=zaI (AV m);have a4:=zh b7;rw [<-b7];clear hx a6 b7;by_cases h0:ck=0
 ·subst h0;have HC:Hid (AV m=0):=a4.out.symm;clear a4;have f1:=Dn w2
  go_wp2_with fail
  have a7:=ze.new w3 #[.int .i64 0] 169 (g:=w3.heap.size) rfl;have a0:za w3 (w3.alloc (.cells #[.int .i64 0] 169)):=(za.refl w3).alloc _;have b0:(w3.alloc (.cells #[.int .i64 0] 169)).heap.size=w3.heap.size+1:=by simp
  generalize w3.alloc _=w4 at a7 a0 b0⊢;obtain ⟨gx,b9⟩:=zaI w3.heap.size;rw [<-b9] at a7 b0⊢;have D:Hid (gm+2<gx/\w4.heap.size=gx+1):=⟨by rw [b9];have:=zd O.out;omega,b0⟩;have e7:=zh a7;have d9:Hid (za w w4):=b2.out.trans (c7.trans a0);have e5:=zh (M.out.ext a0);have e3:=zh (O.out.ext a0);clear a7 b0 b9 c7 a0 f1 r0 r1 r2 r3 r4 r5;refine (of_calls (ok:=fun b=>ok b/\b<w.heap.size) w4 (HM.out.bound.below d9.out) HL.out HC.out (zg.nil _ _) zw.nil).mono ?_;rintro e w5 ⟨vp,rfl,a1,e1⟩;have b3:=zh (e7.out.ext a1);have e0:=zh (d9.out.trans a1);have d6:=zh (e5.out.ext a1);have d5:=zh (e3.out.ext a1);have e6:=zh e1;clear a1 e1
  have d8:Hid (∀r,r=zk m (m.n.toNat+2) [] 0->Calls Tryz.prog 111 #[.pointer (some ⟨gx,0,none⟩),stv m (.slice Af m.free.length cf) (.slice Au m.up.length cu) (.slice At m.tasks.length ct) (.slice none 0 0) vp (Bd m [])] w5 (Em w5 gx r)):=fun r hr=>by
   rw [hr];exact prove_calls HL.out HC.out (m.n.toNat+2) [] 0 gx _ _ _ w5 e6.out zw.nil (by simp) (by omega) b3.out (fun b hb=>by have h1:=D.out;have h2:=Q.out;rcases hb with hb | hb <;> omega)
  obtain ⟨r,hr⟩:=zaI (zk m (m.n.toNat+2) [] 0);have a5:Hid (zA m=(r.1,r.2.1)):=by (show _=_);unfold zA;rw [if_pos HC.out,hr]
  have d7:=zh (d8.out r hr);have b4:Hid (r.1≠0->r.2.1=PT.zero):=fun h=>by rw [hr] at h⊢;exact Fg _ _ _ h
  clear d8 hr;unfold stv at d7⊢
  go_wp2_with fail
  refine d7.out.mono ?_;rintro e w6 ⟨G,(⟨h0,v6,rfl,b5,e8⟩ | ⟨h0,rfl⟩)⟩
  ·have E:=zh (G.blk d6.out (by have:=D.out;omega));have J:=zh (G.blk d5.out (by have:=D.out;omega));have b1:=zh G;have HR:=zh b5;have HZ:=zh h0;obtain ⟨As,cs,Ak,ck,rfl,-⟩:=b5.form;have c0:=E.out.cell (k:=0) rfl;have c1:=E.out.cell (k:=1) rfl;have c2:=E.out.cell (k:=2) rfl;have ce:=J.out.cell (k:=0) rfl;have f0:=fun j=>E.out.frozen j
   have fe:=J.out.frozen 0;clear G h0 b5 e8
   go_wp2_with fail
   refine case_fin4 (P:=fun W=>bodyPostD Tryz.prog Tryz.f55 _ Exit.ret _ W) (gp:=gm+1) (ge:=gm+1+1) ?_ E.out J.out;intro WZ o a3 hC;have y0:=o.cell (k:=0) rfl;have y1:=o.cell (k:=1) rfl;have y2:=o.cell (k:=2) rfl;have y3:=a3.cell (k:=0) rfl;refine leaves_cons (f:=110) (args:=#[.pointer (some ⟨gm+1,0,none⟩),.pointer (some ⟨gm+1+1,0,none⟩)]) (by simp) (by simp [go_sem]) ?_;refine (make1_idle _ _ _).mono ?_;rintro e u' w'' ⟨rfl,rfl,rfl⟩;refine ⟨.tuple #[.agg #[.int .i64 r.2.1.task,.slice As r.2.1.side.length cs,.slice Ak r.2.1.kids.length ck],.int .i64 0],by simp [results,Tryz.results55,go_sem,y0,y1,y2,y3],.agg #[.int .i64 r.2.1.task,.slice As r.2.1.side.length cs,.slice Ak r.2.1.kids.length ck],?_,?_,?_⟩
   ·rw [a5.out,HZ.out]
   ·exact (((zu.of_ext (X:=fun b=>gm<=b) e0.out).trans b1.out (fun k _ h=>by have:=D.out;omega)).trans hC (fun k _ h=>by omega)).below (Fy _) (fun b hb=>by rw [Q.out] at hb;exact hb)
   ·rw [a5.out];exact HR.out.keepW (fun b hb e9=>hC.block b e9 (by have h1:=D.out;have h2:=zd b3.out;omega)) (fun b hb=>by have h1:=D.out;have h2:=zd b3.out;have h3:=Q.out;omega)
  ·have E:=zh (G.blk d6.out (by have:=D.out;omega));have J:=zh (G.blk d5.out (by have:=D.out;omega));have b1:=zh G;clear G
   go_wp2_with fail
   refine leaves_cons (f:=110) (args:=#[.pointer (some ⟨gm+1,0,none⟩),.pointer (some ⟨gm+1+1,0,none⟩)]) (by simp) (by simp [go_sem]) ?_;refine (make1_panics _ _ _ _ _ E.out J.out (by omega)).mono ?_;rintro e u' w'' ⟨rfl,rfl,rfl⟩;refine case_fin4 (P:=fun W=>Leaves Tryz.prog Tryz.f55 _ _ _ _ W) (gp:=gm+1) (ge:=gm+1+1) ?_ E.out J.out;intro WZ o a3 hC;have y0:=o.cell (k:=0) rfl;have y1:=o.cell (k:=1) rfl;have y2:=o.cell (k:=2) rfl;have y3:=a3.cell (k:=0) rfl;refine ⟨.tuple #[.agg #[.int .i64 0,.slice none 0 0,.slice none 0 0],.int .i64 r.1],by simp [results,Tryz.results55,go_sem,y0,y1,y2,y3],.agg #[.int .i64 0,.slice none 0 0,.slice none 0 0],?_,?_,?_⟩
   ·rw [a5.out]
   ·exact (((zu.of_ext (X:=fun b=>gm<=b) e0.out).trans b1.out (fun k _ h=>by have:=D.out;omega)).trans hC (fun k _ h=>by omega)).below (Fy _) (fun b hb=>by rw [Q.out] at hb;exact hb)
   ·rw [a5.out];have:r.2.1=PT.zero:=b4.out h0;rw [this];exact Ce.zero _ _
 ·have f9:(ck==0)=false:=by rw [FM];exact h0
  have g0:(ck != 0)=true:=by rw [bne_iff_ne];exact h0
  have c0:=M.out.cell (k:=0) rfl;have c1:=M.out.cell (k:=1) rfl;have c2:=M.out.cell (k:=2) rfl;have ce:=O.out.cell (k:=0) rfl;have f0:=fun j=>M.out.frozen j
  have fe:=O.out.frozen 0;have HN:Hid (zA m=(ck,.zero)):=by (show _=_);unfold zA;rw [if_neg (by rw [<-a4.out];exact h0),a4.out]
  clear h0
  go_wp2_with fail
  refine case_fin4 (P:=fun W=>bodyPostD Tryz.prog Tryz.f55 _ Exit.ret _ W) (gp:=gm+1) (ge:=gm+1+1) ?_ M.out O.out;intro WZ o a3 hC;have y0:=o.cell (k:=0) rfl;have y1:=o.cell (k:=1) rfl;have y2:=o.cell (k:=2) rfl;have y3:=a3.cell (k:=0) rfl;refine ⟨.tuple #[.agg #[.int .i64 0,.slice none 0 0,.slice none 0 0],.int .i64 ck],by simp [results,Tryz.results55,go_sem,y0,y1,y2,y3],.agg #[.int .i64 0,.slice none 0 0,.slice none 0 0],?_,?_,?_⟩
  ·rw [HN.out]
  ·exact ((zu.of_ext (X:=fun b=>gm<=b) (b2.out.trans c7)).trans hC (fun k _ h=>by omega)).below (Fy _) (fun b hb=>by rw [Q.out] at hb;exact hb)
  ·rw [HN.out];exact Ce.zero _ _
end
section
open Go.RowKit
structure J6 (B:Nat) (w0:World) (ge n t:Nat) (e:Nat->Bool) (v:Nat->Value) (W:World):Prop where
 gb:w0.grownBy W (some ge)
 dr:AG B W ge
 v0:e 0=true->∃(g:Nat) (a b c:NetS),v 0=.slice (some ⟨g,0,none⟩) 3 3/\w0.heap.size<=g/\ze W g 9 #[.string a,.string b,.string c]
 v1:e 1=true->v 1=.int .i64 (t:Int)
 v2:e 2=true->∃(g:Nat) (a b c:NetS),v 2=.pointer (some ⟨g,t,none⟩)/\w0.heap.size<=g/\ze W g 9 #[.string a,.string b,.string c]
 v3:e 3=true->∃s:NetS,v 3=.string s
 v4:e 4=true->v 4=.pointer (some ⟨ge,0,none⟩)
 v5:e 5=true->v 5=.int .i64 (n:Int)
 v6:e 6=true->∃x,v 6=.int .i64 x/\0<=x/\x<(n:Int)
 v7:e 7=true->∃g x,v 7=.slice (some ⟨g,0,none⟩) 1 1/\w0.heap.size<=g/\ze W g 3 #[.int .i64 x]/\0<=x/\x<(n:Int)
 v8:e 8=true->v 8=.pointer (some ⟨ge,0,none⟩)
 v9:e 9=true->v 9=.int .i64 (n:Int)
 v10:e 10=true->∃x,v 10=.int .i64 x/\0<=x/\x<(n:Int)
 v11:e 11=true->∃g x,v 11=.slice (some ⟨g,0,none⟩) 1 1/\w0.heap.size<=g/\ze W g 3 #[.int .i64 x]/\0<=x/\x<(n:Int)
 ne:e 7=true->e 11=true->(v 7).ownBlock≠(v 11).ownBlock
 v12:e 12=true->v 12=.agg #[v 3,v 7,v 11]/\e 3=true/\e 7=true/\e 11=true
 v13:e 13=true->∃g,v 13=.pointer (some ⟨g,0,none⟩)/\w0.heap.size<=g/\(e 14=false->ze W g 87 #[.string ⟨#[]⟩,.slice none 0 0,.slice none 0 0])/\(e 14=true->ze W g 87 #[v 3,v 7,v 11])
 d14:e 14=true->e 12=true/\e 13=true
section
variable {B:Nat} {w0 W W':World} {ge n t:Nat} {e:Nat->Bool} {v:Nat->Value}
theorem J6.init (o:AG B w0 ge) (he:∀j∈[0,1,2,3,4,5,6,7,8,9,10,11,12,13,14],e j=false):J6 B w0 ge n t e v w0.drew:=
 ⟨⟨rfl,rfl,rfl,Fy _,fun _ _ _=>rfl⟩,o,fun a=>ff (he 0 (by simp)) a,fun a=>ff (he 1 (by simp)) a,fun a=>ff (he 2 (by simp)) a,fun a=>ff (he 3 (by simp)) a,fun a=>ff (he 4 (by simp)) a,fun a=>ff (he 5 (by simp)) a,fun a=>ff (he 6 (by simp)) a,fun a=>ff (he 7 (by simp)) a,fun a=>ff (he 8 (by simp)) a,fun a=>ff (he 9 (by simp)) a,fun a=>ff (he 10 (by simp)) a,fun a=>ff (he 11 (by simp)) a,fun a=>ff (he 7 (by simp)) a,fun a=>ff (he 12 (by simp)) a,fun a=>ff (he 13 (by simp)) a,fun a=>ff (he 14 (by simp)) a⟩
theorem J6.move (h:J6 B w0 ge n t e v W) (gb:W.grownBy W' (some ge)) (dr:AG B W' ge) (o:∀g ty cs,w0.heap.size<=g->ze W g ty cs->ze W' g ty cs):J6 B w0 ge n t e v W':=
 ⟨h.gb.trans gb,dr,fun a=>let ⟨g,x,y,z,h1,h2,h3⟩:=h.v0 a;⟨g,x,y,z,h1,h2,o _ _ _ h2 h3⟩,h.v1,fun a=>let ⟨g,x,y,z,h1,h2,h3⟩:=h.v2 a;⟨g,x,y,z,h1,h2,o _ _ _ h2 h3⟩,h.v3,h.v4,h.v5,h.v6,
  fun a=>let ⟨g,x,h1,h2,h3,h4⟩:=h.v7 a;⟨g,x,h1,h2,o _ _ _ h2 h3,h4⟩,h.v8,h.v9,h.v10,fun a=>let ⟨g,x,h1,h2,h3,h4⟩:=h.v11 a;⟨g,x,h1,h2,o _ _ _ h2 h3,h4⟩,h.ne,h.v12,
  fun a=>let ⟨g,h1,h2,h3,h4⟩:=h.v13 a;⟨g,h1,h2,fun b=>o _ _ _ h2 (h3 b),fun b=>o _ _ _ h2 (h4 b)⟩,h.d14⟩
theorem J6.hge (h:J6 B w0 ge n t e v W) (o:ge<w0.heap.size):w0.heap.size<=W.heap.size:=h.gb.size
theorem J6.alloc (h:J6 B w0 ge n t e v W) (D:B<=w0.heap.size) (o:Obj):J6 B w0 ge n t e v (W.alloc o):=
 h.move ⟨rfl,rfl,rfl,by simp,fun i G _=>zad _ _ _ G⟩ (h.dr.ext ((za.refl _).alloc _) (FA D h.gb.size)) (fun g ty cs _ E=>E.alloc o)
theorem J6.call (h:J6 B w0 ge n t e v W) (E:ge<w0.heap.size) (gb:W.grownBy W' (some ge)) (dr:AG B W' ge):J6 B w0 ge n t e v W':=
 h.move gb dr (fun g ty cs D o=>(gb.block g (zd o) (fun e=>by injection e with e;omega)).trans o)
theorem J6.n12 (h:J6 B w0 ge n t e v W) (o:e 12=false):e 14=false:=notT (fun a=>(h.d14 a).1) o
theorem J6.n13 (h:J6 B w0 ge n t e v W) (o:e 13=false):e 14=false:=notT (fun a=>(h.d14 a).2) o
theorem J6.n3 (h:J6 B w0 ge n t e v W) (h3:e 3=false):e 12=false:=notT (fun a=>(h.v12 a).2.1) h3
theorem J6.n7 (h:J6 B w0 ge n t e v W) (h3:e 7=false):e 12=false:=notT (fun a=>(h.v12 a).2.2.1) h3
theorem J6.n11 (h:J6 B w0 ge n t e v W) (h3:e 11=false):e 12=false:=notT (fun a=>(h.v12 a).2.2.2) h3
theorem J6.s0 (h:J6 B w0 ge n t e v W) (o:B<=w0.heap.size) (a b c:NetS):J6 B w0 ge n t (AY e 0 true) (AY v 0 (.slice (some ⟨W.heap.size,0,none⟩) 3 3)) (W.alloc (.cells #[.string a,.string b,.string c] 9)):=
 let k:=h.alloc o (.cells #[.string a,.string b,.string c] 9)
 ⟨k.gb,k.dr,fun _=>⟨_,a,b,c,rfl,h.gb.size,ze.new _ _ _ rfl⟩,k.v1,k.v2,k.v3,k.v4,k.v5,k.v6,k.v7,k.v8,k.v9,k.v10,k.v11,k.ne,k.v12,k.v13,k.d14⟩
theorem J6.s1 (h:J6 B w0 ge n t e v W):J6 B w0 ge n t (AY e 1 true) (AY v 1 (.int .i64 (t:Int))) W:=
 ⟨h.gb,h.dr,h.v0,fun _=>rfl,h.v2,h.v3,h.v4,h.v5,h.v6,h.v7,h.v8,h.v9,h.v10,h.v11,h.ne,h.v12,h.v13,h.d14⟩
theorem J6.s2 (h:J6 B w0 ge n t e v W) {a b c:NetS} (D:w0.heap.size<=g) (o:ze W g 9 #[.string a,.string b,.string c]):J6 B w0 ge n t (AY e 2 true) (AY v 2 (.pointer (some ⟨g,t,none⟩))) W:=
 ⟨h.gb,h.dr,h.v0,h.v1,fun _=>⟨g,a,b,c,rfl,D,o⟩,h.v3,h.v4,h.v5,h.v6,h.v7,h.v8,h.v9,h.v10,h.v11,h.ne,h.v12,h.v13,h.d14⟩
theorem J6.s3 (h:J6 B w0 ge n t e v W) (h3:e 3=false) (s:NetS):J6 B w0 ge n t (AY e 3 true) (AY v 3 (.string s)) W:=
 ⟨h.gb,h.dr,h.v0,h.v1,h.v2,fun _=>⟨s,rfl⟩,h.v4,h.v5,h.v6,h.v7,h.v8,h.v9,h.v10,h.v11,h.ne,fun a=>ff (b:=e 12) (h.n3 h3) a,fun a=>let ⟨g,h1,h2,o,h4⟩:=h.v13 a;⟨g,h1,h2,o,fun b=>ff (b:=e 14) (h.n12 (h.n3 h3)) b⟩,h.d14⟩
theorem J6.s4 (h:J6 B w0 ge n t e v W):J6 B w0 ge n t (AY e 4 true) (AY v 4 (.pointer (some ⟨ge,0,none⟩))) W:=
 ⟨h.gb,h.dr,h.v0,h.v1,h.v2,h.v3,fun _=>rfl,h.v5,h.v6,h.v7,h.v8,h.v9,h.v10,h.v11,h.ne,h.v12,h.v13,h.d14⟩
theorem J6.s5 (h:J6 B w0 ge n t e v W):J6 B w0 ge n t (AY e 5 true) (AY v 5 (.int .i64 (n:Int))) W:=
 ⟨h.gb,h.dr,h.v0,h.v1,h.v2,h.v3,h.v4,fun _=>rfl,h.v6,h.v7,h.v8,h.v9,h.v10,h.v11,h.ne,h.v12,h.v13,h.d14⟩
theorem J6.s6 (h:J6 B w0 ge n t e v W) (D:ge<w0.heap.size) (gb:W.grownBy W' (some ge)) (dr:AG B W' ge) (E:0<=x) (o:x<(n:Int)):J6 B w0 ge n t (AY e 6 true) (AY v 6 (.int .i64 x)) W':=
 let k:=h.call D gb dr
 ⟨k.gb,k.dr,k.v0,k.v1,k.v2,k.v3,k.v4,k.v5,fun _=>⟨x,rfl,E,o⟩,k.v7,k.v8,k.v9,k.v10,k.v11,k.ne,k.v12,k.v13,k.d14⟩
theorem J6.s7 (h:J6 B w0 ge n t e v W) (G:B<=w0.heap.size) (E:e 7=false) (I:0<=x) (D:x<(n:Int)):J6 B w0 ge n t (AY e 7 true) (AY v 7 (.slice (some ⟨W.heap.size,0,none⟩) 1 1)) (W.alloc (.cells #[.int .i64 x] 3)):=
 let k:=h.alloc G (.cells #[.int .i64 x] 3)
 ⟨k.gb,k.dr,k.v0,k.v1,k.v2,k.v3,k.v4,k.v5,k.v6,fun _=>⟨_,x,rfl,h.gb.size,ze.new _ _ _ rfl,I,D⟩,k.v8,k.v9,k.v10,k.v11,fun _ b=>by
  obtain ⟨g,y,h1,_,h3,_⟩:=h.v11 b;show (Value.slice (some ⟨W.heap.size,0,none⟩) 1 1).ownBlock≠(v 11).ownBlock;rw [h1];intro e;have:=zd h3;have e:some W.heap.size=some g:=e;injection e with e;omega,fun a=>ff (b:=e 12) (h.n7 E) a,fun a=>let ⟨g,h1,h2,o,h4⟩:=k.v13 a;⟨g,h1,h2,o,fun b=>ff (b:=e 14) (h.n12 (h.n7 E)) b⟩,k.d14⟩
theorem J6.s8 (h:J6 B w0 ge n t e v W):J6 B w0 ge n t (AY e 8 true) (AY v 8 (.pointer (some ⟨ge,0,none⟩))) W:=
 ⟨h.gb,h.dr,h.v0,h.v1,h.v2,h.v3,h.v4,h.v5,h.v6,h.v7,fun _=>rfl,h.v9,h.v10,h.v11,h.ne,h.v12,h.v13,h.d14⟩
theorem J6.s9 (h:J6 B w0 ge n t e v W):J6 B w0 ge n t (AY e 9 true) (AY v 9 (.int .i64 (n:Int))) W:=
 ⟨h.gb,h.dr,h.v0,h.v1,h.v2,h.v3,h.v4,h.v5,h.v6,h.v7,h.v8,fun _=>rfl,h.v10,h.v11,h.ne,h.v12,h.v13,h.d14⟩
theorem J6.s10 (h:J6 B w0 ge n t e v W) (D:ge<w0.heap.size) (gb:W.grownBy W' (some ge)) (dr:AG B W' ge) (E:0<=x) (o:x<(n:Int)):J6 B w0 ge n t (AY e 10 true) (AY v 10 (.int .i64 x)) W':=
 let k:=h.call D gb dr
 ⟨k.gb,k.dr,k.v0,k.v1,k.v2,k.v3,k.v4,k.v5,k.v6,k.v7,k.v8,k.v9,fun _=>⟨x,rfl,E,o⟩,k.v11,k.ne,k.v12,k.v13,k.d14⟩
theorem J6.s11 (h:J6 B w0 ge n t e v W) (G:B<=w0.heap.size) (E:e 11=false) (I:0<=x) (D:x<(n:Int)):J6 B w0 ge n t (AY e 11 true) (AY v 11 (.slice (some ⟨W.heap.size,0,none⟩) 1 1)) (W.alloc (.cells #[.int .i64 x] 3)):=
 let k:=h.alloc G (.cells #[.int .i64 x] 3)
 ⟨k.gb,k.dr,k.v0,k.v1,k.v2,k.v3,k.v4,k.v5,k.v6,k.v7,k.v8,k.v9,k.v10,fun _=>⟨_,x,rfl,h.gb.size,ze.new _ _ _ rfl,I,D⟩,fun a _=>by
  obtain ⟨g,y,h1,_,h3,_⟩:=h.v7 a;show (v 7).ownBlock≠(Value.slice (some ⟨W.heap.size,0,none⟩) 1 1).ownBlock;rw [h1];intro e;have:=zd h3;have e:some g=some W.heap.size:=e;injection e with e;omega,fun a=>ff (b:=e 12) (h.n11 E) a,fun a=>let ⟨g,h1,h2,o,h4⟩:=k.v13 a;⟨g,h1,h2,o,fun b=>ff (b:=e 14) (h.n12 (h.n11 E)) b⟩,k.d14⟩
theorem J6.s12 (h:J6 B w0 ge n t e v W) (h3:e 3=true) (D:e 7=true) (o:e 11=true):J6 B w0 ge n t (AY e 12 true) (AY v 12 (.agg #[v 3,v 7,v 11])) W:=
 ⟨h.gb,h.dr,h.v0,h.v1,h.v2,h.v3,h.v4,h.v5,h.v6,h.v7,h.v8,h.v9,h.v10,h.v11,h.ne,fun _=>⟨rfl,h3,D,o⟩,h.v13,fun a=>⟨rfl,(h.d14 a).2⟩⟩
theorem J6.s13 (h:J6 B w0 ge n t e v W) (D:B<=w0.heap.size) (o:e 13=false):J6 B w0 ge n t (AY e 13 true) (AY v 13 (.pointer (some ⟨W.heap.size,0,none⟩))) (W.alloc (.cells #[.string ⟨#[]⟩,.slice none 0 0,.slice none 0 0] 87)):=
 let k:=h.alloc D (.cells #[.string ⟨#[]⟩,.slice none 0 0,.slice none 0 0] 87)
 ⟨k.gb,k.dr,k.v0,k.v1,k.v2,k.v3,k.v4,k.v5,k.v6,k.v7,k.v8,k.v9,k.v10,k.v11,k.ne,k.v12,fun _=>⟨_,rfl,h.gb.size,fun _=>ze.new _ _ _ rfl,fun b=>ff (b:=e 14) (h.n13 o) b⟩,fun a=>ff (b:=e 14) (h.n13 o) a⟩
theorem J6.s14 (h:J6 B w0 ge n t e v W) (hB:B<=w0.heap.size) (M:e 12=true) (O:e 13=true) {x:Value} (hv:v 13=.pointer (some ⟨g,0,none⟩)) (V:w0.heap.size<=g) (U:ze W g 87 #[.string ⟨#[]⟩,.slice none 0 0,.slice none 0 0]) (hl:ge<w0.heap.size):
  J6 B w0 ge n t (AY e 14 true) (AY v 14 x) (((W.setCell ⟨g,0,none⟩ (v 3)).setCell ⟨g,1,none⟩ (v 7)).setCell ⟨g,2,none⟩ (v 11)):=by
 have E:∀g',g'≠g->(((W.setCell ⟨g,0,none⟩ (v 3)).setCell ⟨g,1,none⟩ (v 7)).setCell ⟨g,2,none⟩ (v 11)).heap[g']?=W.heap[g']?:=fun g' D=>
  (FH _ ⟨g,2,none⟩ _ g' D).trans ((FH _ ⟨g,1,none⟩ _ g' D).trans (FH _ ⟨g,0,none⟩ _ g' D))
 have J:∀g' ty cs,ty≠87->ze W g' ty cs->ze (((W.setCell ⟨g,0,none⟩ (v 3)).setCell ⟨g,1,none⟩ (v 7)).setCell ⟨g,2,none⟩ (v 11)) g' ty cs:=fun g' ty cs Q G=>(E g' (ze.ne_ G U Q)).trans G
 have o:Below B W (((W.setCell ⟨g,0,none⟩ (v 3)).setCell ⟨g,1,none⟩ (v 7)).setCell ⟨g,2,none⟩ (v 11)):=(((Below.refl B W).setCell (p:=⟨g,0,none⟩) (by show B<=g;omega) _).setCell (p:=⟨g,1,none⟩) (by show B<=g;omega) _).setCell (p:=⟨g,2,none⟩) (by show B<=g;omega) _;refine ⟨⟨h.gb.os,h.gb.tape,h.gb.output,FA h.gb.size o.size,fun i hi I=>(E i (by omega)).trans (h.gb.block i hi I)⟩,h.dr.keep o (E ge (by omega)),fun a=>?_,h.v1,fun a=>?_,h.v3,h.v4,h.v5,h.v6,fun a=>?_,h.v8,h.v9,h.v10,fun a=>?_,h.ne,h.v12,fun _=>⟨g,hv,V,fun a=>(by cases a),fun _=>?_⟩,fun _=>⟨M,O⟩⟩
 ·obtain ⟨g',a1,b1,c1,h1,h2,h3⟩:=h.v0 a;exact ⟨g',a1,b1,c1,h1,h2,J _ _ _ (by decide) h3⟩
 ·obtain ⟨g',a1,b1,c1,h1,h2,h3⟩:=h.v2 a;exact ⟨g',a1,b1,c1,h1,h2,J _ _ _ (by decide) h3⟩
 ·obtain ⟨g',x',h1,h2,h3,h4⟩:=h.v7 a;exact ⟨g',x',h1,h2,J _ _ _ (by decide) h3,h4⟩
 ·obtain ⟨g',x',h1,h2,h3,h4⟩:=h.v11 a;exact ⟨g',x',h1,h2,J _ _ _ (by decide) h3,h4⟩
 ·exact ((U.set (k:=0) (v 3)).set (k:=1) (v 7)).set (k:=2) (v 11)
theorem own1 {W:World} {S:Nat} (o:ze W g 3 #[.int .i64 x]) (D:S<=g):zQ W S (.slice (some ⟨g,0,none⟩) 1 1) [x]:=
 ⟨rfl,.inr ⟨g,1,#[.int .i64 x],rfl,D,o,Fy _,by unfold maxLen;omega,rfl,rfl⟩⟩
theorem J6.fin {S:Nat} (h:J6 B w0 ge n t (fun _=>true) v W) (hB:B<=S) (hS:S<=w0.heap.size) (U:S<=ge):∃(s:NetS) (g7 g11 gt:Nat) (x1 x2:Int),v 3=.string s/\v 7=.slice (some ⟨g7,0,none⟩) 1 1/\v 11=.slice (some ⟨g11,0,none⟩) 1 1/\v 13=.pointer (some ⟨gt,0,none⟩)/\
  R1 B W S ge gt n s (.slice (some ⟨g7,0,none⟩) 1 1) (.slice (some ⟨g11,0,none⟩) 1 1) [x1] [x2]:=by
 obtain ⟨s,hs⟩:=h.v3 rfl;obtain ⟨g7,x1,D,a1,J,M⟩:=h.v7 rfl;obtain ⟨g11,x2,E,a2,O,Q⟩:=h.v11 rfl;obtain ⟨gt,G,V,_,o⟩:=h.v13 rfl;have o:=o rfl;have I:=h.ne rfl rfl;rw [hs,D,E] at o;rw [D,E] at I;refine ⟨s,g7,g11,gt,x1,x2,hs,D,E,G,hB,FA hS h.gb.size,h.dr,U,o,by omega,own1 J (by omega),own1 O (by omega),.inr I,by simp,by simp,fun y hy=>?_⟩;rcases hy with hy | hy
 ·rw [zar] at hy;rw [hy];exact M
 ·rw [zar] at hy;rw [hy];exact Q
end
structure MadeM (m:MZ):Prop where
 good:zZ m
 w:2<=m.w/\m.w<=4
 h:1<=m.h/\m.h<=4
 l:1<=m.l/\m.l<=2
 n:2<=m.n/\m.n<=16
 tk:1<=m.tasks.length/\m.tasks.length<=3
 te:∀t∈m.tasks,(t.1≠[]/\t.2≠[])/\t.1.length<=2/\t.2.length<=2
 lens:Lens m
theorem dims {W H L:Int} (hW:2<=W/\W<=4) (o:1<=H/\H<=4) (hL:L=1\/(L=2/\W<=3/\H<=2)):2<=W*H/\W*H<=16/\2<=W*H*L/\W*H*L<=16:=by
 have h1:W=2\/W=3\/W=4:=by omega
 have h2:H=1\/H=2\/H=3\/H=4:=by omega
 rcases h1 with rfl | rfl | rfl <;> rcases h2 with rfl | rfl | rfl | rfl <;> rcases hL with rfl | ⟨rfl,h3,h4⟩ <;> omega
theorem chooseL {β:Type} {p:Nat->β->Prop}:∀(n:Nat),(∀i,i<n->∃b,p i b)->∃l:List β,l.length=n/\∀i b,l[i]?=some b->p i b
 | 0,_=>⟨[],rfl,fun i b h=>by simp at h⟩
 | n+1,h=>by
  obtain ⟨l,E,h1⟩:=chooseL n (fun i hi=>h i (by omega));obtain ⟨b,G⟩:=h n (by omega);refine ⟨l++[b],by simp [E],fun i x o=>?_⟩;rcases zah i l.length with hi | hi
  ·rw [FD hi] at o;exact h1 i x o
  ·have D:i=l.length:=by
    rcases zah i (l++[b]).length with h2 | h2
    ·simp at h2;omega
    ·rw [zae h2] at o;cases o
   subst D;rw [FE (Fy _),Nat.sub_self] at o;have:b=x:=by simpa using o
   subst this;rw [E];exact G
structure RU (w1:World) (B:Nat) (w:World) (S gm gd:Nat) (W H L:Int) (n tF tT:Nat) (vF vU vT:Value) (fs ts:List Value) (us:List Bool):Prop where
 hB:B=w1.heap.size
 hBS:B<=S
 ms:MS B w S gm gd W H L n tF tT vF vU vT fs ts
 ow:Ck w S vU us
 ex:za w1 w
section
variable {w1 w w':World} {B S gm gd:Nat} {W H L:Int} {n tF tT:Nat} {vF vU vU' vT:Value} {fs ts:List Value} {us:List Bool}
theorem RU.ext (h:RU w1 B w S gm gd W H L n tF tT vF vU vT fs ts us) (o:za w w'):RU w1 B w' S gm gd W H L n tF tT vF vU vT fs ts us:=
 ⟨h.hB,h.hBS,h.ms.extS o,AK h.ow fun g D=>o.block g (World.ownsRow.lt h.ow g D).2,h.ex.trans o⟩
theorem RU.drawn (h:RU w1 B w S gm gd W H L n tF tT vF vU vT fs ts us) (I:AG B w' gd) (D:w.grownBy w' (some gd)):RU w1 B w' S gm gd W H L n tF tT vF vU vT fs ts us:=by
 obtain ⟨cs,G⟩:=h.ms.dr.blk;refine ⟨h.hB,h.hBS,h.ms.drawn I D,AK h.ow fun g o=>D.block g (World.ownsRow.lt h.ow g o).2 (fun e=>?_),Below.grown h.ex D h.ex.size (fun k E=>by injection E with E;have:=h.ms.dr.1;have:=h.hB;omega)⟩;injection e with e;exact zn h.ow G (by decide) (o.trans (congrArg some e))
theorem RU.add (h:RU w1 B w S gm gd W H L n tF tT vF vU vT fs ts us) {x:Bool} {w5:World} {o:Obj} (E:w5.ownsRow S 4 1 vU' (us.length+1) (us.map Value.bool++[.bool x])) (D:(w.alloc o).grownBy w5 vU.ownBlock):
  RU w1 B (w5.setCell ⟨gm,4,none⟩ vU') S gm gd W H L n tF tT vF vU' vT fs ts (us++[x]):=by
 obtain ⟨h1,h2,h3⟩:=h.ms.addU h.hBS h.ow E D;exact ⟨h.hB,h.hBS,h1,h2,Below.trans h.ex (h.hB ▸ h3)⟩
theorem RU.maze {t:Nat} (h:RU w1 B w S gm gd W H L n t t vF vU vT fs ts us) (hW:2<=W/\W<=4) (hH:1<=H/\H<=4) (hL:L=1\/(L=2/\W<=3/\H<=2)) (V:(n:Int)=W*H*L) (ht:1<=t/\t<=3) (hu:us.length=n):
  ∃m ns,Bx w (fun b=>B<=b) (.agg #[.int .i64 W,.int .i64 H,.int .i64 L,vF,vU,vT]) m ns/\MadeM m/\∀s∈ns,s.size<=1:=by
 obtain ⟨d1,d2,d3,d4⟩:=dims hW hH hL
 obtain ⟨fr,U,Q⟩:=chooseL (p:=fun j (l:List Bool)=>∃u,fs[j]?=some u/\AR w (fun b=>B<=b) u l/\l.length=n) t (fun j o=>by
  obtain ⟨u,h1,l,h2,h3,_⟩:=h.ms.fd j o;exact ⟨l,u,h1,h2.bools,h3⟩)
 obtain ⟨tk,a1,E⟩:=chooseL (p:=fun j (l:List Int×List Int)=>∃(s:NetS) (u1 u2:Value),ts[j*3]?=some (.string s)/\ts[j*3+1]?=some u1/\ts[j*3+2]?=some u2/\zg w (fun b=>B<=b) u1 l.1/\zg w (fun b=>B<=b) u2 l.2/\(l.1≠[]/\l.2≠[])/\(l.1.length<=2/\l.2.length<=2)/\(∀x,x∈l.1\/x∈l.2->0<=x/\x<(n:Int))) t (fun j o=>by
  obtain ⟨s,u1,u2,h1,h2,h3,l1,l2,h4,I,J,M,O,_⟩:=h.ms.td j o;exact ⟨(l1,l2),s,u1,u2,h1,h2,h3,AS.of_own h4,AS.of_own I,J,M,O⟩)
 obtain ⟨nl,a7,a0⟩:=chooseL (p:=fun j (s:NetS)=>ts[j*3]?=some (.string s)) t (fun j o=>by
  obtain ⟨s,u1,u2,h1,_⟩:=h.ms.td j o;exact ⟨s,h1⟩)
 have G:∀x∈tk,∃j,tk[j]?=some x:=fun x D=>by
  obtain ⟨j,o,rfl⟩:=zaq D;exact ⟨j,Fw o⟩
 have hg:zZ ⟨W,H,L,fr,us,tk⟩:=by
  refine ⟨⟨by show 1<=W;omega,by show W<=300;omega,by show 1<=H;omega,by show H<=300;omega,by show 1<=L;omega,by show L<=300;omega,by show W*H*L<=300;omega,?_⟩,?_,?_,?_,?_⟩
  ·show (us.length:Int)=W*H*L;rw [hu,V]
  ·show fr.length=tk.length;omega
  ·intro f hf;obtain ⟨j,o,rfl⟩:=zaq hf;obtain ⟨u,_,_,h3⟩:=Q j _ (Fw o);show ((fr[j]).length:Int)=W*H*L;rw [h3,V]
  ·show tk.length<=6;omega
  ·intro x D y hy;obtain ⟨j,o⟩:=G x D;obtain ⟨s,u1,u2,h1,h2,h3,h4,I,J,M,O⟩:=E j x o;have:=O y hy;show 0<=y/\y<W*H*L;rw [<-V];exact this
 refine ⟨⟨W,H,L,fr,us,tk⟩,nl.map (fun s=>s.1),⟨vF,vU,vT,rfl,?_,?_,?_⟩,⟨hg,hW,hH,by show 1<=L/\L<=2;omega,by show 2<=W*H*L/\W*H*L<=16;omega,by show 1<=tk.length/\tk.length<=3;omega,fun x D=>?_,⟨by show fr.length<=_;omega,by show us.length<=_;omega,by show tk.length<=_;omega,fun x D=>?_⟩⟩,fun x D=>?_⟩
 ·refine ⟨fs,by show AS w _ 1 vF fr.length fs;rw [U];exact AS.of_own h.ms.F,fun i x D=>?_⟩;obtain ⟨u,h1,h2,_⟩:=Q i x D;exact ⟨u,h1,h2⟩
 ·exact (Ck.bools h.ow).weaken fun b hb=>FA h.hBS hb
 ·refine ⟨by rw [zau];show nl.length=tk.length;omega,ts,by show AS w _ 3 vT tk.length ts;rw [a1];exact AS.of_own h.ms.T,fun i x s D hs=>?_⟩;obtain ⟨s',u1,u2,-,h2,h3,h4,I,_⟩:=E i x D;rw [zat] at hs;obtain ⟨y,hy,rfl⟩:=Option.map_eq_some_iff.1 hs;exact ⟨u1,u2,a0 i y hy,h2,h3,h4,I⟩
 ·obtain ⟨j,o⟩:=G x D;obtain ⟨s,u1,u2,h1,h2,h3,h4,I,J,M,O⟩:=E j x o;exact ⟨J,M⟩
 ·obtain ⟨j,o⟩:=G x D;obtain ⟨s,u1,u2,h1,h2,h3,h4,I,J,M,O⟩:=E j x o;exact ⟨by omega,by omega⟩
 ·obtain ⟨y,-,rfl⟩:=zaA.1 D;exact y.2
end
theorem case_fin {W:World} {g2:Nat} {t:TypeId} {e f z3 z4 z5:Value} (h:∀WZ,ze WZ g2 t #[a,b,c,d,e,f]->Below g2 W WZ->(∀k,k<W.heap.size->k≠g2->WZ.heap[k]?=W.heap[k]?)->P WZ) (E:ze W g2 t #[z0,z1,z2,z3,z4,z5]):
  P ((((((W.setCell ⟨g2,0,none⟩ a).setCell ⟨g2,1,none⟩ b).setCell ⟨g2,2,none⟩ c).setCell ⟨g2,3,none⟩ d).setCell ⟨g2,4,none⟩ e).setCell ⟨g2,5,none⟩ f):=by
 refine h _ ?_ ((((((Below.refl g2 W).setCell (p:=⟨g2,0,none⟩) (Fy _) _).setCell (p:=⟨g2,1,none⟩) (Fy _) _).setCell (p:=⟨g2,2,none⟩) (Fy _) _).setCell (p:=⟨g2,3,none⟩) (Fy _) _).setCell (p:=⟨g2,4,none⟩) (Fy _) _ |>.setCell (p:=⟨g2,5,none⟩) (Fy _) _) fun k _ o=>?_
 ·have D:=(((((E.set (k:=0) a).set (k:=1) b).set (k:=2) c).set (k:=3) d).set (k:=4) e).set (k:=5) f;exact D
 ·exact (FH _ ⟨g2,5,none⟩ _ k o).trans ((FH _ ⟨g2,4,none⟩ _ k o).trans ((FH _ ⟨g2,3,none⟩ _ k o).trans ((FH _ ⟨g2,2,none⟩ _ k o).trans ((FH _ ⟨g2,1,none⟩ _ k o).trans (FH _ ⟨g2,0,none⟩ _ k o)))))
def SB (w W:World):Prop:=∀g ty cs,ze w g ty cs->ty≠4->W.heap[g]?=w.heap[g]?
theorem SB.rule {w:World} {ty:TypeId} {v:Value} (D:ze w g ty cs) (o:ty≠4) (E:w.cell? ⟨g,k,none⟩=some v):∀W,SB w W->W.cell? ⟨g,k,none⟩=some v:=
 fun W h=>(zaa (a:=⟨g,k,none⟩) (h g ty cs D o)).trans E
theorem SB.set {w W:World} (h:SB w W) (E:ze w g 4 cs) (x:Value):SB w (W.setCell ⟨g,k,none⟩ x):=
 fun g' ty' cs' o D=>(FH W ⟨g,k,none⟩ x g' (ze.ne_ o E D)).trans (h g' ty' cs' o D)
theorem SB.drew (w:World):SB w w.drew:=fun _ _ _ _ _=>rfl
def Be (w:World) (e:Ending) (w':World):Prop:=∃v' m ns,e=.returned v'/\za w w'/\Bx w' (fun b=>w.heap.size<=b) v' m ns/\MadeM m/\∀s∈ns,s.size<=1
end
end Go.Proofs.YtjomnbdjajjgfaaGreatDoor
