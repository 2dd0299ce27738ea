import Derived.Test.YtcnaogdgjkpkmaaGreatDoorWCk
import Derived.Test.YtcnaogdgjkpkmaaGreatDoorWCl
import Derived.Recover
import Derived.Laws.EntriesVeiled
set_option linter.unusedVariables false
set_option linter.unusedSimpArgs false
set_option maxRecDepth 100000
set_option maxHeartbeats 16000000
namespace Go.Proofs.YtcnaogdgjkpkmaaGreatDoor
variable {t:Int} {ch s:List Int} {m:MZ} {g g2 go gp tk:Nat} {ok okp:Nat->Prop} {p:PT} {a b c d e f ts u v vc vp vs:Value} {W w:World}
section
open Go.RowKit
attribute [local go_sem ↓] Go.wp_at_zero Go.wp_at_succ
theorem make1_panics (gp ge:Nat) (x:Int) (older:List PanicEntry) (w:World) (hp:ze w gp 27 #[a,b,c]) (he:ze w ge 37 #[d]) (o:gp≠ge):
  CallsD Tryz.prog 49 #[.pointer (some ⟨gp,0,none⟩),.pointer (some ⟨ge,0,none⟩)] (.panicking ({ v:=.iface 37 (.int .i64 x),recovered:=false } :: older)) w fun e u' w'=>
   e=.returned (.tuple #[])/\u'=.panicking ({ v:=.iface 37 (.int .i64 x),recovered:=true } :: older)/\w'=(((w.setCell ⟨gp,0,none⟩ (.int .i64 0)).setCell ⟨gp,1,none⟩ (.slice none 0 0)).setCell ⟨gp,2,none⟩ (.slice none 0 0)).setCell ⟨ge,0,none⟩ (.int .i64 x):=by
 have c0:=hp.cell (k:=0) rfl;have c1:=hp.cell (k:=1) rfl;have c2:=hp.cell (k:=2) rfl;have ce:=he.cell (k:=0) rfl;have f0:=fun j=>hp.frozen j
 have fe:=he.frozen 0;refine callsD_of_wpS Tryz.func49 rfl fun c₀ cs z=>?_
 apply wpS_seq;apply wpS_region;simp [wpOpsS,go_sem,recoverD,z,Tryz.ntmps49,Exit.thenS];refine wpS_of_wp ?_;have r:∀W,(Instr.typeAssert (.iface 37 (.int .i64 x)) 20 37 true).run Tryz.prog W=.ok (.tuple #[.int .i64 x,.bool true]) W:=fun W=>by kernel_rfl
 go_wp2;cases c₀
 simp_all [bodyPostS,results,Tryz.results49]
theorem proveP_zero:∀(f:Nat) (ch:List Int) (k:Nat),(zn m f ch k).1≠0->(zn m f ch k).2.1=PT.zero
 | 0,ch,k,h=>by unfold zn;rfl
 | f+1,ch,k,h=>by
  by_cases h1:m.tasks.length<=zD m ch
  ·rw [proveP_end h1]
  ·by_cases h2:3000<k+1
   ·rw [proveP_many h1 h2]
   ·cases o:cutT m ch with
    | some t=>rw [proveP_cut h1 h2 o] at h;exact absurd rfl h
    | none=>
     rw [proveP_kids h1 h2 o] at h⊢
     split
     ·next r=>rw [if_pos r] at h;exact absurd rfl h
     ·rfl
theorem case_fin4 {P:World->Prop} {ge:Nat} {a0 a1 a2 z0 z1 z2:Value} (h:∀WZ,ze WZ gp 27 #[a0,a1,a2]->ze WZ ge 37 #[d]->zd (fun b=>b=gp\/b=ge) W WZ->P WZ) (r:ze W gp 27 #[z0,z1,z2]) (he:ze W ge 37 #[e]):
  P ((((W.setCell ⟨gp,0,none⟩ a0).setCell ⟨gp,1,none⟩ a1).setCell ⟨gp,2,none⟩ a2).setCell ⟨ge,0,none⟩ d):=by
 have o:gp≠ge:=r.ne_ he (by decide);have h1:ze (setL gp 0 [a0,a1,a2] W) gp 27 #[a0,a1,a2]:=setL_blk [a0,a1,a2] [z0,z1,z2] [] W rfl r;have h2:ze (setL gp 0 [a0,a1,a2] W) ge 37 #[e]:=(Bq gp ge (Ne.symm o) _ 0 W).trans he;refine h _ (h1.setOther (a:=⟨ge,0,none⟩) o d) (h2.set (k:=0) d) ⟨rfl,rfl,rfl,?_,fun b r z=>?_⟩
 ·simp
 ·refine (Di _ ⟨ge,0,none⟩ _ b (fun e=>z (.inr e))).trans (Bq gp b (fun e=>z (.inl e)) [a0,a1,a2] 0 W)
theorem make1_idle (gp ge:Nat) (w:World):
  CallsD Tryz.prog 49 #[.pointer (some ⟨gp,0,none⟩),.pointer (some ⟨ge,0,none⟩)] .returning w fun e u' w'=>e=.returned (.tuple #[])/\u'=.returning/\w'=w:=by
 refine callsD_of_wpS Tryz.func49 rfl fun c₀ cs o=>?_
 apply wpS_seq;apply wpS_region;simp [wpOpsS,go_sem,recoverD,o,Tryz.ntmps49,Exit.thenS];refine wpS_of_wp ?_;go_wp2;cases c₀
 simp_all [bodyPostS,results,Tryz.results49]
theorem CN (w:World) (hm:zL w ok v m) (hl:Lens m):
  Calls Tryz.prog 19 #[v] w fun e w'=>∃v',e=.returned (.tuple #[v',.int .i64 (makeP m).1])/\za w w'/\zV w' (fun b=>w.heap.size<=b) v' (makeP m).2:=by
 have HM:=zh hm;have HL:=zh hl;obtain ⟨Af,cf,Au,cu,At,ct,rfl,-,-,-⟩:=hm.parts;clear hm hl;have f4:∀(fn:Fn) (first cap:Array Value) (w:World),(Instr.makeFunc fn first cap).run Tryz.prog w=.ok (.func fn first cap) w:=fun _ _ _ _=>rfl
 go_enter_defers Tryz.func19,Tryz.ntmps19
 go_upto_region 1 with fail;obtain ⟨b2,r0,r1,r2,r3,r4,r5⟩:=box6 w (.int .i64 m.w) (.int .i64 m.h) (.int .i64 m.l) (.slice Af m.free.length cf) (.slice Au m.up.length cu) (.slice At m.tasks.length ct);have a5:(w.alloc (.cells #[.int .i64 m.w,.int .i64 m.h,.int .i64 m.l,.slice Af m.free.length cf,.slice Au m.up.length cu,.slice At m.tasks.length ct] 35)).heap.size=w.heap.size+1:=by simp
 generalize w.alloc _=w0 at b2 r0 r1 r2 r3 r4 r5 a5⊢;have M:=ze.new w0 #[.int .i64 0,.slice none 0 0,.slice none 0 0] 27 (g:=w0.heap.size) rfl;have a4:za w0 (w0.alloc (.cells #[.int .i64 0,.slice none 0 0,.slice none 0 0] 27)):=(za.refl w0).alloc _;have b6:(w0.alloc (.cells #[.int .i64 0,.slice none 0 0,.slice none 0 0] 27)).heap.size=w0.heap.size+1:=by simp
 generalize w0.alloc _=w1 at M a4 b6⊢;have L:=ze.new w1 #[.int .i64 0] 37 (g:=w1.heap.size) rfl;have U:za w1 (w1.alloc (.cells #[.int .i64 0] 37)):=(za.refl w1).alloc _;generalize w1.alloc _=w2 at L U⊢;rw [b6,a5] at L;rw [a5] at M;obtain ⟨gm,b4⟩:=DX w.heap.size;rw [<-b4] at r0 r1 r2 r3 r4 r5 M L⊢;have K:Hid (gm=w.heap.size):=b4;have E:=zh (a4.trans U);have r0:=fun W h=>r0 W (E.out.trans h)
 have r1:=fun W h=>r1 W (E.out.trans h)
 have r2:=fun W h=>r2 W (E.out.trans h)
 have r3:=fun W h=>r3 W (E.out.trans h)
 have r4:=fun W h=>r4 W (E.out.trans h)
 have r5:=fun W h=>r5 W (E.out.trans h)
 have HP:=zh (M.ext U);have HE:=zh L;have a8:=zh (b2.trans (a4.trans U));clear b4 b2 a5 a4 b6 U M L;have hx:za w2 w2:=za.refl w2
 go_wp2_with fail
 refine (Bv w2 (HM.out.below a8.out) HL.out).mono ?_;rintro e w3 ⟨rfl,a2⟩;have b7:za w2 w3:=a2;have I:=zh (HP.out.ext a2);have J:=zh (HE.out.ext a2);obtain ⟨ck,b3⟩:=DX (Cc m);have a0:=zh b3;rw [<-b3];clear hx a2 b3;by_cases h0:ck=0
 ·subst h0;have HC:Hid (Cc m=0):=a0.out.symm;clear a0;have e5:=BT w2
  go_wp2_with fail
  have a3:=ze.new w3 #[.int .i64 0] 86 (g:=w3.heap.size) rfl;have O:za w3 (w3.alloc (.cells #[.int .i64 0] 86)):=(za.refl w3).alloc _;have a6:(w3.alloc (.cells #[.int .i64 0] 86)).heap.size=w3.heap.size+1:=by simp
  generalize w3.alloc _=w4 at a3 O a6⊢;obtain ⟨gx,b5⟩:=DX w3.heap.size;rw [<-b5] at a3 a6⊢;have z:Hid (gm+2<gx/\w4.heap.size=gx+1):=⟨by rw [b5];have:=zb J.out;omega,a6⟩;have e2:=zh a3;have d4:Hid (za w w4):=a8.out.trans (b7.trans O);have e0:=zh (I.out.ext O);have d8:=zh (J.out.ext O);clear a3 a6 b5 b7 O e5 r0 r1 r2 r3 r4 r5;refine (of_calls (ok:=fun b=>ok b/\b<w.heap.size) w4 (HM.out.bound.below d4.out) HL.out HC.out (zk.nil _ _) zG.nil).mono ?_;rintro e w5 ⟨vp,rfl,Q,d6⟩;have a9:=zh (e2.out.ext Q);have d5:=zh (d4.out.trans Q);have c7:=zh (e0.out.ext Q);have c6:=zh (d8.out.ext Q);have e1:=zh d6;clear Q d6
  have c9:Hid (∀r,r=zn m (m.n.toNat+2) [] 0->Calls Tryz.prog 50 #[.pointer (some ⟨gx,0,none⟩),CT m (.slice Af m.free.length cf) (.slice Au m.up.length cu) (.slice At m.tasks.length ct) (.slice none 0 0) vp (zD m [])] w5 (Ch w5 gx r)):=fun r hr=>by
   rw [hr];exact prove_calls HL.out HC.out (m.n.toNat+2) [] 0 gx _ _ _ w5 e1.out zG.nil (by simp) (by omega) a9.out (fun b hb=>by have h1:=z.out;have h2:=K.out;rcases hb with hb | hb <;> omega)
  obtain ⟨r,hr⟩:=DX (zn m (m.n.toNat+2) [] 0);have a1:Hid (makeP m=(r.1,r.2.1)):=by (show _=_);unfold makeP;rw [if_pos HC.out,hr]
  have c8:=zh (c9.out r hr);have b0:Hid (r.1≠0->r.2.1=PT.zero):=fun h=>by rw [hr] at h⊢;exact proveP_zero _ _ _ h
  clear c9 hr;unfold CT at c8⊢
  go_wp2_with fail
  refine c8.out.mono ?_;rintro e w6 ⟨D,(⟨h0,v6,rfl,b1,e3⟩ | ⟨h0,rfl⟩)⟩
  ·have B:=zh (D.blk c7.out (by have:=z.out;omega));have G:=zh (D.blk c6.out (by have:=z.out;omega));have a7:=zh D;have HR:=zh b1;have HZ:=zh h0;obtain ⟨As,cs,Ak,ck,rfl,-⟩:=b1.form;have c0:=B.out.cell (k:=0) rfl;have c1:=B.out.cell (k:=1) rfl;have c2:=B.out.cell (k:=2) rfl;have ce:=G.out.cell (k:=0) rfl;have f0:=fun j=>B.out.frozen j
   have fe:=G.out.frozen 0;clear D h0 b1 e3
   go_wp2_with fail
   refine case_fin4 (P:=fun W=>bodyPostD Tryz.prog Tryz.f19 _ Exit.ret _ W) (gp:=gm+1) (ge:=gm+1+1) ?_ B.out G.out;intro WZ o V hC;have y0:=o.cell (k:=0) rfl;have y1:=o.cell (k:=1) rfl;have y2:=o.cell (k:=2) rfl;have y3:=V.cell (k:=0) rfl;refine leaves_cons (f:=49) (args:=#[.pointer (some ⟨gm+1,0,none⟩),.pointer (some ⟨gm+1+1,0,none⟩)]) (by simp) (by simp [go_sem]) ?_;refine (make1_idle _ _ _).mono ?_;rintro e u' w'' ⟨rfl,rfl,rfl⟩;refine ⟨.tuple #[.agg #[.int .i64 r.2.1.task,.slice As r.2.1.side.length cs,.slice Ak r.2.1.kids.length ck],.int .i64 0],by simp [results,Tryz.results19,go_sem,y0,y1,y2,y3],.agg #[.int .i64 r.2.1.task,.slice As r.2.1.side.length cs,.slice Ak r.2.1.kids.length ck],?_,?_,?_⟩
   ·rw [a1.out,HZ.out]
   ·exact (((zd.of_ext (X:=fun b=>gm<=b) d5.out).trans a7.out (fun k _ h=>by have:=z.out;omega)).trans hC (fun k _ h=>by omega)).below (CY _) (fun b hb=>by rw [K.out] at hb;exact hb)
   ·rw [a1.out];exact HR.out.keepW (fun b hb e4=>hC.block b e4 (by have h1:=z.out;have h2:=zb a9.out;omega)) (fun b hb=>by have h1:=z.out;have h2:=zb a9.out;have h3:=K.out;omega)
  ·have B:=zh (D.blk c7.out (by have:=z.out;omega));have G:=zh (D.blk c6.out (by have:=z.out;omega));have a7:=zh D;clear D
   go_wp2_with fail
   refine leaves_cons (f:=49) (args:=#[.pointer (some ⟨gm+1,0,none⟩),.pointer (some ⟨gm+1+1,0,none⟩)]) (by simp) (by simp [go_sem]) ?_;refine (make1_panics _ _ _ _ _ B.out G.out (by omega)).mono ?_;rintro e u' w'' ⟨rfl,rfl,rfl⟩;refine case_fin4 (P:=fun W=>Leaves Tryz.prog Tryz.f19 _ _ _ _ W) (gp:=gm+1) (ge:=gm+1+1) ?_ B.out G.out;intro WZ o V hC;have y0:=o.cell (k:=0) rfl;have y1:=o.cell (k:=1) rfl;have y2:=o.cell (k:=2) rfl;have y3:=V.cell (k:=0) rfl;refine ⟨.tuple #[.agg #[.int .i64 0,.slice none 0 0,.slice none 0 0],.int .i64 r.1],by simp [results,Tryz.results19,go_sem,y0,y1,y2,y3],.agg #[.int .i64 0,.slice none 0 0,.slice none 0 0],?_,?_,?_⟩
   ·rw [a1.out]
   ·exact (((zd.of_ext (X:=fun b=>gm<=b) d5.out).trans a7.out (fun k _ h=>by have:=z.out;omega)).trans hC (fun k _ h=>by omega)).below (CY _) (fun b hb=>by rw [K.out] at hb;exact hb)
   ·rw [a1.out];have:r.2.1=PT.zero:=b0.out h0;rw [this];exact zV.zero _ _
 ·have f5:(ck==0)=false:=by rw [Dn];exact h0
  have f6:(ck != 0)=true:=by rw [bne_iff_ne];exact h0
  have c0:=I.out.cell (k:=0) rfl;have c1:=I.out.cell (k:=1) rfl;have c2:=I.out.cell (k:=2) rfl;have ce:=J.out.cell (k:=0) rfl;have f0:=fun j=>I.out.frozen j
  have fe:=J.out.frozen 0;have HN:Hid (makeP m=(ck,.zero)):=by (show _=_);unfold makeP;rw [if_neg (by rw [<-a0.out];exact h0),a0.out]
  clear h0
  go_wp2_with fail
  refine case_fin4 (P:=fun W=>bodyPostD Tryz.prog Tryz.f19 _ Exit.ret _ W) (gp:=gm+1) (ge:=gm+1+1) ?_ I.out J.out;intro WZ o V hC;have y0:=o.cell (k:=0) rfl;have y1:=o.cell (k:=1) rfl;have y2:=o.cell (k:=2) rfl;have y3:=V.cell (k:=0) rfl;refine ⟨.tuple #[.agg #[.int .i64 0,.slice none 0 0,.slice none 0 0],.int .i64 ck],by simp [results,Tryz.results19,go_sem,y0,y1,y2,y3],.agg #[.int .i64 0,.slice none 0 0,.slice none 0 0],?_,?_,?_⟩
  ·rw [HN.out]
  ·exact ((zd.of_ext (X:=fun b=>gm<=b) (a8.out.trans b7)).trans hC (fun k _ h=>by omega)).below (CY _) (fun b hb=>by rw [K.out] at hb;exact hb)
  ·rw [HN.out];exact zV.zero _ _
end
section
open Go.RowKit
def reachLX (m:MZ) (t:Nat) (f us:List Int):List Int:=((List.range m.n.toNat).map Int.ofNat).filter fun x=>decide (x∈reachX m t f us)
def sideX (m:MZ) (ch:List Int) (t:Nat):List Int:=if Cc m=0/\t<m.tasks.length then reachLX m t (AC m ch t) ch else []
theorem side_x (d:Dim m) (ch:List Int) (t:Nat):BE m ch t=sideX m ch t:=by
 unfold BE sideX reachO reachLX;by_cases h:Cc m=0/\t<m.tasks.length
 ·rw [if_pos h,if_pos ⟨h.1,by omega,by have:=h.2;omega⟩,reachL_x d]
  all_goals rfl
 ·rw [if_neg h,if_neg (fun o=>h ⟨o.1,by have:=o.2.2;omega⟩)]
def offX (m:MZ) (ch:List Int) (t:Nat):Bool:=!((sideX m ch t).any fun n=>decide (n∈(m.tasks.getD t ([],[])).2)) && (decide (sideX m ch t≠[]) || decide (zD m ch<t))
def cutX (m:MZ) (ch:List Int):Option Nat:=((List.range (m.tasks.length - zD m ch)).map (zD m ch+·)).find? (offX m ch)
theorem cut_x (d:Dim m) (ch:List Int):cutT m ch=cutX m ch:=by
 unfold cutT cutX;congr 1;funext t;unfold offB offX;rw [side_x d]
def proveX (m:MZ):Nat->List Int->Nat->Int×PT×Nat
 | 0,_,k=>(53,.zero,k)
 | f+1,ch,k=>
  if m.tasks.length<=zD m ch then (51,.zero,k)
  else if 3000<k+1 then (53,.zero,k+1)
  else match cutX m ch with
   | some t=>(0,.node t (sideX m ch t) [],k+1)
   | none=>
    let r:=zF (fun n k=>proveX m f (ch++[n]) k) (zP m ch) (k+1) []
    if r.1=0 then (0,.node (zD m ch) [] r.2.1,r.2.2) else (r.1,.zero,r.2.2)
theorem prove_x {m:MZ} (d:Dim m):∀(f:Nat) (ch:List Int) (k:Nat),zn m f ch k=proveX m f ch k
 | 0,ch,k=>rfl
 | f+1,ch,k=>by
  unfold zn proveX;rw [cut_x d]
  have h:(fun n k=>zn m f (ch++[n]) k)=fun n k=>proveX m f (ch++[n]) k:=by
   funext n k;exact prove_x d f _ _
  rw [h];by_cases h1:m.tasks.length<=zD m ch
  ·rw [if_pos h1,if_pos h1]
  ·rw [if_neg h1,if_neg h1];by_cases h2:3000<k+1
   ·rw [if_pos h2,if_pos h2]
   ·rw [if_neg h2,if_neg h2]
    cases cutX m ch with
    | some t=>show (0,PT.node _ (BE m ch t) _,_)=(0,PT.node _ (sideX m ch t) _,_);rw [side_x d]
    | none=>rfl
def makeX (m:MZ):Int×PT:=if Cc m=0 then ((proveX m (m.n.toNat+2) [] 0).1,(proveX m (m.n.toNat+2) [] 0).2.1) else (Cc m,.zero)
theorem make_x (d:Dim m):makeP m=makeX m:=by
 unfold makeP makeX;rw [prove_x d]
def yP:PT:=.node 1 [] []
def yCut:PT:=.node 0 [] [.node 0 [] [.node 1 [1,2,5,8] []]]
def BG:PT:=.node 0 [] [.node 0 [] [yP,yCut]]
theorem ym1:(makeX (exM 6 8)).1=51:=by decide +kernel
theorem ym2:makeX (exM 4 8)=(0,yP):=by kernel_rfl
theorem ym3:makeX (exM 1 7)=(0,BG):=by kernel_rfl
theorem yk1:Bf (exM 4 8) yP=true:=by decide +kernel
theorem yk2:Bf (exM 6 8) yP=false:=by decide +kernel
theorem yk3:Bf (exM 1 7) BG=true:=by decide +kernel
theorem yk4:Bf (exM 1 7) yP=false:=by decide +kernel
theorem yz:BG.size=6:=by decide +kernel
theorem yl0:yP.Lens:=by simp [yP,PT.Lens,PT.LensL]
theorem yl1:BG.Lens:=by simp [BG,yP,yCut,PT.Lens,PT.LensL]
theorem yd1:decR (zI BG)=(0,BG):=by kernel_rfl
theorem yd2:(decR (zI BG++[120])).1=4:=by decide +kernel
theorem yel:(zI BG).length<=1000:=by decide +kernel
theorem yok:BG.Ok:=by
 have h:∀x:Int,x∈[(1:Int),2,5,8]->Cp x:=by
  intro x o;simp only [DJ,DO,or_false] at o;rcases o with rfl | rfl | rfl | rfl <;> exact ⟨by decide,by decide⟩
 have h0:Cp 0:=⟨by decide,by decide⟩;have h1:Cp 1:=⟨by decide,by decide⟩;simp [BG,yP,yCut,PT.Ok,PT.OkL,h0,h1];exact ⟨h 2 (by simp),h 5 (by simp),h 8 (by simp)⟩
theorem ysp:AJ yP yP=true:=AZ _
theorem zV.leaf (w:World) (ok:Nat->Prop) (t:Int):zV w ok (.agg #[.int .i64 t,.slice none 0 0,.slice none 0 0]) (.node t [] []):=
 .mk (cs:=[]) (zk.nil _ _) ⟨none,0,rfl,CY _,Aj.nil _ _ _ _⟩ (fun i o=>absurd o (by simp))
theorem zV.one (t:Int) (o:ze w g 27 #[a,b,c]) (r:ok g) (h:zV w ok (.agg #[a,b,c]) p):zV w ok (.agg #[.int .i64 t,.slice none 0 0,.slice (some ⟨g,0,none⟩) 1 1]) (.node t [] [p]):=
 .mk (cs:=[a,b,c]) (zk.nil _ _) ⟨_,_,rfl,CY _,rfl,fun _=>⟨g,0,rfl,r,fun j u B=>by rw [Nat.zero_add];exact ze.cell (cs:=#[a,b,c]) o (by simpa using B)⟩⟩ (fun i z=>by
  match i,z with
  | 0,_=>exact h)
theorem zV.two {q:PT} (t:Int) (r:ze w g 27 #[a,b,c,d,e,f]) (z:ok g) (h:zV w ok (.agg #[a,b,c]) p) (o:zV w ok (.agg #[d,e,f]) q):zV w ok (.agg #[.int .i64 t,.slice none 0 0,.slice (some ⟨g,0,none⟩) 2 2]) (.node t [] [p,q]):=
 .mk (cs:=[a,b,c,d,e,f]) (zk.nil _ _) ⟨_,_,rfl,CY _,rfl,fun _=>⟨g,0,rfl,z,fun j u D=>by rw [Nat.zero_add];exact ze.cell (cs:=#[a,b,c,d,e,f]) r (by simpa using D)⟩⟩ (fun i B=>by
  match i,B with
  | 0,_=>exact h
  | 1,_=>exact o)
theorem ywant_mem {H:Nat} (b0:ze W H 3 #[.int .i64 1,.int .i64 2,.int .i64 5,.int .i64 8]) (b1:ze W (H+1) 27 #[.int .i64 1,.slice (some ⟨H,0,none⟩) 4 4,.slice none 0 0]) (b2:ze W (H+2) 27 #[.int .i64 0,.slice none 0 0,.slice (some ⟨H+1,0,none⟩) 1 1])
  (b4:ze W (H+4) 27 #[.int .i64 1,.slice none 0 0,.slice none 0 0,.int .i64 0,.slice none 0 0,.slice (some ⟨H+2,0,none⟩) 1 1]) (b5:ze W (H+5) 27 #[.int .i64 0,.slice none 0 0,.slice (some ⟨H+4,0,none⟩) 2 2]):
  zV W (fun b=>H<=b) (.agg #[.int .i64 0,.slice none 0 0,.slice (some ⟨H+5,0,none⟩) 1 1]) BG:=by
 have h1:zV W (fun b=>H<=b) (.agg #[.int .i64 1,.slice (some ⟨H,0,none⟩) 4 4,.slice none 0 0]) (.node 1 [1,2,5,8] []):=
  .mk (cs:=[]) ⟨_,_,rfl,CY _,Aj.block (cs:=#[.int .i64 1,.int .i64 2,.int .i64 5,.int .i64 8]) b0 (CY _) rfl⟩ ⟨none,0,rfl,CY _,Aj.nil _ _ _ _⟩ (fun i o=>absurd o (by simp))
 exact .one 0 b5 (by omega) (.two 0 b4 (by omega) (.leaf _ _ 1) (.one 0 b2 (by omega) (.one 0 b1 (by omega) h1)))
end
section
open Go.RowKit
attribute [local go_sem ↓] Go.wp_at_zero Go.wp_at_succ
theorem indexFuncX_calls {l:List Int} (n:FuncId) (caps:Array Value) (p:Int->Bool) (w:World) (h:zk w ok v l) (hl:l.length<=20000000000000)
  (a2:∀(a:Array Value) (w:World),(callFunc n a).run Tryz.prog w=.ok (.enter n a) w)
  (hp:∀x∈l,∀w1,za w w1->Calls Tryz.prog n (#[.int .i64 x]++caps) w1 fun e w'=>e=.returned (.bool (p x))/\za w1 w'):
  Calls Tryz.prog 104 #[v,.func (.func n) #[] caps] w fun e w'=>∃r:Int,e=.returned (.int .i64 r)/\(0<=r↔l.any p=true)/\-1<=r/\za w w':=by
 obtain ⟨A,c,rfl,hc,V⟩:=h;have HR:=zh V;clear V;have HP:=zh hp;clear hp
 go_enter Tryz.func104,Tryz.ntmps104
 go_wp2_with fail
 go_loopw [8] (fun i wr=>∃k:Nat,k<=l.length/\i=.int .i64 k/\Hid ((l.take k).any p=false)/\Hid (za w wr)) (fun i _=>l.length - (intOf i).toNat)
 case atStart=>exact ⟨0,Do _,rfl,by simp [Hid],za.refl _⟩
 case round=>
  obtain ⟨k,hk,rfl,U,L⟩:=hrel;by_cases J:k<l.length
  ·obtain ⟨b,off,rfl,_,I⟩:=Am (HR.out.keep (zK.of_below L.out)) J J;obtain ⟨x,O⟩:=DX (l[k]);rw [<-O] at I;have M:x∈l:=by rw [O];exact CZ _
   have D:=zh (AV p J);rw [<-O] at D;clear O;have o:=zh (HP.out x M wr L.out);by_cases B:p x=true
   ·go_wp2_with fail
    refine o.out.mono ?_;rintro e w1 ⟨rfl,z⟩;rw [B];have E:=zh (L.out.trans z);clear z;have G:=zh B;clear B
    go_wp2_with fail
    go_ret;refine ⟨_,rfl,⟨fun _=>?_,fun _=>by omega⟩,by omega,E.out⟩;rw [DS];exact ⟨x,M,G.out⟩
   ·have K:p x=false:=by simpa using B
    clear B
    go_wp2_with fail
    refine o.out.mono ?_;rintro e w1 ⟨rfl,z⟩;rw [K];have E:=zh (L.out.trans z);clear z;have G:=zh K;clear K
    go_wp2_with fail
    go_roundw
    case rel=>exact ⟨k+1,by omega,by go_num,by
     show _=false;rw [D.out,U.out,G.out];rfl,E⟩
    case measure=>simp [intOf];omega
  ·obtain rfl:k=l.length:=by omega
   go_wp2;go_ret;have h:=U.out;rw [Dl] at h;refine ⟨_,rfl,⟨fun Q=>by omega,fun Q=>?_⟩,by omega,L.out⟩;rw [h] at Q
   cases Q
theorem AS {l:List (Int)} (n:FuncId) (caps:Array Value) (p:Int->Bool) (w:World) (h:zk w ok v l) (G:l.length<=20000000000000) (z:∀(a:Array Value) (w:World),(callFunc n a).run Tryz.prog w=.ok (.enter n a) w)
  (hp:∀x∈l,∀w1,za w w1->Calls Tryz.prog n (#[.int .i64 x]++caps) w1 fun e w'=>e=.returned (.bool (p x))/\za w1 w'):
  Calls Tryz.prog 73 #[v,.func (.func n) #[] caps] w fun e w'=>e=.returned (.bool (l.any p))/\za w w':=by
 have H:=zh (indexFuncX_calls n caps p w h G z hp);clear hp;obtain ⟨A,c,rfl,J,o⟩:=h;clear o
 go_enter Tryz.func73,Tryz.ntmps73
 go_wp2_with fail
 refine H.out.mono ?_;rintro e w1 ⟨r,rfl,o,I,B⟩;have E:=zh o;clear o;have D:=zh B;clear B
 go_wp2_with fail
 go_ret;refine ⟨zi ?_,D.out⟩;rw [Bool.eq_iff_iff,decide_eq_true_iff];exact E.out
structure CutV (w:World) (ok okp:Nat->Prop) (g2 gp go:Nat) (m:MZ) (f u ts vc vp:Value) (ch:List Int) (t:Int) (tk:Nat) (vs:Value) (s:List Int):Prop where
 st:PSt w ok m f u ts vc vp ch
 c0:w.cell? ⟨g2,0,none⟩=some (.int .i64 m.w)
 c1:w.cell? ⟨g2,1,none⟩=some (.int .i64 m.h)
 c2:w.cell? ⟨g2,2,none⟩=some (.int .i64 m.l)
 c3:w.cell? ⟨g2,3,none⟩=some f
 c4:w.cell? ⟨g2,4,none⟩=some u
 c5:w.cell? ⟨g2,5,none⟩=some ts
 c6:w.cell? ⟨g2,6,none⟩=some vc
 c7:w.cell? ⟨g2,7,none⟩=some vp
 c8:w.cell? ⟨g2,8,none⟩=some (.int .i64 t)
 p0:w.cell? ⟨gp,0,none⟩=some (.int .i64 tk)
 p1:w.cell? ⟨gp,1,none⟩=some vs
 sd:zk w okp vs s
 o0:w.cell? ⟨go,0,none⟩=some (.func (.func 109) #[] #[.pointer (some ⟨gp,0,none⟩)])
theorem CutV.more {w w':World} {ok okp:Nat->Prop} {g2 gp go:Nat} {m:MZ} {f u ts vc vp:Value} {ch:List Int} {t:Int} {tk:Nat} {vs:Value} {s:List Int} (h:CutV w ok okp g2 gp go m f u ts vc vp ch t tk vs s) (o:za w w'):CutV w' ok okp g2 gp go m f u ts vc vp ch t tk vs s:=
 ⟨h.st.more o,o.cell h.c0,o.cell h.c1,o.cell h.c2,o.cell h.c3,o.cell h.c4,o.cell h.c5,o.cell h.c6,o.cell h.c7,o.cell h.c8,o.cell h.p0,o.cell h.p1,h.sd.below o,o.cell h.o0⟩
theorem cut1_calls (x:Int) (w:World) (h1:w.cell? ⟨gp,1,none⟩=some vs) (o:zk w ok vs s) (z:s.length<=20000000000000):
  Calls Tryz.prog 109 #[.int .i64 x,.pointer (some ⟨gp,0,none⟩)] w fun e w'=>e=.returned (.bool (!decide (x∈s)))/\w=w':=by
 have r:=zh o;obtain ⟨As,cs,rfl,-,-⟩:=o
 go_enter Tryz.func109,Tryz.ntmps109
 go_wp2_with fail
 refine (zS x w r.out z).mono ?_;rintro e w9 ⟨rfl,rfl⟩
 go_wp2_with fail
 go_ret;exact ⟨rfl,rfl⟩
theorem cut21_calls (x:Int) (w:World) (h:CutV w ok okp g2 gp go m f u ts vc vp ch t tk vs s) (g:AF m) (r:ch.length<=20000000000000) (z:tk<m.free.length) (h0:0<=x) (h1:x<m.n) (D:s.length<=20000000000000):
  Calls Tryz.prog 112 #[.int .i64 x,.pointer (some ⟨g2,0,none⟩),.pointer (some ⟨gp,0,none⟩),.pointer (some ⟨go,0,none⟩)] w fun e w'=>e=.returned (.bool ((zg m tk x && !decide (x∈ch)) && !decide (x∈s)))/\za w w':=by
 have B:=zh (popen_calls t tk x w h.st g r z h0 h1);have E:Hid (∀w9,za w w9->Calls Tryz.prog 109 #[.int .i64 x,.pointer (some ⟨gp,0,none⟩)] w9 fun e w'=>e=.returned (.bool (!decide (x∈s)))/\w9=w'):=fun w9 G=>cut1_calls x w9 (G.cell h.p1) (h.sd.below G) D
 obtain ⟨c0,c1,c2,c3,c4,c5,c6,c7,c8,p0,p1,o0⟩:=(⟨h.c0,h.c1,h.c2,h.c3,h.c4,h.c5,h.c6,h.c7,h.c8,h.p0,h.p1,h.o0⟩:_/\_/\_/\_/\_/\_/\_/\_/\_/\_/\_/\_);clear h z h0 h1 g r;unfold CT at B;generalize (zg m tk x && !decide (x∈ch))=b at B⊢;generalize (!decide (x∈s))=d at E⊢
 go_enter Tryz.func112,Tryz.ntmps112
 go_wp2_with fail
 refine B.out.mono ?_;rintro e w1 ⟨rfl,o⟩;have o1:=o.cell o0;clear c0 c1 c2 c3 c4 c5 c6 c7 c8 p0 p1 o0 B
 cases b with
 | false=>
  go_wp2_with fail
  go_ret;exact ⟨rfl,o⟩
 | true=>
  go_wp2_with fail
  refine (E.out w1 o).mono ?_;rintro e w2 ⟨rfl,rfl⟩
  go_wp2_with fail
  go_ret;exact ⟨by simp,o⟩
theorem cut2_calls (x:Int) (w:World) (h:CutV w ok okp g2 gp go m f u ts vc vp ch t tk vs s) (g:AF m) (K:Lens m) (r:ch.length<=20000000000000) (z:tk<m.free.length) (I:s.length<=20000000000000):
  Calls Tryz.prog 110 #[.int .i64 x,.pointer (some ⟨g2,0,none⟩),.pointer (some ⟨gp,0,none⟩),.pointer (some ⟨go,0,none⟩)] w fun e w'=>e=.returned (.bool ((Bz m x).any fun k=>(zg m tk k && !decide (k∈ch)) && !decide (k∈s)))/\za w w':=by
 have H:=zh h;have J:=zh (rNext_calls x w h.st.maze K)
 have B:Hid (∀w9 v9,za w w9->zk w9 (fun _=>True) v9 (Bz m x)->Calls Tryz.prog 73 #[v9,.func (.func 112) #[] #[.pointer (some ⟨g2,0,none⟩),.pointer (some ⟨gp,0,none⟩),.pointer (some ⟨go,0,none⟩)]] w9 fun e w'=>e=.returned (.bool ((Bz m x).any fun k=>(zg m tk k && !decide (k∈ch)) && !decide (k∈s)))/\za w9 w'):=fun w9 v9 O U=>
  AS 112 _ _ w9 U (by have:=nextO_len m x;omega) (Ae Tryz.func112 rfl rfl) fun y V w8 M=>by
   have L:=nextO_rng g V;exact cut21_calls y w8 (H.out.more (O.trans M)) g r z L.1 L.2 I
 obtain ⟨c0,c1,c2,c3,c4,c5⟩:=(⟨h.c0,h.c1,h.c2,h.c3,h.c4,h.c5⟩:_/\_/\_/\_/\_/\_);clear h g r z K;generalize Q:((Bz m x).any fun k=>(zg m tk k && !decide (k∈ch)) && !decide (k∈s))=R at B⊢;clear Q
 go_enter Tryz.func110,Tryz.ntmps110
 go_wp2_with fail
 refine J.out.mono ?_;rintro e w1 ⟨v1,rfl,o⟩;have E:=zh o.ext;have D:=zh (B.out w1 v1 o.ext (o.ints.weaken fun _ _=>trivial));obtain ⟨A1,k1,rfl,-⟩:=o.slice;clear o B J H c0 c1 c2 c3 c4 c5
 go_wp2_with fail
 refine D.out.mono ?_;rintro e w2 ⟨rfl,G⟩
 go_wp2_with fail
 go_ret;exact ⟨rfl,E.out.trans G⟩
theorem step_last {N:Int} {tg:List Int} {k:Nat} (z:∀j,j<k->Cg N tg s j):Cg N tg s k↔((-1:Int) :: s).getD k 0<s.getD k 0/\s.getD k 0<N/\s.getD k 0∉tg:=by
 unfold Cg
 cases k with
 | zero=>
  rw [List.getD_cons_zero];constructor
  ·rintro ⟨h1,h2,-,r⟩;exact ⟨by omega,h2,r⟩
  ·rintro ⟨h1,h2,o⟩;exact ⟨by omega,h2,fun h=>by omega,o⟩
 | succ k=>
  rw [List.getD_cons_succ];have h0:=(z k (by omega)).1;constructor
  ·rintro ⟨h1,h2,o,r⟩;exact ⟨o (by omega),h2,r⟩
  ·rintro ⟨h1,h2,o⟩;exact ⟨by omega,h2,fun _=>h1,o⟩
theorem wall_any (m:MZ) (ch:List Int) (t:Nat) (s:List Int):wallB m ch t s=!(s.any fun n=>(Bz m n).any fun k=>(zg m t k && !decide (k∈ch)) && !decide (k∈s)):=by
 unfold wallB;rw [List.not_any_eq_all_not];congr 1;funext n;rw [List.not_any_eq_all_not];congr 1;funext k
 cases (zg m t k && !decide (k∈ch)) <;> simp
theorem pcut_calls {vpr:Value} (w:World) (h:PSt w ok m f u ts vc vp ch) (hl:Lens m) (hc:Cc m=0) (hi:zG m ch) (hp:zV w okp vpr p) (a5:p.side.length<=20000000000000):
  Calls Tryz.prog 76 #[CT m f u ts vc vp (zD m ch),vpr] w fun e w'=>e=.returned (.bool (cutB m ch p.task p.side p.kids.length))/\za w w':=by
 have H:=zh h;have HL:=zh hl;have HC:=zh hc;have HI:=zh hi;have G:=zh (AF.of hc);have j5:=(Ar hc hi).2.2.1;obtain ⟨Af,cf,Au,cu,At,ct,Ac,cc,Ap,cp,rfl,rfl,rfl,rfl,rfl,-,f1⟩:=h.parts;have h6:=zh f1;obtain ⟨As,cs,Ak,ck,rfl,M⟩:=hp.form;have U:=zh M;have j9:=hl.ts;clear h hl hc hi hp f1;obtain ⟨R,hR⟩:=DX (cutB m ch p.task p.side p.kids.length);rw [<-hR];have a0:=zh hR;obtain ⟨tk,d4⟩:=DX p.task;obtain ⟨s,hs⟩:=DX p.side;obtain ⟨nk,c0⟩:=DX p.kids.length;rw [<-d4,<-hs,<-c0] at a0;rw [<-hs] at U M a5;rw [<-d4,<-hs,<-c0];clear hR d4 hs c0;obtain ⟨c,b6⟩:=DX (zD m ch);rw [<-b6];have d7:=zh b6;obtain ⟨PL,a8⟩:=DX ((zl m ch).length);rw [<-a8] at H⊢;clear b6 a8;have g9:=zh (show Aj w okp 1 As s.length (s.map (Value.int .i64)) from by obtain ⟨A',c',e,-,h⟩:=U.out;injection e with e1 e2 e3;rw [e1];exact h);clear M;unfold CT
 go_enter Tryz.func76,Tryz.ntmps76
 go_upto_region 1 with fail;obtain ⟨J,r0,r1,r2,r3,r4,r5,r6,r7,r8⟩:=box9 w (.int .i64 m.w) (.int .i64 m.h) (.int .i64 m.l) (.slice Af m.free.length cf) (.slice Au m.up.length cu) (.slice At m.tasks.length ct) (.slice Ac ch.length cc) (.slice Ap PL cp) (.int .i64 c);have c9:(w.alloc (.cells #[.int .i64 m.w,.int .i64 m.h,.int .i64 m.l,.slice Af m.free.length cf,.slice Au m.up.length cu,.slice At m.tasks.length ct,.slice Ac ch.length cc,.slice Ap PL cp,.int .i64 c] 70)).heap.size=w.heap.size+1:=by simp
 generalize w.alloc _=w0 at J r0 r1 r2 r3 r4 r5 r6 r7 r8 c9⊢;obtain ⟨L,p0,p1,p2⟩:=box3 w0 (.int .i64 tk) (.slice As s.length cs) (.slice Ak nk ck);generalize w0.alloc _=w1 at L p0 p1 p2⊢;rw [c9] at p0 p1 p2;obtain ⟨gm,e0⟩:=DX w.heap.size;rw [<-e0] at r0 r1 r2 r3 r4 r5 r6 r7 r8 p0 p1 p2⊢;have B:=zh L;have O:=zh (J.trans L);have r0:=fun W h=>r0 W (B.out.trans h)
 have r1:=fun W h=>r1 W (B.out.trans h)
 have r2:=fun W h=>r2 W (B.out.trans h)
 have r3:=fun W h=>r3 W (B.out.trans h)
 have r4:=fun W h=>r4 W (B.out.trans h)
 have r5:=fun W h=>r5 W (B.out.trans h)
 have r6:=fun W h=>r6 W (B.out.trans h)
 have r7:=fun W h=>r7 W (B.out.trans h)
 have r8:=fun W h=>r8 W (B.out.trans h)
 clear e0 J L c9;have hx:za w1 w1:=za.refl w1;obtain ⟨bad,a9⟩:∃bad:Bool,bad=decide (tk<c\/(m.tasks.length:Int)<=tk\/(tk=c/\s=[])\/nk≠0):=⟨_,rfl⟩;have z:=zh a9;clear a9;go_cut [41] (fun v wx=>v=.bool bad/\w1=wx)
 case first=>
  by_cases h1:tk<(c:Int)
  ·have E:Hid (bad=true):=by (show _=_);rw [z.out];exact Db (.inl h1)
   go_wp2_with fail
   go_meet;exact ⟨by rw [E.out],rfl⟩
  ·by_cases h2:(m.tasks.length:Int)<=tk
   ·have E:Hid (bad=true):=by (show _=_);rw [z.out];exact Db (.inr (.inl h2))
    go_wp2_with fail
    go_meet;exact ⟨by rw [E.out],rfl⟩
   ·by_cases h3:tk=(c:Int)
    ·have h7:(tk==(c:Int))=true:=by rw [beq_iff_eq];exact h3
     by_cases h4:s=[]
     ·have E:Hid (bad=true):=by (show _=_);rw [z.out];exact Db (.inr (.inr (.inl ⟨h3,h4⟩)))
      have h8:((s.length:Int)==0)=true:=by rw [h4];rfl
      clear h3 h4
      go_wp2_with fail
      go_meet;exact ⟨by rw [E.out],rfl⟩
     ·have E:Hid (bad=decide (0<nk)):=by
       (show _=_)
       rw [z.out,decide_eq_decide];constructor
       ·rintro (h | h | h | h)
        ·exact absurd h h1
        ·exact absurd h h2
        ·exact absurd h.2 h4
        ·omega
       ·intro h;exact .inr (.inr (.inr (by omega)))
      have h8:((s.length:Int)==0)=false:=by
       rw [Dn];intro h;exact h4 (Dq (by omega))
      clear h3 h4
      go_wp2_with fail
      go_meet;refine ⟨?_,rfl⟩;rw [E.out]
      all_goals (first | rfl | (congr 1;done) | (congr 1;rw [decide_eq_decide];omega))
    ·have h7:(tk==(c:Int))=false:=by rw [Dn];exact h3
     have E:Hid (bad=decide (0<nk)):=by
      (show _=_)
      rw [z.out,decide_eq_decide];constructor
      ·rintro (h | h | h | h)
       ·exact absurd h h1
       ·exact absurd h h2
       ·exact absurd h.1 h3
       ·omega
      ·intro h;exact .inr (.inr (.inr (by omega)))
     clear h3
     go_wp2_with fail
     go_meet;refine ⟨?_,rfl⟩;rw [E.out]
     all_goals (first | rfl | (congr 1;done) | (congr 1;rw [decide_eq_decide];omega))
 case rest=>
  obtain ⟨rfl,rfl⟩:=hcut
  cases bad with
  | true=>
   have HF:Hid (R=false):=by
    (show _=_)
    have:=DU z.out.symm;rw [d7.out] at this;rw [a0.out];unfold cutB;rw [if_pos this]
   go_wp2_with fail
   go_ret;exact ⟨zi HF.out.symm,O.out⟩
  | false=>
   have e6:=of_decide_eq_false z.out.symm
   have HF:Hid (R=(incB m.n (-1) s && (!(s.any fun n=>decide (n∈(m.tasks.getD tk.toNat ([],[])).2)) && ((AC m ch tk.toNat).all (fun n=>decide (n∈s)) && wallB m ch tk.toNat s)))):=by
    (show _=_)
    have:=e6;rw [d7.out] at this;rw [a0.out];unfold cutB;rw [if_neg this]
   obtain ⟨t,ht⟩:∃t:Nat,tk=t:=⟨tk.toNat,by omega⟩;subst ht;rw [DL] at HF;have f0:t<m.tasks.length:=by omega
   have D:=zh f0;have k1:(t:Int)<(m.tasks.length:Int):=by omega
   have k0:(0:Int)<=(t:Int):=by omega
   clear e6 z a0;have j8:=G.out.dim.n1;have i9:=G.out.dim.layer;have j1:IntKind.i64.wrap (m.w*m.h)=m.w*m.h:=by rw [Du];omega
   have j2:IntKind.i64.wrap (m.w*m.h*m.l)=m.w*m.h*m.l:=by rw [Du];omega
   have a1:Hid ((incB m.n (-1) s && !(s.any fun n=>decide (n∈(m.tasks.getD t ([],[])).2)))=true↔∀i,i<s.length->Cg m.n (m.tasks.getD t ([],[])).2 s i):=side_iff;obtain ⟨bt,offt,sn,u1,u2,rfl,-,-,-,b0,-,b9⟩:=CC h6.out D.out;have i8:=(HL.out.tl _ (CZ D.out)).2;have d8:Hid ((m.tasks.getD t ([],[])).2=(m.tasks[t]'D.out).2):=by (show _=_);rw [CX,CW D.out];rfl
   obtain ⟨tg,e8⟩:=DX ((m.tasks[t]'D.out).2);rw [<-e8] at b9 i8 d8;rw [d8.out] at a1 HF;have h5:=zh (b9.below O.out);obtain ⟨Atg,ctg,rfl,-,-⟩:=b9;have rtg:=za.rule (O.out.cell b0);clear e8 b0
   go_wp2_with fail
   go_loopw [5,45] (fun lv i wr=>∃k:Nat,k<=s.length/\i=.int .i64 k/\lv=.int .i64 (((-1:Int) :: s).getD k 0)/\Hid (∀j,j<k->Cg m.n tg s j)/\w1=wr) (fun _ i _=>s.length - (intOf i).toNat)
   case atStart=>exact ⟨0,Do _,rfl,rfl,fun j hj=>by omega,rfl⟩
   case round=>
    obtain ⟨k,hk,rfl,rfl,a4,rfl⟩:=hrel;by_cases a3:k<s.length
    ·have j0:(k:Int)<(s.length:Int):=by omega
     have kk0:(0:Int)<=(k:Int):=by omega
     obtain ⟨bs,offs,rfl,-,b7⟩:=Am g9.out a3 a3;have b8:s.getD k 0=s[k]:=zgd a3
     have a6:=step_last a4.out;have c7:((-1:Int) :: s).getD (k+1) 0=s.getD k 0:=List.getD_cons_succ ..;obtain ⟨x,f3⟩:=DX (s[k]);rw [<-f3] at b7 b8;rw [b8] at a6 c7;obtain ⟨y,f4⟩:=DX (((-1:Int) :: s).getD k 0);rw [<-f4] at a6⊢;have g7:=zh c7;have rx:=za.rule (O.out.cell b7)
     obtain ⟨ob,c8⟩:∃ob:Bool,ob=true↔Cg m.n tg s k:=by
      by_cases h:Cg m.n tg s k
      ·exact ⟨true,by simp [h]⟩
      ·exact ⟨false,by simp [h]⟩
     have b4:Hid (ob=true↔y<x/\x<m.n/\x∉tg):=c8.trans a6;have a7:=zh c8;clear b7 b8 f3 c8 a6 c7 f4;go_upto_region 7 with fail;go_cut [78] (fun v wx=>v=.bool (!ob)/\w1=wx)
     case first=>
      by_cases h1:x<=y
      ·have E:Hid (ob=false):=by (show _=_);rw [<-Bool.not_eq_true,b4.out];omega
       go_wp2_with fail
       go_meet;exact ⟨by rw [E.out];rfl,rfl⟩
      ·by_cases h2:m.w*m.h*m.l<=x
       ·have E:Hid (ob=false):=by (show _=_);rw [<-Bool.not_eq_true,b4.out];unfold MZ.n;omega
        go_wp2_with fail
        go_meet;exact ⟨by rw [E.out];rfl,rfl⟩
       ·have E:Hid (ob=!decide (x∈tg)):=by
         (show _=_)
         rw [Bool.eq_iff_iff,b4.out,Bool.not_eq_true',Dw];exact ⟨fun h=>h.2.2,fun h=>⟨by omega,by unfold MZ.n;omega,h⟩⟩
        go_wp2_with fail
        refine (zS x w1 h5.out (by omega)).mono ?_;rintro e w9 ⟨rfl,rfl⟩
        go_wp2_with fail
        go_meet;exact ⟨by rw [E.out];simp,rfl⟩
     case rest=>
      obtain ⟨rfl,rfl⟩:=hcut
      cases ob with
      | false=>
       have Q:Hid (R=false):=by
        (show _=_)
        have h:¬ ∀i,i<s.length->Cg m.n tg s i:=fun h=>absurd (a7.out.2 (h k a3)) (by simp)
        rw [HF.out,<-Bool.and_assoc,Bool.eq_false_iff.2 (fun h2=>h (a1.out.1 h2)),Bool.false_and]
       go_wp2_with fail
       go_ret;exact ⟨zi Q.out.symm,O.out⟩
      | true=>
       have e7:Hid (∀j,j<k+1->Cg m.n tg s j):=fun j hj=>by
        rcases Dv j k with h | h
        ·exact a4.out j h
        ·obtain rfl:j=k:=by omega
         exact a7.out.1 rfl
       go_wp2_with fail
       go_roundw
       case rel=>exact ⟨k+1,by omega,by go_num,by rw [g7.out],e7,trivial⟩
       case measure=>simp [intOf];omega
    ·obtain rfl:k=s.length:=by omega
     have V:Hid (R=((AC m ch t).all (fun n=>decide (n∈s)) && wallB m ch t s)):=by
      (show _=_)
      rw [HF.out,<-Bool.and_assoc,a1.out.2 a4.out,Bool.true_and]
     clear a4 HF a1;have g5:=zh (headP_le HL.out (ch:=ch) D.out);generalize ((-1:Int) :: s).getD s.length 0=lst;go_upto_region 12 with fail;have a2:=ze.new w1 #[.func (.func 109) #[] #[.pointer (some ⟨gm+1,0,none⟩)]] 59 (g:=w1.heap.size) rfl;have o:za w1 (w1.alloc (.cells #[.func (.func 109) #[] #[.pointer (some ⟨gm+1,0,none⟩)]] 59)):=(za.refl w1).alloc _;generalize w1.alloc _=w5 at a2 o⊢;obtain ⟨go,e4⟩:∃g,g=w1.heap.size:=⟨_,rfl⟩;rw [<-e4] at a2⊢;clear e4;have g0:=za.rule (a2.cell (k:=0) rfl);have I:Hid (za w w5):=O.out.trans o;have r0:=fun W h=>r0 W (o.trans h)
     have r1:=fun W h=>r1 W (o.trans h)
     have r2:=fun W h=>r2 W (o.trans h)
     have r3:=fun W h=>r3 W (o.trans h)
     have r4:=fun W h=>r4 W (o.trans h)
     have r5:=fun W h=>r5 W (o.trans h)
     have r6:=fun W h=>r6 W (o.trans h)
     have r7:=fun W h=>r7 W (o.trans h)
     have r8:=fun W h=>r8 W (o.trans h)
     have p0:=fun W h=>p0 W (o.trans h)
     have p1:=fun W h=>p1 W (o.trans h)
     have r:za w5 w5:=za.refl w5;have e9:t<m.free.length:=by rw [G.out.fl];exact D.out
     have g3:Hid (CutV w5 ok okp gm (gm+1) go m _ _ _ _ _ ch (c:Int) t _ s):=⟨H.out.more I.out,r0 _ r,r1 _ r,r2 _ r,r3 _ r,r4 _ r,r5 _ r,r6 _ r,r7 _ r,r8 _ r,p0 _ r,p1 _ r,U.out.below I.out,g0 _ r⟩;have g8:=zh p1
     have g4:Hid (∀W,za w5 W->Calls Tryz.prog 88 #[.agg #[.int .i64 m.w,.int .i64 m.h,.int .i64 m.l,.slice Af m.free.length cf,.slice Au m.up.length cu,.slice (some ⟨bt,offt,none⟩) m.tasks.length ct,.slice Ac ch.length cc,.slice Ap PL cp,.int .i64 (c:Nat)],.int .i64 (t:Nat)] W fun e w'=>∃A c',e=.returned (.slice A (AC m ch t).length c')/\za W w'/\zk w' (fun _=>True) (.slice A (AC m ch t).length c') (AC m ch t)):=fun W hW=>by
      refine (phead_calls (c:Int) t W (H.out.more (I.out.trans hW)) HL.out HC.out HI.out D.out).mono ?_;rintro e w' ⟨v',rfl,i0,hv⟩;obtain ⟨A,c',rfl,-,-⟩:=id hv;exact ⟨A,c',rfl,i0,hv⟩
     obtain ⟨b1,J⟩:=DX ((AC m ch t).all fun n=>decide (n∈s))
     have g1:Hid (∀(W:World) (v9:Value),za w5 W->zk W (fun _=>True) v9 (AC m ch t)->Calls Tryz.prog 73 #[v9,.func (.func 109) #[] #[.pointer (some ⟨gm+1,0,none⟩)]] W fun e w'=>e=.returned (.bool (!b1))/\za W w'):=fun W v9 hW hv=>by
      have h:=AS 109 #[.pointer (some ⟨gm+1,0,none⟩)] (fun x=>!decide (x∈s)) W hv g5.out (Ae Tryz.func109 rfl rfl) (fun x _ w9 h9=>by
       refine (cut1_calls x w9 (g8.out w9 (hW.trans h9)) (U.out.below (I.out.trans (hW.trans h9))) a5).mono ?_;rintro e w' ⟨rfl,rfl⟩;exact ⟨rfl,za.refl _⟩)
      rw [<-List.not_all_eq_any_not,<-J] at h;exact h
     have d6:Hid (∀W,za w5 W->Calls Tryz.prog 73 #[.slice As s.length cs,.func (.func 110) #[] #[.pointer (some ⟨gm,0,none⟩),.pointer (some ⟨gm+1,0,none⟩),.pointer (some ⟨go,0,none⟩)]] W fun e w'=>e=.returned (.bool (!wallB m ch t s))/\za W w'):=fun W hW=>by
      have h:=AS 110 #[.pointer (some ⟨gm,0,none⟩),.pointer (some ⟨gm+1,0,none⟩),.pointer (some ⟨go,0,none⟩)] (fun n=>(Bz m n).any fun k=>(zg m t k && !decide (k∈ch)) && !decide (k∈s)) W (U.out.below (I.out.trans hW)) a5 (Ae Tryz.func110 rfl rfl) (fun x _ w9 h9=>cut2_calls x w9 (g3.out.more (hW.trans h9)) G.out HL.out (by omega) e9 a5);rw [wall_any,Bool.not_not];exact h
     rw [<-J] at V;obtain ⟨b2,L⟩:=DX (wallB m ch t s);rw [<-L] at d6 V;clear J L o a2;have j7:∀(fn:Fn) (first cap:Array Value) (w:World),(Instr.makeFunc fn first cap).run Tryz.prog w=.ok (.func fn first cap) w:=fun _ _ _ _=>rfl
     refine Dp (S:=(fun W=>za w5 W)) An (r.drew) fun zH=>?_;have i4:za w5 w5.drew:=zH;clear i4;generalize w5.drew=wd at zH⊢;refine zj 0 zH ?_;refine zj 1 zH ?_;simp only [zc,CV];refine zj 2 zH ?_;refine zj 4 zH ?_;simp only [zc,CV];refine Aa 3 fun K hK=>?_;go_simp;go_at_call 88;refine (g4.out _ zH).mono ?_;rintro e w6 ⟨A6,c6,rfl,i1,e5⟩;have g6:=zh e5;clear e5;go_simp;refine DY hK (zH.trans i1) fun zH=>?_;clear hK K;try simp only [zc,CV]
     refine Aa 5 fun K hK=>?_;go_simp;go_at_call 73;refine (g1.out _ _ zH g6.out).mono ?_;rintro e w7 ⟨rfl,i2⟩;go_simp;refine DY hK (zH.trans i2) fun zH=>?_;clear hK K;try simp only [zc,CV]
     refine DB (by kernel_rfl) ?_ _
     cases b1 with
     | false=>
      have Q:Hid (R=false):=by (show _=_);rw [V.out];rfl
      go_wp2_with fail
      go_ret;exact ⟨zi Q.out.symm,I.out.trans zH⟩
     | true=>
      have Q:Hid (R=b2):=by (show _=_);rw [V.out];rfl
      have f2:za w5 w7:=zH
      go_wp2_with fail
      refine (d6.out _ f2).mono ?_;rintro e w8 ⟨rfl,i3⟩
      go_wp2_with fail
      go_ret;exact ⟨zi Q.out.symm,(I.out.trans f2).trans i3⟩
theorem pholds_calls {m:MZ} (hl:Lens m) (hc:Cc m=0):∀(N:Nat) (ok okp:Nat->Prop) (f u ts vc vp vpr:Value) (ch:List Int) (p:PT) (w:World),PSt w ok m f u ts vc vp ch->zG m ch->zV w okp vpr p->p.size<=N->p.Lens->
  Calls Tryz.prog 33 #[CT m f u ts vc vp (zD m ch),vpr] w fun e w'=>e=.returned (.bool (AB m p ch))/\za w w'
 | 0,ok,okp,f,u,ts,vc,vp,vpr,ch,.node t s ks,w,_,_,_,hN,_=>by unfold PT.size at hN;omega
 | N+1,ok,okp,f,u,ts,vc,vp,vpr,ch,.node tk s ks,w,h,hi,hp,hN,f8=>by
  have IH:=zh (pholds_calls hl hc N);have H:=zh h;have HL:=zh hl;have HC:=zh hc;have HI:=zh hi;have HP:=zh hp;have j1:=zh (Ar hc hi);have J:Hid (∀W,za w W->Calls Tryz.prog 75 #[CT m f u ts vc vp (zD m ch)] W fun e w'=>e=.returned (.bool (decide ((m.tasks.length:Int)<=(zD m ch:Int))))/\za W w'):=fun W hW=>CD _ W (h.more hW)
  unfold PT.Lens at f8;obtain ⟨i2,j5,f7⟩:=f8;have M:Hid (∀W,za w W->Calls Tryz.prog 76 #[CT m f u ts vc vp (zD m ch),vpr] W fun e w'=>e=.returned (.bool (cutB m ch tk s ks.length))/\za W w'):=fun W hW=>pcut_calls W (h.more hW) hl hc hi (hp.ext hW) i2
  have a9:Hid (∀n,zG m (ch++[n])->∀W,za w W->Calls Tryz.prog 78 #[CT m f u ts vc vp (zD m ch),.int .i64 n] W fun e w'=>∃vc' vp',e=.returned (CT m f u ts vc' vp' (zD m (ch++[n])))/\za W w'/\PSt w' (fun b=>ok b\/W.heap.size<=b) m f u ts vc' vp' (ch++[n])):=fun n hn W hW=>CO _ n W (h.more hW) hl hc hn (Ar hc hi).2.2.1
  have e2:Hid (∀W,za w W->Calls Tryz.prog 77 #[.agg #[.int .i64 m.w,.int .i64 m.h,.int .i64 m.l,f,u,ts],vc] W fun e w'=>∃v',e=.returned v'/\Mk W w' v' (zP m ch)):=fun W hW=>Ce W ((h.more hW).maze) hl ((h.more hW).chs) (by have:=(Ar hc hi).2.2.1;omega)
  unfold CT at J M a9;obtain ⟨Af,cf,Au,cu,At,ct,Ac,cc,Ap,cp,rfl,rfl,rfl,rfl,rfl,-,-⟩:=h.parts;obtain ⟨R,hR⟩:=DX (AB m (.node tk s ks) ch);rw [<-hR];have c8:=zh hR;have g6:=zh (lensL_mem f7);have g9:Hid (∀k∈ks,k.size<=PT.sizeL ks):=size_mem;unfold PT.size at hN
  cases hp with
  | mk hs hk he=>
   rename_i vs vk cs
   obtain ⟨As,cs',rfl,-,-⟩:=hs;obtain ⟨Ak,ck,rfl,j3,f9⟩:=hk;have g7:=zh f9;have g4:=zh he;clear h hl hc hi hR f7 f9 he;obtain ⟨c,d5⟩:=DX (zD m ch);have b9:=zh d5;rw [<-d5] at J M a9⊢;obtain ⟨PL,b4⟩:=DX ((zl m ch).length);rw [<-b4] at J M a9⊢;clear d5 b4 H;unfold CT
   go_enter Tryz.func33,Tryz.ntmps33
   go_upto_region 1 with fail;obtain ⟨d4,r0,r1,r2,r3,r4,r5,r6,r7,r8⟩:=box9 w (.int .i64 m.w) (.int .i64 m.h) (.int .i64 m.l) (.slice Af m.free.length cf) (.slice Au m.up.length cu) (.slice At m.tasks.length ct) (.slice Ac ch.length cc) (.slice Ap PL cp) (.int .i64 c);have d8:(w.alloc (.cells #[.int .i64 m.w,.int .i64 m.h,.int .i64 m.l,.slice Af m.free.length cf,.slice Au m.up.length cu,.slice At m.tasks.length ct,.slice Ac ch.length cc,.slice Ap PL cp,.int .i64 c] 70)).heap.size=w.heap.size+1:=by simp
   generalize w.alloc _=w0 at d4 r0 r1 r2 r3 r4 r5 r6 r7 r8 d8⊢;obtain ⟨b1,p0,p1,p2⟩:=box3 w0 (.int .i64 tk) (.slice As s.length cs') (.slice Ak ks.length ck);generalize w0.alloc _=w1 at b1 p0 p1 p2⊢;rw [d8] at p0 p1 p2;obtain ⟨gm,f5⟩:=DX w.heap.size;rw [<-f5] at r0 r1 r2 r3 r4 r5 r6 r7 r8 p0 p1 p2⊢;have z:=zh b1;have o:=zh (d4.trans b1);have r0:=fun W h=>r0 W (z.out.trans h)
   have r1:=fun W h=>r1 W (z.out.trans h)
   have r2:=fun W h=>r2 W (z.out.trans h)
   have r3:=fun W h=>r3 W (z.out.trans h)
   have r4:=fun W h=>r4 W (z.out.trans h)
   have r5:=fun W h=>r5 W (z.out.trans h)
   have r6:=fun W h=>r6 W (z.out.trans h)
   have r7:=fun W h=>r7 W (z.out.trans h)
   have r8:=fun W h=>r8 W (z.out.trans h)
   clear f5 d4 b1 d8;have I:za w1 w1:=za.refl w1
   go_wp2_with fail
   refine (J.out w1 o.out).mono ?_;rintro e w2 ⟨rfl,f1⟩;clear I;have I:za w1 w2:=f1;clear f1 J;by_cases B:m.tasks.length<=c
   ·have hd:decide ((m.tasks.length:Int)<=(c:Int))=true:=Db (by omega);have HF:Hid (R=false):=by (show _=_);rw [c8.out];exact holdsT_done (by rw [<-b9.out];exact B)
    rw [hd];clear B hd
    go_wp2_with fail
    go_ret;exact ⟨zi HF.out.symm,o.out.trans I⟩
   ·have hd:decide ((m.tasks.length:Int)<=(c:Int))=false:=Dc (by omega)
    have E:Hid (R=if tk≠(c:Int)\/s≠[] then cutB m ch tk s ks.length else AA m ks ch (zP m ch)):=by
     (show _=_)
     rw [c8.out,holdsT_node (by rw [<-b9.out];exact B),b9.out]
    rw [hd];clear B hd c8;go_upto_region 3 with fail;obtain ⟨bq,f4⟩:∃bq:Bool,bq=decide (tk≠(c:Int)\/s≠[]):=⟨_,rfl⟩;have r:=zh f4;clear f4;go_cut [20] (fun v wx=>v=.bool bq/\w2=wx)
    case first=>
     by_cases G:tk=(c:Int)
     ·have hd:(tk != (c:Int))=false:=by rw [G];simp
      have b7:Hid (bq=decide (0<s.length)):=by
       (show _=_)
       rw [r.out,decide_eq_decide];constructor
       ·rintro (h | h)
        ·exact absurd G h
        ·exact List.length_pos_iff.2 h
       ·intro h;exact .inr (List.length_pos_iff.1 h)
      clear G
      go_wp2_with fail
      go_meet;refine ⟨?_,rfl⟩;rw [b7.out]
      all_goals (first | rfl | (congr 1;done) | (congr 1;rw [decide_eq_decide];omega))
     ·have hd:(tk != (c:Int))=true:=by rw [bne_iff_ne];exact G
      have b7:Hid (bq=true):=by (show _=_);rw [r.out];exact Db (.inl G)
      clear G
      go_wp2_with fail
      go_meet;exact ⟨by rw [b7.out],rfl⟩
    case rest=>
     obtain ⟨rfl,rfl⟩:=hcut
     cases bq with
     | true=>
      have HF:Hid (R=cutB m ch tk s ks.length):=by (show _=_);rw [E.out,if_pos (DU r.out.symm)]
      clear r E
      go_wp2_with fail
      refine (M.out w2 (o.out.trans I)).mono ?_;rintro e w4 ⟨rfl,h4⟩
      go_wp2_with fail
      go_ret;exact ⟨zi HF.out.symm,(o.out.trans I).trans h4⟩
     | false=>
      have HF:Hid (R=AA m ks ch (zP m ch)):=by (show _=_);rw [E.out,if_neg (of_decide_eq_false r.out.symm)]
      clear r E M
      go_wp2_with fail
      refine (e2.out w2 (o.out.trans I)).mono ?_;rintro e w4 ⟨vl,rfl,c9⟩;have e3:=zh c9.ints;have d9:za w1 w4:=I.trans c9.ext;have b8:Hid (zP m ch=cand m ch):=by (show _=_);unfold zP;rw [if_pos (okC_of HC.out HI.out)]
      have e4:Hid (∀n∈zP m ch,zG m (ch++[n])):=fun n hn=>by
       rw [b8.out] at hn;exact .snoc HI.out hn
      have h6:(zP m ch).length<=400000000000:=by rw [b8.out];exact cand_len HL.out ch
      obtain ⟨L,hL⟩:=DX (zP m ch);rw [<-hL] at e3 HF e4 h6;obtain ⟨AL,cL,rfl,-,g0⟩:=e3.out;have g8:=zh g0;have e8:=zh d9;clear c9 I hL g0 b8 e2;by_cases V:L.length=ks.length
      ·have hd:((L.length:Int) != (ks.length:Int))=false:=by rw [V];simp
       have e5:=zh V;clear V;have e9:=zh (za.refl w4)
       go_wp2_with fail
       clear d9;go_loopw [37] (fun i wr=>∃j:Nat,j<=L.length/\i=.int .i64 j/\Hid (R=AA m (ks.drop j) ch (L.drop j))/\Hid (za w4 wr)) (fun i _=>L.length - (intOf i).toNat)
       case atStart=>exact ⟨0,Do _,rfl,HF.out,e9.out⟩
       case round=>
        obtain ⟨j,hj,rfl,hr,hE⟩:=hrel;obtain ⟨wj,rfl⟩:∃wj:World,wj=wr:=⟨_,rfl⟩;have I:za w1 wj:=e8.out.trans hE.out;by_cases U:j<L.length
        ·have i8:(j:Int)<(L.length:Int):=by omega
         have kk0:(0:Int)<=(j:Int):=by omega
         have D:j<ks.length:=by rw [<-e5.out];exact U
         have i1:(j:Int)<(ks.length:Int):=by omega
         obtain ⟨bl,offl,rfl,-,b6⟩:=Am g8.out U U;have i0:wj.cell? ⟨bl,offl+j,none⟩=some (.int .i64 L[j]):=hE.out.cell b6;have c6:Hid (zG m (ch++[L[j]])):=e4.out _ (CZ U);have O:=zh (holdsL_drop (m:=m) (ch:=ch) D U);obtain ⟨b,off,rfl,h0,h1,h2⟩:=kidsAt g7.out D;have q0:=za.rule (o.out.cell h0);have q1:=za.rule (o.out.cell h1);have q2:=za.rule (o.out.cell h2);have e7:=zh (g4.out j D);have c7:Hid ((ks[j]).Lens/\(ks[j]).size<=N):=⟨g6.out _ (CZ D),by have:=g9.out _ (CZ D);omega⟩;obtain ⟨n,hn⟩:=DX (L[j]);obtain ⟨kd,f6⟩:=DX (ks[j]);rw [<-hn] at i0 c6 O;rw [<-f6] at O e7 c7;obtain ⟨hb,d6⟩:=DX (AB m kd (ch++[n]));rw [<-d6] at O
         have e6:Hid (∀W,za w1 W->Calls Tryz.prog 78 #[.agg #[.int .i64 m.w,.int .i64 m.h,.int .i64 m.l,.slice Af m.free.length cf,.slice Au m.up.length cu,.slice At m.tasks.length ct,.slice Ac ch.length cc,.slice Ap PL cp,.int .i64 c],.int .i64 n] W fun e w'=>∃a0 a1 a2 a3 a4 a5 a6 a7 a8,e=.returned (.agg #[a0,a1,a2,a3,a4,a5,a6,a7,a8])/\za W w'/\∀W',za w' W'->Calls Tryz.prog 33 #[.agg #[a0,a1,a2,a3,a4,a5,a6,a7,a8],.agg #[cs.getD (j*3) undef,cs.getD (j*3+1) undef,cs.getD (j*3+2) undef]] W' fun e w'=>e=.returned (.bool hb)/\za W' w'):=fun W hW=>by
          refine (a9.out n c6.out W (o.out.trans hW)).mono ?_;rintro e w' ⟨vc',vp',rfl,f0,hS⟩;refine ⟨_,_,_,_,_,_,_,_,_,rfl,f0,fun W' hW'=>?_⟩;rw [d6];exact IH.out _ _ _ _ _ _ _ _ _ _ W' (hS.more hW') c6.out (e7.out.ext (o.out.trans (hW.trans (f0.trans hW')))) c7.out.2 c7.out.1
         have g3:=zh hE.out;have i5:za w1 wj:=I;clear b6 h0 h1 h2 hn f6 d6 I;go_upto_region 11 with fail;go_cut [51] (fun v wx=>v=.bool (!hb)/\za wj wx)
         case first=>
          refine Dp (S:=(fun W=>za w1 W)) An (i5.drew) fun zH=>?_;have h5:za w1 wj.drew:=zH;have f2:za wj wj.drew:=(za.refl wj).drew;generalize wj.drew=wd at zH h5 f2⊢;refine zj 0 zH ?_;refine zj 1 zH ?_;simp only [zc,CV];refine zj 3 zH ?_;refine zj 4 zH ?_;simp only [zc,CV];refine zj 5 zH ?_;refine zj 6 zH ?_;simp only [zc,CV];refine zj 7 zH ?_;simp only [zc,CV];refine Aa 2 fun K hK=>?_;go_simp;go_at_call 78;refine (e6.out _ zH).mono ?_;rintro e w9 ⟨a0,a1,a2,a3,a4,a5,a6,a7,a8,rfl,b0,HK⟩;have g5:=zh HK;clear HK;go_simp;refine DY hK (zH.trans b0) fun zH=>?_;clear hK K;try simp only [zc,CV]
          refine Aa 8 fun K hK=>?_;go_simp;go_at_call 33;refine (g5.out _ (za.refl _)).mono ?_;rintro e w10 ⟨rfl,b3⟩;go_simp;refine DY hK (zH.trans b3) fun zH=>?_;clear hK K;try simp only [zc,CV]
          refine zj 9 zH ?_;simp only [zc,CV];refine DB (by kernel_rfl) ?_ _;go_wp2;go_meet;exact ⟨by first | rfl | simp,(f2.trans b0).trans b3⟩
         case rest=>
          obtain ⟨rfl,b0⟩:=hcut;have g1:za w4 wc:=g3.out.trans b0
          cases hb with
          | false=>
           have Q:Hid (R=false):=by (show _=_);rw [hr.out,O.out,Bool.false_and]
           go_wp2_with fail
           go_ret;exact ⟨zi Q.out.symm,o.out.trans (e8.out.trans g1)⟩
          | true=>
           have i4:Hid (R=AA m (ks.drop (j+1)) ch (L.drop (j+1))):=by (show _=_);rw [hr.out,O.out,Bool.true_and]
           go_wp2_with fail
           go_roundw
           case rel=>exact ⟨j+1,by omega,by go_num,i4,g1⟩
           case measure=>simp [intOf];omega
        ·obtain rfl:j=L.length:=by omega
         have Q:Hid (R=true):=by
          (show _=_)
          rw [hr.out,List.drop_length,e5.out,List.drop_length];unfold AA;rfl
         go_wp2_with fail
         go_ret;exact ⟨zi Q.out.symm,o.out.trans I⟩
      ·have hd:((L.length:Int) != (ks.length:Int))=true:=by rw [bne_iff_ne];omega
       have Q:Hid (R=false):=by (show _=_);rw [HF.out];exact holdsL_len (fun h=>V h.symm)
       clear V
       go_wp2_with fail
       go_ret;exact ⟨zi Q.out.symm,o.out.trans d9⟩
end
end Go.Proofs.YtcnaogdgjkpkmaaGreatDoor
