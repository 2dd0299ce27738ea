import Derived.Test.YtnmkmhpgnpojbaaGreatDoorWXv
import Derived.Recover
set_option linter.unusedVariables false
set_option linter.unusedSimpArgs false
set_option maxRecDepth 100000
set_option maxHeartbeats 16000000
namespace Go.Proofs.YtnmkmhpgnpojbaaGreatDoor
variable {m:MZ} {g7 n:Nat} {ok:Nat->Prop} {d v:Value} {W:World}
section
open Go.RowKit
attribute [local go_sem ↓] Go.wp_at_zero Go.wp_at_succ
theorem make1_panics (gp ge:Nat) (x:Int) (older:List PanicEntry) (w:World) {a b c:Value} (hp:ze w gp 41 #[a,b,c]) (he:ze w ge 42 #[d]) (z:gp≠ge):
  CallsD Tryz.prog 90 #[.pointer (some ⟨gp,0,none⟩),.pointer (some ⟨ge,0,none⟩)] (.panicking ({ v:=.iface 42 (.int .i64 x),recovered:=false } :: older)) w fun e u' w'=>
   e=.returned (.tuple #[])/\u'=.panicking ({ v:=.iface 42 (.int .i64 x),recovered:=true } :: older)/\w'=(((w.setCell ⟨gp,0,none⟩ (.int .i64 0)).setCell ⟨gp,1,none⟩ (.slice none 0 0)).setCell ⟨gp,2,none⟩ (.slice none 0 0)).setCell ⟨ge,0,none⟩ (.int .i64 x):=by
 have c0:=hp.cell (k:=0) rfl;have c1:=hp.cell (k:=1) rfl;have c2:=hp.cell (k:=2) rfl;have ce:=he.cell (k:=0) rfl;have f0:=fun j=>hp.frozen j
 have fe:=he.frozen 0;refine callsD_of_wpS Tryz.func90 rfl fun c₀ cs E=>?_
 apply wpS_seq;apply wpS_region;simp [wpOpsS,go_sem,recoverD,E,Tryz.ntmps90,Exit.thenS];refine wpS_of_wp ?_;have D:∀W,(Instr.typeAssert (.iface 42 (.int .i64 x)) 20 42 true).run Tryz.prog W=.ok (.tuple #[.int .i64 x,.bool true]) W:=fun W=>by kernel_rfl
 go_wp2;cases c₀
 simp_all [bodyPostS,results,Tryz.results90]
theorem proveP_zero:∀(f:Nat) (ch:List Int) (k:Nat),(zm m f ch k).1≠0->(zm m f ch k).2.1=PT.zero
 | 0,ch,k,h=>by unfold zm;rfl
 | f+1,ch,k,h=>by
  by_cases z:m.tasks.length<=zO m ch
  ·rw [proveP_end z]
  ·by_cases D:3000<k+1
   ·rw [proveP_many z D]
   ·cases E:cutT m ch with
    | some t=>rw [proveP_cut z D E] at h;exact absurd rfl h
    | none=>
     rw [proveP_kids z D E] at h⊢
     split
     ·next G=>rw [if_pos G] at h;exact absurd rfl h
     ·rfl
theorem case_fin4 {P:World->Prop} {gp ge:Nat} {a0 a1 a2 z0 z1 z2 e:Value} (h:∀WZ,ze WZ gp 41 #[a0,a1,a2]->ze WZ ge 42 #[d]->zi (fun b=>b=gp\/b=ge) W WZ->P WZ) (D:ze W gp 41 #[z0,z1,z2]) (he:ze W ge 42 #[e]):
  P ((((W.setCell ⟨gp,0,none⟩ a0).setCell ⟨gp,1,none⟩ a1).setCell ⟨gp,2,none⟩ a2).setCell ⟨ge,0,none⟩ d):=by
 have z:gp≠ge:=D.ne_ he (by decide);have G:ze (setL gp 0 [a0,a1,a2] W) gp 41 #[a0,a1,a2]:=setL_blk [a0,a1,a2] [z0,z1,z2] [] W rfl D;have I:ze (setL gp 0 [a0,a1,a2] W) ge 42 #[e]:=(Cl gp ge (Ne.symm z) _ 0 W).trans he;refine h _ (G.setOther (a:=⟨ge,0,none⟩) z d) (I.set (k:=0) d) ⟨rfl,rfl,rfl,?_,fun b D E=>?_⟩
 ·simp
 ·refine (DA _ ⟨ge,0,none⟩ _ b (fun e=>E (.inr e))).trans (Cl gp b (fun e=>E (.inl e)) [a0,a1,a2] 0 W)
theorem make1_idle (gp ge:Nat) (w:World):
  CallsD Tryz.prog 90 #[.pointer (some ⟨gp,0,none⟩),.pointer (some ⟨ge,0,none⟩)] .returning w fun e u' w'=>e=.returned (.tuple #[])/\u'=.returning/\w'=w:=by
 refine callsD_of_wpS Tryz.func90 rfl fun c₀ cs z=>?_
 apply wpS_seq;apply wpS_region;simp [wpOpsS,go_sem,recoverD,z,Tryz.ntmps90,Exit.thenS];refine wpS_of_wp ?_;go_wp2;cases c₀
 simp_all [bodyPostS,results,Tryz.results90]
theorem Cp (w:World) (hm:zF w ok v m) (hl:Lens m):
  Calls Tryz.prog 34 #[v] w fun e w'=>∃v',e=.returned (.tuple #[v',.int .i64 (zJ m).1])/\zb w w'/\Bn w' (fun b=>w.heap.size<=b) v' (zJ m).2:=by
 have HM:=zh hm;have HL:=zh hl;obtain ⟨Af,cf,Au,cu,At,ct,rfl,-,-,-⟩:=hm.parts;clear hm hl;have f9:∀(fn:Fn) (first cap:Array Value) (w:World),(Instr.makeFunc fn first cap).run Tryz.prog w=.ok (.func fn first cap) w:=fun _ _ _ _=>rfl
 go_enter_defers Tryz.func34,Tryz.ntmps34
 go_upto_region 1 with fail;obtain ⟨b5,r0,r1,r2,r3,r4,r5⟩:=box6 w (.int .i64 m.w) (.int .i64 m.h) (.int .i64 m.l) (.slice Af m.free.length cf) (.slice Au m.up.length cu) (.slice At m.tasks.length ct);have a8:(w.alloc (.cells #[.int .i64 m.w,.int .i64 m.h,.int .i64 m.l,.slice Af m.free.length cf,.slice Au m.up.length cu,.slice At m.tasks.length ct] 32)).heap.size=w.heap.size+1:=by simp
 generalize w.alloc _=w0 at b5 r0 r1 r2 r3 r4 r5 a8⊢;have U:=ze.new w0 #[.int .i64 0,.slice none 0 0,.slice none 0 0] 41 (g:=w0.heap.size) rfl;have a7:zb w0 (w0.alloc (.cells #[.int .i64 0,.slice none 0 0,.slice none 0 0] 41)):=(zb.refl w0).alloc _;have b9:(w0.alloc (.cells #[.int .i64 0,.slice none 0 0,.slice none 0 0] 41)).heap.size=w0.heap.size+1:=by simp
 generalize w0.alloc _=w1 at U a7 b9⊢;have Q:=ze.new w1 #[.int .i64 0] 42 (g:=w1.heap.size) rfl;have a1:zb w1 (w1.alloc (.cells #[.int .i64 0] 42)):=(zb.refl w1).alloc _;generalize w1.alloc _=w2 at Q a1⊢;rw [b9,a8] at Q;rw [a8] at U;obtain ⟨gm,b7⟩:=Ez w.heap.size;rw [<-b7] at r0 r1 r2 r3 r4 r5 U Q⊢;have O:Hid (gm=w.heap.size):=b7;have I:=zh (a7.trans a1);have r0:=fun W h=>r0 W (I.out.trans h)
 have r1:=fun W h=>r1 W (I.out.trans h)
 have r2:=fun W h=>r2 W (I.out.trans h)
 have r3:=fun W h=>r3 W (I.out.trans h)
 have r4:=fun W h=>r4 W (I.out.trans h)
 have r5:=fun W h=>r5 W (I.out.trans h)
 have HP:=zh (U.ext a1);have HE:=zh Q;have b1:=zh (b5.trans (a7.trans a1));clear b7 b5 a8 a7 b9 a1 U Q;have hx:zb w2 w2:=zb.refl w2
 go_wp2_with fail
 refine (Bv w2 (HM.out.below b1.out) HL.out).mono ?_;rintro e w3 ⟨rfl,a5⟩;have c6:zb w2 w3:=a5;have K:=zh (HP.out.ext a5);have M:=zh (HE.out.ext a5);obtain ⟨ck,b6⟩:=Ez (AS m);have a3:=zh b6;rw [<-b6];clear hx a5 b6;by_cases h0:ck=0
 ·subst h0;have HC:Hid (AS m=0):=a3.out.symm;clear a3;have e8:=Cf w2
  go_wp2_with fail
  have a6:=ze.new w3 #[.int .i64 0] 140 (g:=w3.heap.size) rfl;have V:zb w3 (w3.alloc (.cells #[.int .i64 0] 140)):=(zb.refl w3).alloc _;have a9:(w3.alloc (.cells #[.int .i64 0] 140)).heap.size=w3.heap.size+1:=by simp
  generalize w3.alloc _=w4 at a6 V a9⊢;obtain ⟨gx,b8⟩:=Ez w3.heap.size;rw [<-b8] at a6 a9⊢;have D:Hid (gm+2<gx/\w4.heap.size=gx+1):=⟨by rw [b8];have:=za M.out;omega,a9⟩;have e5:=zh a6;have d7:Hid (zb w w4):=b1.out.trans (c6.trans V);have e3:=zh (K.out.ext V);have e1:=zh (M.out.ext V);clear a6 a9 b8 c6 V e8 r0 r1 r2 r3 r4 r5;refine (of_calls (ok:=fun b=>ok b/\b<w.heap.size) w4 (HM.out.bound.below d7.out) HL.out HC.out (zk.nil _ _) zr.nil).mono ?_;rintro e w5 ⟨vp,rfl,a0,d9⟩;have b2:=zh (e5.out.ext a0);have d8:=zh (d7.out.trans a0);have d4:=zh (e3.out.ext a0);have c9:=zh (e1.out.ext a0);have e4:=zh d9;clear a0 d9
  have d6:Hid (∀r,r=zm m (m.n.toNat+2) [] 0->Calls Tryz.prog 91 #[.pointer (some ⟨gx,0,none⟩),Di m (.slice Af m.free.length cf) (.slice Au m.up.length cu) (.slice At m.tasks.length ct) (.slice none 0 0) vp (zO m [])] w5 (Cx w5 gx r)):=fun r hr=>by
   rw [hr];exact prove_calls HL.out HC.out (m.n.toNat+2) [] 0 gx _ _ _ w5 e4.out zr.nil (by simp) (by omega) b2.out (fun b hb=>by have h1:=D.out;have h2:=O.out;rcases hb with hb | hb <;> omega)
  obtain ⟨r,hr⟩:=Ez (zm m (m.n.toNat+2) [] 0);have a4:Hid (zJ m=(r.1,r.2.1)):=by (show _=_);unfold zJ;rw [if_pos HC.out,hr]
  have d5:=zh (d6.out r hr);have b3:Hid (r.1≠0->r.2.1=PT.zero):=fun h=>by rw [hr] at h⊢;exact proveP_zero _ _ _ h
  clear d6 hr;unfold Di at d5⊢
  go_wp2_with fail
  refine d5.out.mono ?_;rintro e w6 ⟨G,(⟨h0,v6,rfl,b4,e6⟩ | ⟨h0,rfl⟩)⟩
  ·have E:=zh (G.blk d4.out (by have:=D.out;omega));have J:=zh (G.blk c9.out (by have:=D.out;omega));have b0:=zh G;have HR:=zh b4;have HZ:=zh h0;obtain ⟨As,cs,Ak,ck,rfl,-⟩:=b4.form;have c0:=E.out.cell (k:=0) rfl;have c1:=E.out.cell (k:=1) rfl;have c2:=E.out.cell (k:=2) rfl;have ce:=J.out.cell (k:=0) rfl;have f0:=fun j=>E.out.frozen j
   have fe:=J.out.frozen 0;clear G h0 b4 e6
   go_wp2_with fail
   refine case_fin4 (P:=fun W=>bodyPostD Tryz.prog Tryz.f34 _ Exit.ret _ W) (gp:=gm+1) (ge:=gm+1+1) ?_ E.out J.out;intro WZ z a2 hC;have y0:=z.cell (k:=0) rfl;have y1:=z.cell (k:=1) rfl;have y2:=z.cell (k:=2) rfl;have y3:=a2.cell (k:=0) rfl;refine leaves_cons (f:=90) (args:=#[.pointer (some ⟨gm+1,0,none⟩),.pointer (some ⟨gm+1+1,0,none⟩)]) (by simp) (by simp [go_sem]) ?_;refine (make1_idle _ _ _).mono ?_;rintro e u' w'' ⟨rfl,rfl,rfl⟩;refine ⟨.tuple #[.agg #[.int .i64 r.2.1.task,.slice As r.2.1.side.length cs,.slice Ak r.2.1.kids.length ck],.int .i64 0],by simp [results,Tryz.results34,go_sem,y0,y1,y2,y3],.agg #[.int .i64 r.2.1.task,.slice As r.2.1.side.length cs,.slice Ak r.2.1.kids.length ck],?_,?_,?_⟩
   ·rw [a4.out,HZ.out]
   ·exact (((zi.of_ext (X:=fun b=>gm<=b) d8.out).trans b0.out (fun k _ h=>by have:=D.out;omega)).trans hC (fun k _ h=>by omega)).below (Dq _) (fun b hb=>by rw [O.out] at hb;exact hb)
   ·rw [a4.out];exact HR.out.keepW (fun b hb e7=>hC.block b e7 (by have h1:=D.out;have h2:=za b2.out;omega)) (fun b hb=>by have h1:=D.out;have h2:=za b2.out;have h3:=O.out;omega)
  ·have E:=zh (G.blk d4.out (by have:=D.out;omega));have J:=zh (G.blk c9.out (by have:=D.out;omega));have b0:=zh G;clear G
   go_wp2_with fail
   refine leaves_cons (f:=90) (args:=#[.pointer (some ⟨gm+1,0,none⟩),.pointer (some ⟨gm+1+1,0,none⟩)]) (by simp) (by simp [go_sem]) ?_;refine (make1_panics _ _ _ _ _ E.out J.out (by omega)).mono ?_;rintro e u' w'' ⟨rfl,rfl,rfl⟩;refine case_fin4 (P:=fun W=>Leaves Tryz.prog Tryz.f34 _ _ _ _ W) (gp:=gm+1) (ge:=gm+1+1) ?_ E.out J.out;intro WZ z a2 hC;have y0:=z.cell (k:=0) rfl;have y1:=z.cell (k:=1) rfl;have y2:=z.cell (k:=2) rfl;have y3:=a2.cell (k:=0) rfl;refine ⟨.tuple #[.agg #[.int .i64 0,.slice none 0 0,.slice none 0 0],.int .i64 r.1],by simp [results,Tryz.results34,go_sem,y0,y1,y2,y3],.agg #[.int .i64 0,.slice none 0 0,.slice none 0 0],?_,?_,?_⟩
   ·rw [a4.out]
   ·exact (((zi.of_ext (X:=fun b=>gm<=b) d8.out).trans b0.out (fun k _ h=>by have:=D.out;omega)).trans hC (fun k _ h=>by omega)).below (Dq _) (fun b hb=>by rw [O.out] at hb;exact hb)
   ·rw [a4.out];have:r.2.1=PT.zero:=b3.out h0;rw [this];exact Bn.zero _ _
 ·have g0:(ck==0)=false:=by rw [DE];exact h0
  have g1:(ck != 0)=true:=by rw [bne_iff_ne];exact h0
  have c0:=K.out.cell (k:=0) rfl;have c1:=K.out.cell (k:=1) rfl;have c2:=K.out.cell (k:=2) rfl;have ce:=M.out.cell (k:=0) rfl;have f0:=fun j=>K.out.frozen j
  have fe:=M.out.frozen 0;have HN:Hid (zJ m=(ck,.zero)):=by (show _=_);unfold zJ;rw [if_neg (by rw [<-a3.out];exact h0),a3.out]
  clear h0
  go_wp2_with fail
  refine case_fin4 (P:=fun W=>bodyPostD Tryz.prog Tryz.f34 _ Exit.ret _ W) (gp:=gm+1) (ge:=gm+1+1) ?_ K.out M.out;intro WZ z a2 hC;have y0:=z.cell (k:=0) rfl;have y1:=z.cell (k:=1) rfl;have y2:=z.cell (k:=2) rfl;have y3:=a2.cell (k:=0) rfl;refine ⟨.tuple #[.agg #[.int .i64 0,.slice none 0 0,.slice none 0 0],.int .i64 ck],by simp [results,Tryz.results34,go_sem,y0,y1,y2,y3],.agg #[.int .i64 0,.slice none 0 0,.slice none 0 0],?_,?_,?_⟩
  ·rw [HN.out]
  ·exact ((zi.of_ext (X:=fun b=>gm<=b) (b1.out.trans c6)).trans hC (fun k _ h=>by omega)).below (Dq _) (fun b hb=>by rw [O.out] at hb;exact hb)
  ·rw [HN.out];exact Bn.zero _ _
def V8 (B g7 g9:Nat) (vT u1 u2:Value) (s:ByteArray) (l1 l2:List Int) (j:Nat) (x:Value) (W:World):Prop:=match j with
 | 0=>x=.pointer (some ⟨g7,5,none⟩) | 1=>x=vT | 2=>x=.pointer (some ⟨g9,0,none⟩) | 3=>x=.string s | 4=>x=.pointer (some ⟨g9,1,none⟩) | 5=>x=u1
 | 6=>zt W B x l1 | 7=>x=.pointer (some ⟨g9,2,none⟩) | 8=>x=u2 | 9=>zt W B x l2
 | 10=>∃y1 y2,x=.agg #[.string s,y1,y2]/\zt W B y1 l1/\zt W B y2 l2
 | 11=>∃g y1 y2,x=.slice (some ⟨g,0,none⟩) 1 1/\ze W g 113 #[.string s,y1,y2]/\zt W B y1 l1/\zt W B y2 l2
 | _=>True
theorem Co {W':World} {B sz:Nat} {e:TypeId} {xs:List Value} (h:W.ownsRow B e sz v n xs) (z:zb W W'):W'.ownsRow B e sz v n xs:=Br h (grown_ext z) (fun b D=>by cases D)
theorem V8.st {B g9:Nat} {vT u1 u2:Value} {s:ByteArray} {l1 l2:List Int}:StV (V8 B g7 g9 vT u1 u2 s l1 l2):=fun j x W W' z h=>
 match j,h with
 | 0,h | 1,h | 2,h | 3,h | 4,h | 5,h | 7,h | 8,h=>h
 | 6,h | 9,h=>Co h z
 | 10,⟨y1,y2,e,D,E⟩=>⟨y1,y2,e,Co D z,Co E z⟩
 | 11,⟨g,y1,y2,e,G,D,E⟩=>⟨g,y1,y2,e,G.ext z,Co D z,Co E z⟩
 | _+12,_=>trivial
def V9 (B g7 gm:Nat) (vF fs:Value) (k:Nat) (af:Addr) (uf:Value) (l:List Bool) (j:Nat) (x:Value) (W:World):Prop:=match j with
 | 0=>x=.pointer (some ⟨g7,3,none⟩) | 1=>x=vF | 2=>x=.pointer (some ⟨gm,3,none⟩) | 3=>x=fs | 4=>x=.int .i64 k | 5=>x=.pointer (some af) | 6=>x=uf
 | 7=>OwnBs W B x l
 | 8=>∃g y,x=.slice (some ⟨g,0,none⟩) 1 1/\ze W g 29 #[y]/\OwnBs W B y l
 | _=>True
theorem V9.st {B gm:Nat} {vF fs:Value} {k:Nat} {af:Addr} {uf:Value} {l:List Bool}:StV (V9 B g7 gm vF fs k af uf l):=fun j x W W' z h=>
 match j,h with
 | 0,h | 1,h | 2,h | 3,h | 4,h | 5,h | 6,h=>h
 | 7,h=>Co h z
 | 8,⟨g,y,e,E,D⟩=>⟨g,y,e,E.ext z,Co D z⟩
 | _+9,_=>trivial
end
section
open Go.RowKit
attribute [local go_sem ↓] Go.wp_at_zero Go.wp_at_succ
attribute [local go_sem] Oper.semAt_some
theorem loadS_nil (m:MZ):loadS m [] 0=⟨[],zL m [],0⟩:=by
 unfold loadS;simp
structure CPB (w wr:World) (g B L:Nat) (ps:List (List Int)):Prop where
 ext:zb w wr
 lo:w.heap.size<=g
 row:∃vs:List Value,ze wr g 23 vs.toArray/\vs.length=ps.length/\∀(i:Nat) x,ps[i]?=some x->∃u,vs[i]?=some u/\zk wr (fun b=>b≠g/\b<B/\L<=b) u x
section
variable {w wr w':World} {g B L:Nat} {ps:List (List Int)}
theorem CPB.of (h:CP w wr g ps) (hL:L<=w.heap.size):CPB w wr g wr.heap.size L ps:=by
 obtain ⟨vs,z,E,he⟩:=h.row;exact ⟨h.ext,h.lo,vs,z,E,fun i x I=>by obtain ⟨u,G,D⟩:=he i x I;exact ⟨u,G,D.bound.weaken fun b z=>⟨z.1.1,z.2,Dt hL z.1.2⟩⟩⟩
theorem CPB.intss (h:CPB w wr g B L ps) (c:Nat) (E:ps.length<=c) (hL:L<=g):zU wr (fun b=>L<=b) (.slice (some ⟨g,0,none⟩) ps.length c) ps:=by
 obtain ⟨vs,D,J,he⟩:=h.row;refine ⟨vs,⟨_,c,rfl,E,by omega,fun _=>⟨g,0,rfl,hL,fun j u z=>?_⟩⟩,fun i x I=>by obtain ⟨u,z,G⟩:=he i x I;exact ⟨u,z,G.weaken fun _ h=>h.2.2⟩⟩;rw [Nat.zero_add];exact D.cell (by simpa using z)
theorem CPB.at_ (h:CPB w wr g B L ps) {k:Nat} (E:k<ps.length):∃u,wr.cell? ⟨g,k,none⟩=some u/\wr.frozen? ⟨g,k,none⟩=false/\zk wr (fun b=>b≠g/\b<B/\L<=b) u ps[k]:=by
 obtain ⟨vs,z,I,he⟩:=h.row;obtain ⟨u,G,D⟩:=he k _ (Do E);exact ⟨u,z.cell (by simpa using G),z.frozen k,D⟩
theorem CPB.keep (h:CPB w wr g B L ps) (G:zb w w') (E:∀b,b<B->b<wr.heap.size->w'.heap[b]?=wr.heap[b]?) (I:g<B):CPB w w' g B L ps:=by
 obtain ⟨vs,z,K,he⟩:=h.row;exact ⟨G,h.lo,vs,(E g I (za z)).trans z,K,fun i x O=>by obtain ⟨u,M,J⟩:=he i x O;exact ⟨u,M,J.keep fun b z D=>E b z.2.1 D⟩⟩
theorem CPB.set (h:CPB w wr g B L ps) (k:Nat) {u:Value} {x:List Int} (M:zk wr (fun b=>b≠g/\b<B/\L<=b) u x):CPB w (wr.setCell ⟨g,k,none⟩ u) g B L (ps.set k x):=by
 obtain ⟨vs,E,J,he⟩:=h.row;have I:∀{v:Value} {l:List Int},zk wr (fun b=>b≠g/\b<B/\L<=b) v l->zk (wr.setCell ⟨g,k,none⟩ u) (fun b=>b≠g/\b<B/\L<=b) v l:=fun D=>D.keep fun b E _=>DA wr ⟨g,k,none⟩ u b E.1
 refine ⟨h.ext.setCell (p:=⟨g,k,none⟩) h.lo _,h.lo,vs.set k u,?_,by simp [J],fun i y z=>?_⟩
 ·have:=E.set (k:=k) u
  rwa [List.setIfInBounds_toArray] at this
 ·rw [List.getElem?_set] at z⊢;by_cases D:k=i
  ·subst D;rw [if_pos rfl] at z⊢
   split at z
   ·rename_i K
    rw [if_pos (by omega)];injection z with z;subst z;exact ⟨u,rfl,I M⟩
   ·cases z
  ·rw [if_neg D] at z⊢;obtain ⟨v,O,G⟩:=he i y z;exact ⟨v,O,I G⟩
end
structure FillI (w6 wr:World) (L go B:Nat) (ps:List (List Int)) (t k:Nat) (fd o:List (List Int)) (mv:List Int) (fdv mvv:Value):Prop where
 cb:CPB w6 wr go B L o
 len:o.length=ps.length
 same:∀j,k<=j->o.getD j []=ps.getD j []
 fdl:fd.length=(((List.range ps.length).drop k).filter (AY ps t)).length
 fds:zU wr (fun b=>L<=b/\b<w6.heap.size) fdv fd
 fdx:∀x∈fd,x.length<=1000
 lo:go<B/\B<=wr.heap.size
 mo:zt wr B mvv mv
theorem range_drop {k:Nat} (z:k<n):(List.range n).drop k=k :: (List.range n).drop (k+1):=by
 rw [List.drop_eq_getElem_cons (by simpa using z)];simp
section
variable {w6 wr w':World} {L go B:Nat} {ps:List (List Int)} {t k:Nat} {fd o:List (List Int)} {mv:List Int} {fdv mvv:Value}
theorem FillI.app {r:Option Nat} {mv':List Int} {mvv':Value} (h:FillI w6 wr L go B ps t k fd o mv fdv mvv) (G:wr.grownBy w' r) (J:∀b,r=some b->B<=b) (K:zt w' B mvv' mv'):FillI w6 w' L go B ps t k fd o mv' fdv mvv':=by
 have I:∀b,b<B->b<wr.heap.size->w'.heap[b]?=wr.heap[b]?:=fun b E D=>G.block b D (fun e=>by have:=J b e.symm;omega)
 have M:=h.cb.lo;have z:=h.lo;refine ⟨h.cb.keep ?_ I z.1,h.len,h.same,h.fdl,h.fds.keep fun b E D=>I b (by omega) D,h.fdx,⟨z.1,Dt z.2 G.size⟩,K⟩;exact ((zi.of_ext (X:=fun b=>B<=b) h.cb.ext).grown G (fun b E _=>J b E)).below (Dq _) (fun b E=>by omega)
theorem FillI.more (h:FillI w6 wr L go B ps t k fd o mv fdv mvv) (z:zb wr w'):FillI w6 w' L go B ps t k fd o mv fdv mvv:=
 ⟨h.cb.keep (h.cb.ext.trans z) (fun b _ D=>z.block b D) h.lo.1,h.len,h.same,h.fdl,h.fds.below z,h.fdx,⟨h.lo.1,Dt h.lo.2 z.size⟩,Co h.mo z⟩
theorem FillI.skip (h:FillI w6 wr L go B ps t k fd o mv fdv mvv) (z:k<ps.length) (D:AY ps t k=false):FillI w6 wr L go B ps t (k+1) fd o mv fdv mvv:=
 ⟨h.cb,h.len,fun j E=>h.same j (by omega),by rw [h.fdl,range_drop z,DZ (by rw [D];simp)],h.fds,h.fdx,h.lo,h.mo⟩
theorem FillI.cons (h:FillI w6 wr L go B ps t k fd o mv fdv mvv) (D:k<ps.length) (E:AY ps t k=true):∃x fd',fd=x :: fd'/\fd'.length=(((List.range ps.length).drop (k+1)).filter (AY ps t)).length:=by
 have z:=h.fdl;rw [range_drop D,Ek E,Ex] at z
 match fd,z with
 | x :: fd',z=>exact ⟨x,fd',rfl,by simpa using z⟩
theorem FillI.put {x:List Int} {fd':List (List Int)} {u v':Value} (h:FillI w6 wr L go B ps t k (x :: fd') o mv fdv mvv) (M:k<ps.length) (E:fd'.length=(((List.range ps.length).drop (k+1)).filter (AY ps t)).length)
  (G:zk wr (fun b=>L<=b/\b<w6.heap.size) u x) (I:zU wr (fun b=>L<=b/\b<w6.heap.size) v' fd'):FillI w6 (wr.setCell ⟨go,k,none⟩ u) L go B ps t (k+1) fd' (o.set k x) mv v' mvv:=by
 have D:∀b,b<w6.heap.size->b≠go:=fun b z=>by have:=h.cb.lo;omega
 refine ⟨h.cb.set k (G.weaken fun b z=>⟨D b z.2,by have:=h.cb.lo;have:=h.lo;omega,z.1⟩),by rw [List.length_set];exact h.len,fun j K=>?_,E,?_,fun y J=>h.fdx y (DM _ J),⟨h.lo.1,by simpa using h.lo.2⟩,?_⟩
 ·rw [AT,if_neg (by omega)];exact h.same j (by omega)
 ·exact I.keep fun b z _=>DA wr ⟨go,k,none⟩ u b (D b z.2)
 ·exact ownsRow_setCell_below h.mo (by have:=h.lo.1;exact this) u
end
end
section
open Go.RowKit
attribute [local go_sem ↓] Go.wp_at_zero Go.wp_at_succ
theorem pref_intss {w:World} {A:Option Addr} {c N:Nat} {l:List (List Int)} (h:zU w ok (.slice A n c) l) (M:N<=n):zU w ok (.slice A N c) (l.take N):=by
 obtain ⟨vs,⟨A',c',e,O,J,K⟩,he⟩:=h;injection e with e1 e2 e3;subst e1 e2 e3;refine ⟨vs.take N,⟨A,c,by rw [Ej,Nat.min_eq_left (by omega)],by rw [Ej];omega,by simp [J],fun hp=>?_⟩,fun i x E=>?_⟩
 ·rw [Ej] at hp;obtain ⟨b,off,e,G,z⟩:=K (by omega);refine ⟨b,off,e,G,fun j u D=>z j u ?_⟩;rw [List.getElem?_take] at D
  split at D
  ·exact D
  ·cases D
 ·rw [List.getElem?_take] at E⊢
  split at E
  ·rename_i I
   rw [if_pos I];exact he i x E
  ·cases E
theorem ymade_calls {ls:List (List Int)} (w:World) (hm:zU w ok v ls) (b5:ls.length<=9223372036854775807) (U:∀x∈ls,x.length<=9223372036854775807):Calls Tryz.prog 25 #[v] w (An w):=by
 have HM:=zh hm;have M:=zh U;obtain ⟨_,⟨A,c,rfl,hc,-⟩,-⟩:=id hm;clear hm U;obtain ⟨N,hN⟩:=Ez (min ls.length 5);have HN:=zh hN;have a4:N<=ls.length:=by omega
 have b2:N<=5:=by omega
 have a9:min (ls.length:Int) 5=(N:Int):=by omega
 clear hN
 go_enter Tryz.func25,Tryz.ntmps25
 go_upto_region 1 with fail;generalize K:w.alloc (.cells #[.int .i64 0,.int .i64 0,.int .i64 0,.slice none 0 0,.slice none 0 0,.slice none 0 0] 32)=w1;have Q:zb w w1:=by rw [<-K];exact (zb.refl w).alloc _
 have G:Hid (ze w1 w.heap.size 32 #[.int .i64 0,.int .i64 0,.int .i64 0,.slice none 0 0,.slice none 0 0,.slice none 0 0]):=by rw [<-K];exact ze.new _ _ _ rfl
 clear K;have J:=zh Q;clear Q
 go_wp2_with fail
 refine (made_calls w1 (pref_intss (HM.out.below J.out) a4) (by rw [Ej];omega) (fun x hx=>M.out x (List.mem_of_mem_take hx))).mono ?_;rintro e w2 ⟨v',z,rfl,I,hz,V⟩;obtain ⟨Af,cf,Au,cu,At,ct,rfl,-,-,-⟩:=hz.parts;have HZ:=zh hz;have a2:=zh V;have a1:Hid (Below w.heap.size w w2/\w.heap.size<w2.heap.size):=⟨(J.out.trans I),DT (za G.out) I.size⟩;have D:=G.out.ext I;have O:Hid (w.heap.size<w1.heap.size):=za G.out;clear G J HM M HN I hz V;have z0:=D.cell (k:=0) rfl;have z1:=D.cell (k:=1) rfl;have z2:=D.cell (k:=2) rfl;have z3:=D.cell (k:=3) rfl;have z4:=D.cell (k:=4) rfl;have z5:=D.cell (k:=5) rfl;have fz:∀j,w2.frozen? ⟨w.heap.size,j,none⟩=false:=fun j=>D.frozen j
 have a0:=zh D;clear D;go_wp2;refine case_fin (P:=fun W=>bodyPost Tryz.prog Tryz.f25 _ Exit.ret _ W) (g2:=w.heap.size) ?_ a0.out;intro WZ E a3 hk;have y0:=E.cell (k:=0) rfl;have y1:=E.cell (k:=1) rfl;have y2:=E.cell (k:=2) rfl;have y3:=E.cell (k:=3) rfl;have y4:=E.cell (k:=4) rfl;have y5:=E.cell (k:=5) rfl;refine El (v:=.agg #[.int .i64 z.w,.int .i64 z.h,.int .i64 z.l,.slice Af z.free.length cf,.slice Au z.up.length cu,.slice At z.tasks.length ct]) (by simp [results,Tryz.results25,go_sem,y0,y1,y2,y3,y4,y5]) rfl ⟨_,z,rfl,a1.out.1.trans a3,?_,a2.out⟩;exact (HZ.out.keep (fun b hb a5=>hk b a5 (by have:=O.out;omega))).weaken fun b hb=>by have:=O.out;omega
noncomputable def endR (m:MZ):RS:=RS.run m 20000 ⟨[],zL m [],0⟩
theorem yfound_calls (w:World) (hm:zF w ok v m) (hl:Lens m) (hc:AS m=0):Calls Tryz.prog 35 #[v] w fun e w'=>e=.returned (.tuple #[.bool (zL m (endR m).ch),.bool (endR m).done])/\zb w w':=by
 have HM:=zh hm;obtain ⟨Af,cf,Au,cu,At,ct,rfl,-,-,-⟩:=hm.parts;clear hm;have HC:=zh hc;have HL:=zh hl;clear hc
 go_enter Tryz.func35,Tryz.ntmps35
 go_upto_region 1 with fail;obtain ⟨z,q0,q1,q2,q3,q4,q5⟩:=box6 w (.int .i64 m.w) (.int .i64 m.h) (.int .i64 m.l) (.slice Af m.free.length cf) (.slice Au m.up.length cu) (.slice At m.tasks.length ct);generalize w.alloc _=w1 at z q0 q1 q2 q3 q4 q5⊢;have K:=zh z;have M:=zh (HM.out.below z);have V:zb w1 w1:=zb.refl w1;clear z
 go_wp2_with fail
 refine (new1 w1 w1 (zb.refl w1) M.out HL.out HC.out).mono ?_;rintro e w8 ⟨g,rfl,U,J⟩
 have G:Hid (Calls Tryz.prog 38 #[.pointer (some ⟨g,0,none⟩),.int .i64 (20000:Nat)] w8 fun e w'=>e=.returned (.bool (endR m).done)/\OneR w1 w' g m (endR m)):=by
  (show Calls _ _ _ _ _)
  have h:=J.step 20000 (by omega) (by unfold loadS;simp);have he:RS.run m 20000 (loadS m [] 0)=endR m:=by rw [loadS_nil];rfl
  rw [he] at h;exact h
 clear V q0 q1 q2 q3 q4 q5 U J
 go_wp2_with fail
 refine G.out.mono ?_;rintro e w9 ⟨rfl,E⟩;have D:=E.found;have O:Hid (zb w w9):=K.out.trans E.ext;clear G E;unfold BZ at D
 go_wp2_with fail
 refine D.mono ?_;rintro e wa ⟨vfd,rfl,I,-⟩;have Q:Hid (zb w wa):=O.out.trans I;clear D I
 go_wp2_with fail
 exact El (v:=.tuple #[.bool (zL m (endR m).ch),.bool (endR m).done]) (by simp [results,Tryz.results35,go_sem]) rfl ⟨rfl,Q.out⟩
end
end Go.Proofs.YtnmkmhpgnpojbaaGreatDoor
