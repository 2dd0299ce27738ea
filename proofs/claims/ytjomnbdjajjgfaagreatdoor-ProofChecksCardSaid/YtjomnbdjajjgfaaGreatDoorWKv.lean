import Derived.Test.YtjomnbdjajjgfaaGreatDoorWKu
import Derived.ProofKit
import Derived.OpenShut
import Derived.Stop.LaidErr
import Derived.Lib.LaidTab
set_option linter.unusedVariables false
set_option linter.unusedSimpArgs false
set_option maxRecDepth 100000
set_option maxHeartbeats 16000000
namespace Go.Proofs.YtjomnbdjajjgfaaGreatDoor
variable {a:Addr} {Q:Exit->Act->World->Prop} {mh ml mw n:Int} {m:MZ} {cf ct cu gm j lf lt lu tn:Nat} {Af At Au:Option Addr} {u0 u10 u100 u101 u102 u103 u104 u105 u106 u107 u108 u109 u11 u110 u111 u112 u113 u114 u115 u116 u117 u118 u119 u120 u121 u122 u123 u124 u125 u126 u127 u128 u129 u13 u130 u131 u132 u14 u15 u16 u17 u18 u19 u2 u20 u21 u22 u23 u24 u25 u26 u27 u28 u29 u30 u31 u32 u33 u34 u35 u36 u37 u38 u39 u4 u40 u41 u42 u43 u44 u45 u46 u47 u48 u49 u5 u50 u51 u52 u53 u54 u55 u56 u57 u58 u59 u6 u60 u61 u62 u63 u64 u65 u66 u67 u68 u69 u7 u70 u71 u72 u73 u74 u75 u76 u77 u78 u79 u8 u80 u81 u82 u83 u84 u85 u86 u87 u88 u89 u9 u90 u91 u92 u93 u94 u95 u96 u97 u98 u99 v:Value} {W:World}
section
open Go.ChangeShapes Go.WideShapes Go.ChangeAt Go.RowKit
theorem spot_none {w:World} (h:w.cell? a=some v):a.spot=none:=by
 unfold World.cell? at h
 split at h
 ·split at h
  ·cases h
  ·rename_i h1
   cases o:a.spot
   ·rfl
   ·rw [o] at h1;simp at h1
 ·cases h
theorem addr_at (h:a.spot=none) (n:Nat):a.add n=⟨a.block,a.off+n,none⟩:=by
 obtain ⟨b,o,s⟩:=a;simp only at h;subst h;unfold Addr.add
 split
 ·rename_i h0;subst h0;rfl
 ·rfl
theorem chooseList {β:Type} {p:Nat->β->Prop}:∀(n:Nat),(∀i,i<n->∃b,p i b)->∃l:List β,l.length=n/\∀i b,l[i]?=some b->p i b
 | 0,_=>⟨[],rfl,fun i b h=>by simp at h⟩
 | n+1,h=>by
  obtain ⟨l,D,h1⟩:=chooseList n (fun i hi=>h i (by omega));obtain ⟨b,E⟩:=h n (by omega);refine ⟨l++[b],by simp [D],fun i x o=>?_⟩;rcases En i l.length with hi | hi
  ·rw [DW hi] at o;exact h1 i x o
  ·have B:i=l.length:=by
    rcases En i (l++[b]).length with h2 | h2
    ·simp at h2;omega
    ·rw [Ek h2] at o;cases o
   subst B;rw [DX (DR _),Nat.sub_self] at o;have:b=x:=by simpa using o
   subst this;rw [D];exact E
section
variable {H:Type} {enc:TypeId×Value->H} {w:World} {base:Nat} {held:Bool} {fuel:Nat} {cs:List Value} {x:DataW H×List MemPlace}
theorem sliceOpen {t e:TypeId} {sz:Nat} (ht:Tryz.prog.underlying t=some (.slice e)) (L:Tryz.prog.cellsOf e=sz) (h0:0<sz) (h:DataW.trod enc Tryz.prog w base (fun _=>true) held fuel t cs=some x):
  ∃A len c,cs=[.slice A len c]/\len<=c/\len<=9223372036854775807/\(0<len->∃b off,A=some ⟨b,off,none⟩/\∀i,i<len->∃(cl:List Value) (n:Nat) (y:DataW H×List MemPlace),cl.length=sz/\(∀j,j<sz->w.cell? ⟨b,off+(i*sz+j),none⟩=cl[j]?)/\DataW.trod enc Tryz.prog w base (fun _=>true) held n e cl=some y):=by
 rcases DataW.trod_slice ht h with ⟨rfl,_⟩ | ⟨a,len,cap,elems,rest,n,_,rfl,_,hb,V,hm,O,I,_,_⟩
 ·exact ⟨none,0,0,rfl,DR _,by decide,fun h=>by omega⟩
 ·refine ⟨some a,len,cap,rfl,V,by unfold maxLen at hm;omega,fun D=>?_⟩
  have each:∀i,i<len->∃(cl:List Value) (y:DataW H×List MemPlace),w.cells? base (a.add (i*sz)) sz=some cl/\DataW.trod enc Tryz.prog w base (fun _=>true) held n e cl=some y:=fun i J=>by
   have h1:=I i J;rw [L,DO (by omega)] at h1;obtain ⟨cl,h2,h3⟩:=Option.bind_eq_some_iff.1 h1;exact ⟨cl,_,h2,h3⟩
  have K:a.spot=none:=by
   obtain ⟨cl,y,h2,_⟩:=each 0 D;obtain ⟨_,M,E⟩:=World.cells?_some h2;have B:=E 0 h0;rw [DO (by omega)] at B;have G:=spot_none B;rw [Nat.zero_mul] at G;unfold Addr.add at G
   rwa [if_pos rfl,if_pos rfl] at G
  refine ⟨a.block,a.off,?_,fun i J=>?_⟩
  ·obtain ⟨b,o,s⟩:=a;simp only at K;subst K;rfl
  ·obtain ⟨cl,y,h2,h3⟩:=each i J;obtain ⟨_,M,E⟩:=World.cells?_some h2;refine ⟨cl,n,y,M,fun j U=>?_,h3⟩;have B:=E j U;rw [addr_at K,addr_at rfl] at B;rw [<-Nat.add_assoc];exact B
theorem eachOpen {α:Type} {R:Value->α->Prop} {t e:TypeId} (ht:Tryz.prog.underlying t=some (.slice e)) (L:Tryz.prog.cellsOf e=1)
  (O:∀n cl y,DataW.trod enc Tryz.prog w base (fun _=>true) held n e cl=some y->∃v a,cl=[v]/\R v a) (h:DataW.trod enc Tryz.prog w base (fun _=>true) held fuel t cs=some x):
  ∃v l,cs=[v]/\Each R w (fun _=>True) v l/\l.length<=9223372036854775807/\∀a∈l,∃u,R u a:=by
 obtain ⟨A,len,c,rfl,B,K,o⟩:=sliceOpen ht L (by omega) h;rcases EC len with rfl | hpos
 ·exact ⟨_,[],rfl,⟨[],⟨A,c,rfl,B,AE.nil _ _ _ _⟩,fun i y D=>by simp at D⟩,by simp,fun a E=>by cases E⟩
 ·obtain ⟨b,off,rfl,G⟩:=o hpos;clear o
  obtain ⟨l,J,hp⟩:=chooseList (β:=Value×α) (p:=fun i va=>w.cell? ⟨b,off+i,none⟩=some va.1/\R va.1 va.2) len (fun i I=>by
   obtain ⟨cl,n,y,h1,h2,h3⟩:=G i I;obtain ⟨v,a,rfl,U⟩:=O n cl y h3;have:=h2 0 (by omega);rw [Nat.mul_one,Nat.add_zero] at this;exact ⟨(v,a),this,U⟩)
  refine ⟨_,l.map (·.2),rfl,⟨l.map (·.1),⟨_,c,by rw [EB,J],by rw [EB,J];exact B,by simp,fun _=>⟨b,off,rfl,trivial,fun j u M=>?_⟩⟩,fun i y D=>?_⟩,by rw [EB,J];exact K,fun a E=>?_⟩
  ·rw [EA] at M;obtain ⟨va,h1,rfl⟩:=Option.map_eq_some_iff.1 M;exact (hp j va h1).1
  ·rw [EA] at D;obtain ⟨va,h1,rfl⟩:=Option.map_eq_some_iff.1 D;exact ⟨va.1,by rw [EA,h1];rfl,(hp i va h1).2⟩
  ·obtain ⟨va,h1,rfl⟩:=EP.1 E;obtain ⟨i,I,rfl⟩:=Ex h1;exact ⟨_,(hp i _ (DO I)).2⟩
theorem row_of_each {α:Type} {f:α->Value} {l:List α} (h:Each (fun u a=>u=f a) w (fun _=>True) v l):Ae w (fun _=>True) 1 v l.length (l.map f):=by
 obtain ⟨vs,B,he⟩:=h
 have:vs=l.map f:=by
  have o:=B;obtain ⟨A,c,_,_,hA⟩:=o;have E:vs.length=l.length:=by have:=hA.1;omega
  refine List.ext_getElem? fun i=>?_
  rcases En i l.length with hi | hi
  ·obtain ⟨u,D,B⟩:=he i _ (DO hi);rw [D,EA,DO hi,B];rfl
  ·rw [Ek (by omega),Ek (by simp;omega)]
 rw [<-this];exact B
theorem intsOpen (h:DataW.trod enc Tryz.prog w base (fun _=>true) held fuel 23 cs=some x):∃v l,cs=[v]/\zk w (fun _=>True) v l/\l.length<=9223372036854775807:=by
 obtain ⟨v,l,rfl,he,o,_⟩:=eachOpen (R:=fun u a=>u=Value.int .i64 a) Tryz.underlying23 (by kernel_rfl) (fun n cl y B=>by
  obtain ⟨k,rfl,_,_⟩:=DataW.trod_int Tryz.underlying3 B;exact ⟨_,k,rfl,rfl⟩) h
 exact ⟨v,l,rfl,row_of_each he,o⟩
theorem intssOpen (h:DataW.trod enc Tryz.prog w base (fun _=>true) held fuel 22 cs=some x):∃v l,cs=[v]/\zR w (fun _=>True) v l/\l.length<=9223372036854775807/\∀a∈l,a.length<=9223372036854775807:=by
 obtain ⟨v,l,rfl,he,G,B⟩:=eachOpen (R:=fun u a=>zk w (fun _=>True) u a/\a.length<=9223372036854775807) Tryz.underlying22 (by kernel_rfl) (fun n cl y D=>by
  obtain ⟨v,l,rfl,h1,h2⟩:=intsOpen D;exact ⟨v,l,rfl,h1,h2⟩) h
 obtain ⟨vs,I,o⟩:=he
 exact ⟨v,l,rfl,⟨vs,I,fun i y D=>by
  obtain ⟨u,h1,h2,_⟩:=o i y D;exact ⟨u,h1,h2⟩⟩,G,fun a E=>by obtain ⟨u,h⟩:=B a E;exact h.2⟩
theorem intOpen (h:DataW.trod enc Tryz.prog w base (fun _=>true) held fuel 3 cs=some x):∃n,cs=[.int .i64 n]/\-9223372036854775808<=n/\n<=9223372036854775807:=by
 obtain ⟨k,rfl,_,o⟩:=DataW.trod_int Tryz.underlying3 h;refine ⟨k,rfl,?_⟩;have this:=o;simp only [Lit.wf,IntKind.has,Ed,Eb] at this;have e1:IntKind.i64.min=-9223372036854775808:=rfl;have e2:IntKind.i64.max=9223372036854775807:=rfl;omega
theorem cellsT24:Tryz.prog.cellsOf 23=1:=by kernel_rfl
theorem cellsT23:Tryz.prog.cellsOf 24=3:=by kernel_rfl
theorem cellsT3:Tryz.prog.cellsOf 3=1:=by kernel_rfl
theorem agg_of {l:List Value} (h:v.cells.toList=l) (h2:∃cs,v=.agg cs):v=.agg l.toArray:=by
 obtain ⟨cs,rfl⟩:=h2;subst h;rfl
end
end
section
open Go.ChangeShapes Go.WideShapes Go.ChangeAt Go.RowKit
attribute [local go_sem ↓] Go.wp_at_zero Go.wp_at_succ
theorem makeP_zero (h:(AP m).1≠0):(AP m).2=.zero:=by
 unfold AP at h⊢
 split
 ·rename_i o
  rw [if_pos o] at h;exact DE _ _ _ h
 ·rfl
end
section
open Go.RowKit
mutual
theorem lenN_lens {c:Nat} (o:c<=20000000000000):∀(p:PT),p.LenN c->p.Lens
 | .node _ s ks,h=>by
  unfold PT.LenN at h;unfold PT.Lens;exact ⟨by omega,by omega,lenNL_lens o ks h.2.2⟩
theorem lenNL_lens {c:Nat} (o:c<=20000000000000):∀(ks:List PT),PT.LenNL c ks->PT.LensL ks
 | [],_=>by unfold PT.LensL;exact True.intro
 | k :: ks,h=>by
  unfold PT.LenNL at h;unfold PT.LensL;exact ⟨lenN_lens o k h.1,lenNL_lens o ks h.2⟩
end
theorem Dc (c:Nat):PT.zero.LenN c:=by
 unfold PT.zero PT.LenN;exact ⟨by simp,by simp,BG fun k o=>absurd o (EN)⟩
theorem kidsR_lenN {c:Nat} {f:Int->Nat->Int×PT×Nat}:∀(l:List Int) (k:Nat) (acc:List PT),(∀n k,(f n k).2.1.LenN c)->(∀p∈acc,p.LenN c)->(∀p∈(zJ f l k acc).2.1,p.LenN c)/\(zJ f l k acc).2.1.length<=acc.length+l.length
 | [],k,acc,_,o=>by unfold zJ;exact ⟨o,Nat.le_add_right ..⟩
 | n :: l,k,acc,hf,o=>by
  unfold zJ;by_cases h0:(f n k).1=0
  ·rw [if_pos h0]
   obtain ⟨h1,h2⟩:=kidsR_lenN l (f n k).2.2 (acc++[(f n k).2.1]) hf (fun p hp=>by
    rcases EH.1 hp with hp | hp
    ·exact o p hp
    ·rw [Ey.1 hp];exact hf n k)
   refine ⟨h1,?_⟩;simp only [DZ,EW,EX] at h2⊢;omega
  ·rw [if_neg h0];exact ⟨fun p hp=>absurd hp (EN),by simp⟩
theorem proveP_lenN {m:MZ} (o:Lens m):∀(f:Nat) (ch:List Int) (k:Nat),(zj m f ch k).2.1.LenN 400000000000
 | 0,ch,k=>by unfold zj;exact Dc _
 | f+1,ch,k=>by
  unfold zj
  split
  ·exact Dc _
  ·split
   ·exact Dc _
   ·split
    ·rename_i t _
     show PT.LenN _ (.node t (BI m ch t) []);unfold PT.LenN;have:=sideP_len m ch t;exact ⟨by omega,by simp,BG fun k B=>absurd B (EN)⟩
    ·obtain ⟨h1,h2⟩:=kidsR_lenN (f:=fun n k=>zj m f (ch++[n]) k) (zu m ch) (k+1) [] (fun n k=>proveP_lenN o f _ k) (fun p hp=>absurd hp (EN));have h3:=candO_len o ch;simp only
     split
     ·show PT.LenN _ (.node _ [] _);unfold PT.LenN;refine ⟨by simp,?_,BG h1⟩;simp only [EX] at h2;omega
     ·exact Dc _
theorem makeP_lenN (o:Lens m):(AP m).2.LenN 400000000000:=by
 unfold AP
 split
 ·exact proveP_lenN o _ _ _
 ·exact Dc _
theorem makeP_size:(AP m).2.size<=3000:=by
 by_cases h:(AP m).1=0
 ·unfold AP at h⊢;by_cases o:Bq m=0
  ·rw [if_pos o] at h⊢;obtain ⟨-,h1,h2⟩:=proveP_ok o _ [] 0 .nil (by omega) h;show (zj m (m.n.toNat+2) [] 0).2.1.size<=3000;omega
  ·rw [if_neg o];show PT.zero.size<=3000;decide
 ·rw [makeP_zero h];decide
end
section
open Go.ChangeShapes Go.WideShapes Go.ChangeAt Go.RowKit
theorem vTab : Tryz.prog.globalNamed "internal/strconv.uint64pow10" = some 0 := by kernel_rfl
theorem vSyn : Tryz.prog.globalNamed "strconv.ErrSyntax" = some 4 := by kernel_rfl
theorem vRng : Tryz.prog.globalNamed "strconv.ErrRange" = some 5 := by kernel_rfl
theorem vtTab:(Tryz.prog.globals[0]?).map (·.type)=some 267:=by kernel_rfl
theorem vtSyn:(Tryz.prog.globals[4]?).map (·.type)=some 136:=by kernel_rfl
theorem vtRng:(Tryz.prog.globals[5]?).map (·.type)=some 136:=by kernel_rfl
theorem star4 : "*" ++ "errors.errorString" = "*errors.errorString" := by decide
theorem row314 (u : TypeId) (h : Tryz.prog.typeName? 3 u = some "*errors.errorString") : u = 306 :=
 typeName_ptr_named (nm := "errors.errorString") (by rw [star4]; kernel_rfl) (by kernel_rfl) (by decide) u (by rw [star4]; exact h)
theorem laid_tab:(Rows.laid_internal_strconv_uint64pow10:DataW Unit)=Lib.tabData .u64 Lib.pow10Tab:=by kernel_rfl
theorem varsOk_laid {a b: String × DataW Unit} (h : laidMet Tryz.prog [a, b, ("internal/strconv.uint64pow10", Rows.laid_internal_strconv_uint64pow10), ("strconv.ErrRange", Rows.laid_strconv_ErrRange), ("strconv.ErrSyntax", Rows.laid_strconv_ErrSyntax)] W) : zN W := by
 have h2:=h.tail.tail;obtain ⟨a0,s0,hv0,-,-,-⟩:=laid_sentinel h2.tail vRng vtRng Tryz.underlying136 row314 Tryz.underlying306 Tryz.underlying308 rfl rfl Tryz.underlying9 (by kernel_rfl) (by kernel_rfl);obtain ⟨a1,s1,hv1,-,-,-⟩:=laid_sentinel h2.tail.tail vSyn vtSyn Tryz.underlying136 row314 Tryz.underlying306 Tryz.underlying308 rfl rfl Tryz.underlying9 (by kernel_rfl) (by kernel_rfl);rw [laid_tab] at h2;exact ⟨Lib.tabIs_of_head vTab vtTab Tryz.underlying267 Tryz.underlying252 (by kernel_rfl) (by kernel_rfl) h2,⟨_,_,hv1⟩,⟨_,_,hv0⟩⟩
theorem intssArg {H:Type} {enc:TypeId×Value->H} {base:Nat} {v0:Value} {d0:DataW H} {p0:List MemPlace} (o:Value.okWide Tryz.prog W .any base 22 v0) (h0:DataW.Trod enc Tryz.prog W 0 (fun _=>true) true 22 v0 d0 p0):∃l,zR W (fun _=>True) v0 l/\l.length<=9223372036854775807/\∀a∈l,a.length<=9223372036854775807:=by
 obtain ⟨A,n,c,rfl⟩:=okWide_slice Tryz.underlying22 o;obtain ⟨fuel,h0⟩:=h0;obtain ⟨v,l,e0,h⟩:=intssOpen h0;have e1:Value.slice A n c=v:=by injection e0
 subst e1;exact ⟨l,h⟩
end
section
open Go.ChangeShapes Go.WideShapes Go.ChangeAt Go.RowKit
attribute [local go_sem ↓] Go.wp_at_zero Go.wp_at_succ
def OddC:Prop:=∀(w:World) (ok:Nat->Prop) (v:Value) (p:PT) (c:Nat) (q0 q1 q2:Int),zM w ok v p->p.LenN c->c<=1000000000000->p.size<=100000->
 Calls Tryz.prog 21 #[v,.agg #[.int .i64 q0,.int .i64 q1,.int .i64 q2]] w fun e w'=>∃v' p',e=.returned v'/\za w w'/\zM w' (fun b=>ok b\/w.heap.size<=b) v' p'/\OddP c p p'
theorem oddP_lens {c:Nat} {p p':PT} (h:OddP c p p') (o:c<=1000000000000):p'.Lens:=lenN_lens (by omega) _ h.1
structure AllP (w8 W:World) (g:Nat):Prop where
 ext:za w8 W
 lo:w8.heap.size<=g
 at_:∃a0 a1 a2 b0 b1 b2 c0 c1 c2 pa pb pc,zd W g 56 #[a0,a1,a2,b0,b1,b2,c0,c1,c2]/\zM W (fun b=>b≠g) (.agg #[a0,a1,a2]) pa/\zM W (fun b=>b≠g) (.agg #[b0,b1,b2]) pb/\zM W (fun b=>b≠g) (.agg #[c0,c1,c2]) pc/\
  (pa.Lens/\pa.size<=4000)/\(pb.Lens/\pb.size<=4000)/\(pc.Lens/\pc.size<=4000)
theorem allP_fin {w8 WZ:World} {g:Nat} {a0 a1 a2 b0 b1 b2 c0 c1 c2:Value} {pa pb pc:PT} (h:za w8 W) (I:Below g W WZ) (G:w8.heap.size<=g) (E:∀k,k<W.heap.size->k≠g->WZ.heap[k]?=W.heap[k]?) (B:zd WZ g 56 #[a0,a1,a2,b0,b1,b2,c0,c1,c2])
  (J:zM W (fun b=>b≠g) (.agg #[a0,a1,a2]) pa) (D:zM W (fun b=>b≠g) (.agg #[b0,b1,b2]) pb) (K:zM W (fun b=>b≠g) (.agg #[c0,c1,c2]) pc) (la:pa.Lens/\pa.size<=4000) (lb:pb.Lens/\pb.size<=4000) (lc:pc.Lens/\pc.size<=4000):AllP w8 WZ g:=
 ⟨below_le h I G,G,_,_,_,_,_,_,_,_,_,pa,pb,pc,B,J.keepW (fun b B o=>E b o B) (fun _ h=>h),D.keepW (fun b B o=>E b o B) (fun _ h=>h),K.keepW (fun b B o=>E b o B) (fun _ h=>h),la,lb,lc⟩
end
section
open Go.ChangeShapes Go.WideShapes Go.ChangeAt Go.RowKit
theorem oddC:OddC:=fun w ok v p c q0 q1 q2 h B o D=>odd29_calls 100000 w ok v p c q0 q1 q2 h B o D
end
section
open Go.RowKit
attribute [local go_sem ↓] Go.wp_at_zero Go.wp_at_succ
attribute [local go_sem] Oper.semAt_some
def Mk1 (w:World) (r:Int×PT×Nat) (e:Ending) (w':World):Prop:=∃v,e=.returned (.tuple #[v,.int .i64 r.2.2,.int .i64 r.1])/\za w w'/\zM w' (fun b=>w.heap.size<=b) v r.2.1
noncomputable def mk11:Code:=(Tryz.f61.body.bind (regOf 11)).getD .skip
noncomputable def mk16:Code:=(Tryz.f61.body.bind (regOf 16)).getD .skip
noncomputable def mk24:Code:=(Tryz.f61.body.bind (regOf 24)).getD .skip
theorem u11_wp {wk:World} {vch vpp:Value} {HP:World->Value->Prop} {RP:World->World->Value->Prop}
  (r0:∀W,za wk W->W.cell? ⟨gm,0,none⟩=some (.int .i64 mw)) (r1:∀W,za wk W->W.cell? ⟨gm,1,none⟩=some (.int .i64 mh)) (r2:∀W,za wk W->W.cell? ⟨gm,2,none⟩=some (.int .i64 ml))
  (r3:∀W,za wk W->W.cell? ⟨gm,3,none⟩=some (.slice Af lf cf)) (r4:∀W,za wk W->W.cell? ⟨gm,4,none⟩=some (.slice Au lu cu)) (r5:∀W,za wk W->W.cell? ⟨gm,5,none⟩=some (.slice At lt ct))
  (J:Hid (∀W,za wk W->Calls Tryz.prog 121 #[.agg #[.int .i64 mw,.int .i64 mh,.int .i64 ml,.slice Af lf cf,.slice Au lu cu,.slice At lt ct],vch,vpp,.int .i64 tn] W fun e w'=>∃v,e=.returned v/\za W w'/\HP w' v))
  (L:Hid (∀W v,za wk W->HP W v->Calls Tryz.prog 120 #[.agg #[.int .i64 mw,.int .i64 mh,.int .i64 ml,.slice Af lf cf,.slice Au lu cu,.slice At lt ct],.int .i64 tn,v,vch] W fun e w'=>∃v',e=.returned v'/\za W w'/\RP W w' v'))
  (o:∀c (a a':Act) w,a.defers=a'.defers->Q (.panic c) a w->Q (.panic c) a' w)
  (hQ:∀(w6 w7:World) (v6 v7:Value),za wk w6->HP w6 v6->za w6 w7->RP w6 w7 v7->∀(x50 x51 x52 x53 x54 x55 x56 x57 x58:Value),Q .normal ⟨(u0 :: vch :: u2 :: Value.pointer (some ⟨gm,0,none⟩) :: u4 :: u5 :: u6 :: u7 :: u8 :: vpp :: u10 :: u11 :: Value.int .i64 tn :: v7 :: u14 :: u15 :: u16 :: u17 :: u18 :: u19 :: u20 :: u21 :: u22 :: u23 :: u24 :: u25 :: u26 :: u27 :: u28 :: u29 :: u30 :: u31 :: u32 :: u33 :: u34 :: u35 :: u36 :: u37 :: u38 :: u39 :: u40 :: u41 :: u42 :: u43 :: u44 :: u45 :: u46 :: u47 :: u48 :: u49 :: x50 :: x51 :: x52 :: x53 :: x54 :: x55 :: x56 :: x57 :: x58 :: u59 :: u60 :: u61 :: u62 :: u63 :: u64 :: u65 :: u66 :: u67 :: u68 :: u69 :: u70 :: u71 :: u72 :: u73 :: u74 :: u75 :: u76 :: u77 :: u78 :: u79 :: u80 :: u81 :: u82 :: u83 :: u84 :: u85 :: u86 :: u87 :: u88 :: u89 :: u90 :: u91 :: u92 :: u93 :: u94 :: u95 :: u96 :: u97 :: u98 :: u99 :: u100 :: u101 :: u102 :: u103 :: u104 :: u105 :: u106 :: u107 :: u108 :: u109 :: u110 :: u111 :: u112 :: u113 :: u114 :: u115 :: u116 :: u117 :: u118 :: u119 :: u120 :: u121 :: u122 :: u123 :: u124 :: u125 :: u126 :: u127 :: u128 :: u129 :: u130 :: u131 :: u132 :: []).toArray,[]⟩ w7):
  mk11.wp Tryz.prog Q ⟨(u0 :: vch :: u2 :: Value.pointer (some ⟨gm,0,none⟩) :: u4 :: u5 :: u6 :: u7 :: u8 :: vpp :: u10 :: u11 :: Value.int .i64 tn :: u13 :: u14 :: u15 :: u16 :: u17 :: u18 :: u19 :: u20 :: u21 :: u22 :: u23 :: u24 :: u25 :: u26 :: u27 :: u28 :: u29 :: u30 :: u31 :: u32 :: u33 :: u34 :: u35 :: u36 :: u37 :: u38 :: u39 :: u40 :: u41 :: u42 :: u43 :: u44 :: u45 :: u46 :: u47 :: u48 :: u49 :: u50 :: u51 :: u52 :: u53 :: u54 :: u55 :: u56 :: u57 :: u58 :: u59 :: u60 :: u61 :: u62 :: u63 :: u64 :: u65 :: u66 :: u67 :: u68 :: u69 :: u70 :: u71 :: u72 :: u73 :: u74 :: u75 :: u76 :: u77 :: u78 :: u79 :: u80 :: u81 :: u82 :: u83 :: u84 :: u85 :: u86 :: u87 :: u88 :: u89 :: u90 :: u91 :: u92 :: u93 :: u94 :: u95 :: u96 :: u97 :: u98 :: u99 :: u100 :: u101 :: u102 :: u103 :: u104 :: u105 :: u106 :: u107 :: u108 :: u109 :: u110 :: u111 :: u112 :: u113 :: u114 :: u115 :: u116 :: u117 :: u118 :: u119 :: u120 :: u121 :: u122 :: u123 :: u124 :: u125 :: u126 :: u127 :: u128 :: u129 :: u130 :: u131 :: u132 :: []).toArray,[]⟩ wk:=by
 conv=>arg 2;whnf
 have U:za wk wk:=za.refl wk;refine Eh (S:=(fun W=>za wk W)) zI (U.drew) fun zH=>?_;have M:za wk wk.drew:=(za.refl wk).drew;generalize wk.drew=wd at zH M⊢;refine zg 0 zH ?_ (hQ:=fun _ _ _ h=>o _ _ _ _ (by rfl) h);simp only [zb,DN];refine zg 1 zH ?_ (hQ:=fun _ _ _ h=>o _ _ _ _ (by rfl) h);simp only [zb,DN];refine zg 2 zH ?_ (hQ:=fun _ _ _ h=>o _ _ _ _ (by rfl) h);simp only [zb,DN];refine zg 3 zH ?_ (hQ:=fun _ _ _ h=>o _ _ _ _ (by rfl) h);simp only [zb,DN];refine zg 4 zH ?_ (hQ:=fun _ _ _ h=>o _ _ _ _ (by rfl) h);simp only [zb,DN];refine zg 5 zH ?_ (hQ:=fun _ _ _ h=>o _ _ _ _ (by rfl) h);simp only [zb,DN];refine zg 7 zH ?_ (hQ:=fun _ _ _ h=>o _ _ _ _ (by rfl) h);simp only [zb,DN];refine AD 6 fun K E=>?_;go_simp;go_at_call 121;refine (J.out _ zH).mono ?_;rintro e w6 ⟨v6,rfl,B,G⟩;have I:Hid (za wk w6):=zH.trans B;go_simp;refine EZ E (zH.trans B) fun zH=>?_;clear E K;try simp only [zb,DN]
 refine AD 8 fun K E=>?_;go_simp;go_at_call 120;refine (L.out _ _ zH G).mono ?_;rintro e w7 ⟨v7,rfl,D,O⟩;go_simp;refine EZ E (zH.trans D) fun zH=>?_;clear E K;try simp only [zb,DN]
 refine zg 9 zH ?_ (hQ:=fun _ _ _ h=>o _ _ _ _ (by rfl) h);simp only [zb,DN];refine Ev (by kernel_rfl) ?_ _;exact hQ _ _ _ _ I.out G D O _ _ _ _ _ _ _ _ _
theorem u16_wp {wj:World} {bt offt bs offs ls c7 l2 c2:Nat} {A2:Option Addr} {b d:Bool} {u1:Value}
  (q5:∀W,za wj W->W.cell? ⟨gm,5,none⟩=some (.slice (some ⟨bt,offt,none⟩) lt ct)) (q2:∀W,za wj W->W.cell? ⟨bt,offt+tn*3+2,none⟩=some (.slice A2 l2 c2)) (qs:∀W,za wj W->W.cell? ⟨bs,offs+j,none⟩=some (.int .i64 n))
  (O:tn<lt) (U:j<ls)
  (D:Hid (∀W,za wj W->Calls Tryz.prog 73 #[.slice A2 l2 c2,.int .i64 n] W fun e w'=>e=.returned (.bool d)/\W=w'))
  (o:∀c (a a':Act) w,a.defers=a'.defers->Q (.panic c) a w->Q (.panic c) a' w)
  (hQ:∀(w7:World),za wj w7->∀(x65 x66 x67 x68 x69 x70 x71 x72 x73 x74 x75 x76 x77 x78:Value),Q .normal ⟨(u0 :: u1 :: u2 :: Value.pointer (some ⟨gm,0,none⟩) :: u4 :: u5 :: u6 :: u7 :: u8 :: u9 :: u10 :: u11 :: Value.int .i64 tn :: Value.slice (some ⟨bs,offs,none⟩) ls c7 :: Value.bool (b || d) :: Value.int .i64 j :: u16 :: u17 :: u18 :: u19 :: u20 :: u21 :: u22 :: u23 :: u24 :: u25 :: u26 :: u27 :: u28 :: u29 :: u30 :: u31 :: u32 :: u33 :: u34 :: u35 :: u36 :: u37 :: u38 :: u39 :: u40 :: u41 :: u42 :: u43 :: u44 :: u45 :: u46 :: u47 :: u48 :: u49 :: u50 :: u51 :: u52 :: u53 :: u54 :: u55 :: u56 :: u57 :: u58 :: u59 :: u60 :: u61 :: u62 :: u63 :: u64 :: x65 :: x66 :: x67 :: x68 :: x69 :: x70 :: x71 :: x72 :: x73 :: x74 :: x75 :: x76 :: x77 :: x78 :: u79 :: u80 :: u81 :: u82 :: u83 :: u84 :: u85 :: u86 :: u87 :: u88 :: u89 :: u90 :: u91 :: u92 :: u93 :: u94 :: u95 :: u96 :: u97 :: u98 :: u99 :: u100 :: u101 :: u102 :: u103 :: u104 :: u105 :: u106 :: u107 :: u108 :: u109 :: u110 :: u111 :: u112 :: u113 :: u114 :: u115 :: u116 :: u117 :: u118 :: u119 :: u120 :: u121 :: u122 :: u123 :: u124 :: u125 :: u126 :: u127 :: u128 :: u129 :: u130 :: u131 :: u132 :: []).toArray,[]⟩ w7):
  mk16.wp Tryz.prog Q ⟨(u0 :: u1 :: u2 :: Value.pointer (some ⟨gm,0,none⟩) :: u4 :: u5 :: u6 :: u7 :: u8 :: u9 :: u10 :: u11 :: Value.int .i64 tn :: Value.slice (some ⟨bs,offs,none⟩) ls c7 :: Value.bool b :: Value.int .i64 j :: u16 :: u17 :: u18 :: u19 :: u20 :: u21 :: u22 :: u23 :: u24 :: u25 :: u26 :: u27 :: u28 :: u29 :: u30 :: u31 :: u32 :: u33 :: u34 :: u35 :: u36 :: u37 :: u38 :: u39 :: u40 :: u41 :: u42 :: u43 :: u44 :: u45 :: u46 :: u47 :: u48 :: u49 :: u50 :: u51 :: u52 :: u53 :: u54 :: u55 :: u56 :: u57 :: u58 :: u59 :: u60 :: u61 :: u62 :: u63 :: u64 :: u65 :: u66 :: u67 :: u68 :: u69 :: u70 :: u71 :: u72 :: u73 :: u74 :: u75 :: u76 :: u77 :: u78 :: u79 :: u80 :: u81 :: u82 :: u83 :: u84 :: u85 :: u86 :: u87 :: u88 :: u89 :: u90 :: u91 :: u92 :: u93 :: u94 :: u95 :: u96 :: u97 :: u98 :: u99 :: u100 :: u101 :: u102 :: u103 :: u104 :: u105 :: u106 :: u107 :: u108 :: u109 :: u110 :: u111 :: u112 :: u113 :: u114 :: u115 :: u116 :: u117 :: u118 :: u119 :: u120 :: u121 :: u122 :: u123 :: u124 :: u125 :: u126 :: u127 :: u128 :: u129 :: u130 :: u131 :: u132 :: []).toArray,[]⟩ wj:=by
 conv=>arg 2;whnf
 have G:za wj wj:=za.refl wj;have M:(tn:Int)<(lt:Int):=by omega
 have J:(j:Int)<(ls:Int):=by omega
 have L:(0:Int)<=(tn:Int):=by omega
 have I:(0:Int)<=(j:Int):=by omega
 cases b with
 | true=>
  refine Eh (S:=(fun W=>za wj W)) zI (G.drew) fun zH=>?_;have B:za wj wj.drew:=(za.refl wj).drew;generalize wj.drew=wd at zH B⊢;refine zg 0 zH ?_ (hQ:=fun _ _ _ h=>o _ _ _ _ (by rfl) h);simp only [zb,DN];refine zg 1 zH ?_ (hQ:=fun _ _ _ h=>o _ _ _ _ (by rfl) h);simp only [zb,DN];refine Cp 2 zH ?_ (hQ:=fun _ _ _ h=>o _ _ _ _ (by rfl) h);simp only [zb,DN];refine Cp 3 zH ?_ (hQ:=fun _ _ _ h=>o _ _ _ _ (by rfl) h);simp only [zb,DN];refine Cp 4 zH ?_ (hQ:=fun _ _ _ h=>o _ _ _ _ (by rfl) h);simp only [zb,DN];refine Cp 5 zH ?_ (hQ:=fun _ _ _ h=>o _ _ _ _ (by rfl) h);simp only [zb,DN];refine Cp 6 zH ?_ (hQ:=fun _ _ _ h=>o _ _ _ _ (by rfl) h);simp only [zb,DN];refine Cp 7 zH ?_ (hQ:=fun _ _ _ h=>o _ _ _ _ (by rfl) h);simp only [zb,DN];refine Cp 8 zH ?_ (hQ:=fun _ _ _ h=>o _ _ _ _ (by rfl) h);simp only [zb,DN];refine Cp 9 zH ?_ (hQ:=fun _ _ _ h=>o _ _ _ _ (by rfl) h);simp only [zb,DN];refine Cp 10 zH ?_ (hQ:=fun _ _ _ h=>o _ _ _ _ (by rfl) h);simp only [zb,DN];refine Cp 11 zH ?_ (hQ:=fun _ _ _ h=>o _ _ _ _ (by rfl) h);simp only [zb,DN];refine Cp 12 zH ?_ (hQ:=fun _ _ _ h=>o _ _ _ _ (by rfl) h);simp only [zb,DN];refine zg 13 zH ?_ (hQ:=fun _ _ _ h=>o _ _ _ _ (by rfl) h);simp only [zb,DN];refine zg 14 zH ?_ (hQ:=fun _ _ _ h=>o _ _ _ _ (by rfl) h);simp only [zb,DN];refine Ev (by kernel_rfl) ?_ _;exact hQ _ zH _ _ _ _ _ _ _ _ _ _ _ _ _ _
 | false=>
  refine Eh (S:=(fun W=>za wj W)) zI (G.drew) fun zH=>?_;have B:za wj wj.drew:=(za.refl wj).drew;generalize wj.drew=wd at zH B⊢;refine zg 0 zH ?_ (hQ:=fun _ _ _ h=>o _ _ _ _ (by rfl) h);simp only [zb,DN];refine zg 1 zH ?_ (hQ:=fun _ _ _ h=>o _ _ _ _ (by rfl) h);simp only [zb,DN];refine zg 2 zH ?_ (hQ:=fun _ _ _ h=>o _ _ _ _ (by rfl) h);simp only [zb,DN];refine zg 3 zH ?_ (hQ:=fun _ _ _ h=>o _ _ _ _ (by rfl) h);simp only [zb,DN];refine zg 4 zH ?_ (hQ:=fun _ _ _ h=>o _ _ _ _ (by rfl) h);simp only [zb,DN];refine zg 5 zH ?_ (hQ:=fun _ _ _ h=>o _ _ _ _ (by rfl) h);simp only [zb,DN];refine zg 6 zH ?_ (hQ:=fun _ _ _ h=>o _ _ _ _ (by rfl) h);simp only [zb,DN];refine zg 7 zH ?_ (hQ:=fun _ _ _ h=>o _ _ _ _ (by rfl) h);simp only [zb,DN];refine zg 8 zH ?_ (hQ:=fun _ _ _ h=>o _ _ _ _ (by rfl) h);simp only [zb,DN];refine zg 9 zH ?_ (hQ:=fun _ _ _ h=>o _ _ _ _ (by rfl) h);simp only [zb,DN];refine zg 10 zH ?_ (hQ:=fun _ _ _ h=>o _ _ _ _ (by rfl) h);simp only [zb,DN];refine zg 11 zH ?_ (hQ:=fun _ _ _ h=>o _ _ _ _ (by rfl) h);simp only [zb,DN];refine AD 12 fun K E=>?_;go_simp;go_at_call 73;refine (D.out _ zH).mono ?_;rintro e w10 ⟨rfl,rfl⟩;go_simp;refine EZ E (zH) fun zH=>?_;clear E K;try simp only [zb,DN]
  refine zg 13 zH ?_ (hQ:=fun _ _ _ h=>o _ _ _ _ (by rfl) h);simp only [zb,DN];refine zg 14 zH ?_ (hQ:=fun _ _ _ h=>o _ _ _ _ (by rfl) h);simp only [zb,DN];refine Ev (by kernel_rfl) ?_ _;exact hQ _ zH _ _ _ _ _ _ _ _ _ _ _ _ _ _
theorem u24_wp {wq:World} {lL cL bl offl lc cc kk:Nat} {Ac:Option Addr} {r:Int×PT×Nat} {ch:List Int} {u12:Value}
  (s0:∀W,za wq W->W.cell? ⟨gm,0,none⟩=some (.int .i64 mw)) (s1:∀W,za wq W->W.cell? ⟨gm,1,none⟩=some (.int .i64 mh)) (s2:∀W,za wq W->W.cell? ⟨gm,2,none⟩=some (.int .i64 ml))
  (s3:∀W,za wq W->W.cell? ⟨gm,3,none⟩=some (.slice Af lf cf)) (s4:∀W,za wq W->W.cell? ⟨gm,4,none⟩=some (.slice Au lu cu)) (s5:∀W,za wq W->W.cell? ⟨gm,5,none⟩=some (.slice At lt ct))
  (qn:∀W,za wq W->W.cell? ⟨bl,offl+j,none⟩=some (.int .i64 n)) (hj:j<lL)
  (c9:Hid (∀W,za wq W->Calls Tryz.prog 123 #[.slice Ac lc cc,.int .i64 n] W fun e w'=>∃v',e=.returned v'/\Mk W w' v' (ch++[n])))
  (b2:Hid (∀W (ok:Nat->Prop) v,za wq W->zk W ok v (ch++[n])->Calls Tryz.prog 61 #[.agg #[.int .i64 mw,.int .i64 mh,.int .i64 ml,.slice Af lf cf,.slice Au lu cu,.slice At lt ct],v,.int .i64 kk] W (Mk1 W r)))
  (B:∀c (a a':Act) w,a.defers=a'.defers->Q (.panic c) a w->Q (.panic c) a' w)
  (hQ:∀(wz:World) (g:Nat) (As2 Ak2:Option Addr) (cs2 ck2:Nat),za wq wz->Hid (wq.heap.size<=g)->zd wz g 41 #[.int .i64 r.2.1.task,.slice As2 r.2.1.side.length cs2,.slice Ak2 r.2.1.kids.length ck2]->
   zM wz (fun b=>wq.heap.size<=b/\b≠g) (.agg #[.int .i64 r.2.1.task,.slice As2 r.2.1.side.length cs2,.slice Ak2 r.2.1.kids.length ck2]) r.2.1->∀(x106 x107 x108 x109 x110 x111 x112 x113 x114 x115 x116 x117 x118:Value),Q .normal ⟨(u0 :: Value.slice Ac lc cc :: Value.int .i64 kk :: Value.pointer (some ⟨gm,0,none⟩) :: u4 :: u5 :: u6 :: u7 :: u8 :: u9 :: u10 :: u11 :: u12 :: u13 :: u14 :: u15 :: u16 :: Value.slice (some ⟨bl,offl,none⟩) lL cL :: Value.int .i64 j :: Value.pointer (some ⟨g,0,none⟩) :: Value.int .i64 r.2.2 :: Value.int .i64 r.1 :: u22 :: u23 :: u24 :: u25 :: u26 :: u27 :: u28 :: u29 :: u30 :: u31 :: u32 :: u33 :: u34 :: u35 :: u36 :: u37 :: u38 :: u39 :: u40 :: u41 :: u42 :: u43 :: u44 :: u45 :: u46 :: u47 :: u48 :: u49 :: u50 :: u51 :: u52 :: u53 :: u54 :: u55 :: u56 :: u57 :: u58 :: u59 :: u60 :: u61 :: u62 :: u63 :: u64 :: u65 :: u66 :: u67 :: u68 :: u69 :: u70 :: u71 :: u72 :: u73 :: u74 :: u75 :: u76 :: u77 :: u78 :: u79 :: u80 :: u81 :: u82 :: u83 :: u84 :: u85 :: u86 :: u87 :: u88 :: u89 :: u90 :: u91 :: u92 :: u93 :: u94 :: u95 :: u96 :: u97 :: u98 :: u99 :: u100 :: u101 :: u102 :: u103 :: u104 :: u105 :: x106 :: x107 :: x108 :: x109 :: x110 :: x111 :: x112 :: x113 :: x114 :: x115 :: x116 :: x117 :: x118 :: u119 :: u120 :: u121 :: u122 :: u123 :: u124 :: u125 :: u126 :: u127 :: u128 :: u129 :: u130 :: u131 :: u132 :: []).toArray,[]⟩ wz):
  mk24.wp Tryz.prog Q ⟨(u0 :: Value.slice Ac lc cc :: Value.int .i64 kk :: Value.pointer (some ⟨gm,0,none⟩) :: u4 :: u5 :: u6 :: u7 :: u8 :: u9 :: u10 :: u11 :: u12 :: u13 :: u14 :: u15 :: u16 :: Value.slice (some ⟨bl,offl,none⟩) lL cL :: Value.int .i64 j :: u19 :: u20 :: u21 :: u22 :: u23 :: u24 :: u25 :: u26 :: u27 :: u28 :: u29 :: u30 :: u31 :: u32 :: u33 :: u34 :: u35 :: u36 :: u37 :: u38 :: u39 :: u40 :: u41 :: u42 :: u43 :: u44 :: u45 :: u46 :: u47 :: u48 :: u49 :: u50 :: u51 :: u52 :: u53 :: u54 :: u55 :: u56 :: u57 :: u58 :: u59 :: u60 :: u61 :: u62 :: u63 :: u64 :: u65 :: u66 :: u67 :: u68 :: u69 :: u70 :: u71 :: u72 :: u73 :: u74 :: u75 :: u76 :: u77 :: u78 :: u79 :: u80 :: u81 :: u82 :: u83 :: u84 :: u85 :: u86 :: u87 :: u88 :: u89 :: u90 :: u91 :: u92 :: u93 :: u94 :: u95 :: u96 :: u97 :: u98 :: u99 :: u100 :: u101 :: u102 :: u103 :: u104 :: u105 :: u106 :: u107 :: u108 :: u109 :: u110 :: u111 :: u112 :: u113 :: u114 :: u115 :: u116 :: u117 :: u118 :: u119 :: u120 :: u121 :: u122 :: u123 :: u124 :: u125 :: u126 :: u127 :: u128 :: u129 :: u130 :: u131 :: u132 :: []).toArray,[]⟩ wq:=by
 conv=>arg 2;whnf
 have e6:(0:Int)<=(j:Int):=by omega
 have e7:(j:Int)<(lL:Int):=by omega
 refine Eh (S:=(fun W=>za wq W)) zI ((za.refl wq).drew) fun zH=>?_;have a2:za wq wq.drew:=(za.refl wq).drew;generalize wq.drew=wd at zH a2⊢;refine zg 0 zH ?_ (hQ:=fun _ _ _ h=>B _ _ _ _ (by rfl) h);simp only [zb,DN];refine zg 1 zH ?_ (hQ:=fun _ _ _ h=>B _ _ _ _ (by rfl) h);simp only [zb,DN];refine zg 2 zH ?_ (hQ:=fun _ _ _ h=>B _ _ _ _ (by rfl) h);simp only [zb,DN];refine zg 3 zH ?_ (hQ:=fun _ _ _ h=>B _ _ _ _ (by rfl) h);simp only [zb,DN];refine zg 4 zH ?_ (hQ:=fun _ _ _ h=>B _ _ _ _ (by rfl) h);simp only [zb,DN];refine zg 5 zH ?_ (hQ:=fun _ _ _ h=>B _ _ _ _ (by rfl) h);simp only [zb,DN];refine zg 7 zH ?_ (hQ:=fun _ _ _ h=>B _ _ _ _ (by rfl) h);simp only [zb,DN];refine rdA [6,13] ?_;refine Es rfl (fun K o=>?_) ?_
 ·go_simp;go_at_call 123
  with_reducible refine (c9.out wd (a2)).mono ?_
  rintro e w1 ⟨v1,rfl,b5⟩;have c7:=zh b5.ints;have M:Hid (za wq w1):=za.trans (a2) b5.ext;clear b5;refine EZ o (M.out) fun zH=>?_;clear o K;try simp only [zb,DN]
  refine rdA [8,13] ?_;refine Es rfl (fun K o=>?_) ?_
  ·go_simp;go_at_call 61
   with_reducible refine (b2.out w1 _ _ (M.out) c7.out).mono ?_
   rintro e w2 ⟨v2,rfl,d7,b6⟩;obtain ⟨As2,cs2,Ak2,ck2,rfl,-⟩:=b6.form;have b0:Hid (za wq w2):=za.trans (M.out) d7;have d8:wq.heap.size<=w1.heap.size:=Below.size (M.out);have e3:Hid (zM w2 (fun b=>wq.heap.size<=b) _ r.2.1):=b6.wk fun b G _=>by omega
   clear d7 b6 d8;refine EZ o (b0.out) fun zH=>?_;clear o K;try simp only [zb,DN]
   refine zg 9 zH ?_ (hQ:=fun _ _ _ h=>B _ _ _ _ (by rfl) h);simp only [zb,DN];refine zg 10 zH ?_ (hQ:=fun _ _ _ h=>B _ _ _ _ (by rfl) h);simp only [zb,DN];refine zg 11 zH ?_ (hQ:=fun _ _ _ h=>B _ _ _ _ (by rfl) h);simp only [zb,DN];refine zg 12 zH ?_ (hQ:=fun _ _ _ h=>B _ _ _ _ (by rfl) h);simp only [zb,DN];refine AD 13 fun K o=>?_;go_simp;have d4:=zd.new w2 #[.int .i64 0,.slice none 0 0,.slice none 0 0] 41 (g:=w2.heap.size) rfl;have hA3:za w2 (w2.alloc (.cells #[.int .i64 0,.slice none 0 0,.slice none 0 0] 41)):=(za.refl w2).alloc _;have I:Hid (wq.heap.size<=w2.heap.size):=Below.size (b0.out);have e5:Hid (zM (w2.alloc (.cells #[.int .i64 0,.slice none 0 0,.slice none 0 0] 41)) (fun b=>wq.heap.size<=b/\b≠w2.heap.size) _ r.2.1):=(e3.out.wk (ok':=fun b=>wq.heap.size<=b/\b≠w2.heap.size) fun b G e8=>⟨G,by omega⟩).ext hA3;generalize (w2.alloc (.cells #[.int .i64 0,.slice none 0 0,.slice none 0 0] 41))=w3 at*;generalize w2.heap.size=g3 at*;have O:=zh d4;have c0:Hid (za wq w3):=za.trans (b0.out) hA3;clear d4 hA3;refine EZ o (c0.out) fun zH=>?_;clear o K;try simp only [zb,DN]
   refine AD 14 fun K o=>?_;have y0:=O.out.cell (k:=0) rfl;have y1:=O.out.cell (k:=1) rfl;have y2:=O.out.cell (k:=2) rfl;have yf:∀j,w3.frozen? ⟨g3,j,none⟩=false:=fun j=>O.out.frozen j
   go_simp;clear y0 y1 y2 yf;have E:za wq (((w3.setCell ⟨g3,0,none⟩ (.int .i64 r.2.1.task)).setCell ⟨g3,1,none⟩ (.slice As2 r.2.1.side.length cs2)).setCell ⟨g3,2,none⟩ (.slice Ak2 r.2.1.kids.length ck2)):=((Below.setCell (c0.out) (p:=⟨g3,0,none⟩) I.out _).setCell (p:=⟨g3,1,none⟩) I.out _).setCell (p:=⟨g3,2,none⟩) I.out _;refine EZ o (E) fun zH=>?_;clear o K;try simp only [zb,DN]
   refine zg 15 zH ?_ (hQ:=fun _ _ _ h=>B _ _ _ _ (by rfl) h);simp only [zb,DN];refine zg 16 zH ?_ (hQ:=fun _ _ _ h=>B _ _ _ _ (by rfl) h);simp only [zb,DN];refine Ev (by kernel_rfl) ?_ _;have a0:zd (((w3.setCell ⟨g3,0,none⟩ (.int .i64 r.2.1.task)).setCell ⟨g3,1,none⟩ (.slice As2 r.2.1.side.length cs2)).setCell ⟨g3,2,none⟩ (.slice Ak2 r.2.1.kids.length ck2)) g3 41 #[.int .i64 r.2.1.task,.slice As2 r.2.1.side.length cs2,.slice Ak2 r.2.1.kids.length ck2]:=((O.out.set (k:=0) _).set (k:=1) _).set (k:=2) _;have a4:zM (((w3.setCell ⟨g3,0,none⟩ (.int .i64 r.2.1.task)).setCell ⟨g3,1,none⟩ (.slice As2 r.2.1.side.length cs2)).setCell ⟨g3,2,none⟩ (.slice Ak2 r.2.1.kids.length ck2)) (fun b=>wq.heap.size<=b/\b≠g3) (.agg #[.int .i64 r.2.1.task,.slice As2 r.2.1.side.length cs2,.slice Ak2 r.2.1.kids.length ck2]) r.2.1:=e5.out.keepW (fun b G _=>((AO b G.2).trans (AO b G.2)).trans (AO b G.2)) fun _ h=>h
   exact hQ _ g3 _ _ _ _ E I a0 a4 _ _ _ _ _ _ _ _ _ _ _ _ _
  refine Es rfl (fun K o=>?_) .nil;go_simp;have d5:=zd.new w1 #[.int .i64 0,.slice none 0 0,.slice none 0 0] 41 (g:=w1.heap.size) rfl;have hA5:za w1 (w1.alloc (.cells #[.int .i64 0,.slice none 0 0,.slice none 0 0] 41)):=(za.refl w1).alloc _;have J:Hid (wq.heap.size<=w1.heap.size):=Below.size (M.out);generalize (w1.alloc (.cells #[.int .i64 0,.slice none 0 0,.slice none 0 0] 41))=w5 at*;generalize w1.heap.size=g5 at*;have b8:=zh d5;have a5:Hid (za wq w5):=za.trans (M.out) hA5;have e1:=zh (c7.out.below hA5);clear d5 hA5;refine EZ o (a5.out) fun zH=>?_;clear o K;try simp only [zb,DN]
  refine AD 8 fun K o=>?_;go_simp;go_at_call 61
  with_reducible refine (b2.out w5 _ _ (a5.out) e1.out).mono ?_
  rintro e w6 ⟨v6,rfl,b3,b7⟩;obtain ⟨As6,cs6,Ak6,ck6,rfl,-⟩:=b7.form;have c6:Hid (za wq w6):=za.trans (a5.out) b3;have d9:wq.heap.size<=w5.heap.size:=Below.size (a5.out);have a9:=b8.out.ext b3;have e4:Hid (zM w6 (fun b=>wq.heap.size<=b/\b≠g5) _ r.2.1):=b7.wk fun b G _=>by have:=zc b8.out;omega
  have U:=zh a9;clear a9;clear b3 b7 d9;refine EZ o (c6.out) fun zH=>?_;clear o K;try simp only [zb,DN]
  refine zg 9 zH ?_ (hQ:=fun _ _ _ h=>B _ _ _ _ (by rfl) h);simp only [zb,DN];refine zg 10 zH ?_ (hQ:=fun _ _ _ h=>B _ _ _ _ (by rfl) h);simp only [zb,DN];refine zg 11 zH ?_ (hQ:=fun _ _ _ h=>B _ _ _ _ (by rfl) h);simp only [zb,DN];refine zg 12 zH ?_ (hQ:=fun _ _ _ h=>B _ _ _ _ (by rfl) h);simp only [zb,DN];refine AD 14 fun K o=>?_;have y0:=U.out.cell (k:=0) rfl;have y1:=U.out.cell (k:=1) rfl;have y2:=U.out.cell (k:=2) rfl;have yf:∀j,w6.frozen? ⟨g5,j,none⟩=false:=fun j=>U.out.frozen j
  go_simp;clear y0 y1 y2 yf;have E:za wq (((w6.setCell ⟨g5,0,none⟩ (.int .i64 r.2.1.task)).setCell ⟨g5,1,none⟩ (.slice As6 r.2.1.side.length cs6)).setCell ⟨g5,2,none⟩ (.slice Ak6 r.2.1.kids.length ck6)):=((Below.setCell (c6.out) (p:=⟨g5,0,none⟩) J.out _).setCell (p:=⟨g5,1,none⟩) J.out _).setCell (p:=⟨g5,2,none⟩) J.out _;refine EZ o (E) fun zH=>?_;clear o K;try simp only [zb,DN]
  refine zg 15 zH ?_ (hQ:=fun _ _ _ h=>B _ _ _ _ (by rfl) h);simp only [zb,DN];refine zg 16 zH ?_ (hQ:=fun _ _ _ h=>B _ _ _ _ (by rfl) h);simp only [zb,DN];refine Ev (by kernel_rfl) ?_ _;have a0:zd (((w6.setCell ⟨g5,0,none⟩ (.int .i64 r.2.1.task)).setCell ⟨g5,1,none⟩ (.slice As6 r.2.1.side.length cs6)).setCell ⟨g5,2,none⟩ (.slice Ak6 r.2.1.kids.length ck6)) g5 41 #[.int .i64 r.2.1.task,.slice As6 r.2.1.side.length cs6,.slice Ak6 r.2.1.kids.length ck6]:=((U.out.set (k:=0) _).set (k:=1) _).set (k:=2) _;have a4:zM (((w6.setCell ⟨g5,0,none⟩ (.int .i64 r.2.1.task)).setCell ⟨g5,1,none⟩ (.slice As6 r.2.1.side.length cs6)).setCell ⟨g5,2,none⟩ (.slice Ak6 r.2.1.kids.length ck6)) (fun b=>wq.heap.size<=b/\b≠g5) (.agg #[.int .i64 r.2.1.task,.slice As6 r.2.1.side.length cs6,.slice Ak6 r.2.1.kids.length ck6]) r.2.1:=e4.out.keepW (fun b G _=>((AO b G.2).trans (AO b G.2)).trans (AO b G.2)) fun _ h=>h
  exact hQ _ g5 _ _ _ _ E J a0 a4 _ _ _ _ _ _ _ _ _ _ _ _ _
 refine Es rfl (fun K o=>?_) .nil;go_simp;have d6:=zd.new wd #[.int .i64 0,.slice none 0 0,.slice none 0 0] 41 (g:=wd.heap.size) rfl;have hA8:za wd (wd.alloc (.cells #[.int .i64 0,.slice none 0 0,.slice none 0 0] 41)):=(za.refl wd).alloc _;have L:Hid (wq.heap.size<=wd.heap.size):=Below.size (a2);generalize (wd.alloc (.cells #[.int .i64 0,.slice none 0 0,.slice none 0 0] 41))=w8 at*;generalize wd.heap.size=g8 at*;have e0:=zh d6;have b1:Hid (za wq w8):=za.trans (a2) hA8;clear d6 hA8;refine EZ o (b1.out) fun zH=>?_;clear o K;try simp only [zb,DN]
 refine AD 6 fun K o=>?_;go_simp;go_at_call 123
 with_reducible refine (c9.out w8 (b1.out)).mono ?_
 rintro e w9 ⟨v9,rfl,a7⟩;have e2:=zh a7.ints;have a6:Hid (za wq w9):=za.trans (b1.out) a7.ext;have b9:=zh (e0.out.ext a7.ext);clear a7;refine EZ o (a6.out) fun zH=>?_;clear o K;try simp only [zb,DN]
 refine AD 8 fun K o=>?_;go_simp;go_at_call 61
 with_reducible refine (b2.out w9 _ _ (a6.out) e2.out).mono ?_
 rintro e w10 ⟨v10,rfl,a1,a3⟩;obtain ⟨As10,cs10,Ak10,ck10,rfl,-⟩:=a3.form;have a8:Hid (za wq w10):=za.trans (a6.out) a1;have b4:wq.heap.size<=w9.heap.size:=Below.size (a6.out);have V:=b9.out.ext a1;have c8:Hid (zM w10 (fun b=>wq.heap.size<=b/\b≠g8) _ r.2.1):=a3.wk fun b G _=>by have:=zc b9.out;omega
 have D:=zh V;clear V;clear a1 a3 b4;refine EZ o (a8.out) fun zH=>?_;clear o K;try simp only [zb,DN]
 refine zg 9 zH ?_ (hQ:=fun _ _ _ h=>B _ _ _ _ (by rfl) h);simp only [zb,DN];refine zg 10 zH ?_ (hQ:=fun _ _ _ h=>B _ _ _ _ (by rfl) h);simp only [zb,DN];refine zg 11 zH ?_ (hQ:=fun _ _ _ h=>B _ _ _ _ (by rfl) h);simp only [zb,DN];refine zg 12 zH ?_ (hQ:=fun _ _ _ h=>B _ _ _ _ (by rfl) h);simp only [zb,DN];refine AD 14 fun K o=>?_;have y0:=D.out.cell (k:=0) rfl;have y1:=D.out.cell (k:=1) rfl;have y2:=D.out.cell (k:=2) rfl;have yf:∀j,w10.frozen? ⟨g8,j,none⟩=false:=fun j=>D.out.frozen j
 go_simp;clear y0 y1 y2 yf;have E:za wq (((w10.setCell ⟨g8,0,none⟩ (.int .i64 r.2.1.task)).setCell ⟨g8,1,none⟩ (.slice As10 r.2.1.side.length cs10)).setCell ⟨g8,2,none⟩ (.slice Ak10 r.2.1.kids.length ck10)):=((Below.setCell (a8.out) (p:=⟨g8,0,none⟩) L.out _).setCell (p:=⟨g8,1,none⟩) L.out _).setCell (p:=⟨g8,2,none⟩) L.out _;refine EZ o (E) fun zH=>?_;clear o K;try simp only [zb,DN]
 refine zg 15 zH ?_ (hQ:=fun _ _ _ h=>B _ _ _ _ (by rfl) h);simp only [zb,DN];refine zg 16 zH ?_ (hQ:=fun _ _ _ h=>B _ _ _ _ (by rfl) h);simp only [zb,DN];refine Ev (by kernel_rfl) ?_ _;have a0:zd (((w10.setCell ⟨g8,0,none⟩ (.int .i64 r.2.1.task)).setCell ⟨g8,1,none⟩ (.slice As10 r.2.1.side.length cs10)).setCell ⟨g8,2,none⟩ (.slice Ak10 r.2.1.kids.length ck10)) g8 41 #[.int .i64 r.2.1.task,.slice As10 r.2.1.side.length cs10,.slice Ak10 r.2.1.kids.length ck10]:=((D.out.set (k:=0) _).set (k:=1) _).set (k:=2) _;have a4:zM (((w10.setCell ⟨g8,0,none⟩ (.int .i64 r.2.1.task)).setCell ⟨g8,1,none⟩ (.slice As10 r.2.1.side.length cs10)).setCell ⟨g8,2,none⟩ (.slice Ak10 r.2.1.kids.length ck10)) (fun b=>wq.heap.size<=b/\b≠g8) (.agg #[.int .i64 r.2.1.task,.slice As10 r.2.1.side.length cs10,.slice Ak10 r.2.1.kids.length ck10]) r.2.1:=c8.out.keepW (fun b G _=>((AO b G.2).trans (AO b G.2)).trans (AO b G.2)) fun _ h=>h
 exact hQ _ g8 _ _ _ _ E L a0 a4 _ _ _ _ _ _ _ _ _ _ _ _ _
end
end Go.Proofs.YtjomnbdjajjgfaaGreatDoor
