/- RtDl RtPf RtPg RtPh RtPi -/
import Derived.Test.YthbjngbhbbkkgaaGreatHUa
import Derived.Test.YthbjngbhbbkkgaaGreatHUb
import Derived.Test.YthbjngbhbbkkgaaGreatHUc
import Derived.Test.YthbjngbhbbkkgaaGreatHUd
import Derived.Test.YthbjngbhbbkkgaaGreatHUe
import Derived.Test.YthbjngbhbbkkgaaGreatHUf
import Derived.Test.YthbjngbhbbkkgaaGreatHUg
import Derived.Test.YthbjngbhbbkkgaaGreatHUh
import Derived.Test.YthbjngbhbbkkgaaGreatHUi
import Derived.Test.YthbjngbhbbkkgaaGreatHUj
import Derived.Test.YthbjngbhbbkkgaaGreatHUk
import Derived.Test.YthbjngbhbbkkgaaGreatHUl
import Derived.Test.YthbjngbhbbkkgaaGreatHUm
import Derived.Test.YthbjngbhbbkkgaaGreatHUn
import Derived.Test.YthbjngbhbbkkgaaGreatHUo
import Derived.Test.YthbjngbhbbkkgaaGreatHUp
set_option linter.unusedVariables false
set_option linter.unusedSimpArgs false
set_option maxRecDepth 100000
set_option maxHeartbeats 16000000
namespace Go.Proofs.YthbjngbhbbkkgaaGreat
open Go.RowKit Go.Shelf Go.Sort
attribute [local go_sem ↓] Go.wp_at_zero Go.wp_at_succ
def dfLA_ren:Go.Shelf.Ren:=⟨fun | 10=>113 | 6=>132 | n=>n,fun | 22=>22 | 23=>23 | 25=>114 | 3=>3 | 4=>4 | 0=>0 | n=>n,fun | n=>n⟩
theorem dfLA:Go.Proofs.SlLaysH.n10 Tryz.prog dfLA_ren:={
 mixed:=by kernel_rfl
 f6:=⟨Tryz.f132.name,by decide,Tryz.func132.trans (congrArg some (by kernel_rfl))⟩
 f10:=⟨Tryz.f113.name,by decide,Tryz.func113.trans (congrArg some (by kernel_rfl))⟩
 t0:=Tryz.underlying0
 a0:=Tryz.isAgg0
 z0:=Tryz.sizeOf0
 v0:=Tryz.zeroValue0
 t3:=Tryz.underlying3
 a3:=Tryz.isAgg3
 z3:=Tryz.sizeOf3
 v3:=Tryz.zeroValue3
 t4:=Tryz.underlying4
 a4:=Tryz.isAgg4
 z4:=Tryz.sizeOf4
 v4:=Tryz.zeroValue4
 t22:=Tryz.underlying22
 a22:=Tryz.isAgg22
 z22:=Tryz.sizeOf22
 v22:=Tryz.zeroValue22
 a23:=Tryz.isAgg23
 z23:=Tryz.sizeOf23
 t25:=Tryz.underlying114
 a25:=Tryz.isAgg114
 z25:=Tryz.sizeOf114
 v25:=Tryz.zeroValue114 }
abbrev SlV:={ v:Value // ∃A n c,v=.slice A n c }
def slLen (v:Value):Nat:=match v with | .slice _ n _=>n | _=>0
theorem holds_sl {w:World} {B g cap:Nat} {l:List SlV} [Inhabited SlV] (h:zbj w B (.slice (some ⟨g,0,none⟩) (l.map (·.1)).length cap) (l.map (·.1))):Holds (fun x:SlV=>x.1) w g 0 l.toArray:=by
 intro j hj;have hj':j<l.length:=by simpa using hj
 refine ⟨?_,by have:=World.ownsRow.frozenAt h j;simpa using this⟩;have:=World.ownsRow.cellAt h j (by simpa using hj');rw [Nat.zero_add,this];simp [getElem!_pos,hj']
theorem cf75 (a:Array Value) (w:World):(callFunc 114 a).run Tryz.prog w=.ok (.enter 114 a) w:=zad Tryz.func114 (by kernel_rfl) (by kernel_rfl) a w
theorem paths1_sl (x:SlV) (w:World):Calls Tryz.prog 114 (#[x.1]++#[]) w fun e w'=>e=.returned (.bool (decide (slLen x.1=0)))∧w=w':=by
 obtain ⟨_,A,n,c,rfl⟩:=x;show Calls Tryz.prog 114 #[.slice A n c] w _;by_cases hn:n=0
 ·subst hn
  go_enter Tryz.func114,Tryz.ntmps114
  go_wp2;go_ret;exact ⟨rfl,rfl⟩
 ·have hd:((n:Int)==0)=false:=by rw [beq_eq_false_iff_ne];omega
  have H:Hid (decide (slLen (.slice A n c)=0)=false):=decide_eq_false hn;clear hn
  go_enter Tryz.func114,Tryz.ntmps114
  go_wp2;go_ret;exact ⟨zd H.out.symm,rfl⟩
theorem deleteFuncL_calls {w:World} {B g cap:Nat} {l:List SlV} (hO:zbj w B (.slice (some ⟨g,0,none⟩) (l.map (·.1)).length cap) (l.map (·.1))) (hl:l.length≤1000000):
  Calls Tryz.prog 113 #[.slice (some ⟨g,0,none⟩) (l.map (·.1)).length cap,.func (.func 114) #[] #[]] w fun e w'=>∃v',e=.returned v'∧zbj w' B v' ((l.filter fun x=>!decide (slLen x.1=0)).map (·.1))∧Below B w w':=by
 letI:Inhabited SlV:=⟨⟨.slice none 0 0,_,_,_,rfl⟩⟩
 have hcap:=zbv hO;have hg:B≤g:=(World.ownsRow.lt hO g rfl).1;have hll:(l.map (·.1)).length=l.toArray.size:=by simp
 have hc:=AnyE.slices_DeleteFunc dfLA (fun x:SlV=>x.1) (fun x=>by obtain ⟨_,A,n,c,rfl⟩:=x;rfl) (fun x=>decide (slLen x.1=0)) 114 #[] cf75 ⟨.slice none 0 0,_,_,_,rfl⟩ Tryz.zeroValue23 g 0 cap l.toArray w
  (fun W x hb=>by
   refine Calls.mono (paths1_sl x W) ?_;rintro e w' ⟨rfl,rfl⟩;exact ⟨rfl,0,rfl⟩)
  (fun n os dk x _=>by
   refine Calls.mono (paths1_sl x _) ?_;rintro e w' ⟨rfl,rfl⟩;exact ⟨rfl,0,rfl⟩)
  (holds_sl hO) (by rw [←hll];simp;omega) (by rw [←hll];exact hcap)
 change Calls Tryz.prog 113 _ _ _ at hc;rw [←hll] at hc;refine Calls.mono hc ?_;rintro e w' ⟨rfl,q,rfl⟩;have hfl:(l.filter fun x=>!decide (slLen x.1=0)).length≤l.length:=List.length_filter_le _ _;have ho:w.ownsRow B 23 1 (.slice (some ⟨g,0,none⟩) (l.map (·.1)).length cap) (l.map (·.1)).length (l.map fun x:SlV=>x.1):=hO;refine ⟨_,rfl,?_,Lib.below_putRow (Below.refl _ _) hg⟩;have:=Lib.ownsRow_putRow (enc:=fun x:SlV=>x.1) (q:=q) (k:=(l.filter fun x=>!decide (slLen x.1=0)).length) (ys:=(l.filter fun x=>!decide (slLen x.1=0))++List.replicate (l.length - (l.filter fun x=>!decide (slLen x.1=0)).length) ⟨.slice none 0 0,_,_,_,rfl⟩) ho (by simp;omega) (by simpa using hfl);rw [List.take_left' rfl] at this;unfold zbj;rw [List.length_map];simpa using this
theorem deleteFuncL_nil (A:Option Addr) (c:Nat) (w:World):
  Calls Tryz.prog 113 #[.slice A 0 c,.func (.func 114) #[] #[]] w fun e w'=>e=.returned (.slice A 0 c)∧Ext w w':=by
 have hI:Hid (∀w,Calls Tryz.prog 132 #[.slice A 0 c,.func (.func 114) #[] #[]] w fun e w'=>e=.returned (.int .i64 (-1))∧Ext w w'):=fun w=>by
  go_enter Tryz.func132,Tryz.ntmps132
  go_wp2_with fail
  go_loopg [8] 0 (fun gk v wr=>v=.int .i64 0∧gk=0∧Hid (Ext w wr))
  case atStart=>exact ⟨rfl,rfl,Ext.refl _⟩
  case round=>
   obtain ⟨rfl,rfl,hX⟩:=hrel
   go_wp2_with fail
   go_ret;exact ⟨rfl,hX.out⟩
 go_enter Tryz.func113,Tryz.ntmps113
 go_wp2_with fail
 refine (hI.out w).mono ?_;rintro e w2 ⟨rfl,hE⟩
 go_wp2_with fail
 go_ret;exact ⟨rfl,hE⟩
def PathsPostY (Y:Nat→Prop) (w:World) (m:MZ) (ch:List Int) (e:Ending) (w':World):Prop:=
 ∃v,e=.returned (.tuple #[v,.bool (okC m ch)])∧Ext w w'∧zo w' (fun b=>Y b∨w.heap.size≤b) v (zn m ch)
theorem filter_pair {w:World} {ok:Nat→Prop}:∀(l:List SlV) (ps:List (List Int)),l.length=ps.length→(∀(i:Nat) x,ps[i]?=some x→∃u,(l.map (·.1))[i]?=some u∧zf w ok u x)→
  ((l.filter fun x=>!decide (slLen x.1=0)).length=(ps.filter fun p=>decide (p.length≠0)).length)∧∀(i:Nat) x,(ps.filter fun p=>decide (p.length≠0))[i]?=some x→∃u,((l.filter fun x=>!decide (slLen x.1=0)).map (·.1))[i]?=some u∧zf w ok u x
 | [],[],_,_=>⟨rfl,fun i x hx=>by simp at hx⟩
 | a :: l,p :: ps,hl,h=>by
  obtain ⟨h1,h2⟩:=filter_pair l ps (by simpa using hl) (fun i x hx=>by simpa using h (i+1) x (by simpa using hx));obtain ⟨u,hu,hi⟩:=h 0 p rfl;have hau:a.1=u:=by simpa using hu
  have hlen:slLen a.1=p.length:=by
   obtain ⟨A,c,e,_⟩:=id hi;rw [hau,e];rfl
  by_cases hp:p.length=0
  ·rw [List.filter_cons_of_neg (by simp [hlen,hp]),List.filter_cons_of_neg (by simp [hp])];exact ⟨h1,h2⟩
  ·rw [List.filter_cons_of_pos (by simp [hlen,hp]),List.filter_cons_of_pos (by simp [hp])];refine ⟨by simp [h1],fun i x hx=>?_⟩
   match i,hx with
   | 0,hx=>
    have:p=x:=by simpa using hx
    subst this;exact ⟨u,by simp [hau],hi⟩
   | i+1,hx=>simpa using h2 i x (by simpa using hx)
theorem rPathsY_calls {okc Y:Nat→Prop} {v vc:Value} {m:MZ} {ch:List Int} (w:World) (hm:zr w Y v m) (hl:Lens m) (hch:zf w okc vc ch) (hlc:ch.length≤20000000000000):
  Calls Tryz.prog 89 #[v,vc] w (PathsPostY Y w m ch):=by
 have HMZ:=zh hm;obtain ⟨vfr,vup,vts,rfl,-,-,-⟩:=hm;have HCH:=zh hch;obtain ⟨A,c,rfl,hcc,-⟩:=hch;have HL:=zh hl;clear hl
 go_enter Tryz.func89,Tryz.ntmps89
 go_wp2_with fail
 generalize hwa:w.alloc (.cells #[.int .i64 m.w,.int .i64 m.h,.int .i64 m.l,vfr,vup,vts] 32)=wa;have hEa:Ext w wa:=by rw [←hwa];exact (Ext.refl w).alloc _
 have HEA:Hid (w.heap.size≤wa.heap.size):=hEa.size;clear hwa;refine (stateOf_calls wa (HMZ.out.below hEa) HL.out (HCH.out.below hEa) hlc).mono ?_;rintro e w1 ⟨v1,rfl,hx1,h1⟩;have H1:=zh h1;have hE1:Ext w w1:=hEa.trans hx1;have HE1S:Hid (w.heap.size≤w1.heap.size):=hE1.size;clear h1 hx1;obtain ⟨bb,hbb⟩:∃bb,bb=okC m ch:=⟨_,rfl⟩;rw [←hbb] at H1⊢;have HBB:=zh hbb;clear hbb;cases bb
 ·have HFIN:Hid (PathsPostY Y w m ch (.returned (.tuple #[.slice none 0 0,.bool false])) w1):=⟨_,by rw [←HBB.out],hE1,by unfold zn;rw [←HBB.out];exact ⟨[],⟨none,0,rfl,Nat.le_refl _,zY.nil _ _ _ _⟩,fun i x hx=>by simp at hx⟩⟩
  go_wp2_with fail
  go_ret2
  exact HFIN.out
 ·have hst:∃p,v1=.pointer (some ⟨p,0,none⟩)∧StC w1 (fun b=>Y b∨wa.heap.size≤b) p m ch:=by
   rcases H1.out with ⟨h,_⟩ | ⟨_,h⟩
   ·cases h
   ·exact h
  obtain ⟨p,rfl,us,f,u,t,vc',vp,gu,hus,hst⟩:=hst;obtain ⟨r0,r1,r2,r3,r4,r5,r6,r7,r8⟩:=hst.rules;obtain ⟨hg,hc⟩:=zc9 HBB.out.symm;obtain ⟨vs,⟨Ap,cp,rfl,hcp,hrp⟩,hep⟩:=hst.ps;have hvl:vs.length=(zJ m ch).length:=by have:=hrp.1;omega
  have hpl6:(zJ m ch).length≤6:=Nat.le_trans hc.psOk.pl hg.tk
  have HROW:Hid (Row w1 (fun b=>Y b∨wa.heap.size≤b) 1 (.slice Ap (zJ m ch).length cp) vs.length vs):=by
   show Row _ _ _ _ _ _;rw [hvl];exact ⟨Ap,cp,rfl,hcp,hrp⟩
  have HEP:=zh hep
  have h1c:∀u∈vs,∃A n c,u=.slice A n c:=fun u hu=>by
   obtain ⟨i,hi,rfl⟩:=List.getElem_of_mem hu;obtain ⟨u',h1,A',c',e,_⟩:=hep i _ (List.getElem?_eq_getElem (by omega));rw [List.getElem?_eq_getElem hi] at h1;injection h1 with h1;exact ⟨_,_,_,h1.trans e⟩
  have HS1:=zh h1c;have HVL:=zh hvl;have HPO:Hid (zn m ch=(zJ m ch).filter fun p=>decide (p.length≠0)):=by show _=_;unfold zn;rw [if_pos HBB.out.symm]
  clear hst hus hg hc H1 hep hrp h1c hvl;have hx11:=Ext.refl w1
  go_wp2_with fail
  refine (cloneL_calls w1 HROW.out (fun u hu=>by obtain ⟨A,n,c,rfl⟩:=HS1.out u hu;rfl) (by have:=HVL.out;omega)).mono ?_;rintro e w2 ⟨v2,rfl,hx2,hO2⟩;obtain ⟨l,hl⟩:∃l:List SlV,l.map (·.1)=vs:=⟨vs.attachWith _ HS1.out,by simp⟩;have hll:l.length=(zJ m ch).length:=by have:=congrArg List.length hl;have:=HVL.out;simp at *;omega
  have hFP:=filter_pair (w:=w1) (ok:=fun b=>Y b∨wa.heap.size≤b) l (zJ m ch) hll (by rw [hl];exact HEP.out);have HFP:=zh hFP;have hE2:Ext w w2:=hE1.trans hx2
  have hcl:∃v3 w3,Calls Tryz.prog 113 #[v2,.func (.func 114) #[] #[]] w2 (fun e w'=>∃v',e=.returned v'∧zbj w' w1.heap.size v' ((l.filter fun x=>!decide (slLen x.1=0)).map (·.1))∧Ext w1 w')∧v3=v2∧w3=w2:=by
   refine ⟨v2,w2,?_,rfl,rfl⟩;rcases Nat.eq_zero_or_pos vs.length with h0 | h0
   ·have hv0:=List.eq_nil_of_length_eq_zero h0;subst hv0;have hl0:l=[]:=List.eq_nil_of_length_eq_zero (by have:=congrArg List.length hl;simpa using this);subst hl0;obtain ⟨A',c',rfl,hc',-⟩:=Row.of_own hO2;refine (deleteFuncL_nil A' c' w2).mono ?_;rintro e w3 ⟨rfl,hE⟩;exact ⟨_,rfl,zbj.ext hO2 hE,hx2.trans hE⟩
   ·have hO2':=hO2;unfold zbj at hO2';obtain ⟨g,cap,rfl,hg,hlt⟩:=World.ownsRow.form hO2' h0;subst hl;refine (deleteFuncL_calls hO2 (by omega)).mono ?_;rintro e w3 ⟨v3,rfl,hO3,hb3⟩;exact ⟨_,rfl,hO3,Below.trans hx2 hb3⟩
  obtain ⟨_,_,hcl,_,_⟩:=hcl;have HCL:=zh hcl;clear hO2 hcl hx2 hl hll hFP
  go_wp2_with fail
  refine HCL.out.mono ?_;rintro e w3 ⟨v3,rfl,hO3,hx3⟩
  have HFIN:Hid (PathsPostY Y w m ch (.returned (.tuple #[v3,.bool true])) w3):=by
   refine ⟨v3,by rw [←HBB.out],hE1.trans hx3,?_⟩;rw [HPO.out];obtain ⟨h1,h2⟩:=HFP.out;have h3:Row w3 (fun b=>Y b∨w.heap.size≤b) 1 v3 (((l.filter fun x=>!decide (slLen x.1=0)).map (·.1)).length) ((l.filter fun x=>!decide (slLen x.1=0)).map (·.1)):=(Row.of_own hO3).weaken fun b hb=>.inr (Nat.le_trans HE1S.out hb)
   rw [List.length_map,h1] at h3
   exact ⟨_,h3,fun i x hx=>by
    obtain ⟨u,hu,hi⟩:=h2 i x hx;exact ⟨u,hu,(hi.weaken fun b hb=>hb.imp id (fun h=>Nat.le_trans HEA.out h)).below hx3⟩⟩
  clear hO3 hx3
  go_wp2_with fail
  go_ret2
  exact HFIN.out
end Go.Proofs.YthbjngbhbbkkgaaGreat
namespace Go.Proofs.YthbjngbhbbkkgaaGreat
open Go.RowKit
attribute [local go_sem ↓] Go.wp_at_zero Go.wp_at_succ
theorem zaq {m:MZ} {ch:List Int} (hc:chk m=0) (h:zu m ch):(zn m ch).length≤m.tasks.length∧m.tasks.length≤6∧ch.length≤300∧∀x∈zn m ch,x≠[]∧x.length≤1000:=by
 have g:=zx.of hc;have h1:=h.psOk;have h2:=h.len300 g;unfold zn;rw [if_pos (okC_of hc h)];refine ⟨Nat.le_trans (List.length_filter_le _ _) h1.pl,g.tk,h2,fun x hx=>⟨?_,?_⟩⟩
 ·have:=(List.mem_filter.1 hx).2;rintro rfl;simp at this
 ·have h3:=flat_le (List.mem_filter.1 hx).1;rw [h1.fl] at h3;omega
structure PSt (w:World) (ok:Nat→Prop) (m:MZ) (f u ts vc vp:Value) (ch:List Int):Prop where
 maze:zr w ok (.agg #[.int .i64 m.w,.int .i64 m.h,.int .i64 m.l,f,u,ts]) m
 chs:zf w ok vc ch
 ps:zo w ok vp (zn m ch)
def stv (m:MZ) (f u ts vc vp:Value) (t:Int):Value:=.agg #[.int .i64 m.w,.int .i64 m.h,.int .i64 m.l,f,u,ts,vc,vp,.int .i64 t]
theorem PSt.more {w w':World} {ok:Nat→Prop} {m:MZ} {f u ts vc vp:Value} {ch:List Int} (h:PSt w ok m f u ts vc vp ch) (hE:Ext w w'):PSt w' ok m f u ts vc vp ch:=⟨h.maze.below hE,h.chs.below hE,h.ps.below hE⟩
def setL (g:Nat):Nat→List Value→World→World
 | _,[],W=>W
 | k,v :: vs,W=>setL g (k+1) vs (W.setCell ⟨g,k,none⟩ v)
theorem zct (g:Nat):∀(vs:List Value) (k:Nat) (W:World),Below g W (setL g k vs W)
 | [],_,W=>Below.refl g W
 | v :: vs,k,W=>((Below.refl g W).setCell (p:=⟨g,k,none⟩) (Nat.le_refl _) v).trans (zct g vs (k+1) _)
theorem zcu (g:Nat) (b:Nat) (hb:b≠g):∀(vs:List Value) (k:Nat) (W:World),(setL g k vs W).heap[b]?=W.heap[b]?
 | [],_,W=>rfl
 | v :: vs,k,W=>(zcu g b hb vs (k+1) _).trans (Below.heap_setCell W ⟨g,k,none⟩ v b hb)
theorem setL_blk {g:Nat} {t:TypeId}:∀(vs:List Value) (us ws:List Value) (W:World),us.length=vs.length→Blk W g t (ws++us).toArray→Blk (setL g ws.length vs W) g t (ws++vs).toArray
 | [],us,ws,W,hl,h=>by
  have:us=[]:=List.length_eq_zero_iff.1 hl;subst this;exact h
 | v :: vs,us,ws,W,hl,h=>by
  match us,hl,h with
  | u :: us,hl,h=>
   have h1:=h.set (k:=ws.length) v;rw [List.setIfInBounds_toArray,List.set_append_right _ _ (Nat.le_refl _),Nat.sub_self,List.set_cons_zero] at h1;have h2:=setL_blk vs us (ws++[v]) _ (by simpa using hl) (by rw [List.append_assoc];exact h1);rw [List.append_assoc,List.length_append] at h2;exact h2
theorem case_fin9 {P:World→Prop} {W:World} {g2:Nat} {t:TypeId} {a0 a1 a2 a3 a4 a5 a6 a7 a8 z0 z1 z2 z3 z4 z5 z6 z7 z8:Value} (h:∀WZ,Blk WZ g2 t #[a0,a1,a2,a3,a4,a5,a6,a7,a8]→Below g2 W WZ→(∀k,k<W.heap.size→k≠g2→WZ.heap[k]?=W.heap[k]?)→P WZ) (hb:Blk W g2 t #[z0,z1,z2,z3,z4,z5,z6,z7,z8]):
  P (((((((((W.setCell ⟨g2,0,none⟩ a0).setCell ⟨g2,1,none⟩ a1).setCell ⟨g2,2,none⟩ a2).setCell ⟨g2,3,none⟩ a3).setCell ⟨g2,4,none⟩ a4).setCell ⟨g2,5,none⟩ a5).setCell ⟨g2,6,none⟩ a6).setCell ⟨g2,7,none⟩ a7).setCell ⟨g2,8,none⟩ a8):=
 h (setL g2 0 [a0,a1,a2,a3,a4,a5,a6,a7,a8] W) (setL_blk [a0,a1,a2,a3,a4,a5,a6,a7,a8] [z0,z1,z2,z3,z4,z5,z6,z7,z8] [] W rfl hb) (zct g2 _ 0 W) (fun k _ hne=>zcu g2 k hne _ 0 W)
theorem of_calls {ok:Nat→Prop} {f u ts vc:Value} {m:MZ} {ch:List Int} (w:World) (hm:zr w ok (.agg #[.int .i64 m.w,.int .i64 m.h,.int .i64 m.l,f,u,ts]) m) (hl:Lens m) (hc:chk m=0) (hch:zf w ok vc ch) (hi:zu m ch):
  Calls Tryz.prog 66 #[.agg #[.int .i64 m.w,.int .i64 m.h,.int .i64 m.l,f,u,ts],vc] w fun e w'=>∃vp,e=.returned (stv m f u ts vc vp (zO m ch))∧Ext w w'∧PSt w' (fun b=>ok b∨w.heap.size≤b) m f u ts vc vp ch:=by
 have HMZ:=zh hm;have HL:=zh hl;have HPL:=zh (zaq hc hi);have HCH:=zh hch;obtain ⟨Af,cf,Au,cu,At,ct,e,-,-,hts⟩:=hm.parts;injection e with e;injection e with e;simp only [List.cons.injEq,and_true,true_and] at e;obtain ⟨rfl,rfl,rfl⟩:=e;have HTS:=zh hts;obtain ⟨Ac,cc,rfl,-,-⟩:=hch;clear hm hl hc hi hts
 go_enter Tryz.func66,Tryz.ntmps66
 go_wp2_with fail
 obtain ⟨hb1,r0,r1,r2,r3,r4,r5⟩:=box6 w (.int .i64 m.w) (.int .i64 m.h) (.int .i64 m.l) (.slice Af m.free.length cf) (.slice Au m.up.length cu) (.slice At m.tasks.length ct);have hs1:(w.alloc (.cells #[.int .i64 m.w,.int .i64 m.h,.int .i64 m.l,.slice Af m.free.length cf,.slice Au m.up.length cu,.slice At m.tasks.length ct] 32)).heap.size=w.heap.size+1:=by simp
 generalize w.alloc (.cells #[.int .i64 m.w,.int .i64 m.h,.int .i64 m.l,.slice Af m.free.length cf,.slice Au m.up.length cu,.slice At m.tasks.length ct] 32)=w1 at hb1 r0 r1 r2 r3 r4 r5 hs1⊢;have hBZ:=Blk.new w1 #[.int .i64 0,.int .i64 0,.int .i64 0,.slice none 0 0,.slice none 0 0,.slice none 0 0,.slice none 0 0,.slice none 0 0,.int .i64 0] 103 (g:=w1.heap.size) rfl;have hb2:Ext w1 (w1.alloc (.cells #[.int .i64 0,.int .i64 0,.int .i64 0,.slice none 0 0,.slice none 0 0,.slice none 0 0,.slice none 0 0,.slice none 0 0,.int .i64 0] 103)):=(Ext.refl w1).alloc _;generalize w1.alloc (.cells #[.int .i64 0,.int .i64 0,.int .i64 0,.slice none 0 0,.slice none 0 0,.slice none 0 0,.slice none 0 0,.slice none 0 0,.int .i64 0] 103)=w2 at hBZ hb2⊢;rw [hs1] at hBZ;have HW2:=zh (hb1.trans hb2);have HB2:=zh hb2;have HZ:=zh hBZ;obtain ⟨gm,hgm⟩:∃gm,gm=w.heap.size:=⟨_,rfl⟩;rw [←hgm] at r0 r1 r2 r3 r4 r5 HZ⊢;have HGM:Hid (gm=w.heap.size):=hgm;have r0:=fun W h=>r0 W (HB2.out.trans h)
 have r1:=fun W h=>r1 W (HB2.out.trans h)
 have r2:=fun W h=>r2 W (HB2.out.trans h)
 have r3:=fun W h=>r3 W (HB2.out.trans h)
 have r4:=fun W h=>r4 W (HB2.out.trans h)
 have r5:=fun W h=>r5 W (HB2.out.trans h)
 clear hgm hs1 hBZ hb1 hb2;refine (rPathsY_calls (Y:=fun b=>ok b∧b<w.heap.size) w2 (HMZ.out.bound.below HW2.out) HL.out (HCH.out.below HW2.out) (by have:=HPL.out;omega)).mono ?_;rintro e w3 ⟨vp,rfl,hE3,hps⟩;have hps:=hps.weaken (fun b hb=>(by have:=HGM.out;have:=HZ.out;have:=zb this;have:=HW2.out.size;exact ⟨hb.imp (fun h=>h.1) (fun h=>by omega),by omega⟩:(ok b∨w.heap.size≤b)∧b≠gm+1));have HPS:=zh hps;obtain ⟨vps,⟨Ap,cp,rfl,-,hrp⟩,hep⟩:=hps;have HRP:=zh hrp;have HEP:=zh hep;have HW3:=zh (HW2.out.trans hE3);clear hrp hep
 go_wp2_with fail
 have hBS:=Blk.new w3 #[.int .i64 m.w,.int .i64 m.h,.int .i64 m.l,.slice Af m.free.length cf,.slice Au m.up.length cu,.slice At m.tasks.length ct,.slice Ac ch.length cc,.slice Ap (zn m ch).length cp,.int .i64 0] 103 (g:=w3.heap.size) rfl;have hb4:Ext w3 (w3.alloc (.cells #[.int .i64 m.w,.int .i64 m.h,.int .i64 m.l,.slice Af m.free.length cf,.slice Au m.up.length cu,.slice At m.tasks.length ct,.slice Ac ch.length cc,.slice Ap (zn m ch).length cp,.int .i64 0] 103)):=(Ext.refl w3).alloc _;generalize w3.alloc (.cells #[.int .i64 m.w,.int .i64 m.h,.int .i64 m.l,.slice Af m.free.length cf,.slice Au m.up.length cu,.slice At m.tasks.length ct,.slice Ac ch.length cc,.slice Ap (zn m ch).length cp,.int .i64 0] 103)=w4 at hBS hb4⊢;obtain ⟨gs,hgs⟩:∃gs,gs=w3.heap.size:=⟨_,rfl⟩;rw [←hgs] at hBS⊢;have HGS:Hid (gs=w3.heap.size):=hgs;have HB4:=zh hb4;have HBS:=zh hBS;have HE3:=zh hE3;obtain ⟨PL,hPL⟩:∃PL,PL=(zn m ch).length:=⟨_,rfl⟩;rw [←hPL] at HRP HBS⊢;have HPP:=zh hPL;clear hgs hBS hb4 hE3 hPL;go_loopw [18] (fun _ wr=>∃k:Nat,k≤PL∧Hid (curF m (zn m ch) (PL - k) k=zO m ch)∧Hid (Ext w3 wr)∧Hid (Blk wr gs 103 #[.int .i64 m.w,.int .i64 m.h,.int .i64 m.l,.slice Af m.free.length cf,.slice Au m.up.length cu,.slice At m.tasks.length ct,.slice Ac ch.length cc,.slice Ap PL cp,.int .i64 k])) (fun _ wr=>match wr.cell? ⟨gs,8,none⟩ with | some (.int _ i)=>PL - i.toNat | _=>0)
 case atStart=>exact ⟨0,Nat.zero_le _,by show _=_;rw [HPP.out];rfl,HB4.out,HBS.out⟩
 case round=>
  obtain ⟨k,hk,hcur,hE,hB⟩:=hrel;have c0:=hB.out.cell (k:=0) rfl;have c1:=hB.out.cell (k:=1) rfl;have c2:=hB.out.cell (k:=2) rfl;have c3:=hB.out.cell (k:=3) rfl;have c4:=hB.out.cell (k:=4) rfl;have c5:=hB.out.cell (k:=5) rfl;have c6:=hB.out.cell (k:=6) rfl;have c7:=hB.out.cell (k:=7) rfl;have c8:=hB.out.cell (k:=8) rfl;by_cases hlt:k<PL
  ·obtain ⟨hpl,htk,-,hpx⟩:=HPL.out;have hkt:k<m.tasks.length:=by have:=HPP.out;omega
   have hkp:k<(zn m ch).length:=by have:=HPP.out;omega
   obtain ⟨bt,offt,sn,u1,u2,rfl,-,-,-,hc2,-,hi2⟩:=zam HTS.out hkt;obtain ⟨bp,offp,up,rfl,-,hcp,hup⟩:=zP HRP.out HEP.out hlt hkp;obtain ⟨hne,hlen⟩:=hpx _ (List.getElem_mem hkp);have hto:=(HL.out.tl _ (List.getElem_mem hkt)).2
   have hend:Hid (endB m (zn m ch) k=match ((zn m ch)[k]).getLast? with | none=>false | some x=>decide (x∈(m.tasks[k]).2)):=by
    show _=_;unfold endB;rw [List.getD_eq_getElem?_getD,List.getElem?_eq_getElem hkp,List.getD_eq_getElem?_getD,List.getElem?_eq_getElem hkt];rfl
   obtain ⟨P,hP⟩:∃P,P=(zn m ch)[k]:=⟨_,rfl⟩;obtain ⟨T,hT⟩:∃T,T=(m.tasks[k]).2:=⟨_,rfl⟩;rw [←hP] at hup hne hlen hend;rw [←hT] at hi2 hto hend;clear hP hT hpx;obtain ⟨q,x,rfl⟩:∃q x,P=q++[x]:=⟨P.dropLast,P.getLast hne,(List.dropLast_concat_getLast hne).symm⟩
   have HE2:Hid (endB m (zn m ch) k=decide (x∈T)):=by
    have:=hend.out;rw [List.getLast?_append] at this;exact this
   clear hend hne;obtain ⟨Aq,cq,rfl,hcq,hrq⟩:=hup;obtain ⟨bq,offq,e,-,hcx⟩:=zt hrq (k:=q.length) (by simp) (by simp);have hcx:w3.cell? ⟨bq,offq+q.length,none⟩=some (.int .i64 x):=by rw [hcx];simp
   subst e;obtain ⟨N,hN⟩:∃N,N=(q++[x]).length:=⟨_,rfl⟩;obtain ⟨n,hn⟩:∃n,n=q.length:=⟨_,rfl⟩;have hNn:N=n+1:=by rw [hN,hn];simp
   rw [←hN] at hcp hlen;rw [←hn] at hcx;clear hrq hcq hN hn;have HI2:=zh ((hi2.below HW3.out).below hE.out);obtain ⟨Au2,cu2,rfl,-,-⟩:=hi2;have q5:=Ext.rule (r5 wr (HE3.out.trans hE.out));have q8:=Ext.rule c8;have HC8:=zh c8;have qt:=Ext.rule (hE.out.cell (HW3.out.cell hc2));have qp:=Ext.rule (hE.out.cell hcp);have qx:=Ext.rule (hE.out.cell hcx);have hx:Ext wr wr:=Ext.refl wr;have HR5:=zh r5;clear r0 r1 r2 r3 r4 r5 c0 c1 c2 c3 c4 c5 c6 c7 hc2 hcp hcx;have hk1:(k:Int)<(PL:Int):=by omega
   have hk0:(0:Int)≤(k:Int):=by omega
   have hk2:(k:Int)<(m.tasks.length:Int):=by omega
   have hq0:(0:Int)≤(n:Int):=by omega
   have hq1:(n:Int)<(N:Int):=by omega
   have hqw:IntKind.i64.wrap ((N:Int) - 1)=(n:Int):=by rw [IntKind.wrap_i64];omega
   have hkw:IntKind.i64.wrap ((k:Int)+1)=(k:Int)+1:=by rw [IntKind.wrap_i64];omega
   have HNn:=zh hNn;have HKT:=zh hkt;clear hNn hkt hkp
   go_wp2_with fail
   go_quiet ((go_at_call 42;refine (zv x _ (HI2.out.below ((Ext.refl wr).drewN _)) (by omega)).mono ?_;rintro e w9 ⟨rfl,rfl⟩;exact ⟨rfl,⟨_,rfl⟩⟩))
   have HB5:Hid (Blk (wr.drewN nq) gs _ _):=hB.out.ext ((Ext.refl wr).drewN _);have HE5:Hid (Ext w3 (wr.drewN nq)):=hE.out.drewN _;have HD5:Hid (∀h:Ext wr (wr.drewN nq),Ext wr (wr.drewN nq)):=fun h=>h
   generalize wr.drewN nq=WX at HB5 HE5 HD5⊢;obtain ⟨d,hd⟩:∃d,d=decide (x∈T):=⟨_,rfl⟩;rw [←hd] at HE2⊢;clear hd;have c8:=HB5.out.cell (k:=8) rfl;have f8:=HB5.out.frozen 8
   cases d with
   | true=>
    clear q5 q8 qt qp qx hx
    go_wp2_with fail
    have hB6:=HB5.out.set (k:=8) (.int .i64 ((k:Int)+1));have hE6:Ext w3 (WX.setCell ⟨gs,8,none⟩ (.int .i64 ((k:Int)+1))):=HE5.out.setCell (p:=⟨gs,8,none⟩) (by rw [HGS.out];exact Nat.le_refl _) _;generalize WX.setCell ⟨gs,8,none⟩ (.int .i64 ((k:Int)+1))=w6 at hB6 hE6⊢;have HE6:=zh hE6;have HB6:=zh hB6;clear hE6 hB6;go_roundw
    case rel=>exact ⟨k+1,by omega,by
     show _=_;have:=hcur.out;rw [show PL - k=(PL - (k+1))+1 from by omega,curF,if_pos ⟨by have:=HPP.out;omega,HE2.out⟩] at this;exact this,HE6.out,by have:=HB6.out;exact this⟩
    case measure=>
     have h1:w6.cell? ⟨gs,8,none⟩=some (.int .i64 ((k:Int)+1)):=HB6.out.cell (k:=8) rfl;have h2:wr.cell? ⟨gs,8,none⟩=some (.int .i64 k):=HC8.out;simp only [h1,h2];omega
   | false=>
    have HCR:Hid (zO m ch=k):=by
     show _=_;have:=hcur.out;rw [show PL - k=(PL - (k+1))+1 from by omega,curF,if_neg (by rw [HE2.out];simp)] at this;exact this.symm
    clear q5 q8 qt qp qx hx c8 f8;have hBZ:Blk WX (gm+1) 103 _:=HZ.out.ext (HE3.out.trans HE5.out);have z0:=hBZ.cell (k:=0) rfl;have z1:=hBZ.cell (k:=1) rfl;have z2:=hBZ.cell (k:=2) rfl;have z3:=hBZ.cell (k:=3) rfl;have z4:=hBZ.cell (k:=4) rfl;have z5:=hBZ.cell (k:=5) rfl;have z6:=hBZ.cell (k:=6) rfl;have z7:=hBZ.cell (k:=7) rfl;have z8:=hBZ.cell (k:=8) rfl;have c0:=HB5.out.cell (k:=0) rfl;have c1:=HB5.out.cell (k:=1) rfl;have c2:=HB5.out.cell (k:=2) rfl;have c3:=HB5.out.cell (k:=3) rfl;have c4:=HB5.out.cell (k:=4) rfl;have c5:=HB5.out.cell (k:=5) rfl;have c6:=HB5.out.cell (k:=6) rfl;have c7:=HB5.out.cell (k:=7) rfl;have c8:=HB5.out.cell (k:=8) rfl;have hfz:∀j,WX.frozen? ⟨gm+1,j,none⟩=false:=fun j=>hBZ.frozen j
    have HBZ:=zh hBZ;clear hBZ
    go_wp2_with fail
    refine case_fin9 (P:=fun W=>bodyPost Tryz.prog Tryz.f66 _ Exit.ret _ W) (g2:=gm+1) ?_ HBZ.out;intro WZ hbz hEb hkk;have y0:=hbz.cell (k:=0) rfl;have y1:=hbz.cell (k:=1) rfl;have y2:=hbz.cell (k:=2) rfl;have y3:=hbz.cell (k:=3) rfl;have y4:=hbz.cell (k:=4) rfl;have y5:=hbz.cell (k:=5) rfl;have y6:=hbz.cell (k:=6) rfl;have y7:=hbz.cell (k:=7) rfl;have y8:=hbz.cell (k:=8) rfl;refine bodyPost_ret (v:=stv m (.slice Af m.free.length cf) (.slice Au m.up.length cu) (.slice (some ⟨bt,offt,none⟩) m.tasks.length ct) (.slice Ac ch.length cc) (.slice (some ⟨bp,offp,none⟩) PL cp) k) (by simp [results,Tryz.results66,go_sem,y0,y1,y2,y3,y4,y5,y6,y7,y8,stv]) rfl ⟨_,by rw [HCR.out],?_,?_⟩
    ·exact Below.trans (HW3.out.trans HE5.out) (hEb.mono (by have:=HGM.out;omega))
    ·have hS:zX (fun b=>(ok b∨w.heap.size≤b)∧b≠gm+1) WX WZ:=fun b hb hlt=>hkk b hlt hb.2
     have hS2:∀{b},b<w.heap.size→b≠gm+1:=fun hb=>by have:=HGM.out;omega
     refine ⟨?_,?_,?_⟩
     ·exact ((((HMZ.out.bound).keep (zX.of_below (HW3.out.trans HE5.out))).weaken (fun b hb=>⟨.inl hb.1,hS2 hb.2⟩)).keep hS).weaken (fun _ hb=>hb.1)
     ·exact ((((HCH.out.bound).keep (zX.of_below (HW3.out.trans HE5.out))).weaken (fun b hb=>⟨.inl hb.1,hS2 hb.2⟩)).keep hS).weaken (fun _ hb=>hb.1)
     ·exact ((HPP.out ▸ HPS.out.below HE5.out:zo WX (fun b=>(ok b∨w.heap.size≤b)∧b≠gm+1) _ (zn m ch)).keep hS).weaken (fun _ hb=>hb.1)
  ·have hlt1:¬ ((k:Int)<(PL:Int)):=by omega
   have HCR:Hid (zO m ch=k):=by
    show _=_;have:=hcur.out;rw [show PL - k=0 from by omega,curF] at this;exact this.symm
   have q8:=Ext.rule c8;have hx:Ext wr wr:=Ext.refl wr;clear c0 c1 c2 c3 c4 c5 c6 c7 r0 r1 r2 r3 r4 r5
   go_wp2_with fail
   go_quiet (fail)
   have HB5:Hid (Blk (wr.drewN nq) gs _ _):=hB.out.ext ((Ext.refl wr).drewN _);have HE5:Hid (Ext w3 (wr.drewN nq)):=hE.out.drewN _;clear q8 hx c8;generalize wr.drewN nq=WX at HB5 HE5⊢;have hBZ:Blk WX (gm+1) 103 _:=HZ.out.ext (HE3.out.trans HE5.out);have z0:=hBZ.cell (k:=0) rfl;have z1:=hBZ.cell (k:=1) rfl;have z2:=hBZ.cell (k:=2) rfl;have z3:=hBZ.cell (k:=3) rfl;have z4:=hBZ.cell (k:=4) rfl;have z5:=hBZ.cell (k:=5) rfl;have z6:=hBZ.cell (k:=6) rfl;have z7:=hBZ.cell (k:=7) rfl;have z8:=hBZ.cell (k:=8) rfl;have c0:=HB5.out.cell (k:=0) rfl;have c1:=HB5.out.cell (k:=1) rfl;have c2:=HB5.out.cell (k:=2) rfl;have c3:=HB5.out.cell (k:=3) rfl;have c4:=HB5.out.cell (k:=4) rfl;have c5:=HB5.out.cell (k:=5) rfl;have c6:=HB5.out.cell (k:=6) rfl;have c7:=HB5.out.cell (k:=7) rfl;have c8:=HB5.out.cell (k:=8) rfl;have hfz:∀j,WX.frozen? ⟨gm+1,j,none⟩=false:=fun j=>hBZ.frozen j
   have HBZ:=zh hBZ;clear hBZ
   go_wp2_with fail
   refine case_fin9 (P:=fun W=>bodyPost Tryz.prog Tryz.f66 _ Exit.ret _ W) (g2:=gm+1) ?_ HBZ.out;intro WZ hbz hEb hkk;have y0:=hbz.cell (k:=0) rfl;have y1:=hbz.cell (k:=1) rfl;have y2:=hbz.cell (k:=2) rfl;have y3:=hbz.cell (k:=3) rfl;have y4:=hbz.cell (k:=4) rfl;have y5:=hbz.cell (k:=5) rfl;have y6:=hbz.cell (k:=6) rfl;have y7:=hbz.cell (k:=7) rfl;have y8:=hbz.cell (k:=8) rfl;refine bodyPost_ret (v:=stv m (.slice Af m.free.length cf) (.slice Au m.up.length cu) (.slice At m.tasks.length ct) (.slice Ac ch.length cc) (.slice Ap PL cp) k) (by simp [results,Tryz.results66,go_sem,y0,y1,y2,y3,y4,y5,y6,y7,y8,stv]) rfl ⟨_,by rw [HCR.out],?_,?_⟩
   ·exact Below.trans (HW3.out.trans HE5.out) (hEb.mono (by have:=HGM.out;omega))
   ·have hS:zX (fun b=>(ok b∨w.heap.size≤b)∧b≠gm+1) WX WZ:=fun b hb hlt=>hkk b hlt hb.2
    have hS2:∀{b},b<w.heap.size→b≠gm+1:=fun hb=>by have:=HGM.out;omega
    refine ⟨?_,?_,?_⟩
    ·exact ((((HMZ.out.bound).keep (zX.of_below (HW3.out.trans HE5.out))).weaken (fun b hb=>⟨.inl hb.1,hS2 hb.2⟩)).keep hS).weaken (fun _ hb=>hb.1)
    ·exact ((((HCH.out.bound).keep (zX.of_below (HW3.out.trans HE5.out))).weaken (fun b hb=>⟨.inl hb.1,hS2 hb.2⟩)).keep hS).weaken (fun _ hb=>hb.1)
    ·exact ((HPP.out ▸ HPS.out.below HE5.out:zo WX (fun b=>(ok b∨w.heap.size≤b)∧b≠gm+1) _ (zn m ch)).keep hS).weaken (fun _ hb=>hb.1)
theorem box9 (w:World) (a0 a1 a2 a3 a4 a5 a6 a7 a8:Value):Ext w (w.alloc (.cells #[a0,a1,a2,a3,a4,a5,a6,a7,a8] 103))∧
  (∀W,Ext (w.alloc (.cells #[a0,a1,a2,a3,a4,a5,a6,a7,a8] 103)) W→W.cell? ⟨w.heap.size,0,none⟩=some a0)∧(∀W,Ext (w.alloc (.cells #[a0,a1,a2,a3,a4,a5,a6,a7,a8] 103)) W→W.cell? ⟨w.heap.size,1,none⟩=some a1)∧(∀W,Ext (w.alloc (.cells #[a0,a1,a2,a3,a4,a5,a6,a7,a8] 103)) W→W.cell? ⟨w.heap.size,2,none⟩=some a2)∧(∀W,Ext (w.alloc (.cells #[a0,a1,a2,a3,a4,a5,a6,a7,a8] 103)) W→W.cell? ⟨w.heap.size,3,none⟩=some a3)∧(∀W,Ext (w.alloc (.cells #[a0,a1,a2,a3,a4,a5,a6,a7,a8] 103)) W→W.cell? ⟨w.heap.size,4,none⟩=some a4)∧(∀W,Ext (w.alloc (.cells #[a0,a1,a2,a3,a4,a5,a6,a7,a8] 103)) W→W.cell? ⟨w.heap.size,5,none⟩=some a5)∧(∀W,Ext (w.alloc (.cells #[a0,a1,a2,a3,a4,a5,a6,a7,a8] 103)) W→W.cell? ⟨w.heap.size,6,none⟩=some a6)∧(∀W,Ext (w.alloc (.cells #[a0,a1,a2,a3,a4,a5,a6,a7,a8] 103)) W→W.cell? ⟨w.heap.size,7,none⟩=some a7)∧(∀W,Ext (w.alloc (.cells #[a0,a1,a2,a3,a4,a5,a6,a7,a8] 103)) W→W.cell? ⟨w.heap.size,8,none⟩=some a8):=by
 have hB:=Blk.new w #[a0,a1,a2,a3,a4,a5,a6,a7,a8] 103 rfl;exact ⟨(Ext.refl w).alloc _,Ext.rule (hB.cell (k:=0) rfl),Ext.rule (hB.cell (k:=1) rfl),Ext.rule (hB.cell (k:=2) rfl),Ext.rule (hB.cell (k:=3) rfl),Ext.rule (hB.cell (k:=4) rfl),Ext.rule (hB.cell (k:=5) rfl),Ext.rule (hB.cell (k:=6) rfl),Ext.rule (hB.cell (k:=7) rfl),Ext.rule (hB.cell (k:=8) rfl)⟩
theorem PSt.parts {w:World} {ok:Nat→Prop} {m:MZ} {f u ts vc vp:Value} {ch:List Int} (h:PSt w ok m f u ts vc vp ch):∃Af cf Au cu At ct Ac cc Ap cp,f=.slice Af m.free.length cf∧u=.slice Au m.up.length cu∧ts=.slice At m.tasks.length ct∧vc=.slice Ac ch.length cc∧vp=.slice Ap (zn m ch).length cp∧
  zaG w ok (.slice Af m.free.length cf) m.free∧zbh w ok (.slice At m.tasks.length ct) m.tasks:=by
 obtain ⟨Af,cf,Au,cu,At,ct,e,hf,-,hts⟩:=h.maze.parts;injection e with e;injection e with e;simp only [List.cons.injEq,and_true,true_and] at e;obtain ⟨rfl,rfl,rfl⟩:=e;obtain ⟨Ac,cc,rfl,-,-⟩:=h.chs;obtain ⟨_,⟨Ap,cp,rfl,-,-⟩,-⟩:=h.ps;exact ⟨Af,cf,Au,cu,At,ct,Ac,cc,Ap,cp,rfl,rfl,rfl,rfl,rfl,hf,hts⟩
theorem zcT {ok:Nat→Prop} {f u ts vc vp:Value} {m:MZ} {ch:List Int} (t:Int) (w:World) (h:PSt w ok m f u ts vc vp ch):
  Calls Tryz.prog 90 #[stv m f u ts vc vp t] w fun e w'=>e=.returned (.bool (decide ((m.tasks.length:Int)≤t)))∧Ext w w':=by
 obtain ⟨Af,cf,Au,cu,At,ct,Ac,cc,Ap,cp,rfl,rfl,rfl,rfl,rfl,-,-⟩:=h.parts;clear h;unfold stv
 go_enter Tryz.func90,Tryz.ntmps90
 go_wp2_with fail
 obtain ⟨hb1,r0,r1,r2,r3,r4,r5,r6,r7,r8⟩:=box9 w (.int .i64 m.w) (.int .i64 m.h) (.int .i64 m.l) (.slice Af m.free.length cf) (.slice Au m.up.length cu) (.slice At m.tasks.length ct) (.slice Ac ch.length cc) (.slice Ap (zn m ch).length cp) (.int .i64 t);generalize w.alloc (.cells #[.int .i64 m.w,.int .i64 m.h,.int .i64 m.l,.slice Af m.free.length cf,.slice Au m.up.length cu,.slice At m.tasks.length ct,.slice Ac ch.length cc,.slice Ap (zn m ch).length cp,.int .i64 t] 103)=w1 at hb1 r0 r1 r2 r3 r4 r5 r6 r7 r8⊢;obtain ⟨gm,hgm⟩:∃gm,gm=w.heap.size:=⟨_,rfl⟩;rw [←hgm] at r0 r1 r2 r3 r4 r5 r6 r7 r8⊢;clear hgm;have hx:Ext w1 w1:=Ext.refl w1;have HW1:=zh hb1;clear hb1
 go_wp2_with fail
 go_ret;exact ⟨rfl,HW1.out⟩
theorem popen_calls {ok:Nat→Prop} {f u ts vc vp:Value} {m:MZ} {ch:List Int} (t:Int) (tk:Nat) (n:Int) (w:World) (h:PSt w ok m f u ts vc vp ch) (g:zx m) (hcl:ch.length≤20000000000000) (htk:tk<m.free.length) (h0:0≤n) (h1:n<m.n):
  Calls Tryz.prog 119 #[stv m f u ts vc vp t,.int .i64 tk,.int .i64 n] w fun e w'=>e=.returned (.bool (ze m tk n && !decide (n∈ch)))∧Ext w w':=by
 have H:=zh h;obtain ⟨Af,cf,Au,cu,At,ct,Ac,cc,Ap,cp,rfl,rfl,rfl,rfl,rfl,hf,-⟩:=h.parts;obtain ⟨b,off,b',off',l,c',rfl,hc1,hl,hlc,hfc,hc2⟩:=zcc hf g.fn htk h0 h1;have HC:=zh h.chs;clear h hf g;obtain ⟨fv,hfv⟩:∃fv,fv=ze m tk n:=⟨_,rfl⟩;rw [←hfv] at hc2⊢;clear hfv;have k0:(0:Int)≤(tk:Int):=by omega
 have k1:(tk:Int)<(m.free.length:Int):=by omega
 have hn3:off'+n.toNat=off'+n.toNat:=rfl;unfold stv
 go_enter Tryz.func119,Tryz.ntmps119
 go_upto_region 1 with fail;obtain ⟨hb1,r0,r1,r2,r3,r4,r5,r6,r7,r8⟩:=box9 w (.int .i64 m.w) (.int .i64 m.h) (.int .i64 m.l) (.slice (some ⟨b,off,none⟩) m.free.length cf) (.slice Au m.up.length cu) (.slice At m.tasks.length ct) (.slice Ac ch.length cc) (.slice Ap (zn m ch).length cp) (.int .i64 t);generalize w.alloc (.cells #[.int .i64 m.w,.int .i64 m.h,.int .i64 m.l,.slice (some ⟨b,off,none⟩) m.free.length cf,.slice Au m.up.length cu,.slice At m.tasks.length ct,.slice Ac ch.length cc,.slice Ap (zn m ch).length cp,.int .i64 t] 103)=w1 at hb1 r0 r1 r2 r3 r4 r5 r6 r7 r8⊢;obtain ⟨gm,hgm⟩:∃gm,gm=w.heap.size:=⟨_,rfl⟩;rw [←hgm] at r0 r1 r2 r3 r4 r5 r6 r7 r8⊢;clear hgm;have hx:Ext w1 w1:=Ext.refl w1;have HW1:=zh hb1;clear hb1;have q1:=Ext.rule (HW1.out.cell hc1);have q2:=Ext.rule (HW1.out.cell hc2);have HC1:=zh (HC.out.below HW1.out);clear hc1 hc2
 cases fv with
 | false=>
  go_wp2_with fail
  go_ret;exact ⟨rfl,HW1.out⟩
 | true=>
  go_wp2_with fail
  refine (zv n w1 HC1.out hcl).mono ?_;rintro e w9 ⟨rfl,rfl⟩
  go_wp2_with fail
  go_ret;exact ⟨rfl,HW1.out⟩
theorem phead_calls {ok:Nat→Prop} {f u ts vc vp:Value} {m:MZ} {ch:List Int} (t:Int) (tk:Nat) (w:World) (h:PSt w ok m f u ts vc vp ch) (hl:Lens m) (hc:chk m=0) (hi:zu m ch) (htk:tk<m.tasks.length):
  Calls Tryz.prog 116 #[stv m f u ts vc vp t,.int .i64 tk] w fun e w'=>∃v',e=.returned v'∧Ext w w'∧zf w' (fun _=>True) v' (zao m ch tk):=by
 have H:=zh h;have hPL:=zaq hc hi;have G:=zh (zx.of hc);have HL:=zh hl;have HFL:=zh G.out.fl;obtain ⟨_,hps,_⟩:=h.ps;have hep:=‹∀(i:Nat) x,(zn m ch)[i]?=some x→_›;obtain ⟨Af,cf,Au,cu,At,ct,Ac,cc,Ap,cp,rfl,rfl,rfl,rfl,rfl,hf,hts⟩:=h.parts;obtain ⟨_,_,e,-,hrp⟩:=hps;injection e with e1 e2 e3;subst e1 e3;have HTS:=zh hts;have HRP:=zh hrp;have HEP:=zh hep;obtain ⟨PL,hP⟩:∃PL,PL=(zn m ch).length:=⟨_,rfl⟩;rw [←hP] at HRP H;clear h hf hts hrp hep hl hc;unfold stv;rw [←hP];by_cases hlt:tk<PL
 ·obtain ⟨hpl,htk6,-,hpx⟩:=hPL;have hkp:tk<(zn m ch).length:=by omega
  obtain ⟨bp,offp,up,rfl,-,hcp,hup⟩:=zP HRP.out HEP.out hlt hkp;obtain ⟨hne,hlen⟩:=hpx _ (List.getElem_mem hkp)
  have hhd:Hid (zao m ch tk=((zn m ch)[tk]).getLast?.toList):=by
   show _=_;unfold zao;rw [if_pos hkp,List.getD_eq_getElem?_getD,List.getElem?_eq_getElem hkp];rfl
  obtain ⟨P,hPP⟩:∃P,P=(zn m ch)[tk]:=⟨_,rfl⟩;rw [←hPP] at hup hne hlen hhd;clear hPP hpx hi;obtain ⟨q,x,rfl⟩:∃q x,P=q++[x]:=⟨P.dropLast,P.getLast hne,(List.dropLast_concat_getLast hne).symm⟩;obtain ⟨Aq,cq,rfl,hcq,hrq⟩:=hup;obtain ⟨bq,offq,e,-,hcx⟩:=zt hrq (k:=q.length) (by simp) (by simp);have hcx:w.cell? ⟨bq,offq+q.length,none⟩=some (.int .i64 x):=by rw [hcx];simp
  subst e;obtain ⟨N,hN⟩:∃N,N=(q++[x]).length:=⟨_,rfl⟩;obtain ⟨n,hn⟩:∃n,n=q.length:=⟨_,rfl⟩;have hNn:N=n+1:=by rw [hN,hn];simp
  rw [←hN] at hcp hlen hcq;rw [←hn] at hcx
  have HHD:Hid (zao m ch tk=[x]):=by
   show _=_;rw [hhd.out,List.getLast?_append];rfl
  clear hrq hN hn hhd hne hP;have k0:(0:Int)≤(tk:Int):=by omega
  have k1:(tk:Int)<(PL:Int):=by omega
  have hqw:IntKind.i64.wrap ((N:Int) - 1)=(n:Int):=by rw [IntKind.wrap_i64];omega
  have hq0:(0:Int)≤(n:Int):=by omega
  have hq1:(n:Int)≤(N:Int):=by omega
  have hq2:N - n=1:=by omega
  have hq3:(N:Int)≤(cq:Int):=by omega
  have HQ:=zh hNn;have HCQ:=zh hcq
  go_enter Tryz.func116,Tryz.ntmps116
  go_upto_region 1 with fail;obtain ⟨hb1,r0,r1,r2,r3,r4,r5,r6,r7,r8⟩:=box9 w (.int .i64 m.w) (.int .i64 m.h) (.int .i64 m.l) (.slice Af m.free.length cf) (.slice Au m.up.length cu) (.slice At m.tasks.length ct) (.slice Ac ch.length cc) (.slice (some ⟨bp,offp,none⟩) PL cp) (.int .i64 t);generalize w.alloc (.cells #[.int .i64 m.w,.int .i64 m.h,.int .i64 m.l,.slice Af m.free.length cf,.slice Au m.up.length cu,.slice At m.tasks.length ct,.slice Ac ch.length cc,.slice (some ⟨bp,offp,none⟩) PL cp,.int .i64 t] 103)=w1 at hb1 r0 r1 r2 r3 r4 r5 r6 r7 r8⊢;obtain ⟨gm,hgm⟩:∃gm,gm=w.heap.size:=⟨_,rfl⟩;rw [←hgm] at r0 r1 r2 r3 r4 r5 r6 r7 r8⊢;clear hgm;have hx:Ext w1 w1:=Ext.refl w1;have HW1:=zh hb1;clear hb1;have qp:=Ext.rule (HW1.out.cell hcp);clear hcp hNn hcq hkp
  go_wp2_with fail
  go_ret;refine ⟨_,rfl,HW1.out,?_⟩;rw [HHD.out];refine ⟨_,_,rfl,by have:=HQ.out;have:=HCQ.out;show 1≤_;omega,rfl,fun _=>⟨bq,offq+n,rfl,trivial,fun j u hu=>?_⟩⟩
  match j,hu with
  | 0,hu=>
   have:u=.int .i64 x:=by simpa using hu.symm
   rw [this];exact HW1.out.cell hcx
 ·obtain ⟨bt,offt,sn,u1,u2,rfl,-,-,hc1,-,hi1,-⟩:=zam HTS.out htk;have htn:=fun x hx=>G.out.tn _ (List.getElem_mem htk) x (.inl hx)
  have hfl1:=(HL.out.tl _ (List.getElem_mem htk)).1
  have hhd:Hid (zao m ch tk=((m.tasks[tk]).1).filter fun n=>ze m tk n && !decide (n∈ch)):=by
   show _=_;unfold zao;rw [if_neg (by omega),List.getD_eq_getElem?_getD,List.getElem?_eq_getElem htk];rfl
  obtain ⟨L,hL⟩:∃L,L=(m.tasks[tk]).1:=⟨_,rfl⟩;rw [←hL] at hi1 htn hfl1 hhd;clear hL;have HTN:=zh htn;have HCL:Hid (ch.length≤300):=hPL.2.2.1;have HTK:Hid (tk<m.free.length):=by show _<_;rw [HFL.out];exact htk
  have k0:(0:Int)≤(tk:Int):=by omega
  have k1:(tk:Int)<(m.tasks.length:Int):=by omega
  have k2:¬ ((tk:Int)<(PL:Int)):=by omega
  clear htn hPL hi hP;obtain ⟨p,hpd⟩:∃p:Int→Bool,p=fun n=>ze m tk n && !decide (n∈ch):=⟨_,rfl⟩
  rw [←hpd] at hhd;have HPD:=zh hpd;clear hpd
  go_enter Tryz.func116,Tryz.ntmps116
  go_upto_region 1 with fail;obtain ⟨hb1,r0,r1,r2,r3,r4,r5,r6,r7,r8⟩:=box9 w (.int .i64 m.w) (.int .i64 m.h) (.int .i64 m.l) (.slice Af m.free.length cf) (.slice Au m.up.length cu) (.slice (some ⟨bt,offt,none⟩) m.tasks.length ct) (.slice Ac ch.length cc) (.slice Ap PL cp) (.int .i64 t);generalize w.alloc (.cells #[.int .i64 m.w,.int .i64 m.h,.int .i64 m.l,.slice Af m.free.length cf,.slice Au m.up.length cu,.slice (some ⟨bt,offt,none⟩) m.tasks.length ct,.slice Ac ch.length cc,.slice Ap PL cp,.int .i64 t] 103)=w1 at hb1 r0 r1 r2 r3 r4 r5 r6 r7 r8⊢;obtain ⟨gm,hgm⟩:∃gm,gm=w.heap.size:=⟨_,rfl⟩;rw [←hgm] at r0 r1 r2 r3 r4 r5 r6 r7 r8⊢;clear hgm;have hx:Ext w1 w1:=Ext.refl w1;have HW1:=zh hb1;clear hb1;have qt:=Ext.rule (HW1.out.cell hc1);have HI1:=zh (hi1.below HW1.out);obtain ⟨Al,cl,rfl,hcl,-⟩:=hi1;clear hc1
  go_wp2_with fail
  have HM0:=zh (Mk.nil w1);go_loopw [4,31] (fun v i wr=>∃k:Nat,k≤L.length∧i=.int .i64 (k:Nat)∧Hid (Mk w1 wr v ((L.take k).filter p))) (fun _ i _=>L.length - (intOf i).toNat)
  case atStart=>exact ⟨0,Nat.zero_le _,rfl,HM0⟩
  clear HM0
  case round=>
   obtain ⟨k,hk,rfl,hM⟩:=hrel;have hx:Ext w1 wr:=hM.out.ext;obtain ⟨wk,rfl⟩:∃wk:World,wk=wr:=⟨_,rfl⟩;by_cases hlt2:k<L.length
   ·obtain ⟨A',c',e,-,hr1⟩:=HI1.out;injection e with e1 e2 e3;subst e1 e3;obtain ⟨bl,offl,rfl,-,hcell⟩:=zt hr1 hlt2 hlt2;clear hr1;obtain ⟨hx0,hx1⟩:=HTN.out _ (List.getElem_mem hlt2);have htk2:=List.take_succ_eq_append_getElem hlt2;obtain ⟨x,hxx⟩:∃x,x=L[k]:=⟨_,rfl⟩;rw [←hxx] at hcell hx0 hx1 htk2;clear hxx;have HT:=zh htk2;have hcell:wk.cell? ⟨bl,offl+k,none⟩=some (.int .i64 x):=hx.cell hcell;clear htk2;have kk0:(0:Int)≤(k:Int):=by omega
    have kk1:(k:Int)<(L.length:Int):=by omega
    go_wp2_with fail
    refine (popen_calls t tk x wk ((H.out.more HW1.out).more hx) G.out (by have:=HCL.out;omega) HTK.out hx0 hx1).mono ?_;rintro e w9 ⟨rfl,hE9⟩;have hM9:=zh (hM.out.more hE9);have hx9:=hM9.out.ext;have hp:p x=(ze m tk x && !decide (x∈ch)):=by rw [HPD.out]
    rw [←hp];clear hp hcell hE9;have hln:((L.take k).filter p).length≤L.length:=Nat.le_trans (List.length_filter_le _ _) (by simp;omega)
    cases hb:p x with
    | true=>
     have HS:Hid ((L.take (k+1)).filter p=(L.take k).filter p++[x]):=by show _=_;rw [HT.out,List.filter_append,List.filter_cons_of_pos hb];rfl
     clear hb;obtain ⟨l,hle⟩:∃l,l=(L.take k).filter p:=⟨_,rfl⟩;rw [←hle] at hM9 hln HS;clear hle
     go_wp2_with (at_builtin;refine zan rfl _ _ rfl _ l x w1.heap.size w9.heap.size 1 _ rfl rfl (hM9.out.own.alloc _) ?d1 ?d2 ?d3 ?_)
     (try case d1=>exact zm _ _ _ (by simp))
     case d2=>(first | (simp;done) | (have:=hx9.size;simp;omega) | (have:=hx9.size;omega))
     case d3=>omega
     intro v' wb hob hgb hbl;have hM':=zh ((hM9.out.alloc _).app hob hgb);clear hob hgb hbl;go_wp2;go_roundw
     case rel=>exact ⟨k+1,by omega,by go_num,by rw [HS.out];exact hM'⟩
     case measure=>simp [intOf];omega
    | false=>
     have HS:Hid ((L.take (k+1)).filter p=(L.take k).filter p):=by show _=_;rw [HT.out,List.filter_append,List.filter_cons_of_neg (by rw [hb];simp),List.filter_nil,List.append_nil]
     clear hb;go_wp2;go_roundw
     case rel=>exact ⟨k+1,by omega,by go_num,by rw [HS.out];exact hM9⟩
     case measure=>simp [intOf];omega
   ·obtain rfl:k=L.length:=by omega
    go_wp2;go_ret;refine ⟨_,rfl,HW1.out.trans hM.out.ext,?_⟩;rw [hhd.out];have:=hM.out;rw [List.take_length] at this;exact this.ints.weaken (fun _ _=>trivial)
end Go.Proofs.YthbjngbhbbkkgaaGreat
namespace Go.Proofs.YthbjngbhbbkkgaaGreat
open Go.RowKit
attribute [local go_sem ↓] Go.wp_at_zero Go.wp_at_succ
attribute [local go_sem] Oper.semAt_some
theorem PSt.weaken {w:World} {ok ok':Nat→Prop} {m:MZ} {f u ts vc vp:Value} {ch:List Int} (h:PSt w ok m f u ts vc vp ch) (hk:∀b,ok b→ok' b):PSt w ok' m f u ts vc vp ch:=⟨h.maze.weaken hk,h.chs.weaken hk,h.ps.weaken hk⟩
theorem PSt.keep {w w':World} {ok:Nat→Prop} {m:MZ} {f u ts vc vp:Value} {ch:List Int} (h:PSt w ok m f u ts vc vp ch) (hS:zX ok w w'):PSt w' ok m f u ts vc vp ch:=⟨h.maze.keep hS,h.chs.keep hS,h.ps.keep hS⟩
theorem zdc {ok:Nat→Prop} {f u ts vc vp:Value} {m:MZ} {ch:List Int} (t n:Int) (w:World) (h:PSt w ok m f u ts vc vp ch) (hl:Lens m) (hc:chk m=0) (hi:zu m (ch++[n])) (hch:ch.length≤300):
  Calls Tryz.prog 93 #[stv m f u ts vc vp t,.int .i64 n] w fun e w'=>∃vc' vp',e=.returned (stv m f u ts vc' vp' (zO m (ch++[n])))∧Ext w w'∧PSt w' (fun b=>ok b∨w.heap.size≤b) m f u ts vc' vp' (ch++[n]):=by
 have H:=zh h;have HL:=zh hl;have HC:=zh hc;have HI:=zh hi;obtain ⟨Af,cf,Au,cu,At,ct,Ac,cc,Ap,cp,rfl,rfl,rfl,rfl,rfl,-,-⟩:=h.parts;obtain ⟨PL,hP⟩:∃PL,PL=(zn m ch).length:=⟨_,rfl⟩;rw [←hP] at H⊢;clear h hl hc hi hP;unfold stv
 go_enter Tryz.func93,Tryz.ntmps93
 go_upto_region 1 with fail;have hB1:=Blk.new w #[.int .i64 m.w,.int .i64 m.h,.int .i64 m.l,.slice Af m.free.length cf,.slice Au m.up.length cu,.slice At m.tasks.length ct,.slice Ac ch.length cc,.slice Ap PL cp,.int .i64 t] 103 (g:=w.heap.size) rfl;have hb1:Ext w (w.alloc (.cells #[.int .i64 m.w,.int .i64 m.h,.int .i64 m.l,.slice Af m.free.length cf,.slice Au m.up.length cu,.slice At m.tasks.length ct,.slice Ac ch.length cc,.slice Ap PL cp,.int .i64 t] 103)):=(Ext.refl w).alloc _;have hs1:(w.alloc (.cells #[.int .i64 m.w,.int .i64 m.h,.int .i64 m.l,.slice Af m.free.length cf,.slice Au m.up.length cu,.slice At m.tasks.length ct,.slice Ac ch.length cc,.slice Ap PL cp,.int .i64 t] 103)).heap.size=w.heap.size+1:=by simp
 generalize w.alloc (.cells #[.int .i64 m.w,.int .i64 m.h,.int .i64 m.l,.slice Af m.free.length cf,.slice Au m.up.length cu,.slice At m.tasks.length ct,.slice Ac ch.length cc,.slice Ap PL cp,.int .i64 t] 103)=w1 at hB1 hb1 hs1⊢;have hBZ:=Blk.new w1 #[.int .i64 0,.int .i64 0,.int .i64 0,.slice none 0 0,.slice none 0 0,.slice none 0 0,.slice none 0 0,.slice none 0 0,.int .i64 0] 103 (g:=w1.heap.size) rfl;have hb2:Ext w1 (w1.alloc (.cells #[.int .i64 0,.int .i64 0,.int .i64 0,.slice none 0 0,.slice none 0 0,.slice none 0 0,.slice none 0 0,.slice none 0 0,.int .i64 0] 103)):=(Ext.refl w1).alloc _;generalize w1.alloc (.cells #[.int .i64 0,.int .i64 0,.int .i64 0,.slice none 0 0,.slice none 0 0,.slice none 0 0,.slice none 0 0,.slice none 0 0,.int .i64 0] 103)=w2 at hBZ hb2⊢;rw [hs1] at hBZ;obtain ⟨gm,hgm⟩:∃gm,gm=w.heap.size:=⟨_,rfl⟩;rw [←hgm] at hB1 hBZ⊢;have HGM:Hid (gm=w.heap.size):=hgm;have HZ:=zh hBZ;have hB2:Blk w2 gm 103 _:=hB1.ext hb2;have rul:∀{j:Nat} {v:Value},w2.cell? ⟨gm,j,none⟩=some v→∀W,Below (gm+1) w2 W→W.cell? ⟨gm,j,none⟩=some v:=fun h W hW=>(hW.cell (p:=⟨gm,_,none⟩) (Nat.lt_succ_self gm)).trans h
 have r0:=rul (hB2.cell (k:=0) rfl);have r1:=rul (hB2.cell (k:=1) rfl);have r2:=rul (hB2.cell (k:=2) rfl);have r3:=rul (hB2.cell (k:=3) rfl);have r4:=rul (hB2.cell (k:=4) rfl);have r5:=rul (hB2.cell (k:=5) rfl);have r6:=rul (hB2.cell (k:=6) rfl);have HW2:=zh (hb1.trans hb2);have HS2:Hid (gm+1<w2.heap.size):=zb hBZ;clear hB1 hb1 hs1 hBZ hb2 hB2 rul hgm;refine wp_region_held_drew (S:=(fun W=>Below (gm+1) w2 W)) zS ((Below.refl (gm+1) w2).drew) (fun zH=>?_);have hBd:Below (gm+1) w2 w2.drew:=(Below.refl (gm+1) w2).drew;have HD:Hid (Ext w2 w2.drew):=(Ext.refl w2).drew;generalize w2.drew=wd at zH hBd HD⊢;have HWd:Hid (Ext w wd):=HW2.out.trans HD.out;have HSd:Hid (gm+1<wd.heap.size):=Nat.lt_of_lt_of_le HS2.out HD.out.size;refine rtT 0 zH ?_;simp only [za,Act.put];refine rtT 1 zH ?_;simp only [za,Act.put];refine rtT 2 zH ?_;simp only [za,Act.put];refine rtT 3 zH ?_;simp only [za,Act.put];refine rtT 5 zH ?_;simp only [za,Act.put];refine rdA [4,6] ?_;refine AllReadyH.cons rfl (fun K hK=>?_) ?_
 ·go_simp;go_at_call 46;refine (zaN wd ((H.out.chs.below HWd.out).below (Ext.refl wd)) (by omega)).mono ?_;rintro e w1 ⟨v1,rfl,hM1⟩;have hE1:Ext wd w1:=hM1.ext;have HO1:Hid (zy w1 wd.heap.size v1 ch):=hM1.own.mono ((Ext.refl wd)).size;obtain ⟨A1,n1,c1,rfl⟩:=zb0 HO1.out;clear hM1;refine hK.out _ _ (Below.trans hBd (Below.mono hE1 (by have:=HSd.out;omega))) (fun zH=>?_);clear hK K;try simp only [za,Act.put]
  refine rtR 6 (fun K hK=>?_);go_simp;have hA2:Ext w1 (w1.alloc (.cells #[.int .i64 n] 3)):=(Ext.refl w1).alloc _;have HC2:Hid ((w1.alloc (.cells #[.int .i64 n] 3)).cell? ⟨w1.heap.size,0,none⟩=some (.int .i64 n)):=zm _ _ _ rfl;generalize w1.heap.size=g2 at HC2⊢;generalize w1.alloc (.cells #[.int .i64 n] 3)=w2 at hA2 HC2⊢;have HO2:=zh (HO1.out.ext hA2);have hE2:Ext wd w2:=Below.trans hE1 (hA2.mono (hE1).size);refine hK.out _ _ (Below.trans hBd (Below.mono hE2 (by have:=HSd.out;omega))) (fun zH=>?_);clear hK K;try simp only [za,Act.put]
  refine rtR 7 (fun K hK=>?_);refine za7 (ok:=fun _=>True) (by rfl) _ _ _ (by rfl) wd.heap.size ch [n] _ _ (by rfl) (by rfl) HO2.out (zcp HC2.out) (hE2).size (by simp;omega) ?_;intro v3 w3 ho3 hg3 hat3;have hE3:Ext wd w3:=zT hE2 hg3 (hE2).size (fun k hk=>za8 HO2.out hk);have HO3:=zh ho3;obtain ⟨A3,n3,cc3,rfl⟩:=zb0 ho3;clear ho3 hg3 hat3;refine hK.out _ _ (Below.trans hBd (Below.mono hE3 (by have:=HSd.out;omega))) (fun zH=>?_);clear hK K;try simp only [za,Act.put]
  refine rtR 8 (fun K hK=>?_);go_simp;go_at_call 66;refine (of_calls (ok:=fun b=>(ok b∧b<w.heap.size)∨wd.heap.size≤b) w3 (((H.out.maze.bound.below HWd.out).below hE3).weaken (fun b hb=>.inl hb)) HL.out HC.out ((Mk.ints ⟨HO3.out,hE3⟩).weaken (fun b hb=>.inr hb)) HI.out).mono ?_;rintro e w4 ⟨vp4,rfl,hE4,hP4⟩;have hX4:Ext wd w4:=Below.trans hE3 (hE4.mono (hE3).size);have HP4:Hid (PSt w4 (fun b=>(ok b∨w.heap.size≤b)∧b≠gm+1) m (.slice Af m.free.length cf) (.slice Au m.up.length cu) (.slice At m.tasks.length ct) (.slice A3 n3 cc3) vp4 (ch++[n])):=hP4.weaken (fun b hb=>by have h1:=HSd.out;have h2:=HGM.out;have h3:=HWd.out.size;have h4:=(hE3).size;rcases hb with (hb | hb) | hb;exact ⟨.inl hb.1,by omega⟩;exact ⟨.inr (by omega),by omega⟩;exact ⟨.inr (by omega),by omega⟩);obtain ⟨_,_,_,_,_,_,_,_,Ap4,cp4,-,-,-,-,rfl,-,-⟩:=HP4.out.parts;unfold stv;refine hK.out _ _ (Below.trans hBd (Below.mono hX4 (by have:=HSd.out;omega))) (fun zH=>?_);clear hK K;try simp only [za,Act.put]
  refine rtR 9 (fun K hK=>?_);have hBZ:Blk w4 (gm+1) 103 _:=(HZ.out.ext HD.out).ext hX4;have z0:=hBZ.cell (k:=0) rfl;have z1:=hBZ.cell (k:=1) rfl;have z2:=hBZ.cell (k:=2) rfl;have z3:=hBZ.cell (k:=3) rfl;have z4:=hBZ.cell (k:=4) rfl;have z5:=hBZ.cell (k:=5) rfl;have z6:=hBZ.cell (k:=6) rfl;have z7:=hBZ.cell (k:=7) rfl;have z8:=hBZ.cell (k:=8) rfl;have hfz:∀j,w4.frozen? ⟨gm+1,j,none⟩=false:=fun j=>hBZ.frozen j
  have HBZ:=zh hBZ;clear hBZ;go_simp;refine hK.out _ _ (Below.trans (Below.trans hBd (Below.mono hX4 (by have:=HSd.out;omega))) (zct (gm+1) [.int .i64 m.w,.int .i64 m.h,.int .i64 m.l,.slice Af m.free.length cf,.slice Au m.up.length cu,.slice At m.tasks.length ct,.slice A3 n3 cc3,.slice Ap4 (zn m (ch++[n])).length cp4,.int .i64 (zO m (ch++[n]))] 0 w4)) (fun zH=>?_);clear hK K;try simp only [za,Act.put]
  refine wpAnyH_done (by kernel_rfl) ?_ _;go_wp2;refine case_fin9 (P:=fun W=>bodyPost Tryz.prog Tryz.f93 _ Exit.ret _ W) (g2:=gm+1) ?_ HBZ.out;intro WZ hbz hEb hkk;have y0:=hbz.cell (k:=0) rfl;have y1:=hbz.cell (k:=1) rfl;have y2:=hbz.cell (k:=2) rfl;have y3:=hbz.cell (k:=3) rfl;have y4:=hbz.cell (k:=4) rfl;have y5:=hbz.cell (k:=5) rfl;have y6:=hbz.cell (k:=6) rfl;have y7:=hbz.cell (k:=7) rfl;have y8:=hbz.cell (k:=8) rfl;refine bodyPost_ret (v:=stv m (.slice Af m.free.length cf) (.slice Au m.up.length cu) (.slice At m.tasks.length ct) (.slice A3 n3 cc3) (.slice Ap4 (zn m (ch++[n])).length cp4) (zO m (ch++[n]))) (by simp [results,Tryz.results93,go_sem,y0,y1,y2,y3,y4,y5,y6,y7,y8,stv]) rfl ⟨_,_,rfl,?_,?_⟩
  ·exact Below.trans (HWd.out.trans (Below.mono hX4 (Nat.le_refl _))) (hEb.mono (by have:=HGM.out;omega))
  ·exact (HP4.out.keep (fun b hb hlt=>hkk b hlt hb.2)).weaken (fun b hb=>hb.1)
 refine AllReadyH.cons rfl (fun K hK=>?_) .nil;go_simp;have hA6:Ext wd (wd.alloc (.cells #[.int .i64 n] 3)):=(Ext.refl wd).alloc _;have HC6:Hid ((wd.alloc (.cells #[.int .i64 n] 3)).cell? ⟨wd.heap.size,0,none⟩=some (.int .i64 n)):=zm _ _ _ rfl;generalize wd.heap.size=g6 at HC6⊢;generalize wd.alloc (.cells #[.int .i64 n] 3)=w6 at hA6 HC6⊢;have hE6:Ext wd w6:=Below.trans (Ext.refl wd) (hA6.mono ((Ext.refl wd)).size);refine hK.out _ _ (Below.trans hBd (Below.mono hE6 (by have:=HSd.out;omega))) (fun zH=>?_);clear hK K;try simp only [za,Act.put]
 refine rtR 4 (fun K hK=>?_);go_simp;go_at_call 46;refine (zaN w6 ((H.out.chs.below HWd.out).below hE6) (by omega)).mono ?_;rintro e w7 ⟨v7,rfl,hM7⟩;have hE7:Ext wd w7:=Below.trans hE6 (hM7.ext.mono (hE6).size);have HO7:Hid (zy w7 wd.heap.size v7 ch):=hM7.own.mono (hE6).size;have HC7:Hid (w7.cell? ⟨g6,0,none⟩=some (.int .i64 n)):=Ext.cell HC6.out hM7.ext;obtain ⟨A7,n7,c7,rfl⟩:=zb0 HO7.out;clear hM7;refine hK.out _ _ (Below.trans hBd (Below.mono hE7 (by have:=HSd.out;omega))) (fun zH=>?_);clear hK K;try simp only [za,Act.put]
 refine rtR 7 (fun K hK=>?_);refine za7 (ok:=fun _=>True) (by rfl) _ _ _ (by rfl) wd.heap.size ch [n] _ _ (by rfl) (by rfl) HO7.out (zcp HC7.out) (hE7).size (by simp;omega) ?_;intro v8 w8 ho8 hg8 hat8;have hE8:Ext wd w8:=zT hE7 hg8 (hE7).size (fun k hk=>za8 HO7.out hk);have HO8:=zh ho8;obtain ⟨A8,n8,cc8,rfl⟩:=zb0 ho8;clear ho8 hg8 hat8;refine hK.out _ _ (Below.trans hBd (Below.mono hE8 (by have:=HSd.out;omega))) (fun zH=>?_);clear hK K;try simp only [za,Act.put]
 refine rtR 8 (fun K hK=>?_);go_simp;go_at_call 66;refine (of_calls (ok:=fun b=>(ok b∧b<w.heap.size)∨wd.heap.size≤b) w8 (((H.out.maze.bound.below HWd.out).below hE8).weaken (fun b hb=>.inl hb)) HL.out HC.out ((Mk.ints ⟨HO8.out,hE8⟩).weaken (fun b hb=>.inr hb)) HI.out).mono ?_;rintro e w9 ⟨vp9,rfl,hE9,hP9⟩;have hX9:Ext wd w9:=Below.trans hE8 (hE9.mono (hE8).size);have HP9:Hid (PSt w9 (fun b=>(ok b∨w.heap.size≤b)∧b≠gm+1) m (.slice Af m.free.length cf) (.slice Au m.up.length cu) (.slice At m.tasks.length ct) (.slice A8 n8 cc8) vp9 (ch++[n])):=hP9.weaken (fun b hb=>by have h1:=HSd.out;have h2:=HGM.out;have h3:=HWd.out.size;have h4:=(hE8).size;rcases hb with (hb | hb) | hb;exact ⟨.inl hb.1,by omega⟩;exact ⟨.inr (by omega),by omega⟩;exact ⟨.inr (by omega),by omega⟩);obtain ⟨_,_,_,_,_,_,_,_,Ap9,cp9,-,-,-,-,rfl,-,-⟩:=HP9.out.parts;unfold stv;refine hK.out _ _ (Below.trans hBd (Below.mono hX9 (by have:=HSd.out;omega))) (fun zH=>?_);clear hK K;try simp only [za,Act.put]
 refine rtR 9 (fun K hK=>?_);have hBZ:Blk w9 (gm+1) 103 _:=(HZ.out.ext HD.out).ext hX9;have z0:=hBZ.cell (k:=0) rfl;have z1:=hBZ.cell (k:=1) rfl;have z2:=hBZ.cell (k:=2) rfl;have z3:=hBZ.cell (k:=3) rfl;have z4:=hBZ.cell (k:=4) rfl;have z5:=hBZ.cell (k:=5) rfl;have z6:=hBZ.cell (k:=6) rfl;have z7:=hBZ.cell (k:=7) rfl;have z8:=hBZ.cell (k:=8) rfl;have hfz:∀j,w9.frozen? ⟨gm+1,j,none⟩=false:=fun j=>hBZ.frozen j
 have HBZ:=zh hBZ;clear hBZ;go_simp;refine hK.out _ _ (Below.trans (Below.trans hBd (Below.mono hX9 (by have:=HSd.out;omega))) (zct (gm+1) [.int .i64 m.w,.int .i64 m.h,.int .i64 m.l,.slice Af m.free.length cf,.slice Au m.up.length cu,.slice At m.tasks.length ct,.slice A8 n8 cc8,.slice Ap9 (zn m (ch++[n])).length cp9,.int .i64 (zO m (ch++[n]))] 0 w9)) (fun zH=>?_);clear hK K;try simp only [za,Act.put]
 refine wpAnyH_done (by kernel_rfl) ?_ _;go_wp2;refine case_fin9 (P:=fun W=>bodyPost Tryz.prog Tryz.f93 _ Exit.ret _ W) (g2:=gm+1) ?_ HBZ.out;intro WZ hbz hEb hkk;have y0:=hbz.cell (k:=0) rfl;have y1:=hbz.cell (k:=1) rfl;have y2:=hbz.cell (k:=2) rfl;have y3:=hbz.cell (k:=3) rfl;have y4:=hbz.cell (k:=4) rfl;have y5:=hbz.cell (k:=5) rfl;have y6:=hbz.cell (k:=6) rfl;have y7:=hbz.cell (k:=7) rfl;have y8:=hbz.cell (k:=8) rfl;refine bodyPost_ret (v:=stv m (.slice Af m.free.length cf) (.slice Au m.up.length cu) (.slice At m.tasks.length ct) (.slice A8 n8 cc8) (.slice Ap9 (zn m (ch++[n])).length cp9) (zO m (ch++[n]))) (by simp [results,Tryz.results93,go_sem,y0,y1,y2,y3,y4,y5,y6,y7,y8,stv]) rfl ⟨_,_,rfl,?_,?_⟩
 ·exact Below.trans (HWd.out.trans (Below.mono hX9 (Nat.le_refl _))) (hEb.mono (by have:=HGM.out;omega))
 ·exact (HP9.out.keep (fun b hb hlt=>hkk b hlt hb.2)).weaken (fun b hb=>hb.1)
end Go.Proofs.YthbjngbhbbkkgaaGreat
namespace Go.Proofs.YthbjngbhbbkkgaaGreat
open Go.RowKit
attribute [local go_sem ↓] Go.wp_at_zero Go.wp_at_succ
theorem Tryz.infoProof:(Tryz.prog.info? 37).map (fun i=>(i.zero,i.size,i.bytes))=some (some (.agg #[.int .i64 0,.slice none 0 0,.slice none 0 0]),3,56):=by kernel_rfl
theorem eProof:ElemI 35 37 (.agg #[.int .i64 0,.slice none 0 0,.slice none 0 0]) 3 56:=⟨Tryz.underlying35,Tryz.infoProof,rfl,by decide⟩
inductive PrV (w:World) (ok:Nat→Prop):Value→PT→Prop
 | mk {t:Int} {side:List Int} {kids:List PT} {vs vk:Value} {cs:List Value} (hs:zf w ok vs side) (hk:Row w ok 3 vk kids.length cs)
  (he:∀(i:Nat) (hi:i<kids.length),PrV w ok (.agg #[cs.getD (i*3) undef,cs.getD (i*3+1) undef,cs.getD (i*3+2) undef]) kids[i]):PrV w ok (.agg #[.int .i64 t,vs,vk]) (.node t side kids)
theorem PrV.keepW {w w':World} {ok ok':Nat→Prop} {v:Value} {p:PT} (h:PrV w ok v p) (hS:zX ok w w') (hk:∀b,ok b→ok' b):PrV w' ok' v p:=by
 induction h with
 | mk h1 h2 _ ih=>exact .mk ((h1.keep hS).weaken hk) ((h2.keep hS).weaken hk) ih
theorem PrV.ext {w w':World} {ok:Nat→Prop} {v:Value} {p:PT} (h:PrV w ok v p) (hE:Ext w w'):PrV w' ok v p:=h.keepW (zX.of_below hE) (fun _ h=>h)
theorem PrV.zero (w:World) (ok:Nat→Prop):PrV w ok (.agg #[.int .i64 0,.slice none 0 0,.slice none 0 0]) PT.zero:=
 .mk (cs:=[]) (zf.nil _ _) ⟨none,0,rfl,Nat.le_refl _,zY.nil _ _ _ _⟩ (fun i hi=>absurd hi (by simp))
theorem PrV.form {w:World} {ok:Nat→Prop} {v:Value} {p:PT} (h:PrV w ok v p):∃As cs Ak ck,v=.agg #[.int .i64 p.task,.slice As p.side.length cs,.slice Ak p.kids.length ck]∧zf w ok (.slice As p.side.length cs) p.side:=by
 cases h with
 | mk h1 h2 _=>
  have h1':=h1;obtain ⟨As,cs,rfl,-,-⟩:=h1;obtain ⟨Ak,ck,rfl,-,-⟩:=h2;exact ⟨As,cs,Ak,ck,rfl,h1'⟩
theorem prove1_calls {ok:Nat→Prop} {m:MZ} {gs gt:Nat} {At:Option Addr} {ct tk:Nat} (x:Int) (w:World) (h5:w.cell? ⟨gs,5,none⟩=some (.slice At m.tasks.length ct)) (ht:w.cell? ⟨gt,0,none⟩=some (.int .i64 tk)) (hts:zbh w ok (.slice At m.tasks.length ct) m.tasks) (hl:Lens m) (htk:tk<m.tasks.length):
  Calls Tryz.prog 125 #[.int .i64 x,.pointer (some ⟨gs,0,none⟩),.pointer (some ⟨gt,0,none⟩)] w fun e w'=>e=.returned (.bool (decide (x∈(m.tasks.getD tk ([],[])).2)))∧w=w':=by
 obtain ⟨bt,offt,sn,u1,u2,rfl,-,-,-,hc2,-,hi2⟩:=zam hts htk;have hto:=(hl.tl _ (List.getElem_mem htk)).2;have hg:(m.tasks.getD tk ([],[])).2=(m.tasks[tk]).2:=by rw [List.getD_eq_getElem?_getD,List.getElem?_eq_getElem htk];rfl
 rw [hg];have HI:=zh hi2;obtain ⟨Au,cu,rfl,-,-⟩:=hi2;have k0:(0:Int)≤(tk:Int):=by omega
 have k1:(tk:Int)<(m.tasks.length:Int):=by omega
 clear hl hts hg
 go_enter Tryz.func125,Tryz.ntmps125
 go_wp2_with fail
 refine (zv x w HI.out (by omega)).mono ?_;rintro e w9 ⟨rfl,rfl⟩
 go_wp2_with fail
 go_ret;exact ⟨rfl,rfl⟩
end Go.Proofs.YthbjngbhbbkkgaaGreat
