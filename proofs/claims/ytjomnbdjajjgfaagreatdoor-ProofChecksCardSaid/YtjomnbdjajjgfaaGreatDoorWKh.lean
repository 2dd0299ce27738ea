import Derived.Test.YtjomnbdjajjgfaaGreatDoorWKg
import Derived.Deep.RegionHeld
import Derived.Test.YtjomnbdjajjgfaaGreatDoorRows
import Derived.Deep.AppendLies
set_option linter.unusedVariables false
set_option linter.unusedSimpArgs false
set_option maxRecDepth 100000
set_option maxHeartbeats 16000000
namespace Go.Proofs.YtjomnbdjajjgfaaGreatDoor
variable {a:Act} {l:Array Bool} {x:Int} {ch:List Int} {m:MZ} {c g i k n:Nat} {Y ok okc:Nat->Prop} {o oi:Oper} {vc:Value} {W w:World}
section
open Go
section
variable {P:Program} {ops:Array Oper} {Q:Exit->Act->World->Prop} {md:Region.Mode} {S:World->Prop}
def Bd (P:Program) (md:Region.Mode) (ops:Array Oper) (Q:Exit->Act->World->Prop) (S:World->Prop):Nat->Array Bool->Act->World->Prop
 | 0,l,a,w=>Region.ready md ops l=[]/\Q .normal a w
 | n+1,l,a,w=>(Region.ready md ops l=[]->Q .normal a w)/\
  ∀i∈Region.ready md ops l,wpOp P ops Q i (fun a' w'=>((∀k,(l.setIfInBounds i true).getD k true=true)\/S w')/\Bd P md ops Q S n (l.setIfInBounds i true) a' w') a w
theorem wpAny_of_last:∀(n:Nat) (l:Array Bool) (a:Act) (w:World),Bd P md ops Q S n l a w->wpAny P md ops Q n l a w
 | 0,_,_,_,h=>h
 | n+1,_,_,_,h=>⟨h.1,fun i D=>wpOp_mono (fun a' w' B=>wpAny_of_last n _ a' w' B.2) (h.2 i D)⟩
def waitB (md:Region.Mode) (ops:Array Oper) (l:Array Bool) (i:Nat):Bool:=(List.range ops.size).any fun k=>!(l.getD k true) && (match ops[k]? with | some o=>o.after.any (fun e=>Region.binds md e && e.on==i) | none=>false)
theorem wpAnyL_first {ok:Oper} {v:Value} (hi:ops[i]?=some oi) (hk:ops[k]?=some ok) (hw:∃e∈ok.after,Region.binds md e=true/\e.on=i)
  (J:∀(j:Nat) (o:Oper) cs b,ops[j]?=some o->o.op≠.select cs b) (hQ:∀c a w,Q (.panic c) (a.put oi.dst v) w->Q (.panic c) a w):
  ∀(n:Nat) (l:Array Bool) (a:Act) (w:World),l.getD k true=false->k≠i->
   (∀j oj,ops[j]?=some oj->j≠i->l.getD j true=false->(∀e∈oj.after,Region.binds md e=true->e.on≠i)->oi.apart ops oj=true)->
   i∈Region.ready md ops l->YieldsIf P ops S oi v a->S w->Bd P md ops Q S n (l.setIfInBounds i true) (a.put oi.dst v) w->Bd P md ops Q S (n+1) l a w:=by
 intro n
 induction n with
 | zero=>
  intro l a w _ _ _ K hy L H;refine ⟨fun h=>(by rw [h] at K;cases K),fun j hj=>?_⟩;by_cases B:j=i
  ·subst B;exact hy.wpOp hi L ⟨.inr L,H⟩
  ·have h:=ready_mono hj B;rw [H.1] at h;cases h
 | succ n ih=>
  intro l a w a2 V D K hy L H;refine ⟨fun h=>(by rw [h] at K;cases K),fun j hj=>?_⟩;by_cases B:j=i
  ·subst B;exact hy.wpOp hi L ⟨.inr L,H⟩
  ·have h1:=H.2 j (ready_mono hj B);obtain ⟨G,oj,E,O⟩:=mem_ready.1 hj
   have I:∀e∈oj.after,Region.binds md e=true->e.on≠i:=fun e he hb q=>by
    have h1:=O e he hb;have h0:=(mem_ready.1 K).1;rw [q] at h1;rcases En i l.size with h' | h'
    ·simp [h'] at h0 h1;rw [h0] at h1;cases h1
    ·simp [Array.getElem?_eq_none h'] at h1
   have a0:j≠k:=fun q=>by
    subst q;obtain ⟨e,he,hb,ho⟩:=hw;rw [hk] at E;injection E with E;subst E;exact I e he hb ho
   have h2:=wpOp_putIf E (D j oj E B G I) (fun cs b=>J i oi cs b hi) (fun cs b=>J j oj cs b E) hQ hy h1;have a3:(l.setIfInBounds j true).getD k true=false:=by rw [getD_set_ne true a0];exact a2
   refine wpOp_mono (fun a' w' h3=>?_) h2
   have M:S w':=h3.2.1.resolve_left fun q=>by
    have h:=q k;rw [getD_set_ne true a0,getD_set_ne true (Ne.symm V),a2] at h;cases h
   refine ⟨.inr M,ih (l.setIfInBounds j true) a' w' a3 V (fun x ox hx a4 a5 a1=>?_) (ready_mono K (Ne.symm B)) h3.1 M ?_⟩
   ·by_cases U:j=x
    ·subst U;exact D j ox hx a4 G a1
    ·rw [getD_set_ne true U] at a5;exact D x ox hx a4 a5 a1
   ·rw [Array.setIfInBounds_comm _ _ B];exact h3.2.2
theorem wpAnyL_take {v:Value} (L:ops[i]?=some oi) (hs:Region.noSelect ops=true) (hf:Region.free md ops l i=true) (O:(Region.ready md ops l).contains i=true) (K:waitB md ops l i=true)
  (hQ:∀c a w,Q (.panic c) (a.put oi.dst v) w->Q (.panic c) a w) (hy:YieldsIf P ops S oi v a) (hS:S w) (h:Bd P md ops Q S n (l.setIfInBounds i true) (a.put oi.dst v) w):Bd P md ops Q S (n+1) l a w:=by
 unfold waitB at K;obtain ⟨k,-,M⟩:=ET.1 K;rw [Ed,Bool.not_eq_true'] at M;obtain ⟨h1,h2⟩:=M
 cases E:ops[k]? with
 | none=>rw [E] at h2;cases h2
 | some ok=>
  rw [E] at h2
  have U:∃e∈ok.after,Region.binds md e=true/\e.on=i:=by
   obtain ⟨x,J,h3,V⟩:=(by simpa using h2:∃x,∃h:x<ok.after.size,Region.binds md ok.after[x]=true/\ok.after[x].on=i);exact ⟨_,Array.getElem_mem J,h3,V⟩
  have G:k≠i:=fun q=>by
   subst q;have I:k∈Region.ready md ops l:=by simpa using O
   obtain ⟨h0,oj,B,D⟩:=mem_ready.1 I;rw [E] at B;injection B with B;subst B;obtain ⟨e,he,hb,J⟩:=U;have h3:=D e he hb;rw [J] at h3;rcases En k l.size with h' | h'
   ·simp [h'] at h0 h3;rw [h0] at h3;cases h3
   ·simp [Array.getElem?_eq_none h'] at h3
  exact wpAnyL_first L E U (Region.noSelect_spec hs) hQ n l a w h1 G (Region.free_spec L hf) (by simpa using O) hy hS h
def Ay (P:Program) (md:Region.Mode) (ops:Array Oper) (Q:Exit->Act->World->Prop) (S:World->Prop) (n:Nat) (l:Array Bool) (a:Act) (w:World) (rs:List Nat):Prop:=
 ∀i∈rs,wpOp P ops Q i (fun a' w'=>((∀k,(l.setIfInBounds i true).getD k true=true)\/S w')/\Bd P md ops Q S n (l.setIfInBounds i true) a' w') a w
theorem Ay.nil:Ay P md ops Q S n l a w []:=fun _ h=>by cases h
theorem Ay.cons {n:Nat} {l:Array Bool} {a:Act} {w:World} {i:Nat} {o:Oper} {rs:List Nat} (E:ops[i]?=some o)
  (h:∀K':Act->World->Prop,Shut (∀a w,S w->(S w->Bd P md ops Q S n (l.setIfInBounds i true) a w)->K' a w)->if Region.wanted o (yielded ops a.tmps)=true then Oper.wp P o a w K' Q else K' (a.put o.dst undef) w)
  (G:Ay P md ops Q S n l a w rs):Ay P md ops Q S n l a w (i :: rs):=fun j hj=>by
 rcases EG.1 hj with rfl | hj
 ·exact wpOp_step E (fun K' D=>h K' (fun a w B hW=>D a w ⟨.inr B,hW B⟩))
 ·exact G j hj
theorem Ay.last (G:ops[i]?=some o) (B:(l.setIfInBounds i true).all (fun b=>b)=true)
  (h:∀K':Act->World->Prop,Shut (∀a w,Bd P md ops Q S n (l.setIfInBounds i true) a w->K' a w)->if Region.wanted o (yielded ops a.tmps)=true then Oper.wp P o a w K' Q else K' (a.put o.dst undef) w):Ay P md ops Q S n l a w [i]:=fun j E=>by
 obtain rfl:=Ey.1 E;refine wpOp_step G (fun K' D=>h K' (fun a w hW=>D a w ⟨.inl fun k=>?_,hW⟩));rw [Array.all_eq_true] at B;rcases En k (l.setIfInBounds j true).size with h' | h'
 ·rw [Array.getD_eq_getD_getElem?,Array.getElem?_eq_getElem h'];exact B k h'
 ·rw [Array.getD_eq_getD_getElem?,Array.getElem?_eq_none h'];rfl
theorem Cy {rs:List Nat} (D:Region.ready md ops l=rs) (B:rs≠[]) (h:Ay P md ops Q S n l a w rs):Bd P md ops Q S (n+1) l a w:=
 ⟨fun h0=>absurd (D ▸ h0) B,D ▸ h⟩
theorem AI (B:Region.ready md ops l=[]) (h:Q .normal a w):∀n,Bd P md ops Q S n l a w
 | 0=>⟨B,h⟩
 | _+1=>⟨fun _=>h,by rw [B];simp⟩
theorem put_defers (a:Act) (d:Option Nat) (v:Value):(a.put d v).defers=a.defers:=by cases d <;> rfl
theorem Ct (i:Nat) {v:Value} (B:∀c (a a':Act) w,a.defers=a'.defers->Q (.panic c) a w->Q (.panic c) a' w) (D:S w)
  (h:Bd P md ops Q S n (l.setIfInBounds i true) (a.put oi.dst v) w) (I:ops[i]?=some oi:=by rfl) (M:∀w,S w->(execOp a.eval oi).run P w=.ok (.value v) w:=by (intro w E;go_simp;try with_reducible rfl)) (L:Region.wanted oi (yielded ops a.tmps)=true:=by rfl)
  (K:Region.noSelect ops=true:=by kernel_rfl) (hf:Region.free md ops l i=true:=by kernel_rfl) (J:(Region.ready md ops l).contains i=true:=by kernel_rfl) (G:waitB md ops l i=true:=by kernel_rfl):Bd P md ops Q S (n+1) l a w:=
 wpAnyL_take I K hf J G (fun c a' w' h=>B c _ a' w' (put_defers _ _ _) h) (.inl ⟨L,M⟩) D h
theorem DL (i:Nat) (v:Value) (B:∀c (a a':Act) w,a.defers=a'.defers->Q (.panic c) a w->Q (.panic c) a' w) (D:S w)
  (L:∀w,S w->(execOp a.eval oi).run P w=.ok (.value v) w) (h:Bd P md ops Q S n (l.setIfInBounds i true) (a.put oi.dst v) w) (G:ops[i]?=some oi:=by rfl) (K:Region.wanted oi (yielded ops a.tmps)=true:=by rfl)
  (J:Region.noSelect ops=true:=by kernel_rfl) (hf:Region.free md ops l i=true:=by kernel_rfl) (I:(Region.ready md ops l).contains i=true:=by kernel_rfl) (E:waitB md ops l i=true:=by kernel_rfl):Bd P md ops Q S (n+1) l a w:=
 wpAnyL_take G J hf I E (fun c a' w' h=>B c _ a' w' (put_defers _ _ _) h) (.inl ⟨K,L⟩) D h
theorem rlR (i:Nat)
  (h:∀K':Act->World->Prop,Shut (∀a w,S w->(S w->Bd P md ops Q S n (l.setIfInBounds i true) a w)->K' a w)->if Region.wanted o (yielded ops a.tmps)=true then Oper.wp P o a w K' Q else K' (a.put o.dst undef) w)
  (B:ops[i]?=some o:=by rfl) (D:Region.ready md ops l=[i]:=by kernel_rfl):Bd P md ops Q S (n+1) l a w:=Cy D (by simp) (.cons B h .nil)
theorem rlZ (i:Nat)
  (h:∀K':Act->World->Prop,Shut (∀a w,Bd P md ops Q S n (l.setIfInBounds i true) a w->K' a w)->if Region.wanted o (yielded ops a.tmps)=true then Oper.wp P o a w K' Q else K' (a.put o.dst undef) w)
  (D:ops[i]?=some o:=by rfl) (B:(l.setIfInBounds i true).all (fun b=>b)=true:=by kernel_rfl) (E:Region.ready md ops l=[i]:=by kernel_rfl):Bd P md ops Q S (n+1) l a w:=Cy E (by simp) (.last D B h)
theorem wp_dark {c:Code} (h:∀Q':Exit->Act->World->Prop,(∀c (a a':Act) w,a.defers=a'.defers->Q' (.panic c) a w->Q' (.panic c) a' w)->Q'=Q->c.wp P Q' a w) (hp:∀c (a a':Act) w,a.defers=a'.defers->Q (.panic c) a w->Q (.panic c) a' w:=by (intro c a a' w B h;obtain ⟨t,d⟩:=a;obtain ⟨t',d'⟩:=a';cases B;exact h)):c.wp P Q a w:=h Q hp rfl
theorem Ar {id:Nat} (hm:P.follows .mixedOrders=true) (B:S w.drew) (h:S w.drew->Bd P .any ops Q S ops.size (Array.replicate ops.size false) a w.drew):(Code.region id ops true).wp P Q a w:=
 wp_region_any hm (wpAny_of_last _ _ _ _ (h B))
end
end
section
open Go.RowKit
attribute [local go_sem ↓] Go.wp_at_zero Go.wp_at_succ
def isChB (m:MZ) (ch:List Int):Bool:=(List.range ch.length).all fun k=>decide (ch.getD k 0∈BK m (ch.take k))
theorem isCh_of {m:MZ} {ch:List Int} (h:∀k,k<ch.length->ch.getD k 0∈BK m (ch.take k)):∀k,k<=ch.length->zy m (ch.take k)
 | 0,_=>by simpa using zy.nil
 | k+1,B=>by
  rw [DY (by omega)];have h1:=h k (by omega);rw [DP,DO (by omega),Ew] at h1;exact .snoc (isCh_of h k (by omega)) h1
theorem BY:isChB m ch=true↔zy m ch:=by
 unfold isChB;rw [EU];constructor
 ·intro h;have:=isCh_of (m:=m) (ch:=ch) (fun k B=>EV (h k (EQ.2 B))) ch.length (DR _)
  rwa [Ec] at this
 ·intro h k B;have B:=EQ.1 B;rw [Eb,DP,DO B,Ew];exact h.at B
def DM (m:MZ) (ch:List Int):Bool:=decide (Bq m=0) && isChB m ch
def SoPost (w:World) (Y:Nat->Prop) (m:MZ) (ch:List Int) (e:Ending) (w':World):Prop:=
 ∃v,e=.returned (.tuple #[v,.bool (DM m ch)])/\za w w'/\((DM m ch=false/\v=.pointer none)\/(DM m ch=true/\∃p,v=.pointer (some ⟨p,0,none⟩)/\StC w' (fun b=>Y b\/w.heap.size<=b) p m ch))
theorem Da (h:DM m ch=true):AN m/\zy m ch:=by
 unfold DM at h;rw [Ed,Eb] at h;exact ⟨AN.of h.1,BY.1 h.2⟩
theorem stateOf_calls {v:Value} (w:World) (hm:zt w Y v m) (hl:Lens m) (d7:zk w okc vc ch) (f2:ch.length<=20000000000000):
  Calls Tryz.prog 183 #[v,vc] w (SoPost w Y m ch):=by
 have b6:=hm;obtain ⟨vfr,vup,vts,rfl,_,_,_⟩:=hm;have a7:=zh b6;clear b6;obtain ⟨Ac,cc,rfl,f1,b7⟩:=d7;have c6:=zh b7;clear b7;have HL:=zh hl;clear hl;obtain ⟨ck,b1⟩:=EY (Bq m);have U:=zh b1;clear b1
 go_enter Tryz.func183,Tryz.ntmps183
 go_wp2_with fail
 generalize a4:w.alloc (.cells #[.int .i64 m.w,.int .i64 m.h,.int .i64 m.l,vfr,vup,vts] 32)=w1;have b0:za w w1:=by rw [<-a4];exact (za.refl w).alloc _
 have b4:zd w1 w.heap.size 32 #[.int .i64 m.w,.int .i64 m.h,.int .i64 m.l,vfr,vup,vts]:=by rw [<-a4];exact EE _ _
 clear a4;obtain ⟨m0,m1,m2,m3,m4,m5⟩:=zq b4;have c0:=za.rule m0;have c1:=za.rule m1;have c2:=za.rule m2;have c3:=za.rule m3;have c4:=za.rule m4;have c5:=za.rule m5;clear m0 m1 m2 m3 m4 m5 b4;refine (Cr w1 (a7.out.below b0) HL.out).mono ?_;rintro e w2 ⟨rfl,a5⟩;have a5:za w1 w2:=a5;have a9:za w w2:=b0.trans a5;rw [<-U.out];by_cases h0:ck=0
 case neg=>
  have f3:(ck==0)=false:=by rw [Ee];exact h0
  have f4:(ck != 0)=true:=by rw [bne_iff_ne];exact h0
  have E:DM m ch=false:=by unfold DM;rw [<-U.out,DV h0];rfl
  have B:SoPost w Y m ch (.returned (.tuple #[.pointer none,.bool false])) w2:=⟨.pointer none,by rw [E],a9,.inl ⟨E,rfl⟩⟩;have D:=zh B;clear B E h0
  go_wp2_with fail
  go_ret2
  exact D.out
 case pos=>
  subst h0;have HG:=zh (AN.of U.out.symm);have I:=HG.out.dim;have e1:=I.n1;have b5:=I.layer;have HD:=zh I;clear I;have a3:Hid (DM m ch=isChB m ch):=by show _=_;unfold DM;rw [<-U.out];rfl
  go_wp2_with fail
  refine (Ah m.w m.h m.l vfr vup vts w2 (by omega) (by omega)).mono ?_;rintro e w3 ⟨rfl,a0⟩;have a0:za w2 w3:=a0;have V:za w w3:=a9.trans a0;have e5:za w1 w3:=za.trans ‹za w1 w2› a0;by_cases K:m.w*m.h*m.l<(ch.length:Int)
  ·have b3:decide (m.w*m.h*m.l<(ch.length:Int))=true:=DU K
   have E:DM m ch=false:=by
    rw [a3.out,Bool.eq_false_iff];intro h;have h1:=(BY.1 h).len HG.out;have h2:m.n=m.w*m.h*m.l:=rfl;omega
   have B:SoPost w Y m ch (.returned (.tuple #[.pointer none,.bool false])) w3:=⟨.pointer none,by rw [E],V,.inl ⟨E,rfl⟩⟩;have D:=zh B;clear B E
   go_wp2_with fail
   go_ret2
   exact D.out
  ·have b3:decide (m.w*m.h*m.l<(ch.length:Int))=false:=DV K;have d9:ch.length<=300:=by omega
   clear K b5 e1
   go_wp2_with fail
   refine (begin_c w3 (a7.out.below V) (by have:=HG.out.tk;omega)).mono ?_;rintro e w4 ⟨p,rfl,e2,a2⟩;have c8:za w w4:=V.trans e2
   have H0:Hid (StC w4 (fun b=>Y b\/w.heap.size<=b) p m (ch.take 0)):=by
    have:=V.size
    exact a2.weaken fun b hb=>by
     rcases hb with hb | hb
     ·exact .inl hb
     ·exact .inr (by omega)
   have a1:Hid (zy m (ch.take 0)):=by show zy m (ch.take 0);simpa using zy.nil
   clear a2 b3 c0 c1 c2 c3 c4 c5
   go_wp2_with fail
   go_loopg [6,23] ch.length (fun gk v6 v wr=>∃(k p:Nat),v6=.pointer (some ⟨p,0,none⟩)/\v=.int .i64 k/\k<=ch.length/\gk=ch.length - k/\Hid (StC wr (fun b=>Y b\/w.heap.size<=b) p m (ch.take k))/\Hid (zy m (ch.take k))/\Hid (za w wr))
   case atStart=>exact ⟨0,p,rfl,rfl,Ef _,rfl,H0,a1,c8⟩
   clear H0 a1
   case round=>
    obtain ⟨k,p,rfl,rfl,hk,rfl,hS,hI,hX⟩:=hrel;have O:=hX.out;rcases En k ch.length with L | hge
    ·obtain ⟨bc,oc,rfl,_,G⟩:=zE c6.out L L;obtain ⟨n,hn⟩:=EY (ch[k]);rw [<-hn] at G;have q0:=za.rule G;have HN:=zh hn;clear G hn
     go_wp2_with fail
     refine (candidates_c wr hS.out HG.out HL.out hI.out).mono ?_;rintro e w6 ⟨v6,rfl,hM⟩;have M:za wr w6:=hM.ext;have HM:=zh hM.ints;clear hM
     go_wp2_with fail
     refine (Ai n w6 HM.out (by have:=CE HL.out (ch.take k);omega)).mono ?_;rintro e w7 ⟨rfl,rfl⟩;by_cases J:n∈BK m (ch.take k)
     ·rw [DU J];have a8:=zh J;clear J;have b2:Hid (ch.take k++[n]=ch.take (k+1)):=by show _=_;rw [DY L,HN.out]
      go_wp2_with fail
      refine (with_c w6 (hS.out.ext M) HG.out HL.out hI.out a8.out).mono ?_;rintro e w8 ⟨q,rfl,b8,hq⟩
      have HQ:Hid (StC w8 (fun b=>Y b\/w.heap.size<=b) q m (ch.take (k+1))):=by
       have:=(O.trans M).size;rw [<-b2.out]
       exact hq.weaken fun b hb=>by
        rcases hb with hb | hb
        ·exact hb.1
        ·exact .inr (by omega)
      have c9:Hid (zy m (ch.take (k+1))):=by rw [<-b2.out];exact .snoc hI.out a8.out
      have d6:Hid (za w w8):=O.trans (M.trans b8);clear hq b8 M O
      go_wp2_with fail
      go_roundg (ch.length - (k+1))
      case measure=>omega
      case rel=>exact ⟨k+1,q,rfl,by go_num,L,rfl,HQ,c9,d6⟩
     ·rw [DV J]
      have E:DM m ch=false:=by
       rw [a3.out,Bool.eq_false_iff];intro h;have h1:=(BY.1 h).at L;rw [<-HN.out] at h1;exact J h1
      have B:SoPost w Y m ch (.returned (.tuple #[.pointer none,.bool false])) w6:=⟨.pointer none,by rw [E],O.trans M,.inl ⟨E,rfl⟩⟩;have D:=zh B;clear B E J
      go_wp2_with fail
      go_ret2
      exact D.out
    ·have d8:k=ch.length:=by omega
     subst d8;have c7:Hid (ch.take ch.length=ch):=Ec
     have B:SoPost w Y m ch (.returned (.tuple #[.pointer (some ⟨p,0,none⟩),.bool true])) wr:=by
      have h1:=hI.out;have h2:=hS.out;rw [c7.out] at h1 h2;have h3:DM m ch=true:=by rw [a3.out];exact BY.2 h1
      exact ⟨_,by rw [h3],O,.inr ⟨h3,p,rfl,h2⟩⟩
     have D:=zh B;clear B
     go_wp2_with fail
     go_ret2
     exact D.out
def zu (m:MZ) (ch:List Int):List Int:=if DM m ch=true then BK m ch else []
theorem CV {v:Value} (w:World) (hm:zt w Y v m) (hl:Lens m) (I:zk w okc vc ch) (U:ch.length<=20000000000000):
  Calls Tryz.prog 133 #[v,vc] w fun e w'=>∃v',e=.returned v'/\Mk w w' v' (zu m ch):=by
 have J:=hm;obtain ⟨vfr,vup,vts,rfl,_,_,_⟩:=hm;have O:=zh J;clear J;have V:=zh hl;clear hl;have M:=zh I;obtain ⟨Ac,cc,rfl,a4,_⟩:=I;obtain ⟨ok,K⟩:=EY (DM m ch);have B:=zh K;clear K
 go_enter Tryz.func133,Tryz.ntmps133
 go_wp2_with fail
 generalize L:w.alloc (.cells #[.int .i64 m.w,.int .i64 m.h,.int .i64 m.l,vfr,vup,vts] 32)=w1;have E:za w w1:=by rw [<-L];exact (za.refl w).alloc _
 clear L;refine (stateOf_calls w1 (O.out.below E) V.out (M.out.below E) U).mono ?_;rintro e w2 ⟨v2,rfl,hE,hp⟩;rw [<-B.out];rw [<-B.out] at hp;have G:za w w2:=E.trans hE;rcases hp with ⟨h1,rfl⟩ | ⟨h1,p,rfl,h2⟩
 ·subst h1
  have D:Hid (Mk w w2 (.slice none 0 0) (zu m ch)):=by
   show Mk _ _ _ _;unfold zu;rw [<-B.out];exact Mk.nil' G
  go_wp2_with fail
  go_ret;exact ⟨_,rfl,D.out⟩
 ·subst h1;have HS:=zh h2;clear h2
  go_wp2_with fail
  refine (candidates_c w2 HS.out (Da B.out.symm).1 V.out (Da B.out.symm).2).mono ?_;rintro e w3 ⟨v3,rfl,hM⟩
  have D:Hid (Mk w w3 v3 (zu m ch)):=by
   show Mk _ _ _ _;unfold zu;rw [<-B.out,if_pos rfl];exact G.mono_mk hM
  clear hM
  go_wp2_with fail
  go_ret;exact ⟨_,rfl,D.out⟩
end
section
open Go.RowKit
def zY (m:MZ) (ch:List Int):List (List Int):=Aw m ch++(if cmpC m ch=true then [[]] else [])
theorem DG (h:cmpC m ch=false):zY m ch=Aw m ch:=by unfold zY;rw [h];simp
theorem splitL_cmp (h:cmpC m ch=true):zY m ch=Aw m ch++[[]]:=by unfold zY;rw [h];simp
theorem finB_snoc {qs:List (List Int)} {p:List Int}:finB m (qs++[p++[x]])=decide (x∈(m.tasks.getD qs.length ([],[])).2):=by
 unfold finB;rw [DZ,Er,Nat.add_sub_cancel];have:(qs++[p++[x]]).getD qs.length []=p++[x]:=by simp [DP]
 rw [this];simp
theorem finB_nil {qs:List (List Int)}:finB m (qs++[[]])=false:=by
 unfold finB;rw [DZ,Er,Nat.add_sub_cancel];have:(qs++[([]:List Int)]).getD qs.length []=[]:=by simp [DP]
 rw [this];rfl
theorem addN_snoc {qs:List (List Int)} {p:List Int}:BQ (qs++[p]) x=qs++[p++[x]]:=by
 unfold BQ;rw [DZ,Er,Nat.add_sub_cancel,List.set_append_right _ _ (DR _)];simp
theorem split_step {qs:List (List Int)} {p:List Int} (x:Int) (E:Aw m ch=qs++[p]) (I:qs.length<m.tasks.length):
  zY m (ch++[x])=qs++[p++[x]]++(if x∈(m.tasks.getD qs.length ([],[])).2 then [[]] else []):=by
 have D:decide (m.tasks.length=0)=false:=DV (by omega);unfold zY cmpC;rw [Db,E];unfold Bv;rw [addN_snoc,finB_snoc,DZ,Er];by_cases B:x∈(m.tasks.getD qs.length ([],[])).2
 ·rw [DU B,if_pos B];by_cases G:qs.length+1<m.tasks.length
  ·rw [if_pos ⟨rfl,G⟩];unfold cmpB;rw [finB_nil,D];simp
  ·rw [if_neg (fun h=>G h.2)];unfold cmpB;rw [finB_snoc,D,DU B,DU (show (qs++[p++[x]]).length=m.tasks.length by simp;omega)];simp
 ·rw [DV B,if_neg B,if_neg (fun h=>by cases h.1)];unfold cmpB;rw [finB_snoc,D,DV B];simp
theorem splitL_nil (m:MZ):zY m []=[[]]:=by
 unfold zY cmpC;rw [psOf_nil];unfold ps0;by_cases h:m.tasks.length=0
 ·rw [if_pos h];unfold cmpB;rw [DU h];simp
 ·rw [if_neg h];unfold cmpB;rw [DV h];have:finB m [[]]=false:=finB_nil (qs:=[]);rw [this];simp
theorem ps_form (h:zy m ch) (D:cmpC m ch=false):∃qs p,Aw m ch=qs++[p]/\qs.length<m.tasks.length/\zY m ch=qs++[p]:=by
 have h1:=h.psOk;have h2:=h1.pn (BS D);rcases List.eq_nil_or_concat (Aw m ch) with h3 | ⟨qs,p,h3⟩
 ·rw [h3] at h2;simp at h2
 ·rw [List.concat_eq_append] at h3;have B:=h1.pl;rw [h3] at B;simp only [DZ,Er] at B;exact ⟨qs,p,h3,by omega,by rw [DG D,h3]⟩
theorem splitL_len (h:zy m ch):(cmpC m ch=true->(zY m ch).length=m.tasks.length+1)/\(cmpC m ch=false->(zY m ch).length<=m.tasks.length/\0<(zY m ch).length):=by
 refine ⟨fun hc=>?_,fun hc=>?_⟩
 ·rw [splitL_cmp hc,DZ,Er];unfold cmpC cmpB at hc;rw [ES,Ed,Eb,Eb] at hc;rcases hc with hc | hc
  ·have:=h.psOk.pl;omega
  ·omega
 ·obtain ⟨qs,p,h1,h2,h3⟩:=ps_form h hc;rw [h3,DZ,Er];omega
section
open Go.Lib
theorem CG (d:Array Int) (E:∀i j,i<=j->j<d.size->d[i]!<=d[j]!):∀m,m<=d.size->(compactUpTo d m).Pairwise (·<·)/\∀x,x∈compactUpTo d m↔∃j,j<m/\d[j]! =x
 | 0,_=>⟨by simp [compactUpTo],fun x=>by simp [compactUpTo]⟩
 | m+1,hm=>by
  obtain ⟨h1,h2⟩:=CG d E m (by omega);rw [compactUpTo_succ];by_cases hk:keeps d m=true
  ·rw [if_pos hk];refine ⟨?_,fun x=>?_⟩
   ·rw [List.pairwise_append];refine ⟨h1,by simp,fun a I b G=>?_⟩;rw [Ey] at G;subst G;obtain ⟨j,D,rfl⟩:=(h2 a).1 I;unfold keeps at hk;rw [Eb] at hk;rcases hk with hk | hk
    ·omega
    ·have h3:=E j (m - 1) (by omega) (by omega);have K:=E (m - 1) m (by omega) (by omega);omega
   ·rw [EH,h2,Ey];constructor
    ·rintro (⟨j,D,e⟩ | e)
     ·exact ⟨j,by omega,e⟩
     ·exact ⟨m,by omega,e.symm⟩
    ·rintro ⟨j,D,e⟩;by_cases B:j=m
     ·subst B;exact .inr e.symm
     ·exact .inl ⟨j,by omega,e⟩
  ·rw [if_neg hk,List.append_nil];refine ⟨h1,fun x=>?_⟩;rw [h2];unfold keeps at hk;rw [Eb] at hk;have J:m≠0:=fun h=>hk (.inl h)
   have he:d[m]! =d[m - 1]!:=Decidable.byContradiction fun h=>hk (.inr h)
   constructor
   ·rintro ⟨j,D,e⟩;exact ⟨j,by omega,e⟩
   ·rintro ⟨j,D,e⟩;by_cases B:j=m
    ·subst B;exact ⟨j - 1,by omega,by rw [<-he];exact e⟩
    ·exact ⟨j,by omega,e⟩
theorem compact_sorted (l:List Int):(compact (Bc l)).Pairwise (·<·)/\∀x,x∈compact (Bc l)↔x∈l:=by
 have hp:(Bc l).Pairwise (fun x y=>decide (x<=y)=true):=by
  unfold Bc;exact List.pairwise_mergeSort (fun a b c h1 h2=>by simp only [Eb] at *;omega) (fun a b=>by simp only [ES,Eb];omega) l
 have G:∀i j,i<=j->j<(Bc l).toArray.size->(Bc l).toArray[i]!<=(Bc l).toArray[j]!:=by
  intro i j E B;rw [List.size_toArray] at B;have D:i<(Bc l).length:=by omega
  rw [getElem!_pos _ i (by simpa using D),getElem!_pos _ j (by simpa using B)];simp only [List.getElem_toArray];rcases En i j with h | h
  ·have:=List.pairwise_iff_getElem.1 hp i j D B h;simpa using this
  ·have:i=j:=by omega
   subst this;exact Int.le_refl _
 obtain ⟨h1,h2⟩:=CG (Bc l).toArray G (Bc l).length (by simp);refine ⟨h1,fun x=>?_⟩;unfold compact;rw [h2,<-mem_sortL (l:=l)];constructor
 ·rintro ⟨j,B,e⟩;rw [getElem!_pos _ j (by simpa using B)] at e;simp only [List.getElem_toArray] at e;rw [<-e];exact DS B
 ·intro I;obtain ⟨j,B,e⟩:=Ex I;exact ⟨j,B,by rw [getElem!_pos _ j (by simpa using B)];simpa using e⟩
end
theorem pw_eq {l l':List Int} (h:l.Pairwise (·<·)) (E:l'.Pairwise (·<·)) (he:∀x,x∈l↔x∈l'):l=l':=by
 have n1:l.Nodup:=h.imp (fun D=>by omega);have n2:l'.Nodup:=E.imp (fun D=>by omega);have B:l.Perm l':=(List.perm_ext_iff_of_nodup n1 n2).2 he;exact List.Perm.eq_of_pairwise (le:=fun a b=>a<b) (fun a b _ _ h1 h2=>by omega) h E B
theorem range_pw (n:Nat):((List.range n).map Int.ofNat).Pairwise (·<·):=by
 rw [List.pairwise_map];exact (List.pairwise_lt_range (n:=n)).imp (fun h=>by simpa using h)
def begL (m:MZ) (t:Nat) (ch:List Int):List Int:=((List.range m.n.toNat).map Int.ofNat).filter fun k=>decide (k∈(m.tasks.getD t ([],[])).1) && ze m t k && !decide (k∈ch)
theorem cand_beg (g:AN m) {qs:List (List Int)} (E:Aw m ch=qs++[[]]) (I:cmpC m ch=false) (B:qs.length<m.tasks.length):BK m ch=begL m qs.length ch:=by
 unfold BK BV;have h1:(qs++[([]:List Int)]).length - 1=qs.length:=by simp
 have h2:(qs++[([]:List Int)]).getD qs.length []=[]:=by simp [DP]
 unfold cmpC at I;rw [I,E,if_neg (by simp),h1,h2];show List.filter _ _=_;obtain ⟨s1,s2⟩:=compact_sorted (m.tasks.getD qs.length ([],[])).1;refine pw_eq (s1.filter _) ((range_pw _).filter _) fun x=>?_;show x∈List.filter _ _↔x∈begL m qs.length ch;unfold begL;rw [EO,EO,s2,EP];simp only [Ed,Eb,Bool.not_eq_true',Eo,EQ];constructor
 ·rintro ⟨D,hf,G⟩;rw [DP,DO B,Ew] at D;have J:=g.tn _ (DS B) x (.inl D);refine ⟨⟨x.toNat,by omega,by show (x.toNat:Int)=x;omega⟩,⟨?_,hf⟩,G⟩;rw [DP,DO B,Ew];exact D
 ·rintro ⟨_,⟨D,hf⟩,G⟩;exact ⟨D,hf,G⟩
theorem cand_on {qs:List (List Int)} {p:List Int} {y:Int} (B:Aw m ch=qs++[p++[y]]) (D:cmpC m ch=false):BK m ch=(zo m y).filter (zD m ch qs.length p (m.tasks.getD qs.length ([],[])).1):=by
 unfold BK BV;have h1:(qs++[p++[y]]).length - 1=qs.length:=by simp
 have h2:(qs++[p++[y]]).getD qs.length []=p++[y]:=by simp [DP]
 unfold cmpC at D;rw [D,B,if_neg (by simp),h1,h2];simp
theorem cand_cmp (B:cmpC m ch=true):BK m ch=[]:=by
 unfold BK BV;unfold cmpC at B;rw [if_pos B]
structure SpA (w1 wr:World) (v u:Value) (vs:List Value) (S:Nat) (qs:List (List Int)) (p:List Int):Prop where
 ext:za w1 wr
 lo:w1.heap.size<=S
 hi:S<=wr.heap.size
 own:BN wr w1.heap.size v (vs++[u])
 vl:vs.length=qs.length
 old:∀(i:Nat) q,qs[i]?=some q->∃x,vs[i]?=some x/\zB wr w1.heap.size x q/\∀g,x.ownBlock=some g->g<S
 cur:zB wr S u p
def SpV (w1 wr:World) (v:Value) (qs:List (List Int)) (p:List Int):Prop:=∃u vs S,SpA w1 wr v u vs S qs p
theorem intsTake {A:Option Addr} {N:Nat} {l:List Int} (h:zk w ok (.slice A n c) l) (I:N<=n):zk w ok (.slice A N c) (l.take N):=by
 obtain ⟨A',c',e,J,K,G⟩:=h;injection e with e1 e2 e3;subst e1 e2 e3;refine ⟨A,c,by rw [EJ,Nat.min_eq_left (by omega)],by rw [EJ];omega,by simp,fun hp=>?_⟩;rw [EJ] at hp;obtain ⟨b,off,e,E,B⟩:=G (by omega);refine ⟨b,off,e,E,fun j u D=>B j u ?_⟩;rw [List.map_take,List.getElem?_take] at D
 split at D
 ·exact D
 ·cases D
theorem row_one {u:Value} (h:W.cell? ⟨g,0,none⟩=some u):Ae W (fun _=>True) 1 (.slice (some ⟨g,0,none⟩) 1 1) 1 [u]:=
 ⟨some ⟨g,0,none⟩,1,rfl,DR _,rfl,fun _=>⟨g,0,rfl,trivial,fun j x B=>by
  match j,B with
  | 0,B=>
   have:x=u:=by simpa using B.symm
   subst this;exact h⟩⟩
theorem BT {B:Nat} {v:Value} {l:List Int} (h:zB w B v l):∃A n c,v=.slice A n c:=by
 obtain ⟨A,c,e,_⟩:=AA h;exact ⟨A,_,c,e⟩
section
variable {w1 wr w':World} {v u u':Value} {vs:List Value} {S:Nat} {qs:List (List Int)} {p:List Int}
theorem SpA.more (h:SpA w1 wr v u vs S qs p) (B:za wr w'):SpA w1 w' v u vs S qs p:=
 ⟨h.ext.trans B,h.lo,DT h.hi B.size,h.own.ext B,h.vl,fun i q D=>by
  obtain ⟨x,h1,h2,h3⟩:=h.old i q D;exact ⟨x,h1,h2.ext B,h3⟩,h.cur.ext B⟩
theorem SpV.more (h:SpV w1 wr v qs p) (B:za wr w'):SpV w1 w' v qs p:=by
 obtain ⟨u,vs,S,h⟩:=h;exact ⟨u,vs,S,h.more B⟩
theorem SpA.form (h:SpA w1 wr v u vs S qs p):∃g c,v=.slice (some ⟨g,0,none⟩) (qs.length+1) c/\w1.heap.size<=g/\qs.length+1<=c/\wr.cell? ⟨g,qs.length,none⟩=some u:=by
 have E:(vs++[u]).length=qs.length+1:=by rw [DZ,Er,h.vl]
 have B:=h.own;unfold BN at B;rw [E] at B;obtain ⟨g,c,rfl,D,G⟩:=World.ownsRow.form B (by omega);refine ⟨g,c,rfl,D,Bx B,?_⟩;rw [World.ownsRow.cellAt B _ (by omega),<-h.vl,DX (DR _),Nat.sub_self];rfl
theorem SpA.push (h:SpA w1 wr (.slice (some ⟨g,0,none⟩) n c) u vs S qs p) (L:zB w' S u' (p++[x])) (G:Hid (wr.grownBy w' u.ownBlock)):
  SpA w1 (w'.setCell ⟨g,qs.length,none⟩ u') (.slice (some ⟨g,0,none⟩) n c) u' vs S qs (p++[x]):=by
 have D:=h.cur;have B:BN w' w1.heap.size (.slice (some ⟨g,0,none⟩) n c) (vs++[u]):=World.ownsRow.kept h.own G.out (own_ne h.own D (by decide));have M:w1.heap.size<=g:=(World.ownsRow.lt h.own g rfl).1;have I:za w1 w':=zS h.ext G h.ext.size (fun k O=>DT h.lo (Ao D O))
 have E:=(World.ownsRow.stored (n:=n) (cap:=c) (xs:=vs++[u]) (by
  have J:(vs++[u]).length=n:=by
   have h0:=B;unfold BN at h0;obtain ⟨g',c',e,_,_⟩:=World.ownsRow.form h0 (by simp);injection e with _ e2 _;exact e2.symm
  have h0:=B;unfold BN at h0
  rwa [J] at h0) qs.length u')
 refine ⟨I.setCell M _,h.lo,DT h.hi (by rw [World.setCell];simpa using G.out.size),?_,h.vl,fun i q U=>?_,?_⟩
 ·have h1:=E.1;rw [<-h.vl,List.set_append_right _ _ (DR _),Nat.sub_self] at h1
  have J:n=(vs++[u']).length:=by
   have:=E.1.1;rw [<-h.vl,List.set_append_right _ _ (DR _),Nat.sub_self] at this;simp at this⊢;omega
  unfold BN;rw [<-J];rw [h.vl] at h1;exact h1
 ·obtain ⟨x',h1,h2,h3⟩:=h.old i q U
  have K:zB w' w1.heap.size x' q:=World.ownsRow.kept h2 G.out (by
   cases V:x'.ownBlock with
   | none=>exact .inl rfl
   | some k=>
    refine .inr fun e=>?_
    have:=h3 k V;have:=Ao D e.symm;omega)
  refine ⟨x',h1,ownsRow_setCell_other K (fun e=>?_) _,h3⟩;rcases own_ne K B (by decide) with h5 | h5
  ·rw [h5] at e;cases e
  ·exact h5 e
 ·refine ownsRow_setCell_other L (fun e=>?_) _;rcases own_ne L B (by decide) with h5 | h5
  ·rw [h5] at e;cases e
  ·exact h5 e
theorem SpA.slot (h:SpA w1 wr (.slice (some ⟨g,0,none⟩) n c) u vs S qs p) (D:Hid (wr.grownBy w' u.ownBlock)):
  w'.cell? ⟨g,qs.length,none⟩=some u/\w'.frozen? ⟨g,qs.length,none⟩=false/\za w1 w':=by
 have B:BN w' w1.heap.size (.slice (some ⟨g,0,none⟩) n c) (vs++[u]):=World.ownsRow.kept h.own D.out (own_ne h.own h.cur (by decide))
 have E:n=(vs++[u]).length:=by
  have h0:=B;unfold BN at h0;obtain ⟨g',c',e,_,_⟩:=World.ownsRow.form h0 (by simp);injection e with _ e2 _
 unfold BN at B;rw [<-E] at B;refine ⟨?_,World.ownsRow.frozenAt B _,zS h.ext D h.ext.size (fun k G=>DT h.lo (Ao h.cur G))⟩;rw [World.ownsRow.cellAt B _ (by rw [E];simp [h.vl]),<-h.vl,DX (DR _),Nat.sub_self];rfl
theorem SpA.next {v':Value} (h:SpA w1 wr v u vs S qs p) (L:BN w' w1.heap.size v' (vs++[u]++[.slice none 0 0])) (I:Hid (wr.grownBy w' v.ownBlock)):
  SpA w1 w' v' (.slice none 0 0) (vs++[u]) wr.heap.size (qs++[p]) []:=by
 have G:∀{x:Value} {B:Nat} {l:List Int},zB wr B x l->zB w' B x l:=fun K=>World.ownsRow.kept K I.out (own_ne K h.own (by decide))
 refine ⟨zS h.ext I h.ext.size (fun k G=>(World.ownsRow.lt h.own k G).1),h.ext.size,I.out.size,L,by simp [h.vl],fun i q E=>?_,World.ownsRow_nil _ _ _ _⟩;rcases En i qs.length with hi | hi
 ·rw [DW hi] at E;obtain ⟨x,h1,h2,h3⟩:=h.old i q E;exact ⟨x,by rw [DW (by rw [h.vl];exact hi)];exact h1,G h2,fun g D=>Et (h3 g D) h.hi⟩
 ·have J:i=qs.length:=by
   rcases En i (qs++[p]).length with h1 | h1
   ·simp at h1;omega
   ·rw [Ek h1] at E;cases E
  subst J;rw [DX (DR _),Nat.sub_self] at E;have hp:p=q:=by simpa using E
  subst hp;refine ⟨u,by rw [<-h.vl,DX (DR _),Nat.sub_self];rfl,(G h.cur).mono h.lo,fun g D=>(World.ownsRow.lt h.cur g D).2⟩
theorem SpA.intss (h:SpA w1 wr v u vs S qs p):zR wr (fun b=>w1.heap.size<=b) v (qs++[p]):=by
 refine ⟨vs++[u],?_,fun i q B=>?_⟩
 ·have h1:=Ae.of_own h.own;have h2:(vs++[u]).length=(qs++[p]).length:=by simp [h.vl]
  rw [h2] at h1;exact h1
 ·rcases En i qs.length with hi | hi
  ·rw [DW hi] at B;obtain ⟨x,h1,h2,h3⟩:=h.old i q B;exact ⟨x,by rw [DW (by rw [h.vl];exact hi)];exact h1,Ae.of_own h2⟩
  ·have D:i=qs.length:=by
    rcases En i (qs++[p]).length with h1 | h1
    ·simp at h1;omega
    ·rw [Ek h1] at B;cases B
   subst D;rw [DX (DR _),Nat.sub_self] at B;have hp:p=q:=by simpa using B
   subst hp;exact ⟨u,by rw [<-h.vl,DX (DR _),Nat.sub_self];rfl,Ae.of_own (h.cur.mono h.lo)⟩
theorem SpV.intss (h:SpV w1 wr v qs p):zR wr (fun b=>w1.heap.size<=b) v (qs++[p]):=by
 obtain ⟨u,vs,S,h⟩:=h;exact h.intss
theorem SpA.init (h:za w1 W):SpA w1 (W.alloc (.cells #[.slice none 0 0] 23)) (.slice (some ⟨W.heap.size,0,none⟩) 1 1) (.slice none 0 0) [] W.heap.size [] []:=
 ⟨h.alloc _,h.size,by simp,⟨rfl,.inr ⟨W.heap.size,1,#[.slice none 0 0],rfl,h.size,EE W _,DR _,by decide,rfl,rfl⟩⟩,rfl,fun i q B=>by simp at B,World.ownsRow_nil _ _ _ _⟩
end
end
section
open Go.RowKit
attribute [local go_sem ↓] Go.wp_at_zero Go.wp_at_succ
def SpI (m:MZ) (ch:List Int) (w1 wr:World) (v:Value) (k:Nat):Prop:=∃qs p,zY m (ch.take k)=qs++[p]/\SpV w1 wr v qs p
theorem cmp_take (h:zy m ch) (B:k<ch.length):cmpC m (ch.take k)=false:=BW (h.at B)
theorem qsplit_calls {v:Value} (w:World) (hm:zt w ok v m) (g:AN m) (hl:Lens m) (b8:zk w okc vc ch) (hc:zy m ch):
  Calls Tryz.prog 177 #[v,vc] w fun e w'=>∃v',e=.returned v'/\za w w'/\zR w' (fun b=>w.heap.size<=b) v' (zY m ch):=by
 have f4:=hc.len300 g;obtain ⟨vfr,vup,vts,rfl,_,_,e3⟩:=hm;have e6:=zh e3;obtain ⟨vst,⟨At,ct,rfl,g4,_⟩,_⟩:=e3;have f6:=zh b8;have d6:=b8;obtain ⟨A,c,rfl,g3,hr⟩:=b8;have HR:=zh hr;have HC:=zh hc;have HL:=zh hl;have h8:=g.tk;clear hr d6 hc g hl
 go_enter Tryz.func177,Tryz.ntmps177
 go_wp2_with fail
 generalize b4:w.alloc (.cells #[.int .i64 m.w,.int .i64 m.h,.int .i64 m.l,vfr,vup,.slice At m.tasks.length ct] 32)=w1;have a5:za w w1:=by rw [<-b4];exact (za.refl w).alloc _
 have d7:zd w1 w.heap.size 32 #[.int .i64 m.w,.int .i64 m.h,.int .i64 m.l,vfr,vup,.slice At m.tasks.length ct]:=by rw [<-b4];exact EE _ _
 have e0:w1.heap.size=w.heap.size+1:=by rw [<-b4];simp
 clear b4;have r5:∀W,za w1 W->W.cell? ⟨w.heap.size,5,none⟩=some (.slice At m.tasks.length ct):=za.rule (d7.cell (k:=5) rfl);clear d7;have b0:Hid (SpI m ch w1 (w1.alloc (.cells #[.slice none 0 0] 23)) (.slice (some ⟨w1.heap.size,0,none⟩) 1 1) 0):=⟨[],[],by rw [List.take_zero,splitL_nil];rfl,_,_,_,SpA.init (za.refl w1)⟩;generalize f2:w1.alloc (.cells #[.slice none 0 0] 23)=w2 at b0⊢;clear f2;rw [e0] at b0;clear e0
 go_wp2_with fail
 go_loopw [5,6] (fun v i wr=>∃k:Nat,k<=ch.length/\i=.int .i64 k/\Hid (SpI m ch w1 wr v k)) (fun _ i _=>ch.length - (intOf i).toNat)
 case atStart=>exact ⟨0,Ef _,rfl,b0⟩
 clear b0
 case round=>
  obtain ⟨k,hk,rfl,hI⟩:=hrel;obtain ⟨wk,rfl⟩:∃wk:World,wk=wr:=⟨_,rfl⟩;obtain ⟨qs,p,d9,u,vs,S,b1⟩:=hI.out;clear hI;obtain ⟨gv,cv,rfl,g6,g5,f0⟩:=b1.form;have hx:za w1 wk:=b1.ext;have b5:=zh b1;have a6:=zh d9;clear b1 d9;by_cases M:k<ch.length
  ·obtain ⟨b,off,rfl,_,a1⟩:=zE HR.out M M;have b2:=cmp_take HC.out M
   have g7:p.length<=300:=by
    have h4:=a6.out;rw [DG b2] at h4;have h5:=(HC.out.take k).psOk.fl;have h6:=flat_le (ps:=Aw m (ch.take k)) (p:=p) (by rw [h4];simp);rw [h5,EJ] at h6;omega
   have b3:qs.length<m.tasks.length:=by
    obtain ⟨qs',p',h1,h2,h3⟩:=ps_form (HC.out.take k) b2;have h4:=a6.out;rw [h3] at h4;have:=congrArg List.length h4;simp at this;omega
   have J:Hid (zY m (ch.take k++[ch[k]])=qs++[p++[ch[k]]]++(if ch[k]∈(m.tasks.getD qs.length ([],[])).2 then [[]] else [])):=split_step _ (by rw [<-DG b2];exact a6.out) b3;rw [<-DY M] at J;obtain ⟨x,e4⟩:=EY (ch[k]);rw [<-e4] at a1 J;clear e4 b2;obtain ⟨bt,offt,sn,u1,u2,rfl,_,e8,e9,d5,f1,c6⟩:=Bm e6.out b3;have d8:=(HL.out.tl _ (DS b3)).2;have e1:(m.tasks.getD qs.length ([],[])).2=(m.tasks[qs.length]).2:=by simp [b3]
   rw [e1] at J;obtain ⟨tg,e2⟩:=EY ((m.tasks[qs.length]).2);rw [<-e2] at c6 d8 J;clear e1 e2 f1 e8 e9;have c8:=zh c6;clear c6;have rt:∀W,za w1 W->W.cell? ⟨bt,offt+qs.length*3+2,none⟩=some u2:=fun W hW=>za.rule d5 W (a5.trans hW)
   have rc:=za.rule f0;have rx:∀W,za w1 W->W.cell? ⟨b,off+k,none⟩=some (.int .i64 x):=fun W hW=>za.rule a1 W (a5.trans hW)
   clear d5 a1;have g8:decide ((m.tasks.length:Int)<=(qs.length:Int))=false:=DV (by omega);have h7:(qs.length:Int)<(qs.length:Int)+1:=by omega
   have g9:decide (m.tasks.length<=qs.length)=false:=DV (by omega)
   go_wp2_with fail
   refine Eh (S:=(fun W=>za w1 W)) zI (hx.drew) fun zH=>?_;have a9:za wk wk.drew:=(za.refl wk).drew;generalize wk.drew=wd at a9 zH⊢;refine zg 0 zH ?_;refine zg 1 zH ?_;simp only [zb,DN];refine zg 2 zH ?_;refine zg 3 zH ?_;simp only [zb,DN];refine zg 4 zH ?_;refine zg 6 zH ?_;simp only [zb,DN];refine zg 7 zH ?_;refine zg 8 zH ?_;simp only [zb,DN];refine zg 9 zH ?_;simp only [zb,DN];refine rdA [5,10] ?_;refine Es rfl (fun K D=>?_) ?_
   ·have hx:=a9;go_simp;clear hx;refine EZ D (zH) fun zH=>?_;clear D K;try simp only [zb,DN]
    refine AD 10 fun K D=>?_;go_simp;refine EZ D (zH.alloc _) fun zH=>?_;clear D K;try simp only [zb,DN]
    refine AD 11 fun K D=>?_;have E:=zh (b5.out.more (a9.alloc (.cells #[.int .i64 x] 3)));refine AJ (ok:=fun _=>True) (by rfl) _ _ _ (by rfl) S p [x] u _ (by rfl) (by rfl) E.out.cur (CM (zC wd _ _ rfl)) E.out.hi (by simp;omega) ?_;intro u' w9 a3 a2 a8;obtain ⟨b7,c0,a4⟩:=E.out.slot a2;have I:=zh (E.out.push a3 a2);obtain ⟨A9,n9,c9,rfl⟩:=BT a3;clear a3 a2 a8;refine EZ D (a4) fun zH=>?_;clear D K;try simp only [zb,DN]
    refine AD 12 fun K D=>?_;go_simp;refine EZ D (a4) fun zH=>?_;clear D K;try simp only [zb,DN]
    refine AD 13 fun K D=>?_;go_simp;refine EZ D (I.out.ext) fun zH=>?_;clear D K;try simp only [zb,DN]
    refine Ev (by kernel_rfl) ?_ _
    go_wp2_with fail
    have a7:Hid (za w1 (w9.setCell ⟨gv,qs.length,none⟩ (.slice A9 n9 c9))):=I.out.ext;generalize w9.setCell ⟨gv,qs.length,none⟩ (.slice A9 n9 c9)=wt at I a7 zH⊢;clear b7 c0 a4 E;have B:za w1 wt:=a7.out;go_quiet ((go_at_call 73;refine (zL x _ (c8.out.below (a5.trans (B.drewN _))) (by omega)).mono ?_;rintro e w9 ⟨b9,rfl⟩;exact ⟨b9,⟨_,rfl⟩⟩))
    generalize hW:wt.drewN nq=wu;have b6:za wt wu:=by rw [<-hW];exact (za.refl wt).drewN _
    clear hW;have G:=zh (I.out.more b6);by_cases B:x∈tg
    ·rw [DU B];have V:Hid (zY m (ch.take (k+1))=qs++[p++[x]]++[[]]):=by have:=J.out;rw [if_pos B] at this;exact this
     clear B
     go_wp2_with (at_builtin;refine AY (ok:=fun _=>True) rfl _ _ _ rfl w1.heap.size (vs++[.slice A9 n9 c9]) [.slice none 0 0] _ _ rfl rfl ?h1 ?h2 ?h3 ?d1 ?d2 ?_)
     case h1=>exact World.ownsRow.alloc G.out.own _
     case h2=>exact (row_one (zC _ _ _ rfl))
     case h3=>(simp [Value.oneCell'])
     case d1=>(have:=G.out.ext.size;simp;omega)
     case d2=>(have:=G.out.vl;simp;omega)
     intro v' w10 O L a0;have U:Hid (SpI m ch w1 w10 v' (k+1)):=⟨qs++[p++[x]],[],V.out,_,_,_,SpA.next (G.out.more ((za.refl wu).alloc _)) (by simpa using O) L⟩;clear O L a0;go_wp2;go_roundw
     case rel=>exact ⟨k+1,M,by go_num,U⟩
     case measure=>simp [intOf];omega
    ·rw [DV B];have V:Hid (zY m (ch.take (k+1))=qs++[p++[x]]):=by have:=J.out;rw [if_neg B,List.append_nil] at this;exact this
     clear B;have U:Hid (SpI m ch w1 wu (.slice (some ⟨gv,0,none⟩) (qs.length+1) cv) (k+1)):=⟨qs,p++[x],V.out,_,_,_,G.out⟩;go_wp2;go_roundw
     case rel=>exact ⟨k+1,M,by go_num,U⟩
     case measure=>simp [intOf];omega
   refine Es rfl (fun K D=>?_) .nil;go_simp;refine EZ D (zH.alloc _) fun zH=>?_;clear D K;try simp only [zb,DN]
   refine AD 5 fun K D=>?_;have hx:=(a9.alloc (.cells #[.int .i64 x] 3));go_simp;clear hx;refine EZ D (zH) fun zH=>?_;clear D K;try simp only [zb,DN]
   refine AD 11 fun K D=>?_;have E:=zh (b5.out.more (a9.alloc (.cells #[.int .i64 x] 3)));refine AJ (ok:=fun _=>True) (by rfl) _ _ _ (by rfl) S p [x] u _ (by rfl) (by rfl) E.out.cur (CM (zC wd _ _ rfl)) E.out.hi (by simp;omega) ?_;intro u' w9 a3 a2 a8;obtain ⟨b7,c0,a4⟩:=E.out.slot a2;have I:=zh (E.out.push a3 a2);obtain ⟨A9,n9,c9,rfl⟩:=BT a3;clear a3 a2 a8;refine EZ D (a4) fun zH=>?_;clear D K;try simp only [zb,DN]
   refine AD 12 fun K D=>?_;go_simp;refine EZ D (a4) fun zH=>?_;clear D K;try simp only [zb,DN]
   refine AD 13 fun K D=>?_;go_simp;refine EZ D (I.out.ext) fun zH=>?_;clear D K;try simp only [zb,DN]
   refine Ev (by kernel_rfl) ?_ _
   go_wp2_with fail
   have a7:Hid (za w1 (w9.setCell ⟨gv,qs.length,none⟩ (.slice A9 n9 c9))):=I.out.ext;generalize w9.setCell ⟨gv,qs.length,none⟩ (.slice A9 n9 c9)=wt at I a7 zH⊢;clear b7 c0 a4 E;have B:za w1 wt:=a7.out;go_quiet ((go_at_call 73;refine (zL x _ (c8.out.below (a5.trans (B.drewN _))) (by omega)).mono ?_;rintro e w9 ⟨b9,rfl⟩;exact ⟨b9,⟨_,rfl⟩⟩))
   generalize hW:wt.drewN nq=wu;have b6:za wt wu:=by rw [<-hW];exact (za.refl wt).drewN _
   clear hW;have G:=zh (I.out.more b6);by_cases B:x∈tg
   ·rw [DU B];have V:Hid (zY m (ch.take (k+1))=qs++[p++[x]]++[[]]):=by have:=J.out;rw [if_pos B] at this;exact this
    clear B
    go_wp2_with (at_builtin;refine AY (ok:=fun _=>True) rfl _ _ _ rfl w1.heap.size (vs++[.slice A9 n9 c9]) [.slice none 0 0] _ _ rfl rfl ?h1 ?h2 ?h3 ?d1 ?d2 ?_)
    case h1=>exact World.ownsRow.alloc G.out.own _
    case h2=>exact (row_one (zC _ _ _ rfl))
    case h3=>(simp [Value.oneCell'])
    case d1=>(have:=G.out.ext.size;simp;omega)
    case d2=>(have:=G.out.vl;simp;omega)
    intro v' w10 O L a0;have U:Hid (SpI m ch w1 w10 v' (k+1)):=⟨qs++[p++[x]],[],V.out,_,_,_,SpA.next (G.out.more ((za.refl wu).alloc _)) (by simpa using O) L⟩;clear O L a0;go_wp2;go_roundw
    case rel=>exact ⟨k+1,M,by go_num,U⟩
    case measure=>simp [intOf];omega
   ·rw [DV B];have V:Hid (zY m (ch.take (k+1))=qs++[p++[x]]):=by have:=J.out;rw [if_neg B,List.append_nil] at this;exact this
    clear B;have U:Hid (SpI m ch w1 wu (.slice (some ⟨gv,0,none⟩) (qs.length+1) cv) (k+1)):=⟨qs,p++[x],V.out,_,_,_,G.out⟩;go_wp2;go_roundw
    case rel=>exact ⟨k+1,M,by go_num,U⟩
    case measure=>simp [intOf];omega
  ·obtain rfl:k=ch.length:=by omega
   rw [Ec] at a6;go_wp2;go_ret;refine ⟨_,rfl,a5.trans hx,?_⟩;rw [a6.out];exact b5.out.intss.weaken fun b hb=>DT a5.size hb
end
end Go.Proofs.YtjomnbdjajjgfaaGreatDoor
