import Derived.Test.YtcnaogdgjkpkmaaGreatDoorWSl
set_option linter.unusedVariables false
set_option linter.unusedSimpArgs false
set_option maxRecDepth 100000
set_option maxHeartbeats 16000000
namespace Go.Proofs.YtcnaogdgjkpkmaaGreatDoor
variable {ch:List Int} {m:MZ} {Y okc:Nat->Prop} {v vc:Value}
section
open Go.RowKit
attribute [local go_sem ↓] Go.wp_at_zero Go.wp_at_succ
theorem new_calls (w:World) (hm:zM w Y v m) (L:Lens m) (B:∀b,Y b->b<w.heap.size):
  Calls Tryz.prog 21 #[v] w (Bo w Y m [] 0):=by
 have D:=hm;obtain ⟨vfr,vup,vts,rfl,_,_,_⟩:=hm;have G:=zh D;clear D;have M:=zh L;clear L;have I:=zh B;clear B
 go_enter Tryz.func21,Tryz.ntmps21
 go_wp2_with fail
 generalize E:w.alloc (.cells #[.int .i64 m.w,.int .i64 m.h,.int .i64 m.l,vfr,vup,vts] 35)=w1;have d:zc w w1:=by rw [<-E];exact (zc.refl w).alloc _
 clear E;refine (load_calls (okc:=fun _=>True) 0 w1 (G.out.below d) M.out (zn.nil _ _) (by simp) (fun b J=>Ee (I.out b J) d.size)).mono ?_;rintro e w2 ⟨v2,rfl,K,hp⟩
 have o:Bo w Y m [] 0 (.returned (.tuple #[v2,.int .i64 (loadE m [] 0)])) w2:=by
  refine ⟨v2,rfl,d.trans K,?_⟩;rcases hp with hp | ⟨h1,h2,O,g,gr,cap,pt,Q,U⟩
  ·exact .inl hp
  ·exact .inr ⟨h1,h2,O,g,gr,cap,pt,Q,U.widen (fun b J=>DE d.size J)⟩
 have r:=zh o;clear o hp K
 go_wp2_with fail
 go_ret2
 exact r.out
def okC (m:MZ) (ch:List Int):Bool:=decide (Br m=0) && isChB m ch
def SoPost (w:World) (Y:Nat->Prop) (m:MZ) (ch:List Int) (e:Ending) (w':World):Prop:=
 ∃v,e=.returned (.tuple #[v,.bool (okC m ch)])/\zc w w'/\((okC m ch=false/\v=.pointer none)\/(okC m ch=true/\∃p,v=.pointer (some ⟨p,0,none⟩)/\Dy w' (fun b=>Y b\/w.heap.size<=b) p m ch))
theorem okC_true (h:okC m ch=true):Am m/\zw m ch:=by
 unfold okC at h;rw [DO,DM] at h;exact ⟨Am.of h.1,Bj.1 h.2⟩
theorem stateOf_calls (w:World) (hm:zM w Y v m) (hl:Lens m) (c9:zn w okc vc ch) (e9:ch.length<=20000000000000):
  Calls Tryz.prog 105 #[v,vc] w (SoPost w Y m ch):=by
 have b2:=hm;obtain ⟨vfr,vup,vts,rfl,_,_,_⟩:=hm;have a3:=zh b2;clear b2;obtain ⟨Ac,cc,rfl,e8,b3⟩:=c9;have b6:=zh b3;clear b3;have HL:=zh hl;clear hl;obtain ⟨ck,a7⟩:=EH (Br m);have L:=zh a7;clear a7
 go_enter Tryz.func105,Tryz.ntmps105
 go_wp2_with fail
 generalize a0:w.alloc (.cells #[.int .i64 m.w,.int .i64 m.h,.int .i64 m.l,vfr,vup,vts] 35)=w1;have a6:zc w w1:=by rw [<-a0];exact (zc.refl w).alloc _
 have b0:zj w1 w.heap.size 35 #[.int .i64 m.w,.int .i64 m.h,.int .i64 m.l,vfr,vup,vts]:=by rw [<-a0];exact Eo _ _
 clear a0;obtain ⟨m0,m1,m2,m3,m4,m5⟩:=zA b0;have c0:=zc.rule m0;have c1:=zc.rule m1;have c2:=zc.rule m2;have c3:=zc.rule m3;have c4:=zc.rule m4;have c5:=zc.rule m5;clear m0 m1 m2 m3 m4 m5 b0;refine (Be w1 (a3.out.below a6) HL.out).mono ?_;rintro e w2 ⟨rfl,a1⟩;have a1:zc w1 w2:=a1;have a5:zc w w2:=a6.trans a1;rw [<-L.out];by_cases h0:ck=0
 case neg=>
  have f0:(ck==0)=false:=by rw [DP];exact h0
  have f1:(ck != 0)=true:=by rw [bne_iff_ne];exact h0
  have r:okC m ch=false:=by unfold okC;rw [<-L.out,DG h0];rfl
  have d:SoPost w Y m ch (.returned (.tuple #[.pointer none,.bool false])) w2:=⟨.pointer none,by rw [r],a5,.inl ⟨r,rfl⟩⟩;have o:=zh d;clear d r h0
  go_wp2_with fail
  go_ret2
  exact o.out
 case pos=>
  subst h0;have HG:=zh (Am.of L.out.symm);have D:=HG.out.dim;have d7:=D.n1;have b1:=D.layer;have HD:=zh D;clear D;have V:Hid (okC m ch=isChB m ch):=by show _=_;unfold okC;rw [<-L.out];rfl
  go_wp2_with fail
  refine (zX m.w m.h m.l vfr vup vts w2 (by omega) (by omega)).mono ?_;rintro e w3 ⟨rfl,O⟩;have O:zc w2 w3:=O;have M:zc w w3:=a5.trans O;have e2:zc w1 w3:=zc.trans ‹zc w1 w2› O;by_cases G:m.w*m.h*m.l<(ch.length:Int)
  ·have a9:decide (m.w*m.h*m.l<(ch.length:Int))=true:=DF G
   have r:okC m ch=false:=by
    rw [V.out,Bool.eq_false_iff];intro h;have h1:=(Bj.1 h).len HG.out;have h2:m.n=m.w*m.h*m.l:=rfl;omega
   have d:SoPost w Y m ch (.returned (.tuple #[.pointer none,.bool false])) w3:=⟨.pointer none,by rw [r],M,.inl ⟨r,rfl⟩⟩;have o:=zh d;clear d r
   go_wp2_with fail
   go_ret2
   exact o.out
  ·have a9:decide (m.w*m.h*m.l<(ch.length:Int))=false:=DG G;have d5:ch.length<=300:=by omega
   clear G b1 d7
   go_wp2_with fail
   refine (begin_c w3 (a3.out.below M) (by have:=HG.out.tk;omega)).mono ?_;rintro e w4 ⟨p,rfl,d8,U⟩;have b8:zc w w4:=M.trans d8
   have H0:Hid (Dy w4 (fun b=>Y b\/w.heap.size<=b) p m (ch.take 0)):=by
    have:=M.size
    exact U.weaken fun b hb=>by
     rcases hb with hb | hb
     ·exact .inl hb
     ·exact .inr (by omega)
   have Q:Hid (zw m (ch.take 0)):=by show zw m (ch.take 0);simpa using zw.nil
   clear U a9 c0 c1 c2 c3 c4 c5
   go_wp2_with fail
   go_loopg [6,23] ch.length (fun gk v6 v wr=>∃(k p:Nat),v6=.pointer (some ⟨p,0,none⟩)/\v=.int .i64 k/\k<=ch.length/\gk=ch.length - k/\Hid (Dy wr (fun b=>Y b\/w.heap.size<=b) p m (ch.take k))/\Hid (zw m (ch.take k))/\Hid (zc w wr))
   case atStart=>exact ⟨0,p,rfl,rfl,DR _,rfl,H0,Q,b8⟩
   clear H0 Q
   case round=>
    obtain ⟨k,p,rfl,rfl,hk,rfl,hS,hI,hX⟩:=hrel;have K:=hX.out;rcases DZ k ch.length with I | hge
    ·obtain ⟨bc,oc,rfl,_,B⟩:=Ae b6.out I I;obtain ⟨n,hn⟩:=EH (ch[k]);rw [<-hn] at B;have q0:=zc.rule B;have HN:=zh hn;clear B hn
     go_wp2_with fail
     refine (Ci wr hS.out HG.out HL.out hI.out).mono ?_;rintro e w6 ⟨v6,rfl,hM⟩;have J:zc wr w6:=hM.ext;have HM:=zh hM.ints;clear hM
     go_wp2_with fail
     refine (zt n w6 HM.out (by have:=CM HL.out (ch.take k);omega)).mono ?_;rintro e w7 ⟨rfl,rfl⟩;by_cases E:n∈Bc m (ch.take k)
     ·rw [DF E];have a4:=zh E;clear E;have a8:Hid (ch.take k++[n]=ch.take (k+1)):=by show _=_;rw [DJ I,HN.out]
      go_wp2_with fail
      refine (with_c w6 (hS.out.ext J) HG.out HL.out hI.out a4.out).mono ?_;rintro e w8 ⟨q,rfl,b4,hq⟩
      have HQ:Hid (Dy w8 (fun b=>Y b\/w.heap.size<=b) q m (ch.take (k+1))):=by
       have:=(K.trans J).size;rw [<-a8.out]
       exact hq.weaken fun b hb=>by
        rcases hb with hb | hb
        ·exact hb.1
        ·exact .inr (by omega)
      have b9:Hid (zw m (ch.take (k+1))):=by rw [<-a8.out];exact .snoc hI.out a4.out
      have c8:Hid (zc w w8):=K.trans (J.trans b4);clear hq b4 J K
      go_wp2_with fail
      go_roundg (ch.length - (k+1))
      case measure=>omega
      case rel=>exact ⟨k+1,q,rfl,by go_num,I,rfl,HQ,b9,c8⟩
     ·rw [DG E]
      have r:okC m ch=false:=by
       rw [V.out,Bool.eq_false_iff];intro h;have h1:=(Bj.1 h).at I;rw [<-HN.out] at h1;exact E h1
      have d:SoPost w Y m ch (.returned (.tuple #[.pointer none,.bool false])) w6:=⟨.pointer none,by rw [r],K.trans J,.inl ⟨r,rfl⟩⟩;have o:=zh d;clear d r E
      go_wp2_with fail
      go_ret2
      exact o.out
    ·have d4:k=ch.length:=by omega
     subst d4;have b7:Hid (ch.take ch.length=ch):=DN
     have d:SoPost w Y m ch (.returned (.tuple #[.pointer (some ⟨p,0,none⟩),.bool true])) wr:=by
      have h1:=hI.out;have h2:=hS.out;rw [b7.out] at h1 h2;have h3:okC m ch=true:=by rw [V.out];exact Bj.2 h1
      exact ⟨_,by rw [h3],K,.inr ⟨h3,p,rfl,h2⟩⟩
     have o:=zh d;clear d
     go_wp2_with fail
     go_ret2
     exact o.out
def zT (m:MZ) (ch:List Int):List Int:=if okC m ch=true then Bc m ch else []
theorem CF (w:World) (hm:zM w Y v m) (Q:Lens m) (D:zn w okc vc ch) (L:ch.length<=20000000000000):
  Calls Tryz.prog 77 #[v,vc] w fun e w'=>∃v',e=.returned v'/\Mk w w' v' (zT m ch):=by
 have E:=hm;obtain ⟨vfr,vup,vts,rfl,_,_,_⟩:=hm;have K:=zh E;clear E;have M:=zh Q;clear Q;have J:=zh D;obtain ⟨Ac,cc,rfl,a0,_⟩:=D;obtain ⟨ok,G⟩:=EH (okC m ch);have d:=zh G;clear G
 go_enter Tryz.func77,Tryz.ntmps77
 go_wp2_with fail
 generalize I:w.alloc (.cells #[.int .i64 m.w,.int .i64 m.h,.int .i64 m.l,vfr,vup,vts] 35)=w1;have r:zc w w1:=by rw [<-I];exact (zc.refl w).alloc _
 clear I;refine (stateOf_calls w1 (K.out.below r) M.out (J.out.below r) L).mono ?_;rintro e w2 ⟨v2,rfl,V,hp⟩;rw [<-d.out];rw [<-d.out] at hp;have B:zc w w2:=r.trans V;rcases hp with ⟨h1,rfl⟩ | ⟨h1,p,rfl,h2⟩
 ·subst h1
  have o:Hid (Mk w w2 (.slice none 0 0) (zT m ch)):=by
   show Mk _ _ _ _;unfold zT;rw [<-d.out];exact Mk.nil' B
  go_wp2_with fail
  go_ret;exact ⟨_,rfl,o.out⟩
 ·subst h1;have U:=zh h2;clear h2
  go_wp2_with fail
  refine (Ci w2 U.out (okC_true d.out.symm).1 M.out (okC_true d.out.symm).2).mono ?_;rintro e w3 ⟨v3,rfl,O⟩
  have o:Hid (Mk w w3 v3 (zT m ch)):=by
   show Mk _ _ _ _;unfold zT;rw [<-d.out,if_pos rfl];exact B.mono_mk O
  clear O
  go_wp2_with fail
  go_ret;exact ⟨_,rfl,o.out⟩
noncomputable def openO (m:MZ) (ch:List Int):Bool:=okC m ch && Bu m ch
end
end Go.Proofs.YtcnaogdgjkpkmaaGreatDoor
