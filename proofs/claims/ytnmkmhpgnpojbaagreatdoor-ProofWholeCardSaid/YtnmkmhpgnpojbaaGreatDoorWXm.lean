import Derived.Test.YtnmkmhpgnpojbaaGreatDoorWXj
import Derived.Test.YtnmkmhpgnpojbaaGreatDoorWXl
import Derived.Deep.AppendLies
import Derived.Deep.RegionHeld3
set_option linter.unusedVariables false
set_option linter.unusedSimpArgs false
set_option maxRecDepth 100000
set_option maxHeartbeats 16000000
namespace Go.Proofs.YtnmkmhpgnpojbaaGreatDoor
variable {fixed:List (List Int)} {ch:List Int} {gs:Nat} {Y okc:Nat->Prop} {v vc:Value} {w w' wr:World}
section
open Go.RowKit
attribute [local go_sem ↓] Go.wp_at_zero Go.wp_at_succ
def isChB (m:MZ) (ch:List Int):Bool:=(List.range ch.length).all fun k=>decide (ch.getD k 0∈cand m (ch.take k))
theorem isCh_of {m:MZ} {ch:List Int} (h:∀k,k<ch.length->ch.getD k 0∈cand m (ch.take k)):∀k,k<=ch.length->zr m (ch.take k)
 | 0,_=>by simpa using zr.nil
 | k+1,o=>by
  rw [Dy (by omega)];have d:=h k (by omega);rw [Dp,Do (by omega),DW] at d;exact .snoc (isCh_of h k (by omega)) d
theorem Bd {m:MZ}:isChB m ch=true↔zr m ch:=by
 unfold isChB;rw [Ev];constructor
 ·intro h;have:=isCh_of (m:=m) (ch:=ch) (fun k d=>Ew (h k (Es.2 d))) ch.length (Dq _)
  rwa [DC] at this
 ·intro h k d;have d:=Es.1 d;rw [DB,Dp,Do d,DW];exact h.at d
noncomputable def loadE (m:MZ) (ch:List Int) (st:Int):Int:=
 if AS m≠0 then AS m else if st<0 then 1 else if (isChB m ch && (decide (ch=[]) || Ay m ch))=true then 0 else 51
def loadS (m:MZ) (ch:List Int) (st:Int):RS:=⟨ch,zL m ch || (decide (ch=[]) && decide (0<st)),st⟩
theorem Ad.new {wb:World} {X Y ok:Nat->Prop} {p:Nat} {m:MZ} {st:Int} (o:Dl wb ok p m []) (d:∀b,ok b->b<wb.heap.size->X b\/Y b) (z:∀b,wb.heap.size<=b->X b) (B:∀b,Y b->b<wb.heap.size):
  Ad ((wb.alloc (.cells #[ptrV p] 149)).alloc (.cells #[.slice (some ⟨wb.heap.size,0,none⟩) 1 1,.bool false,.int .i64 st] 148)) X Y (wb.heap.size+1) wb.heap.size 1 m ⟨[],false,st⟩ [p]:=by
 have E:zb wb ((wb.alloc (.cells #[ptrV p] 149)).alloc (.cells #[.slice (some ⟨wb.heap.size,0,none⟩) 1 1,.bool false,.int .i64 st] 148)):=((zb.refl _).alloc _).alloc _;refine ⟨ze.new _ _ _ (by simp),z _ (by omega),z _ (by omega),by omega,fun h=>by have:=B _ h;omega,fun h=>by have:=B _ h;omega,?_,rfl,?_⟩
 ·exact ⟨rfl,.inr ⟨wb.heap.size,1,#[ptrV p],rfl,DF _,(ze.new wb _ _ rfl).alloc _,Dq _,by unfold maxLen;omega,rfl,rfl⟩⟩
 ·intro k p' hp
  match k,hp with
  | 0,hp=>
   have:p=p':=by simpa using hp
   subst this;refine (o.bound.ext E).weaken fun b D=>?_
   rcases d b D.1 D.2 with h | h
   ·exact .inl ⟨h,by omega,by omega⟩
   ·exact .inr h
def Bi (w:World) (Y:Nat->Prop) (m:MZ) (ch:List Int) (st:Int) (e:Ending) (w':World):Prop:=
 ∃v,e=.returned (.tuple #[v,.int .i64 (loadE m ch st)])/\zb w w'/\
  ((loadE m ch st≠0/\v=.pointer none)\/(loadE m ch st=0/\zE m/\zr m ch/\∃g gr cap pt,v=ptrV g/\Ad w' (fun b=>w.heap.size<=b) Y g gr cap m (loadS m ch st) pt))
structure LR (w wr:World) (Y:Nat->Prop) (g gr cap:Nat) (m:MZ) (ch:List Int) (st:Int) (k:Nat) (pt:List Nat):Prop where
 rt:Ad wr (fun b=>w.heap.size<=b) Y g gr cap m ⟨ch.take k,false,st⟩ pt
 ext:zb w wr
 ch:zr m (ch.take k)
theorem load_fin {w9:World} {g gr cap:Nat} {m:MZ} {st:Int} {pt:List Nat} {d:Bool} {c:List Int} (h:Ad w9 (fun b=>w.heap.size<=b) Y g gr cap m ⟨c,false,st⟩ pt) (B:zb w w9) (D:c=ch) (z:zr m ch) (G:zE m) (o:loadE m ch st=0) (E:d=(loadS m ch st).done):
  Bi w Y m ch st (.returned (.tuple #[.pointer (some ⟨g,0,none⟩),.int .i64 0])) (w9.setCell ⟨g,1,none⟩ (.bool d)):=by
 subst D;refine ⟨.pointer (some ⟨g,0,none⟩),by rw [o],B.setCell (p:=⟨g,1,none⟩) h.xg _,.inr ⟨o,G,z,g,gr,cap,pt,rfl,?_⟩⟩;have:=h.done d;rw [E] at this⊢;exact this
theorem load_calls {m:MZ} (st:Int) (w:World) (hm:zF w Y v m) (hl:Lens m) (h6:zk w okc vc ch) (l2:ch.length<=20000000000000) (h5:∀b,Y b->b<w.heap.size):
  Calls Tryz.prog 93 #[v,vc,.int .i64 st] w (Bi w Y m ch st):=by
 have h9:=hm;obtain ⟨vfr,vup,vts,rfl,_,_,j6⟩:=hm;have h3:=zh h9;clear h9 j6;have j9:=zh h6;obtain ⟨Ac,cc,rfl,l1,i2⟩:=h6;have i7:=zh i2;clear i2;have HL:=zh hl;clear hl;have d8:=zh h5;clear h5;obtain ⟨MV,i9⟩:=Ez (Value.agg #[.int .i64 m.w,.int .i64 m.h,.int .i64 m.l,vfr,vup,vts]);obtain ⟨ck,h7⟩:=Ez (AS m);have d4:=zh h7;clear h7;obtain ⟨i0,hi,i5,f3,e7⟩:=info_parts Tryz.infoPst;have IF:=zh hi;have IZ0:=zh i5;have IZ1:=zh f3;have IZ2:=zh e7;clear hi i5 f3 e7 i9
 go_enter Tryz.func93,Tryz.ntmps93
 go_wp2_with fail
 generalize g8:w.alloc (.cells #[.int .i64 m.w,.int .i64 m.h,.int .i64 m.l,vfr,vup,vts] 32)=w1;have g0:zb w w1:=by rw [<-g8];exact (zb.refl w).alloc _
 have h8:ze w1 w.heap.size 32 #[.int .i64 m.w,.int .i64 m.h,.int .i64 m.l,vfr,vup,vts]:=by rw [<-g8];exact Ee _ _
 clear g8;obtain ⟨m0,m1,m2,m3,m4,m5⟩:=zw h8;have c0:=zb.rule m0;have c1:=zb.rule m1;have c2:=zb.rule m2;have c3:=zb.rule m3;have c4:=zb.rule m4;have c5:=zb.rule m5;clear m0 m1 m2 m3 m4 m5 h8;refine (Bv w1 (h3.out.below g0) HL.out).mono ?_;rintro e w2 ⟨rfl,f2⟩;have f2:zb w1 w2:=f2;have c7:zb w w2:=g0.trans f2;rw [<-d4.out];by_cases h0:ck=0
 case neg=>
  have l3:(ck==0)=false:=by rw [DE];exact h0
  have l4:(ck != 0)=true:=by rw [bne_iff_ne];exact h0
  have U:loadE m ch st=ck:=by unfold loadE;rw [<-d4.out,if_pos h0]
  have M:Bi w Y m ch st (.returned (.tuple #[.pointer none,.int .i64 ck])) w2:=⟨.pointer none,by rw [U],c7,.inl ⟨by rw [U];exact h0,rfl⟩⟩;have G:=zh M;clear M U h0
  go_wp2_with fail
  go_ret2
  exact G.out
 case pos=>
  subst h0;have HG:=zh (zE.of d4.out.symm);by_cases f1:st<0
  ·have U:loadE m ch st=1:=by unfold loadE;rw [<-d4.out,if_neg (by simp),if_pos f1]
   have M:Bi w Y m ch st (.returned (.tuple #[.pointer none,.int .i64 1])) w2:=⟨.pointer none,by rw [U],c7,.inl ⟨by rw [U];decide,rfl⟩⟩;have G:=zh M;clear M U
   go_wp2_with fail
   go_ret2
   exact G.out
  ·have k7:0<=st:=by omega
   have l5:decide (st<0)=false:=Dv f1
   have d6:Hid (loadE m ch st=if (isChB m ch && (decide (ch=[]) || Ay m ch))=true then 0 else 51):=by
    show loadE m ch st=_;unfold loadE;rw [<-d4.out,if_neg (by simp),if_neg f1]
   clear f1
   go_wp2_with fail
   refine (begin_c w2 (h3.out.below c7) (by have:=HG.out.tk;omega)).mono ?_;rintro e w3 ⟨p,rfl,i4,f6⟩;have f8:zb w w3:=c7.trans i4
   have H0:Hid (LR w ((w3.alloc (.cells #[ptrV p] 149)).alloc (.cells #[.slice (some ⟨w3.heap.size,0,none⟩) 1 1,.bool false,.int .i64 st] 148)) Y (w3.heap.size+1) w3.heap.size 1 m ch st 0 [p]):=by
    have hz:=f8.size;have e7:=c7.size;refine ⟨?_,(f8.alloc _).alloc _,by simpa using zr.nil⟩
    have:=Ad.new (X:=fun b=>w.heap.size<=b) (Y:=Y) (st:=st) f6 (fun b hb _=>by
     rcases hb with hb | hb
     ·exact .inr hb
     ·exact .inl (by omega)) (fun b hb=>by omega) (fun b hb=>by have:=d8.out b hb;omega)
    simpa using this
   clear f6
   go_wp2_with fail
   generalize i3:(w3.alloc (.cells #[.pointer (some ⟨p,0,none⟩)] 149)).alloc (.cells #[.slice (some ⟨w3.heap.size,0,none⟩) 1 1,.bool false,.int .i64 st] 148)=w4;have H0:Hid (LR w w4 Y (w3.heap.size+1) w3.heap.size 1 m ch st 0 [p]):=by rw [<-i3];exact H0
   clear i3;generalize w3.heap.size+1=g at*;generalize w3.heap.size=gr0 at*;clear c0 c1 c2 c3 c4 c5 i4 f8 c7 f2 g0
   go_loopg [27] ch.length (fun gk v wr=>∃(k gr cap:Nat) (pt:List Nat),v=.int .i64 k/\k<=ch.length/\gk=ch.length - k/\Hid (LR w wr Y g gr cap m ch st k pt))
   case atStart=>exact ⟨0,gr0,1,[p],rfl,DF _,rfl,H0⟩
   clear H0
   case round=>
    obtain ⟨k,gr,cap,pt,rfl,hk,rfl,hR⟩:=hrel;have E:=hR.out.ext;have c9:=hR.out.rt;obtain ⟨p2,g6,e5,_⟩:=c9.row.last;dsimp only at g6 e5;have j3:(ch.take k).length=k:=by rw [Ej];omega
    have g3:=hR.out.ch.len300 HG.out;rw [j3] at g3;have c6:Hid (∀W,zb wr W->Calls Tryz.prog 95 #[.pointer (some ⟨g,0,none⟩)] W fun e w'=>e=.returned (.pointer (some ⟨p2,0,none⟩))/\zB W w'):=fun W hE=>last_c (w':=W) (c9.ext hE) g6 (by dsimp only;omega)
    have a3:=zh e5;have rg0:∀W,zb wr W->W.cell? ⟨g,0,none⟩=some (.slice (some ⟨gr,0,none⟩) pt.length cap):=zb.rule (c9.blk.cell (k:=0) rfl);have k3:=Be c9.row.1;have k6:pt.length<=400:=by have:=c9.row.2.1;dsimp only at this;omega
    clear c9 g6 e5;rcases DO k ch.length with a6 | hge
    ·obtain ⟨bc,oc,rfl,_,b3⟩:=Ao i7.out a6 a6;obtain ⟨n,hn⟩:=Ez (ch[k]);rw [<-hn] at b3;have q0:=zb.rule b3;have HN:=zh hn;clear b3 hn
     go_wp2_with fail
     refine (c6.out wr (zb.refl _)).mono ?_;rintro e w5 ⟨rfl,e2⟩;have b6:zb wr w5:=e2.below _;clear e2
     go_wp2_with fail
     refine (BX w5 (a3.out.ext b6) HG.out HL.out hR.out.ch).mono ?_;rintro e w6 ⟨v6,rfl,hM⟩;have a7:zb wr w6:=b6.trans hM.ext;have HM:=zh hM.ints;clear hM b6
     go_wp2_with fail
     refine (zV n w6 HM.out (by have:=Cy HL.out (ch.take k);omega)).mono ?_;rintro e w7 ⟨rfl,rfl⟩;by_cases c8:n∈cand m (ch.take k)
     ·rw [Du c8];have b0:=zh c8;clear c8;have a5:Hid (ch.take k++[n]=ch.take (k+1)):=by show _=_;rw [Dy a6,HN.out]
      go_wp2_with fail
      refine DH (S:=fun _=>True) AB trivial fun zH=>?_;have e1:zb wr w6.drew:=a7.drew;refine zo 0 zH ?_;refine zo 1 zH ?_;simp only [zc,Dn];refine zo 2 zH ?_;refine zo 3 zH ?_;simp only [zc,Dn];refine zo 5 zH ?_;refine zo 7 zH ?_;simp only [zc,Dn];refine rdA [4,6] ?_;refine DS rfl (fun K o=>?_) ?_
      ·skip
       have hx:=e1;go_simp;clear hx;refine EA o trivial fun zH=>?_;clear o K;try simp only [zc,Dn]
       refine zK 6 fun K o=>?_
       skip
       go_simp;go_at_call 95;refine (c6.out _ e1).mono ?_;rintro e wa2 ⟨rfl,j1⟩;have f9:zb wr wa2:=e1.trans (j1.below _);go_simp;refine EA o trivial fun zH=>?_;clear o K;try simp only [zc,Dn]
       refine zK 8 fun K o=>?_
       skip
       go_simp;go_at_call 162;refine (with_c _ (a3.out.ext f9) HG.out HL.out hR.out.ch b0.out).mono ?_;rintro e wa3 ⟨q,rfl,a8,hq⟩;have HQ:=zh (push_ok (g:=g) (gr:=gr) hq f9 hR.out.rt (fun b hb=>Dt E.size hb));clear hq;have d9:zb wr wa3:=f9.trans a8;clear a8;go_simp;refine EA o trivial fun zH=>?_;clear o K;try simp only [zc,Dn]
       refine zK 9 fun K o=>?_
       skip
       go_simp;refine EA o trivial fun zH=>?_;clear o K;try simp only [zc,Dn]
       refine zK 10 fun K o=>?_
       skip
       have I:=hR.out.rt.ext d9;have D:=zh I;have a0:wa3.cell? ⟨g,0,none⟩=some (.slice (some ⟨gr,0,none⟩) pt.length cap):=I.blk.cell (k:=0) rfl;have a1:wa3.frozen? ⟨g,0,none⟩=false:=I.blk.frozen 0;clear I;refine step_append_lies (P:=Tryz.prog) _ (by rfl) _ _ 146 (by rfl) 0 149 i0 (.pointer none) 1 8 Tryz.underlying146 IF.out IZ0.out IZ1.out IZ2.out rfl (by decide) (.slice (some ⟨gr,0,none⟩) pt.length cap) pt.length _ (by rfl) (D.out.row.1.alloc _) ⟨wa3.heap.size,0,none⟩ 1 1 [ptrV q] (by rfl) rfl (cell_one_new _ _ _) (by simp [ptrV,Value.oneCell']) (by decide) (by unfold maxLen;omega) (by omega) (DF _) (wa3.heap.size+1) (by simp) ?_;intro g5 c5 w9 O hg hv _;obtain ⟨gr',cap',g7,z,L⟩:=D.out.push HQ.out (fun b hb=>Dt E.size (Dt d9.size hb)) (fun b hb=>DT (d8.out b hb) (Dt E.size d9.size)) O hg (by rcases hv with hv | hv;exact .inl hv.symm;exact .inr (congrArg some hv));have B:w9.heap[g]?=wa3.heap[g]?:=(hg.block g (by have:=za D.out.blk;simp;omega) (fun e=>D.out.ne (by injection e))).trans (DK _ _ _ (za D.out.blk));have e0:w9.cell? ⟨g,0,none⟩=some (.slice (some ⟨gr,0,none⟩) pt.length cap):=(DG B).trans a0;have e4:w9.frozen? ⟨g,0,none⟩=false:=(DQ (a:=⟨g,0,none⟩) B).trans a1;have a9:Hid (zb w (w9.setCell ⟨g,0,none⟩ (.slice (some ⟨g5,0,none⟩) (pt.length+1) c5))):=Below.trans (E.trans d9) (L.below (Dt E.size d9.size) (fun b hb=>hb));have V:=zh z;clear O hg hv z L B a0 a1;refine EA o trivial fun zH=>?_;clear o K;try simp only [zc,Dn]
       refine zK 11 fun K o=>?_
       skip
       go_simp;refine EA o trivial fun zH=>?_;clear o K;try simp only [zc,Dn]
       refine zK 12 fun K o=>?_
       skip
       go_simp;refine EA o trivial fun zH=>?_;clear o K;try simp only [zc,Dn]
       refine zK 13 fun K o=>?_
       skip
       go_simp;refine EA o trivial fun zH=>?_;clear o K;try simp only [zc,Dn]
       refine DV (by kernel_rfl) ?_ _
       go_wp2_with fail
       go_roundg (ch.length - (k+1))
       case measure=>omega
       case rel=>exact ⟨k+1,_,_,_,by go_num,a6,rfl,⟨by have:=V.out;rwa [a5.out] at this,a9.out,by rw [<-a5.out];exact .snoc hR.out.ch b0.out⟩⟩
      refine DS rfl (fun K o=>?_) .nil
      skip
      go_simp;go_at_call 95;refine (c6.out _ e1).mono ?_;rintro e wa9 ⟨rfl,b4⟩;have b1:zb wr wa9:=e1.trans (b4.below _);go_simp;refine EA o trivial fun zH=>?_;clear o K;try simp only [zc,Dn]
      refine rdA [4,8] ?_;refine DS rfl (fun K o=>?_) ?_
      ·skip
       have hx:=b1;go_simp;clear hx;refine EA o trivial fun zH=>?_;clear o K;try simp only [zc,Dn]
       refine zK 8 fun K o=>?_
       skip
       go_simp;go_at_call 162;refine (with_c _ (a3.out.ext b1) HG.out HL.out hR.out.ch b0.out).mono ?_;rintro e wa11 ⟨q,rfl,a8,hq⟩;have HQ:=zh (push_ok (g:=g) (gr:=gr) hq b1 hR.out.rt (fun b hb=>Dt E.size hb));clear hq;have a4:zb wr wa11:=b1.trans a8;clear a8;go_simp;refine EA o trivial fun zH=>?_;clear o K;try simp only [zc,Dn]
       refine zK 9 fun K o=>?_
       skip
       go_simp;refine EA o trivial fun zH=>?_;clear o K;try simp only [zc,Dn]
       refine zK 10 fun K o=>?_
       skip
       have I:=hR.out.rt.ext a4;have D:=zh I;have a0:wa11.cell? ⟨g,0,none⟩=some (.slice (some ⟨gr,0,none⟩) pt.length cap):=I.blk.cell (k:=0) rfl;have a1:wa11.frozen? ⟨g,0,none⟩=false:=I.blk.frozen 0;clear I;refine step_append_lies (P:=Tryz.prog) _ (by rfl) _ _ 146 (by rfl) 0 149 i0 (.pointer none) 1 8 Tryz.underlying146 IF.out IZ0.out IZ1.out IZ2.out rfl (by decide) (.slice (some ⟨gr,0,none⟩) pt.length cap) pt.length _ (by rfl) (D.out.row.1.alloc _) ⟨wa11.heap.size,0,none⟩ 1 1 [ptrV q] (by rfl) rfl (cell_one_new _ _ _) (by simp [ptrV,Value.oneCell']) (by decide) (by unfold maxLen;omega) (by omega) (DF _) (wa11.heap.size+1) (by simp) ?_;intro g5 c5 w9 O hg hv _;obtain ⟨gr',cap',g7,z,L⟩:=D.out.push HQ.out (fun b hb=>Dt E.size (Dt a4.size hb)) (fun b hb=>DT (d8.out b hb) (Dt E.size a4.size)) O hg (by rcases hv with hv | hv;exact .inl hv.symm;exact .inr (congrArg some hv));have B:w9.heap[g]?=wa11.heap[g]?:=(hg.block g (by have:=za D.out.blk;simp;omega) (fun e=>D.out.ne (by injection e))).trans (DK _ _ _ (za D.out.blk));have e0:w9.cell? ⟨g,0,none⟩=some (.slice (some ⟨gr,0,none⟩) pt.length cap):=(DG B).trans a0;have e4:w9.frozen? ⟨g,0,none⟩=false:=(DQ (a:=⟨g,0,none⟩) B).trans a1;have a9:Hid (zb w (w9.setCell ⟨g,0,none⟩ (.slice (some ⟨g5,0,none⟩) (pt.length+1) c5))):=Below.trans (E.trans a4) (L.below (Dt E.size a4.size) (fun b hb=>hb));have V:=zh z;clear O hg hv z L B a0 a1;refine EA o trivial fun zH=>?_;clear o K;try simp only [zc,Dn]
       refine zK 11 fun K o=>?_
       skip
       go_simp;refine EA o trivial fun zH=>?_;clear o K;try simp only [zc,Dn]
       refine zK 12 fun K o=>?_
       skip
       go_simp;refine EA o trivial fun zH=>?_;clear o K;try simp only [zc,Dn]
       refine zK 13 fun K o=>?_
       skip
       go_simp;refine EA o trivial fun zH=>?_;clear o K;try simp only [zc,Dn]
       refine DV (by kernel_rfl) ?_ _
       go_wp2_with fail
       go_roundg (ch.length - (k+1))
       case measure=>omega
       case rel=>exact ⟨k+1,_,_,_,by go_num,a6,rfl,⟨by have:=V.out;rwa [a5.out] at this,a9.out,by rw [<-a5.out];exact .snoc hR.out.ch b0.out⟩⟩
      refine DS rfl (fun K o=>?_) .nil
      skip
      go_simp;go_at_call 162;refine (with_c _ (a3.out.ext b1) HG.out HL.out hR.out.ch b0.out).mono ?_;rintro e wa17 ⟨q,rfl,a8,hq⟩;have HQ:=zh (push_ok (g:=g) (gr:=gr) hq b1 hR.out.rt (fun b hb=>Dt E.size hb));clear hq;have J:zb wr wa17:=b1.trans a8;clear a8;go_simp;refine EA o trivial fun zH=>?_;clear o K;try simp only [zc,Dn]
      refine rdA [4,9] ?_;refine DS rfl (fun K o=>?_) ?_
      ·skip
       have hx:=J;go_simp;clear hx;refine EA o trivial fun zH=>?_;clear o K;try simp only [zc,Dn]
       refine zK 9 fun K o=>?_
       skip
       go_simp;refine EA o trivial fun zH=>?_;clear o K;try simp only [zc,Dn]
       refine zK 10 fun K o=>?_
       skip
       have I:=hR.out.rt.ext J;have D:=zh I;have a0:wa17.cell? ⟨g,0,none⟩=some (.slice (some ⟨gr,0,none⟩) pt.length cap):=I.blk.cell (k:=0) rfl;have a1:wa17.frozen? ⟨g,0,none⟩=false:=I.blk.frozen 0;clear I;refine step_append_lies (P:=Tryz.prog) _ (by rfl) _ _ 146 (by rfl) 0 149 i0 (.pointer none) 1 8 Tryz.underlying146 IF.out IZ0.out IZ1.out IZ2.out rfl (by decide) (.slice (some ⟨gr,0,none⟩) pt.length cap) pt.length _ (by rfl) (D.out.row.1.alloc _) ⟨wa17.heap.size,0,none⟩ 1 1 [ptrV q] (by rfl) rfl (cell_one_new _ _ _) (by simp [ptrV,Value.oneCell']) (by decide) (by unfold maxLen;omega) (by omega) (DF _) (wa17.heap.size+1) (by simp) ?_;intro g5 c5 w9 O hg hv _;obtain ⟨gr',cap',g7,z,L⟩:=D.out.push HQ.out (fun b hb=>Dt E.size (Dt J.size hb)) (fun b hb=>DT (d8.out b hb) (Dt E.size J.size)) O hg (by rcases hv with hv | hv;exact .inl hv.symm;exact .inr (congrArg some hv));have B:w9.heap[g]?=wa17.heap[g]?:=(hg.block g (by have:=za D.out.blk;simp;omega) (fun e=>D.out.ne (by injection e))).trans (DK _ _ _ (za D.out.blk));have e0:w9.cell? ⟨g,0,none⟩=some (.slice (some ⟨gr,0,none⟩) pt.length cap):=(DG B).trans a0;have e4:w9.frozen? ⟨g,0,none⟩=false:=(DQ (a:=⟨g,0,none⟩) B).trans a1;have a9:Hid (zb w (w9.setCell ⟨g,0,none⟩ (.slice (some ⟨g5,0,none⟩) (pt.length+1) c5))):=Below.trans (E.trans J) (L.below (Dt E.size J.size) (fun b hb=>hb));have V:=zh z;clear O hg hv z L B a0 a1;refine EA o trivial fun zH=>?_;clear o K;try simp only [zc,Dn]
       refine zK 11 fun K o=>?_
       skip
       go_simp;refine EA o trivial fun zH=>?_;clear o K;try simp only [zc,Dn]
       refine zK 12 fun K o=>?_
       skip
       go_simp;refine EA o trivial fun zH=>?_;clear o K;try simp only [zc,Dn]
       refine zK 13 fun K o=>?_
       skip
       go_simp;refine EA o trivial fun zH=>?_;clear o K;try simp only [zc,Dn]
       refine DV (by kernel_rfl) ?_ _
       go_wp2_with fail
       go_roundg (ch.length - (k+1))
       case measure=>omega
       case rel=>exact ⟨k+1,_,_,_,by go_num,a6,rfl,⟨by have:=V.out;rwa [a5.out] at this,a9.out,by rw [<-a5.out];exact .snoc hR.out.ch b0.out⟩⟩
      refine DS rfl (fun K o=>?_) .nil
      skip
      go_simp;refine EA o trivial fun zH=>?_;clear o K;try simp only [zc,Dn]
      refine zK 4 fun K o=>?_
      skip
      have hx:=(J.alloc (.cells #[.pointer (some ⟨q,0,none⟩)] 149));go_simp;clear hx;refine EA o trivial fun zH=>?_;clear o K;try simp only [zc,Dn]
      refine zK 10 fun K o=>?_
      skip
      have I:=hR.out.rt.ext J;have D:=zh I;have a0:wa17.cell? ⟨g,0,none⟩=some (.slice (some ⟨gr,0,none⟩) pt.length cap):=I.blk.cell (k:=0) rfl;have a1:wa17.frozen? ⟨g,0,none⟩=false:=I.blk.frozen 0;clear I;refine step_append_lies (P:=Tryz.prog) _ (by rfl) _ _ 146 (by rfl) 0 149 i0 (.pointer none) 1 8 Tryz.underlying146 IF.out IZ0.out IZ1.out IZ2.out rfl (by decide) (.slice (some ⟨gr,0,none⟩) pt.length cap) pt.length _ (by rfl) (D.out.row.1.alloc _) ⟨wa17.heap.size,0,none⟩ 1 1 [ptrV q] (by rfl) rfl (cell_one_new _ _ _) (by simp [ptrV,Value.oneCell']) (by decide) (by unfold maxLen;omega) (by omega) (DF _) (wa17.heap.size+1) (by simp) ?_;intro g5 c5 w9 O hg hv _;obtain ⟨gr',cap',g7,z,L⟩:=D.out.push HQ.out (fun b hb=>Dt E.size (Dt J.size hb)) (fun b hb=>DT (d8.out b hb) (Dt E.size J.size)) O hg (by rcases hv with hv | hv;exact .inl hv.symm;exact .inr (congrArg some hv));have B:w9.heap[g]?=wa17.heap[g]?:=(hg.block g (by have:=za D.out.blk;simp;omega) (fun e=>D.out.ne (by injection e))).trans (DK _ _ _ (za D.out.blk));have e0:w9.cell? ⟨g,0,none⟩=some (.slice (some ⟨gr,0,none⟩) pt.length cap):=(DG B).trans a0;have e4:w9.frozen? ⟨g,0,none⟩=false:=(DQ (a:=⟨g,0,none⟩) B).trans a1;have a9:Hid (zb w (w9.setCell ⟨g,0,none⟩ (.slice (some ⟨g5,0,none⟩) (pt.length+1) c5))):=Below.trans (E.trans J) (L.below (Dt E.size J.size) (fun b hb=>hb));have V:=zh z;clear O hg hv z L B a0 a1;refine EA o trivial fun zH=>?_;clear o K;try simp only [zc,Dn]
      refine zK 11 fun K o=>?_
      skip
      go_simp;refine EA o trivial fun zH=>?_;clear o K;try simp only [zc,Dn]
      refine zK 12 fun K o=>?_
      skip
      go_simp;refine EA o trivial fun zH=>?_;clear o K;try simp only [zc,Dn]
      refine zK 13 fun K o=>?_
      skip
      go_simp;refine EA o trivial fun zH=>?_;clear o K;try simp only [zc,Dn]
      refine DV (by kernel_rfl) ?_ _
      go_wp2_with fail
      go_roundg (ch.length - (k+1))
      case measure=>omega
      case rel=>exact ⟨k+1,_,_,_,by go_num,a6,rfl,⟨by have:=V.out;rwa [a5.out] at this,a9.out,by rw [<-a5.out];exact .snoc hR.out.ch b0.out⟩⟩
     ·rw [Dv c8]
      have U:loadE m ch st=51:=by
       rw [d6.out]
       have:isChB m ch=false:=by
        rw [Bool.eq_false_iff];intro h;have h1:=(Bd.1 h).at a6;rw [<-HN.out] at h1;exact c8 h1
       rw [this];rfl
      have M:Bi w Y m ch st (.returned (.tuple #[.pointer none,.int .i64 51])) w6:=⟨.pointer none,by rw [U],E.trans a7,.inl ⟨by rw [U];decide,rfl⟩⟩;have G:=zh M;clear M U c8
      go_wp2_with fail
      go_ret2
      exact G.out
    ·have j2:k=ch.length:=by omega
     subst j2;have e9:Hid (ch.take ch.length=ch):=DC;have b9:Hid (zr m ch):=by have:=hR.out.ch;rwa [e9.out] at this
     have g1:isChB m ch=true:=Bd.2 b9.out;rw [g1] at d6;have k8:=zh g1;clear g1;rw [e9.out] at a3;by_cases Q:ch=[]
     ·have f3:decide ((0:Int)<(ch.length:Int))=false:=by rw [Q];rfl
      have e7:((ch.length:Int)==0)=true:=by rw [Q];rfl
      have j7:decide (0<ch.length)=false:=by rw [Q];rfl
      have j8:decide (ch.length=0)=true:=by rw [Q];rfl
      have f4:=zh Q;have d7:Hid (loadE m ch st=0):=by show _=_;rw [d6.out,Du Q];rfl
      clear Q
      go_wp2_with fail
      refine (c6.out wr (zb.refl _)).mono ?_;rintro e w8 ⟨rfl,e3⟩;have b7:zb wr w8:=zb.trans (zb.refl _) (e3.below _);clear e3
      go_wp2_with fail
      refine (CK w8 (a3.out.ext b7) HG.out HL.out b9.out).mono ?_;rintro e w9 ⟨rfl,b4⟩;have e6:zb wr w9:=b7.trans (b4.below _);clear b4 b7;obtain ⟨cb,b2⟩:=Ez (zL m ch);rw [<-b2];have b8:=zh b2;clear b2;have z:=hR.out.rt.ext e6;have e0:w9.cell? ⟨g,1,none⟩=some (.bool false):=z.blk.cell (k:=1) rfl;have e4:w9.frozen? ⟨g,1,none⟩=false:=z.blk.frozen 1;have G:Hid (∀d,d=(loadS m ch st).done->Bi w Y m ch st (.returned (.tuple #[.pointer (some ⟨g,0,none⟩),.int .i64 0])) (w9.setCell ⟨g,1,none⟩ (.bool d))):=fun d hd=>load_fin z (E.trans e6) e9.out b9.out HG.out d7.out hd
      clear z
      cases cb with
      | true=>
       go_wp2_with fail
       go_ret2
       exact G.out true (by unfold loadS;rw [<-b8.out];rfl)
      | false=>
       by_cases f0:0<st
       ·have j5:decide (0<st)=true:=Du f0
        go_wp2_with fail
        go_ret2
        exact G.out true (by unfold loadS;rw [<-b8.out,f4.out];simp [f0])
       ·have j5:decide (0<st)=false:=Dv f0
        go_wp2_with fail
        go_ret2
        exact G.out false (by unfold loadS;rw [<-b8.out,f4.out];simp [f0])
     ·have i1:0<ch.length:=List.length_pos_iff.2 Q;have f3:decide ((0:Int)<(ch.length:Int))=true:=Du (by omega);have e7:((ch.length:Int)==0)=false:=by rw [DE];omega
      have j7:decide (0<ch.length)=true:=Du i1;have j8:decide (ch.length=0)=false:=Dv (by omega);have f7:=zh Q;clear Q
      go_wp2_with fail
      refine (c6.out wr (zb.refl _)).mono ?_;rintro e w5 ⟨rfl,e2⟩;have b6:zb wr w5:=e2.below _;clear e2
      go_wp2_with fail
      refine (open_c w5 (a3.out.ext b6) HG.out HL.out b9.out).mono ?_;rintro e w6 ⟨rfl,a7⟩;have a7:zb wr w6:=b6.trans a7;clear b6;obtain ⟨ob,g4⟩:=Ez (Ay m ch);rw [<-g4];have h4:=zh g4;clear g4
      cases ob with
      | false=>
       have U:loadE m ch st=51:=by rw [d6.out,Dv f7.out,<-h4.out];rfl
       have M:Bi w Y m ch st (.returned (.tuple #[.pointer none,.int .i64 51])) w6:=⟨.pointer none,by rw [U],E.trans a7,.inl ⟨by rw [U];decide,rfl⟩⟩;have G:=zh M;clear M U
       go_wp2_with fail
       go_ret2
       exact G.out
      | true=>
       have d7:Hid (loadE m ch st=0):=by show _=_;rw [d6.out,Dv f7.out,<-h4.out];rfl
       go_wp2_with fail
       refine (c6.out w6 a7).mono ?_;rintro e w8 ⟨rfl,e3⟩;have b7:zb wr w8:=zb.trans a7 (e3.below _);clear e3
       go_wp2_with fail
       refine (CK w8 (a3.out.ext b7) HG.out HL.out b9.out).mono ?_;rintro e w9 ⟨rfl,b4⟩;have e6:zb wr w9:=b7.trans (b4.below _);clear b4 b7;obtain ⟨cb,b2⟩:=Ez (zL m ch);rw [<-b2];have b8:=zh b2;clear b2;have z:=hR.out.rt.ext e6;have e0:w9.cell? ⟨g,1,none⟩=some (.bool false):=z.blk.cell (k:=1) rfl;have e4:w9.frozen? ⟨g,1,none⟩=false:=z.blk.frozen 1;have G:Hid (∀d,d=(loadS m ch st).done->Bi w Y m ch st (.returned (.tuple #[.pointer (some ⟨g,0,none⟩),.int .i64 0])) (w9.setCell ⟨g,1,none⟩ (.bool d))):=fun d hd=>load_fin z (E.trans e6) e9.out b9.out HG.out d7.out hd
       clear z
       cases cb with
       | true=>
        go_wp2_with fail
        go_ret2
        exact G.out true (by unfold loadS;rw [<-b8.out];rfl)
       | false=>
        go_wp2_with fail
        go_ret2
        exact G.out false (by unfold loadS;rw [<-b8.out];simp [f7.out])
theorem new_calls {m:MZ} (w:World) (hm:zF w Y v m) (L:Lens m) (B:∀b,Y b->b<w.heap.size):
  Calls Tryz.prog 37 #[v] w (Bi w Y m [] 0):=by
 have D:=hm;obtain ⟨vfr,vup,vts,rfl,_,_,_⟩:=hm;have G:=zh D;clear D;have M:=zh L;clear L;have I:=zh B;clear B
 go_enter Tryz.func37,Tryz.ntmps37
 go_wp2_with fail
 generalize E:w.alloc (.cells #[.int .i64 m.w,.int .i64 m.h,.int .i64 m.l,vfr,vup,vts] 32)=w1;have d:zb w w1:=by rw [<-E];exact (zb.refl w).alloc _
 clear E;refine (load_calls (okc:=fun _=>True) 0 w1 (G.out.below d) M.out (zk.nil _ _) (by simp) (fun b J=>DT (I.out b J) d.size)).mono ?_;rintro e w2 ⟨v2,rfl,K,hp⟩
 have o:Bi w Y m [] 0 (.returned (.tuple #[v2,.int .i64 (loadE m [] 0)])) w2:=by
  refine ⟨v2,rfl,d.trans K,?_⟩;rcases hp with hp | ⟨O,Q,U,g,gr,cap,pt,V,h5⟩
  ·exact .inl hp
  ·exact .inr ⟨O,Q,U,g,gr,cap,pt,V,h5.widen (fun b J=>Dt d.size J)⟩
 have z:=zh o;clear o hp K
 go_wp2_with fail
 go_ret2
 exact z.out
def okC (m:MZ) (ch:List Int):Bool:=decide (AS m=0) && isChB m ch
def SoPost (w:World) (Y:Nat->Prop) (m:MZ) (ch:List Int) (e:Ending) (w':World):Prop:=
 ∃v,e=.returned (.tuple #[v,.bool (okC m ch)])/\zb w w'/\((okC m ch=false/\v=.pointer none)\/(okC m ch=true/\∃p,v=.pointer (some ⟨p,0,none⟩)/\Dl w' (fun b=>Y b\/w.heap.size<=b) p m ch))
theorem okC_true {m:MZ} (h:okC m ch=true):zE m/\zr m ch:=by
 unfold okC at h;rw [DD,DB] at h;exact ⟨zE.of h.1,Bd.1 h.2⟩
theorem stateOf_calls {m:MZ} (w:World) (hm:zF w Y v m) (hl:Lens m) (d5:zk w okc vc ch) (f1:ch.length<=20000000000000):
  Calls Tryz.prog 196 #[v,vc] w (SoPost w Y m ch):=by
 have b3:=hm;obtain ⟨vfr,vup,vts,rfl,_,_,_⟩:=hm;have a4:=zh b3;clear b3;obtain ⟨Ac,cc,rfl,f0,b4⟩:=d5;have b7:=zh b4;clear b4;have HL:=zh hl;clear hl;obtain ⟨ck,a8⟩:=Ez (AS m);have L:=zh a8;clear a8
 go_enter Tryz.func196,Tryz.ntmps196
 go_wp2_with fail
 generalize a0:w.alloc (.cells #[.int .i64 m.w,.int .i64 m.h,.int .i64 m.l,vfr,vup,vts] 32)=w1;have a7:zb w w1:=by rw [<-a0];exact (zb.refl w).alloc _
 have b1:ze w1 w.heap.size 32 #[.int .i64 m.w,.int .i64 m.h,.int .i64 m.l,vfr,vup,vts]:=by rw [<-a0];exact Ee _ _
 clear a0;obtain ⟨m0,m1,m2,m3,m4,m5⟩:=zw b1;have c0:=zb.rule m0;have c1:=zb.rule m1;have c2:=zb.rule m2;have c3:=zb.rule m3;have c4:=zb.rule m4;have c5:=zb.rule m5;clear m0 m1 m2 m3 m4 m5 b1;refine (Bv w1 (a4.out.below a7) HL.out).mono ?_;rintro e w2 ⟨rfl,a1⟩;have a1:zb w1 w2:=a1;have a6:zb w w2:=a7.trans a1;rw [<-L.out];by_cases h0:ck=0
 case neg=>
  have f2:(ck==0)=false:=by rw [DE];exact h0
  have f3:(ck != 0)=true:=by rw [bne_iff_ne];exact h0
  have z:okC m ch=false:=by unfold okC;rw [<-L.out,Dv h0];rfl
  have d:SoPost w Y m ch (.returned (.tuple #[.pointer none,.bool false])) w2:=⟨.pointer none,by rw [z],a6,.inl ⟨z,rfl⟩⟩;have o:=zh d;clear d z h0
  go_wp2_with fail
  go_ret2
  exact o.out
 case pos=>
  subst h0;have HG:=zh (zE.of L.out.symm);have D:=HG.out.dim;have d9:=D.n1;have b2:=D.layer;have HD:=zh D;clear D;have V:Hid (okC m ch=isChB m ch):=by show _=_;unfold okC;rw [<-L.out];rfl
  go_wp2_with fail
  refine (zY m.w m.h m.l vfr vup vts w2 (by omega) (by omega)).mono ?_;rintro e w3 ⟨rfl,O⟩;have O:zb w2 w3:=O;have M:zb w w3:=a6.trans O;have e4:zb w1 w3:=zb.trans ‹zb w1 w2› O;by_cases G:m.w*m.h*m.l<(ch.length:Int)
  ·have b0:decide (m.w*m.h*m.l<(ch.length:Int))=true:=Du G
   have z:okC m ch=false:=by
    rw [V.out,Bool.eq_false_iff];intro h;have h1:=(Bd.1 h).len HG.out;have h2:m.n=m.w*m.h*m.l:=rfl;omega
   have d:SoPost w Y m ch (.returned (.tuple #[.pointer none,.bool false])) w3:=⟨.pointer none,by rw [z],M,.inl ⟨z,rfl⟩⟩;have o:=zh d;clear d z
   go_wp2_with fail
   go_ret2
   exact o.out
  ·have b0:decide (m.w*m.h*m.l<(ch.length:Int))=false:=Dv G;have d7:ch.length<=300:=by omega
   clear G b2 d9
   go_wp2_with fail
   refine (begin_c w3 (a4.out.below M) (by have:=HG.out.tk;omega)).mono ?_;rintro e w4 ⟨p,rfl,e0,U⟩;have c6:zb w w4:=M.trans e0
   have H0:Hid (Dl w4 (fun b=>Y b\/w.heap.size<=b) p m (ch.take 0)):=by
    have:=M.size
    exact U.weaken fun b hb=>by
     rcases hb with hb | hb
     ·exact .inl hb
     ·exact .inr (by omega)
   have Q:Hid (zr m (ch.take 0)):=by show zr m (ch.take 0);simpa using zr.nil
   clear U b0 c0 c1 c2 c3 c4 c5
   go_wp2_with fail
   go_loopg [6,23] ch.length (fun gk v6 v wr=>∃(k p:Nat),v6=.pointer (some ⟨p,0,none⟩)/\v=.int .i64 k/\k<=ch.length/\gk=ch.length - k/\Hid (Dl wr (fun b=>Y b\/w.heap.size<=b) p m (ch.take k))/\Hid (zr m (ch.take k))/\Hid (zb w wr))
   case atStart=>exact ⟨0,p,rfl,rfl,DF _,rfl,H0,Q,c6⟩
   clear H0 Q
   case round=>
    obtain ⟨k,p,rfl,rfl,hk,rfl,hS,hI,hX⟩:=hrel;have K:=hX.out;rcases DO k ch.length with I | hge
    ·obtain ⟨bc,oc,rfl,_,B⟩:=Ao b7.out I I;obtain ⟨n,hn⟩:=Ez (ch[k]);rw [<-hn] at B;have q0:=zb.rule B;have HN:=zh hn;clear B hn
     go_wp2_with fail
     refine (BX wr hS.out HG.out HL.out hI.out).mono ?_;rintro e w6 ⟨v6,rfl,hM⟩;have J:zb wr w6:=hM.ext;have HM:=zh hM.ints;clear hM
     go_wp2_with fail
     refine (zV n w6 HM.out (by have:=Cy HL.out (ch.take k);omega)).mono ?_;rintro e w7 ⟨rfl,rfl⟩;by_cases E:n∈cand m (ch.take k)
     ·rw [Du E];have a5:=zh E;clear E;have a9:Hid (ch.take k++[n]=ch.take (k+1)):=by show _=_;rw [Dy I,HN.out]
      go_wp2_with fail
      refine (with_c w6 (hS.out.ext J) HG.out HL.out hI.out a5.out).mono ?_;rintro e w8 ⟨q,rfl,b5,hq⟩
      have HQ:Hid (Dl w8 (fun b=>Y b\/w.heap.size<=b) q m (ch.take (k+1))):=by
       have:=(K.trans J).size;rw [<-a9.out]
       exact hq.weaken fun b hb=>by
        rcases hb with hb | hb
        ·exact hb.1
        ·exact .inr (by omega)
      have c7:Hid (zr m (ch.take (k+1))):=by rw [<-a9.out];exact .snoc hI.out a5.out
      have d4:Hid (zb w w8):=K.trans (J.trans b5);clear hq b5 J K
      go_wp2_with fail
      go_roundg (ch.length - (k+1))
      case measure=>omega
      case rel=>exact ⟨k+1,q,rfl,by go_num,I,rfl,HQ,c7,d4⟩
     ·rw [Dv E]
      have z:okC m ch=false:=by
       rw [V.out,Bool.eq_false_iff];intro h;have h1:=(Bd.1 h).at I;rw [<-HN.out] at h1;exact E h1
      have d:SoPost w Y m ch (.returned (.tuple #[.pointer none,.bool false])) w6:=⟨.pointer none,by rw [z],K.trans J,.inl ⟨z,rfl⟩⟩;have o:=zh d;clear d z E
      go_wp2_with fail
      go_ret2
      exact o.out
    ·have d6:k=ch.length:=by omega
     subst d6;have b8:Hid (ch.take ch.length=ch):=DC
     have d:SoPost w Y m ch (.returned (.tuple #[.pointer (some ⟨p,0,none⟩),.bool true])) wr:=by
      have h1:=hI.out;have h2:=hS.out;rw [b8.out] at h1 h2;have h3:okC m ch=true:=by rw [V.out];exact Bd.2 h1
      exact ⟨_,by rw [h3],K,.inr ⟨h3,p,rfl,h2⟩⟩
     have o:=zh d;clear d
     go_wp2_with fail
     go_ret2
     exact o.out
def zQ (m:MZ) (ch:List Int):List Int:=if okC m ch=true then cand m ch else []
theorem Ct {m:MZ} (w:World) (hm:zF w Y v m) (V:Lens m) (D:zk w okc vc ch) (M:ch.length<=20000000000000):
  Calls Tryz.prog 149 #[v,vc] w fun e w'=>∃v',e=.returned v'/\Mk w w' v' (zQ m ch):=by
 have E:=hm;obtain ⟨vfr,vup,vts,rfl,_,_,_⟩:=hm;have K:=zh E;clear E;have O:=zh V;clear V;have J:=zh D;obtain ⟨Ac,cc,rfl,a2,_⟩:=D;obtain ⟨ok,G⟩:=Ez (okC m ch);have d:=zh G;clear G
 go_enter Tryz.func149,Tryz.ntmps149
 go_wp2_with fail
 generalize I:w.alloc (.cells #[.int .i64 m.w,.int .i64 m.h,.int .i64 m.l,vfr,vup,vts] 32)=w1;have z:zb w w1:=by rw [<-I];exact (zb.refl w).alloc _
 clear I;refine (stateOf_calls w1 (K.out.below z) O.out (J.out.below z) M).mono ?_;rintro e w2 ⟨v2,rfl,hE,hp⟩;rw [<-d.out];rw [<-d.out] at hp;have B:zb w w2:=z.trans hE;rcases hp with ⟨L,rfl⟩ | ⟨L,p,rfl,Q⟩
 ·subst L
  have o:Hid (Mk w w2 (.slice none 0 0) (zQ m ch)):=by
   show Mk _ _ _ _;unfold zQ;rw [<-d.out];exact Mk.nil' B
  go_wp2_with fail
  go_ret;exact ⟨_,rfl,o.out⟩
 ·subst L;have HS:=zh Q;clear Q
  go_wp2_with fail
  refine (BX w2 HS.out (okC_true d.out.symm).1 O.out (okC_true d.out.symm).2).mono ?_;rintro e w3 ⟨v3,rfl,U⟩
  have o:Hid (Mk w w3 v3 (zQ m ch)):=by
   show Mk _ _ _ _;unfold zQ;rw [<-d.out,if_pos rfl];exact B.mono_mk U
  clear U
  go_wp2_with fail
  go_ret;exact ⟨_,rfl,o.out⟩
noncomputable def openO (m:MZ) (ch:List Int):Bool:=okC m ch && Ay m ch
def nodeB (m:MZ) (t:Nat) (p pre:List Int) (k:Nat):Bool:=
 decide (0<=p.getD k 0) && (decide (p.getD k 0<m.n) && (!decide (p.getD k 0∈pre) && (zf m t (p.getD k 0) && (decide (k=0) || decide (p.getD k 0∈zg m (p.getD (k - 1) 0))))))
def pathB (m:MZ) (t:Nat) (p pre:List Int):Bool:=
 !decide (p=[]) && (decide (p.getD 0 0∈(m.tasks.getD t ([],[])).1) && (decide (p.getD (p.length - 1) 0∈(m.tasks.getD t ([],[])).2) && (List.range p.length).all fun k=>nodeB m t p (pre++p.take k) k))
def rightB (m:MZ) (ps:List (List Int)):Bool:=
 decide (AS m=0) && (decide (ps.length=m.tasks.length) && (List.range ps.length).all fun t=>pathB m t (ps.getD t []) (ps.take t).flatten)
section
variable {m:MZ} {t:Nat} {p pre:List Int} {ps:List (List Int)}
theorem pathB_ok (h0:p≠[]) (d:p.getD 0 0∈(m.tasks.getD t ([],[])).1) (o:p.getD (p.length - 1) 0∈(m.tasks.getD t ([],[])).2) (z:∀k,k<p.length->nodeB m t p (pre++p.take k) k=true):pathB m t p pre=true:=by
 unfold pathB;rw [Dv h0,Du d,Du o,Ev.2 (fun k B=>z k (Es.1 B))];rfl
theorem rightB_ok (h0:AS m=0) (d:ps.length=m.tasks.length) (o:∀t,t<ps.length->pathB m t (ps.getD t []) (ps.take t).flatten=true):rightB m ps=true:=by
 unfold rightB;rw [Du h0,Du d,Ev.2 (fun t ht=>o t (Es.1 ht))];rfl
end
structure RtI (w wr:World) (gs:Nat) (pre:List Int):Prop where
 ext:zb w wr
 gsB:w.heap.size<=gs
 set:∃s,zu wr gs s/\∀x,x∈s↔x∈pre
theorem RtI.more {pre:List Int} (h:RtI w wr gs pre) (d:zb wr w'):RtI w w' gs pre:=by
 obtain ⟨s,o,z⟩:=h.set;exact ⟨h.ext.trans d,h.gsB,s,o.below d,z⟩
theorem RtI.add {pre s:List Int} {x:Int} (h:RtI w wr gs pre) (B:∀y,y∈s↔y∈pre) (o:zu w' gs (ins s x)) (z:wr.grownBy w' (some gs)):RtI w w' gs (pre++[x]):=
 ⟨Below.grown h.ext z h.ext.size (fun k d=>by injection d with d;have:=h.gsB;omega),h.gsB,_,o,fun y=>by rw [mem_ins,B,Eg,DY]⟩
end
section
open Go.RowKit
def frP (m:MZ) (t:Nat) (fixed:List (List Int)):Int->Bool:=fun n=>zf m t n && !decide (n∈fixed.flatten)
def farP (m:MZ) (t:Nat) (fixed:List (List Int)):List (Int×Int):=bfs m (frP m t fixed) (m.n.toNat+1) 0 (addAll (frP m t fixed) 0 (m.tasks.getD t ([],[])).2 [])
def descP (m:MZ) (F:List (Int×Int)) (fm:List Int):Option (List Int):=(bestL F fm none).map fun b=>down m F ((F.lookup b).getD 0).toNat b
def knownB (m:MZ) (t:Int):Bool:=decide (AS m=0) && (decide (0<=t) && decide (t<m.tasks.length))
def pathP (m:MZ) (t:Int) (fixed:List (List Int)):Option (List Int):=if knownB m t=true then descP m (farP m t.toNat fixed) (m.tasks.getD t.toNat ([],[])).1 else none
theorem knownB_iff {m:MZ} {t:Int}:knownB m t=true↔AS m=0/\0<=t/\t<m.tasks.length:=by
 unfold knownB;simp
theorem farP_fi {m:MZ} {t:Nat} (g:zE m) (ht:t<m.tasks.length):DFI m (frP m t fixed) (m.tasks.getD t ([],[])).2 (farP m t fixed).length (farP m t fixed):=by
 have h0:DFI m (frP m t fixed) (m.tasks.getD t ([],[])).2 0 (addAll (frP m t fixed) 0 (m.tasks.getD t ([],[])).2 []):=DFI.start fun x d=>by
  rw [Dp,Do ht,DW] at d;exact g.tn _ (Dr ht) x (.inr d)
 obtain ⟨j,o,e⟩:=bfs_fi g.dim (m.n.toNat+1) 0 _ h0 (DF _) (by omega);have:j=(farP m t fixed).length:=e;rw [<-this];exact o
structure PathI (m:MZ) (t:Nat) (fixed:List (List Int)) (p:List Int):Prop where
 ne:p≠[]
 hd:p.getD 0 0∈(m.tasks.getD t ([],[])).1
 lt:p.getD (p.length - 1) 0∈(m.tasks.getD t ([],[])).2
 rg:∀x∈p,0<=x/\x<m.n
 fr:∀x∈p,zf m t x=true/\x∉fixed.flatten
 nd:p.Nodup
 ch:∀(i:Nat) x y,p[i]?=some x->p[i+1]?=some y->y∈zg m x
 nc:∀(i j:Nat) x y,i+2<=j->p[i]?=some x->p[j]?=some y->y∉zg m x
theorem descP_ok {m:MZ} {t:Nat} {p:List Int} (g:zE m) (ht:t<m.tasks.length) (h:descP m (farP m t fixed) (m.tasks.getD t ([],[])).1=some p):PathI m t fixed p:=by
 have hF:=farP_fi (fixed:=fixed) g ht;generalize farP m t fixed=F at hF h;unfold descP at h;obtain ⟨b,hb,rfl⟩:=Option.map_eq_some_iff.1 h;obtain ⟨d,I,h2,-,-⟩:=BM (fun c hc=>by cases hc) hb;rw [I,DW];have K:=AZ I;have L:=(hF.rg _ K).2.2;simp only at L;obtain ⟨f,rfl⟩:∃f:Nat,d=(f:Int):=⟨d.toNat,by omega⟩;rw [Eh];obtain ⟨a1,a2,a3,a4⟩:=down_spec g.dim hF f b I;generalize down m F f b=p at*
 have z:∀x∈p,∃e,(x,e)∈F:=fun x B=>by
  obtain ⟨i,M⟩:=List.getElem?_of_mem B;exact ⟨_,AZ (a3 i x M).2⟩
 have V:p≠[]:=fun e=>by rw [e] at a1;simp at a1
 refine ⟨V,?_,?_,fun x B=>?_,fun x B=>?_,?_,a4,fun i j x y O B hy hn=>?_⟩
 ·have e0:p.getD 0 0=b:=by rw [Dp,a2,DW]
  rw [e0];rcases h2 with h2 | h2
  ·cases h2
  ·exact h2
 ·have hl:p.length - 1<p.length:=by omega
  have e0:p.getD (p.length - 1) 0=p[p.length - 1]:=by rw [Dp,Do hl,DW]
  rw [e0];obtain ⟨G,o⟩:=a3 (p.length - 1) _ (Do hl);have h5:=AZ o;rcases hF.bk _ h5 with ⟨-,E⟩ | ⟨q,hq,-,E⟩
  ·exact E
  ·have:=(hF.rg q hq).2.2;simp only at E;omega
 ·obtain ⟨e,he⟩:=z x B;exact (hF.rg _ he).1
 ·obtain ⟨e,he⟩:=z x B;have:=(hF.rg _ he).2.1;unfold frP at this;simp only [DD,Bool.not_eq_true',DP] at this;exact this
 ·rw [List.nodup_iff_pairwise_ne,List.pairwise_iff_getElem];intro i j M hj O e;have G:=(a3 i _ (Do M));have o:=(a3 j _ (Do hj));rw [e,o.2] at G;have:=G.2;injection this with this;omega
 ·obtain ⟨G,o⟩:=a3 i x B;obtain ⟨h5,E⟩:=a3 j y hy;have h7:=AZ o;have h8:=AZ E;have b5:=(hF.rg _ h8);have D:=(hF.rg _ h7);have h9:=nextL_symm g.dim D.1.1 D.1.2 hn;obtain ⟨k,Q⟩:=List.getElem?_of_mem h8
  have U:k<F.length:=by
   rcases DO k F.length with h | h
   ·exact h
   ·rw [DL h] at Q;cases Q
  obtain ⟨q,hq,e,J⟩:=hF.cl k U _ Q x h9 D.2.1;obtain ⟨q1,q2⟩:=q;simp only at e J;subst e;rw [lookup_of hF.nd hq] at o;injection o with o;omega
theorem pathP_ok {m:MZ} {t:Int} {p:List Int} (h:pathP m t fixed=some p):AS m=0/\(0<=t/\t<m.tasks.length)/\PathI m t.toNat fixed p:=by
 unfold pathP at h
 split at h
 ·rename_i B
  obtain ⟨d,o,z⟩:=knownB_iff.1 B;exact ⟨d,⟨o,z⟩,descP_ok (zE.of d) (by omega) h⟩
 ·cases h
theorem PathI.pathB {m:MZ} {t:Nat} {fixed:List (List Int)} {p pre:List Int} (h:PathI m t fixed p) (hp:∀x∈p,x∉pre):pathB m t p pre=true:=by
 refine pathB_ok h.ne h.hd h.lt fun k d=>?_
 have o:p.getD k 0=p[k]:=by rw [Dp,Do d,DW]
 have hm:=Dr d;have B:=h.rg _ hm;unfold nodeB;rw [o,Du B.1,Du B.2,(h.fr _ hm).1]
 have D:p[k]∉pre++p.take k:=fun hc=>by
  rcases Eg.1 hc with hc | hc
  ·exact hp _ hm hc
  ·obtain ⟨i,I,e⟩:=DX hc;rw [List.getElem_take] at e;have z:i<k:=by rw [Ej] at I;omega
   exact List.pairwise_iff_getElem.1 (List.nodup_iff_pairwise_ne.1 h.nd) i k (by omega) d z e
 rw [Dv D];rcases Ec k with rfl | h0
 ·rfl
 ·have E:p.getD (k - 1) 0=p[k - 1]:=by rw [Dp,Do (by omega),DW]
  have G:=h.ch (k - 1) _ _ (Do (by omega)) (by rw [show k - 1+1=k by omega];exact Do d);rw [E,Du G];simp
end
end Go.Proofs.YtnmkmhpgnpojbaaGreatDoor
