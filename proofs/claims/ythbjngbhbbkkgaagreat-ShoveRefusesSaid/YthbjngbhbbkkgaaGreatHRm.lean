import Derived.Test.YthbjngbhbbkkgaaGreatHRl
import Derived.Deep.AppendLies
set_option linter.unusedVariables false
set_option linter.unusedSimpArgs false
set_option maxRecDepth 100000
set_option maxHeartbeats 16000000
namespace Go.Proofs.YthbjngbhbbkkgaaGreat
variable {ch:List Int} {m:MZ} {Y okc:Nat->Prop} {v vc:Value}
section
open Go.RowKit
attribute [local go_sem ↓] Go.wp_at_zero Go.wp_at_succ
def isChB (m:MZ) (ch:List Int):Bool:=(List.range ch.length).all fun k=>decide (ch.getD k 0∈cand m (ch.take k))
theorem isCh_of {m:MZ} {ch:List Int} (h:∀k,k<ch.length->ch.getD k 0∈cand m (ch.take k)):∀k,k<=ch.length->zx m (ch.take k)
 | 0,_=>by simpa using zx.nil
 | k+1,o=>by
  rw [EN (by omega)];have h1:=h k (by omega);rw [EF,EE (by omega),Fl] at h1;exact .snoc (isCh_of h k (by omega)) h1
theorem Bn:isChB m ch=true↔zx m ch:=by
 unfold isChB;rw [FN];constructor
 ·intro h;have:=isCh_of (m:=m) (ch:=ch) (fun k o=>zaa (h k (FI.2 o))) ch.length (EG _)
  rwa [ER] at this
 ·intro h k o;have o:=FI.1 o;rw [EQ,EF,EE o,Fl];exact h.at o
noncomputable def loadE (m:MZ) (ch:List Int) (st:Int):Int:=
 if AO m≠0 then AO m else if st<0 then 1 else if (isChB m ch && (decide (ch=[]) || Bb m ch))=true then 0 else 51
def loadS (m:MZ) (ch:List Int) (st:Int):RS:=⟨ch,zX m ch || (decide (ch=[]) && decide (0<st)),st⟩
theorem AY.new {wb:World} {X Y ok:Nat->Prop} {p:Nat} {m:MZ} {st:Int} (z:EC wb ok p m []) (o:∀b,ok b->b<wb.heap.size->X b\/Y b) (B:∀b,wb.heap.size<=b->X b) (D:∀b,Y b->b<wb.heap.size):
  AY ((wb.alloc (.cells #[ptrV p] 97)).alloc (.cells #[.slice (some ⟨wb.heap.size,0,none⟩) 1 1,.bool false,.int .i64 st] 96)) X Y (wb.heap.size+1) wb.heap.size 1 m ⟨[],false,st⟩ [p]:=by
 have G:zb wb ((wb.alloc (.cells #[ptrV p] 97)).alloc (.cells #[.slice (some ⟨wb.heap.size,0,none⟩) 1 1,.bool false,.int .i64 st] 96)):=((zb.refl _).alloc _).alloc _;refine ⟨zk.new _ _ _ (by simp),B _ (by omega),B _ (by omega),by omega,fun h=>by have:=D _ h;omega,fun h=>by have:=D _ h;omega,?_,rfl,?_⟩
 ·exact ⟨rfl,.inr ⟨wb.heap.size,1,#[ptrV p],rfl,EU _,(zk.new wb _ _ rfl).alloc _,EG _,by unfold maxLen;omega,rfl,rfl⟩⟩
 ·intro k p' hp
  match k,hp with
  | 0,hp=>
   have:p=p':=by simpa using hp
   subst this;refine (z.bound.ext G).weaken fun b E=>?_
   rcases o b E.1 E.2 with h | h
   ·exact .inl ⟨h,by omega,by omega⟩
   ·exact .inr h
def Ch (w:World) (Y:Nat->Prop) (m:MZ) (ch:List Int) (st:Int) (e:Ending) (w':World):Prop:=
 ∃v,e=.returned (.tuple #[v,.int .i64 (loadE m ch st)])/\zb w w'/\
  ((loadE m ch st≠0/\v=.pointer none)\/(loadE m ch st=0/\zC m/\zx m ch/\∃g gr cap pt,v=ptrV g/\AY w' (fun b=>w.heap.size<=b) Y g gr cap m (loadS m ch st) pt))
structure LR (w wr:World) (Y:Nat->Prop) (g gr cap:Nat) (m:MZ) (ch:List Int) (st:Int) (k:Nat) (pt:List Nat):Prop where
 rt:AY wr (fun b=>w.heap.size<=b) Y g gr cap m ⟨ch.take k,false,st⟩ pt
 ext:zb w wr
 ch:zx m (ch.take k)
theorem load_fin {w w9:World} {g gr cap:Nat} {st:Int} {pt:List Nat} {d:Bool} {c:List Int} (h:AY w9 (fun b=>w.heap.size<=b) Y g gr cap m ⟨c,false,st⟩ pt) (B:zb w w9) (D:c=ch) (z:zx m ch) (G:zC m) (o:loadE m ch st=0) (E:d=(loadS m ch st).done):
  Ch w Y m ch st (.returned (.tuple #[.pointer (some ⟨g,0,none⟩),.int .i64 0])) (w9.setCell ⟨g,1,none⟩ (.bool d)):=by
 subst D;refine ⟨.pointer (some ⟨g,0,none⟩),by rw [o],B.setCell (p:=⟨g,1,none⟩) h.xg _,.inr ⟨o,G,z,g,gr,cap,pt,rfl,?_⟩⟩;have:=h.done d;rw [E] at this⊢;exact this
theorem load_calls (st:Int) (w:World) (hm:zw w Y v m) (hl:Lens m) (i1:zj w okc vc ch) (l5:ch.length<=20000000000000) (h9:∀b,Y b->b<w.heap.size):
  Calls Tryz.prog 61 #[v,vc,.int .i64 st] w (Ch w Y m ch st):=by
 have i4:=hm;obtain ⟨vfr,vup,vts,rfl,_,_,k1⟩:=hm;have h7:=zh i4;clear i4 k1;have k4:=zh i1;obtain ⟨Ac,cc,rfl,l4,i6⟩:=i1;have j1:=zh i6;clear i6;have HL:=zh hl;clear hl;have d7:=zh h9;clear h9;obtain ⟨MV,j3⟩:=zad (Value.agg #[.int .i64 m.w,.int .i64 m.h,.int .i64 m.l,vfr,vup,vts]);obtain ⟨ck,i2⟩:=zad (AO m);have c9:=zh i2;clear i2;obtain ⟨i0,hi,i9,f4,e8⟩:=info_parts Tryz.infoPst;have IF:=zh hi;have IZ0:=zh i9;have IZ1:=zh f4;have IZ2:=zh e8;clear hi i9 f4 e8 j3
 go_enter Tryz.func61,Tryz.ntmps61
 go_wp2_with fail
 generalize h4:w.alloc (.cells #[.int .i64 m.w,.int .i64 m.h,.int .i64 m.l,vfr,vup,vts] 32)=w1;have g3:zb w w1:=by rw [<-h4];exact (zb.refl w).alloc _
 have i3:zk w1 w.heap.size 32 #[.int .i64 m.w,.int .i64 m.h,.int .i64 m.l,vfr,vup,vts]:=by rw [<-h4];exact Fu _ _
 clear h4;obtain ⟨m0,m1,m2,m3,m4,m5⟩:=zA i3;have c0:=zb.rule m0;have c1:=zb.rule m1;have c2:=zb.rule m2;have c3:=zb.rule m3;have c4:=zb.rule m4;have c5:=zb.rule m5;clear m0 m1 m2 m3 m4 m5 i3;refine (Bv w1 (h7.out.below g3) HL.out).mono ?_;rintro e w2 ⟨rfl,f3⟩;have f3:zb w1 w2:=f3;have c6:zb w w2:=g3.trans f3;rw [<-c9.out];by_cases h0:ck=0
 case neg=>
  have l6:(ck==0)=false:=by rw [ET];exact h0
  have l7:(ck != 0)=true:=by rw [bne_iff_ne];exact h0
  have T:loadE m ch st=ck:=by unfold loadE;rw [<-c9.out,if_pos h0]
  have M:Ch w Y m ch st (.returned (.tuple #[.pointer none,.int .i64 ck])) w2:=⟨.pointer none,by rw [T],c6,.inl ⟨by rw [T];exact h0,rfl⟩⟩;have G:=zh M;clear M T h0
  go_wp2_with fail
  go_ret2
  exact G.out
 case pos=>
  subst h0;have HG:=zh (zC.of c9.out.symm);by_cases f2:st<0
  ·have T:loadE m ch st=1:=by unfold loadE;rw [<-c9.out,if_neg (by simp),if_pos f2]
   have M:Ch w Y m ch st (.returned (.tuple #[.pointer none,.int .i64 1])) w2:=⟨.pointer none,by rw [T],c6,.inl ⟨by rw [T];decide,rfl⟩⟩;have G:=zh M;clear M T
   go_wp2_with fail
   go_ret2
   exact G.out
  ·have l0:0<=st:=by omega
   have l8:decide (st<0)=false:=EK f2
   have d5:Hid (loadE m ch st=if (isChB m ch && (decide (ch=[]) || Bb m ch))=true then 0 else 51):=by
    show loadE m ch st=_;unfold loadE;rw [<-c9.out,if_neg (by simp),if_neg f2]
   clear f2
   go_wp2_with fail
   refine (begin_c w2 (h7.out.below c6) (by have:=HG.out.tk;omega)).mono ?_;rintro e w3 ⟨p,rfl,i8,f7⟩;have f9:zb w w3:=c6.trans i8
   have H0:Hid (LR w ((w3.alloc (.cells #[ptrV p] 97)).alloc (.cells #[.slice (some ⟨w3.heap.size,0,none⟩) 1 1,.bool false,.int .i64 st] 96)) Y (w3.heap.size+1) w3.heap.size 1 m ch st 0 [p]):=by
    have hz:=f9.size;have e8:=c6.size;refine ⟨?_,(f9.alloc _).alloc _,by simpa using zx.nil⟩
    have:=AY.new (X:=fun b=>w.heap.size<=b) (Y:=Y) (st:=st) f7 (fun b hb _=>by
     rcases hb with hb | hb
     ·exact .inr hb
     ·exact .inl (by omega)) (fun b hb=>by omega) (fun b hb=>by have:=d7.out b hb;omega)
    simpa using this
   clear f7
   go_wp2_with fail
   generalize i7:(w3.alloc (.cells #[.pointer (some ⟨p,0,none⟩)] 97)).alloc (.cells #[.slice (some ⟨w3.heap.size,0,none⟩) 1 1,.bool false,.int .i64 st] 96)=w4;have H0:Hid (LR w w4 Y (w3.heap.size+1) w3.heap.size 1 m ch st 0 [p]):=by rw [<-i7];exact H0
   clear i7;generalize w3.heap.size+1=g at*;generalize w3.heap.size=gr0 at*;clear c0 c1 c2 c3 c4 c5 i8 f9 c6 f3 g3
   go_loopg [27] ch.length (fun gk v wr=>∃(k gr cap:Nat) (pt:List Nat),v=.int .i64 k/\k<=ch.length/\gk=ch.length - k/\Hid (LR w wr Y g gr cap m ch st k pt))
   case atStart=>exact ⟨0,gr0,1,[p],rfl,EU _,rfl,H0⟩
   clear H0
   case round=>
    obtain ⟨k,gr,cap,pt,rfl,hk,rfl,hR⟩:=hrel;have E:=hR.out.ext;have c8:=hR.out.rt;obtain ⟨p2,g8,e6,_⟩:=c8.row.last;dsimp only at g8 e6;have j7:(ch.take k).length=k:=by rw [FA];omega
    have g6:=hR.out.ch.len300 HG.out;rw [j7] at g6;have b9:Hid (∀W,zb wr W->Calls Tryz.prog 63 #[.pointer (some ⟨g,0,none⟩)] W fun e w'=>e=.returned (.pointer (some ⟨p2,0,none⟩))/\zK W w'):=fun W hE=>last_c (w':=W) (c8.ext hE) g8 (by dsimp only;omega)
    have a2:=zh e6;have rg0:∀W,zb wr W->W.cell? ⟨g,0,none⟩=some (.slice (some ⟨gr,0,none⟩) pt.length cap):=zb.rule (c8.blk.cell (k:=0) rfl);have k6:=Ck c8.row.1;have k9:pt.length<=400:=by have:=c8.row.2.1;dsimp only at this;omega
    clear c8 g8 e6;rcases Fc k ch.length with a5 | hge
    ·obtain ⟨bc,oc,rfl,_,b2⟩:=zy j1.out a5 a5;obtain ⟨n,hn⟩:=zad (ch[k]);rw [<-hn] at b2;have q0:=zb.rule b2;have HN:=zh hn;clear b2 hn
     go_wp2_with fail
     refine (b9.out wr (zb.refl _)).mono ?_;rintro e w5 ⟨rfl,e3⟩;have b5:zb wr w5:=e3.below _;clear e3
     go_wp2_with fail
     refine (CY w5 (a2.out.ext b5) HG.out HL.out hR.out.ch).mono ?_;rintro e w6 ⟨v6,rfl,hM⟩;have a6:zb wr w6:=b5.trans hM.ext;have HM:=zh hM.ints;clear hM b5
     go_wp2_with fail
     refine (zB n w6 HM.out (by have:=CT HL.out (ch.take k);omega)).mono ?_;rintro e w7 ⟨rfl,rfl⟩;by_cases c7:n∈cand m (ch.take k)
     ·rw [EJ c7];have a9:=zh c7;clear c7;have a4:Hid (ch.take k++[n]=ch.take (k+1)):=by show _=_;rw [EN a5,HN.out]
      go_wp2_with fail
      refine EW (S:=fun _=>True) Ag trivial fun zH=>?_;have e0:zb wr w6.drew:=a6.drew;refine zf 0 zH ?_;refine zf 1 zH ?_;refine zf 2 zH ?_;refine zf 3 zH ?_;refine zf 5 zH ?_;refine zf 7 zH ?_;simp only [za,ED];refine rdA [4,6] ?_;refine Fg rfl (fun K o=>?_) ?_
      ·skip
       have hx:=e0;go_simp;clear hx;refine zae o trivial fun zH=>?_;clear o K
       refine zE 6 fun K o=>?_
       skip
       go_simp;go_at_call 63;refine (b9.out _ e0).mono ?_;rintro e wa2 ⟨rfl,j5⟩;have g0:zb wr wa2:=e0.trans (j5.below _);go_simp;refine zae o trivial fun zH=>?_;clear o K
       refine zE 8 fun K o=>?_
       skip
       go_simp;go_at_call 85;refine (with_c _ (a2.out.ext g0) HG.out HL.out hR.out.ch a9.out).mono ?_;rintro e wa3 ⟨q,rfl,a7,hq⟩;have HQ:=zh (push_ok (g:=g) (gr:=gr) hq g0 hR.out.rt (fun b hb=>EI E.size hb));clear hq;have d8:zb wr wa3:=g0.trans a7;clear a7;go_simp;refine zae o trivial fun zH=>?_;clear o K
       refine zE 9 fun K o=>?_
       skip
       go_simp;refine zae o trivial fun zH=>?_;clear o K
       refine zE 10 fun K o=>?_
       skip
       have I:=hR.out.rt.ext d8;have D:=zh I;have V:wa3.cell? ⟨g,0,none⟩=some (.slice (some ⟨gr,0,none⟩) pt.length cap):=I.blk.cell (k:=0) rfl;have a0:wa3.frozen? ⟨g,0,none⟩=false:=I.blk.frozen 0;clear I;refine step_append_lies (P:=Tryz.prog) _ (by rfl) _ _ 94 (by rfl) 0 97 i0 (.pointer none) 1 8 Tryz.underlying94 IF.out IZ0.out IZ1.out IZ2.out rfl (by decide) (.slice (some ⟨gr,0,none⟩) pt.length cap) pt.length _ (by rfl) (D.out.row.1.alloc _) ⟨wa3.heap.size,0,none⟩ 1 1 [ptrV q] (by rfl) rfl (cell_one_new _ _ _) (by simp [ptrV,Value.oneCell']) (by decide) (by unfold maxLen;omega) (by omega) (EU _) (wa3.heap.size+1) (by simp) ?_;intro g5 c5 w9 O hg hv _;obtain ⟨gr',cap',g9,z,L⟩:=D.out.push HQ.out (fun b hb=>EI E.size (EI d8.size hb)) (fun b hb=>Fh (d7.out b hb) (EI E.size d8.size)) O hg (by rcases hv with hv | hv;exact .inl hv.symm;exact .inr (congrArg some hv));have B:w9.heap[g]?=wa3.heap[g]?:=(hg.block g (by have:=zd D.out.blk;simp;omega) (fun e=>D.out.ne (by injection e))).trans (EY _ _ _ (zd D.out.blk));have d9:w9.cell? ⟨g,0,none⟩=some (.slice (some ⟨gr,0,none⟩) pt.length cap):=(EV B).trans V;have e5:w9.frozen? ⟨g,0,none⟩=false:=(Fe (a:=⟨g,0,none⟩) B).trans a0;have a8:Hid (zb w (w9.setCell ⟨g,0,none⟩ (.slice (some ⟨g5,0,none⟩) (pt.length+1) c5))):=Below.trans (E.trans d8) (L.below (EI E.size d8.size) (fun b hb=>hb));have U:=zh z;clear O hg hv z L B V a0;refine zae o trivial fun zH=>?_;clear o K
       refine zE 11 fun K o=>?_
       skip
       go_simp;refine zae o trivial fun zH=>?_;clear o K
       refine zE 12 fun K o=>?_
       skip
       go_simp;refine zae o trivial fun zH=>?_;clear o K
       refine zE 13 fun K o=>?_
       skip
       go_simp;refine zae o trivial fun zH=>?_;clear o K;try simp only [za,ED]
       refine Fk (by kernel_rfl) ?_ _
       go_wp2_with fail
       go_roundg (ch.length - (k+1))
       case measure=>omega
       case rel=>exact ⟨k+1,_,_,_,by go_num,a5,rfl,⟨by have:=U.out;rwa [a4.out] at this,a8.out,by rw [<-a4.out];exact .snoc hR.out.ch a9.out⟩⟩
      refine Fg rfl (fun K o=>?_) .nil
      skip
      go_simp;go_at_call 63;refine (b9.out _ e0).mono ?_;rintro e wa9 ⟨rfl,b3⟩;have b0:zb wr wa9:=e0.trans (b3.below _);go_simp;refine zae o trivial fun zH=>?_;clear o K;try simp only [za,ED]
      refine rdA [4,8] ?_;refine Fg rfl (fun K o=>?_) ?_
      ·skip
       have hx:=b0;go_simp;clear hx;refine zae o trivial fun zH=>?_;clear o K
       refine zE 8 fun K o=>?_
       skip
       go_simp;go_at_call 85;refine (with_c _ (a2.out.ext b0) HG.out HL.out hR.out.ch a9.out).mono ?_;rintro e wa11 ⟨q,rfl,a7,hq⟩;have HQ:=zh (push_ok (g:=g) (gr:=gr) hq b0 hR.out.rt (fun b hb=>EI E.size hb));clear hq;have a3:zb wr wa11:=b0.trans a7;clear a7;go_simp;refine zae o trivial fun zH=>?_;clear o K
       refine zE 9 fun K o=>?_
       skip
       go_simp;refine zae o trivial fun zH=>?_;clear o K
       refine zE 10 fun K o=>?_
       skip
       have I:=hR.out.rt.ext a3;have D:=zh I;have V:wa11.cell? ⟨g,0,none⟩=some (.slice (some ⟨gr,0,none⟩) pt.length cap):=I.blk.cell (k:=0) rfl;have a0:wa11.frozen? ⟨g,0,none⟩=false:=I.blk.frozen 0;clear I;refine step_append_lies (P:=Tryz.prog) _ (by rfl) _ _ 94 (by rfl) 0 97 i0 (.pointer none) 1 8 Tryz.underlying94 IF.out IZ0.out IZ1.out IZ2.out rfl (by decide) (.slice (some ⟨gr,0,none⟩) pt.length cap) pt.length _ (by rfl) (D.out.row.1.alloc _) ⟨wa11.heap.size,0,none⟩ 1 1 [ptrV q] (by rfl) rfl (cell_one_new _ _ _) (by simp [ptrV,Value.oneCell']) (by decide) (by unfold maxLen;omega) (by omega) (EU _) (wa11.heap.size+1) (by simp) ?_;intro g5 c5 w9 O hg hv _;obtain ⟨gr',cap',g9,z,L⟩:=D.out.push HQ.out (fun b hb=>EI E.size (EI a3.size hb)) (fun b hb=>Fh (d7.out b hb) (EI E.size a3.size)) O hg (by rcases hv with hv | hv;exact .inl hv.symm;exact .inr (congrArg some hv));have B:w9.heap[g]?=wa11.heap[g]?:=(hg.block g (by have:=zd D.out.blk;simp;omega) (fun e=>D.out.ne (by injection e))).trans (EY _ _ _ (zd D.out.blk));have d9:w9.cell? ⟨g,0,none⟩=some (.slice (some ⟨gr,0,none⟩) pt.length cap):=(EV B).trans V;have e5:w9.frozen? ⟨g,0,none⟩=false:=(Fe (a:=⟨g,0,none⟩) B).trans a0;have a8:Hid (zb w (w9.setCell ⟨g,0,none⟩ (.slice (some ⟨g5,0,none⟩) (pt.length+1) c5))):=Below.trans (E.trans a3) (L.below (EI E.size a3.size) (fun b hb=>hb));have U:=zh z;clear O hg hv z L B V a0;refine zae o trivial fun zH=>?_;clear o K
       refine zE 11 fun K o=>?_
       skip
       go_simp;refine zae o trivial fun zH=>?_;clear o K
       refine zE 12 fun K o=>?_
       skip
       go_simp;refine zae o trivial fun zH=>?_;clear o K
       refine zE 13 fun K o=>?_
       skip
       go_simp;refine zae o trivial fun zH=>?_;clear o K;try simp only [za,ED]
       refine Fk (by kernel_rfl) ?_ _
       go_wp2_with fail
       go_roundg (ch.length - (k+1))
       case measure=>omega
       case rel=>exact ⟨k+1,_,_,_,by go_num,a5,rfl,⟨by have:=U.out;rwa [a4.out] at this,a8.out,by rw [<-a4.out];exact .snoc hR.out.ch a9.out⟩⟩
      refine Fg rfl (fun K o=>?_) .nil
      skip
      go_simp;go_at_call 85;refine (with_c _ (a2.out.ext b0) HG.out HL.out hR.out.ch a9.out).mono ?_;rintro e wa17 ⟨q,rfl,a7,hq⟩;have HQ:=zh (push_ok (g:=g) (gr:=gr) hq b0 hR.out.rt (fun b hb=>EI E.size hb));clear hq;have J:zb wr wa17:=b0.trans a7;clear a7;go_simp;refine zae o trivial fun zH=>?_;clear o K;try simp only [za,ED]
      refine rdA [4,9] ?_;refine Fg rfl (fun K o=>?_) ?_
      ·skip
       have hx:=J;go_simp;clear hx;refine zae o trivial fun zH=>?_;clear o K
       refine zE 9 fun K o=>?_
       skip
       go_simp;refine zae o trivial fun zH=>?_;clear o K
       refine zE 10 fun K o=>?_
       skip
       have I:=hR.out.rt.ext J;have D:=zh I;have V:wa17.cell? ⟨g,0,none⟩=some (.slice (some ⟨gr,0,none⟩) pt.length cap):=I.blk.cell (k:=0) rfl;have a0:wa17.frozen? ⟨g,0,none⟩=false:=I.blk.frozen 0;clear I;refine step_append_lies (P:=Tryz.prog) _ (by rfl) _ _ 94 (by rfl) 0 97 i0 (.pointer none) 1 8 Tryz.underlying94 IF.out IZ0.out IZ1.out IZ2.out rfl (by decide) (.slice (some ⟨gr,0,none⟩) pt.length cap) pt.length _ (by rfl) (D.out.row.1.alloc _) ⟨wa17.heap.size,0,none⟩ 1 1 [ptrV q] (by rfl) rfl (cell_one_new _ _ _) (by simp [ptrV,Value.oneCell']) (by decide) (by unfold maxLen;omega) (by omega) (EU _) (wa17.heap.size+1) (by simp) ?_;intro g5 c5 w9 O hg hv _;obtain ⟨gr',cap',g9,z,L⟩:=D.out.push HQ.out (fun b hb=>EI E.size (EI J.size hb)) (fun b hb=>Fh (d7.out b hb) (EI E.size J.size)) O hg (by rcases hv with hv | hv;exact .inl hv.symm;exact .inr (congrArg some hv));have B:w9.heap[g]?=wa17.heap[g]?:=(hg.block g (by have:=zd D.out.blk;simp;omega) (fun e=>D.out.ne (by injection e))).trans (EY _ _ _ (zd D.out.blk));have d9:w9.cell? ⟨g,0,none⟩=some (.slice (some ⟨gr,0,none⟩) pt.length cap):=(EV B).trans V;have e5:w9.frozen? ⟨g,0,none⟩=false:=(Fe (a:=⟨g,0,none⟩) B).trans a0;have a8:Hid (zb w (w9.setCell ⟨g,0,none⟩ (.slice (some ⟨g5,0,none⟩) (pt.length+1) c5))):=Below.trans (E.trans J) (L.below (EI E.size J.size) (fun b hb=>hb));have U:=zh z;clear O hg hv z L B V a0;refine zae o trivial fun zH=>?_;clear o K
       refine zE 11 fun K o=>?_
       skip
       go_simp;refine zae o trivial fun zH=>?_;clear o K
       refine zE 12 fun K o=>?_
       skip
       go_simp;refine zae o trivial fun zH=>?_;clear o K
       refine zE 13 fun K o=>?_
       skip
       go_simp;refine zae o trivial fun zH=>?_;clear o K;try simp only [za,ED]
       refine Fk (by kernel_rfl) ?_ _
       go_wp2_with fail
       go_roundg (ch.length - (k+1))
       case measure=>omega
       case rel=>exact ⟨k+1,_,_,_,by go_num,a5,rfl,⟨by have:=U.out;rwa [a4.out] at this,a8.out,by rw [<-a4.out];exact .snoc hR.out.ch a9.out⟩⟩
      refine Fg rfl (fun K o=>?_) .nil
      skip
      go_simp;refine zae o trivial fun zH=>?_;clear o K
      refine zE 4 fun K o=>?_
      skip
      have hx:=(J.alloc (.cells #[.pointer (some ⟨q,0,none⟩)] 97));go_simp;clear hx;refine zae o trivial fun zH=>?_;clear o K
      refine zE 10 fun K o=>?_
      skip
      have I:=hR.out.rt.ext J;have D:=zh I;have V:wa17.cell? ⟨g,0,none⟩=some (.slice (some ⟨gr,0,none⟩) pt.length cap):=I.blk.cell (k:=0) rfl;have a0:wa17.frozen? ⟨g,0,none⟩=false:=I.blk.frozen 0;clear I;refine step_append_lies (P:=Tryz.prog) _ (by rfl) _ _ 94 (by rfl) 0 97 i0 (.pointer none) 1 8 Tryz.underlying94 IF.out IZ0.out IZ1.out IZ2.out rfl (by decide) (.slice (some ⟨gr,0,none⟩) pt.length cap) pt.length _ (by rfl) (D.out.row.1.alloc _) ⟨wa17.heap.size,0,none⟩ 1 1 [ptrV q] (by rfl) rfl (cell_one_new _ _ _) (by simp [ptrV,Value.oneCell']) (by decide) (by unfold maxLen;omega) (by omega) (EU _) (wa17.heap.size+1) (by simp) ?_;intro g5 c5 w9 O hg hv _;obtain ⟨gr',cap',g9,z,L⟩:=D.out.push HQ.out (fun b hb=>EI E.size (EI J.size hb)) (fun b hb=>Fh (d7.out b hb) (EI E.size J.size)) O hg (by rcases hv with hv | hv;exact .inl hv.symm;exact .inr (congrArg some hv));have B:w9.heap[g]?=wa17.heap[g]?:=(hg.block g (by have:=zd D.out.blk;simp;omega) (fun e=>D.out.ne (by injection e))).trans (EY _ _ _ (zd D.out.blk));have d9:w9.cell? ⟨g,0,none⟩=some (.slice (some ⟨gr,0,none⟩) pt.length cap):=(EV B).trans V;have e5:w9.frozen? ⟨g,0,none⟩=false:=(Fe (a:=⟨g,0,none⟩) B).trans a0;have a8:Hid (zb w (w9.setCell ⟨g,0,none⟩ (.slice (some ⟨g5,0,none⟩) (pt.length+1) c5))):=Below.trans (E.trans J) (L.below (EI E.size J.size) (fun b hb=>hb));have U:=zh z;clear O hg hv z L B V a0;refine zae o trivial fun zH=>?_;clear o K
      refine zE 11 fun K o=>?_
      skip
      go_simp;refine zae o trivial fun zH=>?_;clear o K
      refine zE 12 fun K o=>?_
      skip
      go_simp;refine zae o trivial fun zH=>?_;clear o K
      refine zE 13 fun K o=>?_
      skip
      go_simp;refine zae o trivial fun zH=>?_;clear o K;try simp only [za,ED]
      refine Fk (by kernel_rfl) ?_ _
      go_wp2_with fail
      go_roundg (ch.length - (k+1))
      case measure=>omega
      case rel=>exact ⟨k+1,_,_,_,by go_num,a5,rfl,⟨by have:=U.out;rwa [a4.out] at this,a8.out,by rw [<-a4.out];exact .snoc hR.out.ch a9.out⟩⟩
     ·rw [EK c7]
      have T:loadE m ch st=51:=by
       rw [d5.out]
       have:isChB m ch=false:=by
        rw [Bool.eq_false_iff];intro h;have h1:=(Bn.1 h).at a5;rw [<-HN.out] at h1;exact c7 h1
       rw [this];rfl
      have M:Ch w Y m ch st (.returned (.tuple #[.pointer none,.int .i64 51])) w6:=⟨.pointer none,by rw [T],E.trans a6,.inl ⟨by rw [T];decide,rfl⟩⟩;have G:=zh M;clear M T c7
      go_wp2_with fail
      go_ret2
      exact G.out
    ·have j6:k=ch.length:=by omega
     subst j6;have f0:Hid (ch.take ch.length=ch):=ER;have b8:Hid (zx m ch):=by have:=hR.out.ch;rwa [f0.out] at this
     have g4:isChB m ch=true:=Bn.2 b8.out;rw [g4] at d5;have l1:=zh g4;clear g4;rw [f0.out] at a2;by_cases Q:ch=[]
     ·have f4:decide ((0:Int)<(ch.length:Int))=false:=by rw [Q];rfl
      have e8:((ch.length:Int)==0)=true:=by rw [Q];rfl
      have k2:decide (0<ch.length)=false:=by rw [Q];rfl
      have k3:decide (ch.length=0)=true:=by rw [Q];rfl
      have f5:=zh Q;have d6:Hid (loadE m ch st=0):=by show _=_;rw [d5.out,EJ Q];rfl
      clear Q
      go_wp2_with fail
      refine (b9.out wr (zb.refl _)).mono ?_;rintro e w8 ⟨rfl,e4⟩;have b6:zb wr w8:=zb.trans (zb.refl _) (e4.below _);clear e4
      go_wp2_with fail
      refine (DS w8 (a2.out.ext b6) HG.out HL.out b8.out).mono ?_;rintro e w9 ⟨rfl,b3⟩;have e7:zb wr w9:=b6.trans (b3.below _);clear b3 b6;obtain ⟨cb,b1⟩:=zad (zX m ch);rw [<-b1];have b7:=zh b1;clear b1;have z:=hR.out.rt.ext e7;have d9:w9.cell? ⟨g,1,none⟩=some (.bool false):=z.blk.cell (k:=1) rfl;have e5:w9.frozen? ⟨g,1,none⟩=false:=z.blk.frozen 1;have G:Hid (∀d,d=(loadS m ch st).done->Ch w Y m ch st (.returned (.tuple #[.pointer (some ⟨g,0,none⟩),.int .i64 0])) (w9.setCell ⟨g,1,none⟩ (.bool d))):=fun d hd=>load_fin z (E.trans e7) f0.out b8.out HG.out d6.out hd
      clear z
      cases cb with
      | true=>
       go_wp2_with fail
       go_ret2
       exact G.out true (by unfold loadS;rw [<-b7.out];rfl)
      | false=>
       by_cases f1:0<st
       ·have j9:decide (0<st)=true:=EJ f1
        go_wp2_with fail
        go_ret2
        exact G.out true (by unfold loadS;rw [<-b7.out,f5.out];simp [f1])
       ·have j9:decide (0<st)=false:=EK f1
        go_wp2_with fail
        go_ret2
        exact G.out false (by unfold loadS;rw [<-b7.out,f5.out];simp [f1])
     ·have i5:0<ch.length:=List.length_pos_iff.2 Q;have f4:decide ((0:Int)<(ch.length:Int))=true:=EJ (by omega);have e8:((ch.length:Int)==0)=false:=by rw [ET];omega
      have k2:decide (0<ch.length)=true:=EJ i5;have k3:decide (ch.length=0)=false:=EK (by omega);have f8:=zh Q;clear Q
      go_wp2_with fail
      refine (b9.out wr (zb.refl _)).mono ?_;rintro e w5 ⟨rfl,e3⟩;have b5:zb wr w5:=e3.below _;clear e3
      go_wp2_with fail
      refine (open_c w5 (a2.out.ext b5) HG.out HL.out b8.out).mono ?_;rintro e w6 ⟨rfl,a6⟩;have a6:zb wr w6:=b5.trans a6;clear b5;obtain ⟨ob,g7⟩:=zad (Bb m ch);rw [<-g7];have h8:=zh g7;clear g7
      cases ob with
      | false=>
       have T:loadE m ch st=51:=by rw [d5.out,EK f8.out,<-h8.out];rfl
       have M:Ch w Y m ch st (.returned (.tuple #[.pointer none,.int .i64 51])) w6:=⟨.pointer none,by rw [T],E.trans a6,.inl ⟨by rw [T];decide,rfl⟩⟩;have G:=zh M;clear M T
       go_wp2_with fail
       go_ret2
       exact G.out
      | true=>
       have d6:Hid (loadE m ch st=0):=by show _=_;rw [d5.out,EK f8.out,<-h8.out];rfl
       go_wp2_with fail
       refine (b9.out w6 a6).mono ?_;rintro e w8 ⟨rfl,e4⟩;have b6:zb wr w8:=zb.trans a6 (e4.below _);clear e4
       go_wp2_with fail
       refine (DS w8 (a2.out.ext b6) HG.out HL.out b8.out).mono ?_;rintro e w9 ⟨rfl,b3⟩;have e7:zb wr w9:=b6.trans (b3.below _);clear b3 b6;obtain ⟨cb,b1⟩:=zad (zX m ch);rw [<-b1];have b7:=zh b1;clear b1;have z:=hR.out.rt.ext e7;have d9:w9.cell? ⟨g,1,none⟩=some (.bool false):=z.blk.cell (k:=1) rfl;have e5:w9.frozen? ⟨g,1,none⟩=false:=z.blk.frozen 1;have G:Hid (∀d,d=(loadS m ch st).done->Ch w Y m ch st (.returned (.tuple #[.pointer (some ⟨g,0,none⟩),.int .i64 0])) (w9.setCell ⟨g,1,none⟩ (.bool d))):=fun d hd=>load_fin z (E.trans e7) f0.out b8.out HG.out d6.out hd
       clear z
       cases cb with
       | true=>
        go_wp2_with fail
        go_ret2
        exact G.out true (by unfold loadS;rw [<-b7.out];rfl)
       | false=>
        go_wp2_with fail
        go_ret2
        exact G.out false (by unfold loadS;rw [<-b7.out];simp [f8.out])
theorem new_calls (w:World) (hm:zw w Y v m) (O:Lens m) (D:∀b,Y b->b<w.heap.size):
  Calls Tryz.prog 27 #[v] w (Ch w Y m [] 0):=by
 have E:=hm;obtain ⟨vfr,vup,vts,rfl,_,_,_⟩:=hm;have I:=zh E;clear E;have Q:=zh O;clear O;have J:=zh D;clear D
 go_enter Tryz.func27,Tryz.ntmps27
 go_wp2_with fail
 generalize G:w.alloc (.cells #[.int .i64 m.w,.int .i64 m.h,.int .i64 m.l,vfr,vup,vts] 32)=w1;have o:zb w w1:=by rw [<-G];exact (zb.refl w).alloc _
 clear G;refine (load_calls (okc:=fun _=>True) 0 w1 (I.out.below o) Q.out (zj.nil _ _) (by simp) (fun b L=>Fh (J.out b L) o.size)).mono ?_;rintro e w2 ⟨v2,rfl,M,hp⟩
 have z:Ch w Y m [] 0 (.returned (.tuple #[v2,.int .i64 (loadE m [] 0)])) w2:=by
  refine ⟨v2,rfl,o.trans M,?_⟩;rcases hp with hp | ⟨h1,h2,h3,g,gr,cap,pt,T,U⟩
  ·exact .inl hp
  ·exact .inr ⟨h1,h2,h3,g,gr,cap,pt,T,U.widen (fun b L=>EI o.size L)⟩
 have B:=zh z;clear z hp M
 go_wp2_with fail
 go_ret2
 exact B.out
def EA (m:MZ) (ch:List Int):Bool:=decide (AO m=0) && isChB m ch
def SoPost (w:World) (Y:Nat->Prop) (m:MZ) (ch:List Int) (e:Ending) (w':World):Prop:=
 ∃v,e=.returned (.tuple #[v,.bool (EA m ch)])/\zb w w'/\((EA m ch=false/\v=.pointer none)\/(EA m ch=true/\∃p,v=.pointer (some ⟨p,0,none⟩)/\EC w' (fun b=>Y b\/w.heap.size<=b) p m ch))
theorem DL (h:EA m ch=true):zC m/\zx m ch:=by
 unfold EA at h;rw [ES,EQ] at h;exact ⟨zC.of h.1,Bn.1 h.2⟩
theorem stateOf_calls (w:World) (hm:zw w Y v m) (hl:Lens m) (d4:zj w okc vc ch) (f1:ch.length<=20000000000000):
  Calls Tryz.prog 112 #[v,vc] w (SoPost w Y m ch):=by
 have b3:=hm;obtain ⟨vfr,vup,vts,rfl,_,_,_⟩:=hm;have a4:=zh b3;clear b3;obtain ⟨Ac,cc,rfl,f0,b4⟩:=d4;have b7:=zh b4;clear b4;have HL:=zh hl;clear hl;obtain ⟨ck,a8⟩:=zad (AO m);have O:=zh a8;clear a8
 go_enter Tryz.func112,Tryz.ntmps112
 go_wp2_with fail
 generalize a1:w.alloc (.cells #[.int .i64 m.w,.int .i64 m.h,.int .i64 m.l,vfr,vup,vts] 32)=w1;have a7:zb w w1:=by rw [<-a1];exact (zb.refl w).alloc _
 have b1:zk w1 w.heap.size 32 #[.int .i64 m.w,.int .i64 m.h,.int .i64 m.l,vfr,vup,vts]:=by rw [<-a1];exact Fu _ _
 clear a1;obtain ⟨m0,m1,m2,m3,m4,m5⟩:=zA b1;have c0:=zb.rule m0;have c1:=zb.rule m1;have c2:=zb.rule m2;have c3:=zb.rule m3;have c4:=zb.rule m4;have c5:=zb.rule m5;clear m0 m1 m2 m3 m4 m5 b1;refine (Bv w1 (a4.out.below a7) HL.out).mono ?_;rintro e w2 ⟨rfl,a2⟩;have a2:zb w1 w2:=a2;have a6:zb w w2:=a7.trans a2;rw [<-O.out];by_cases h0:ck=0
 case neg=>
  have f2:(ck==0)=false:=by rw [ET];exact h0
  have f3:(ck != 0)=true:=by rw [bne_iff_ne];exact h0
  have B:EA m ch=false:=by unfold EA;rw [<-O.out,EK h0];rfl
  have o:SoPost w Y m ch (.returned (.tuple #[.pointer none,.bool false])) w2:=⟨.pointer none,by rw [B],a6,.inl ⟨B,rfl⟩⟩;have z:=zh o;clear o B h0
  go_wp2_with fail
  go_ret2
  exact z.out
 case pos=>
  subst h0;have HG:=zh (zC.of O.out.symm);have E:=HG.out.dim;have d8:=E.n1;have b2:=E.layer;have HD:=zh E;clear E;have a0:Hid (EA m ch=isChB m ch):=by show _=_;unfold EA;rw [<-O.out];rfl
  go_wp2_with fail
  refine (AC m.w m.h m.l vfr vup vts w2 (by omega) (by omega)).mono ?_;rintro e w3 ⟨rfl,T⟩;have T:zb w2 w3:=T;have Q:zb w w3:=a6.trans T;have e4:zb w1 w3:=zb.trans ‹zb w1 w2› T;by_cases I:m.w*m.h*m.l<(ch.length:Int)
  ·have b0:decide (m.w*m.h*m.l<(ch.length:Int))=true:=EJ I
   have B:EA m ch=false:=by
    rw [a0.out,Bool.eq_false_iff];intro h;have h1:=(Bn.1 h).len HG.out;have h2:m.n=m.w*m.h*m.l:=rfl;omega
   have o:SoPost w Y m ch (.returned (.tuple #[.pointer none,.bool false])) w3:=⟨.pointer none,by rw [B],Q,.inl ⟨B,rfl⟩⟩;have z:=zh o;clear o B
   go_wp2_with fail
   go_ret2
   exact z.out
  ·have b0:decide (m.w*m.h*m.l<(ch.length:Int))=false:=EK I;have d6:ch.length<=300:=by omega
   clear I b2 d8
   go_wp2_with fail
   refine (begin_c w3 (a4.out.below Q) (by have:=HG.out.tk;omega)).mono ?_;rintro e w4 ⟨p,rfl,d9,V⟩;have b9:zb w w4:=Q.trans d9
   have H0:Hid (EC w4 (fun b=>Y b\/w.heap.size<=b) p m (ch.take 0)):=by
    have:=Q.size
    exact V.weaken fun b hb=>by
     rcases hb with hb | hb
     ·exact .inl hb
     ·exact .inr (by omega)
   have U:Hid (zx m (ch.take 0)):=by show zx m (ch.take 0);simpa using zx.nil
   clear V b0 c0 c1 c2 c3 c4 c5
   go_wp2_with fail
   go_loopg [6,23] ch.length (fun gk v6 v wr=>∃(k p:Nat),v6=.pointer (some ⟨p,0,none⟩)/\v=.int .i64 k/\k<=ch.length/\gk=ch.length - k/\Hid (EC wr (fun b=>Y b\/w.heap.size<=b) p m (ch.take k))/\Hid (zx m (ch.take k))/\Hid (zb w wr))
   case atStart=>exact ⟨0,p,rfl,rfl,EU _,rfl,H0,U,b9⟩
   clear H0 U
   case round=>
    obtain ⟨k,p,rfl,rfl,hk,rfl,hS,hI,hX⟩:=hrel;have M:=hX.out;rcases Fc k ch.length with J | hge
    ·obtain ⟨bc,oc,rfl,_,D⟩:=zy b7.out J J;obtain ⟨n,hn⟩:=zad (ch[k]);rw [<-hn] at D;have q0:=zb.rule D;have HN:=zh hn;clear D hn
     go_wp2_with fail
     refine (CY wr hS.out HG.out HL.out hI.out).mono ?_;rintro e w6 ⟨v6,rfl,hM⟩;have L:zb wr w6:=hM.ext;have HM:=zh hM.ints;clear hM
     go_wp2_with fail
     refine (zB n w6 HM.out (by have:=CT HL.out (ch.take k);omega)).mono ?_;rintro e w7 ⟨rfl,rfl⟩;by_cases G:n∈cand m (ch.take k)
     ·rw [EJ G];have a5:=zh G;clear G;have a9:Hid (ch.take k++[n]=ch.take (k+1)):=by show _=_;rw [EN J,HN.out]
      go_wp2_with fail
      refine (with_c w6 (hS.out.ext L) HG.out HL.out hI.out a5.out).mono ?_;rintro e w8 ⟨q,rfl,b5,hq⟩
      have HQ:Hid (EC w8 (fun b=>Y b\/w.heap.size<=b) q m (ch.take (k+1))):=by
       have:=(M.trans L).size;rw [<-a9.out]
       exact hq.weaken fun b hb=>by
        rcases hb with hb | hb
        ·exact hb.1
        ·exact .inr (by omega)
      have c6:Hid (zx m (ch.take (k+1))):=by rw [<-a9.out];exact .snoc hI.out a5.out
      have c9:Hid (zb w w8):=M.trans (L.trans b5);clear hq b5 L M
      go_wp2_with fail
      go_roundg (ch.length - (k+1))
      case measure=>omega
      case rel=>exact ⟨k+1,q,rfl,by go_num,J,rfl,HQ,c6,c9⟩
     ·rw [EK G]
      have B:EA m ch=false:=by
       rw [a0.out,Bool.eq_false_iff];intro h;have h1:=(Bn.1 h).at J;rw [<-HN.out] at h1;exact G h1
      have o:SoPost w Y m ch (.returned (.tuple #[.pointer none,.bool false])) w6:=⟨.pointer none,by rw [B],M.trans L,.inl ⟨B,rfl⟩⟩;have z:=zh o;clear o B G
      go_wp2_with fail
      go_ret2
      exact z.out
    ·have d5:k=ch.length:=by omega
     subst d5;have b8:Hid (ch.take ch.length=ch):=ER
     have o:SoPost w Y m ch (.returned (.tuple #[.pointer (some ⟨p,0,none⟩),.bool true])) wr:=by
      have h1:=hI.out;have h2:=hS.out;rw [b8.out] at h1 h2;have h3:EA m ch=true:=by rw [a0.out];exact Bn.2 h1
      exact ⟨_,by rw [h3],M,.inr ⟨h3,p,rfl,h2⟩⟩
     have z:=zh o;clear o
     go_wp2_with fail
     go_ret2
     exact z.out
def zO (m:MZ) (ch:List Int):List Int:=if EA m ch=true then cand m ch else []
theorem DB (w:World) (hm:zw w Y v m) (U:Lens m) (E:zj w okc vc ch) (O:ch.length<=20000000000000):
  Calls Tryz.prog 92 #[v,vc] w fun e w'=>∃v',e=.returned v'/\Mk w w' v' (zO m ch):=by
 have G:=hm;obtain ⟨vfr,vup,vts,rfl,_,_,_⟩:=hm;have M:=zh G;clear G;have Q:=zh U;clear U;have L:=zh E;obtain ⟨Ac,cc,rfl,a1,_⟩:=E;obtain ⟨ok,I⟩:=zad (EA m ch);have o:=zh I;clear I
 go_enter Tryz.func92,Tryz.ntmps92
 go_wp2_with fail
 generalize J:w.alloc (.cells #[.int .i64 m.w,.int .i64 m.h,.int .i64 m.l,vfr,vup,vts] 32)=w1;have B:zb w w1:=by rw [<-J];exact (zb.refl w).alloc _
 clear J;refine (stateOf_calls w1 (M.out.below B) Q.out (L.out.below B) O).mono ?_;rintro e w2 ⟨v2,rfl,hE,hp⟩;rw [<-o.out];rw [<-o.out] at hp;have D:zb w w2:=B.trans hE;rcases hp with ⟨h1,rfl⟩ | ⟨h1,p,rfl,h2⟩
 ·subst h1
  have z:Hid (Mk w w2 (.slice none 0 0) (zO m ch)):=by
   show Mk _ _ _ _;unfold zO;rw [<-o.out];exact Mk.nil' D
  go_wp2_with fail
  go_ret;exact ⟨_,rfl,z.out⟩
 ·subst h1;have V:=zh h2;clear h2
  go_wp2_with fail
  refine (CY w2 V.out (DL o.out.symm).1 Q.out (DL o.out.symm).2).mono ?_;rintro e w3 ⟨v3,rfl,T⟩
  have z:Hid (Mk w w3 v3 (zO m ch)):=by
   show Mk _ _ _ _;unfold zO;rw [<-o.out,if_pos rfl];exact D.mono_mk T
  clear T
  go_wp2_with fail
  go_ret;exact ⟨_,rfl,z.out⟩
noncomputable def openO (m:MZ) (ch:List Int):Bool:=EA m ch && Bb m ch
end
end Go.Proofs.YthbjngbhbbkkgaaGreat
