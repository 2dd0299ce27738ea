import Derived.Test.YtcnaogdgjkpkmaaGreatDoorWCo
import Derived.Stop.LaidErr
import Derived.Lib.LaidTab
set_option linter.unusedVariables false
set_option linter.unusedSimpArgs false
set_option maxRecDepth 100000
set_option maxHeartbeats 16000000
namespace Go.Proofs.YtcnaogdgjkpkmaaGreatDoor
variable {g:Nat} {a b c:Value}
section
open Go.RowKit Go.Shelf
attribute [local go_sem ↓] Go.wp_at_zero Go.wp_at_succ
attribute [local go_sem] Oper.semAt_some
mutual
theorem sameP_eq:∀{p q:PT},AJ p q=true->p=q
 | .node t s ks,.node t' s' ks',h=>by
  unfold AJ at h;rw [Dm,Dm,Dm] at h;obtain ⟨h1,h2,r,o⟩:=h;rw [DU h1,DU h2,sameL_eq (DU r) o]
theorem sameL_eq:∀{a b:List PT},a.length=b.length->BY a b=true->a=b
 | [],[],_,_=>rfl
 | [],_ :: _,o,_=>by cases o
 | _ :: _,[],o,_=>by cases o
 | p :: a,q :: b,o,h=>by
  unfold BY at h;rw [Dm] at h;rw [sameP_eq h.1,sameL_eq (Nat.succ.inj o) h.2]
end
theorem same_enc {p q:PT} (h:p.Ok) (r:q.Ok):AJ p q=(zI q==zI p):=by
 cases o:AJ p q with
 | true=>rw [sameP_eq o];exact (beq_self_eq_true _).symm
 | false=>
  symm;rw [Dn];intro e;have:=enc_inj r h e;subst this;rw [AZ] at o;cases o
mutual
theorem ok_lens:∀{p:PT},p.Ok->p.Lens
 | .node t s ks,h=>by
  unfold PT.Ok at h;unfold PT.Lens;exact ⟨by omega,by omega,okL_lens h.2.2.2.2⟩
theorem okL_lens:∀{ks:List PT},PT.OkL ks->PT.LensL ks
 | [],_=>by unfold PT.LensL;trivial
 | k :: ks,h=>by
  unfold PT.OkL at h;unfold PT.LensL;exact ⟨ok_lens h.1,okL_lens h.2⟩
end
theorem decR_lens (l:List UInt8):(decR l).2.Lens:=by
 have r:PT.zero.Lens:=by unfold PT.zero PT.Lens PT.LensL;simp
 unfold decR
 split
 ·exact r
 ·rename_i z
  cases o:decF l with
  | none=>exact r
  | some p=>
   unfold decF at o
   split at o
   ·cases o
   ·injection o with o;subst o;exact ok_lens ((rdF_wt (l.length+1) (l,false) rfl).2.1 (by show l.length<=_;omega))
theorem AD {p:PT}:BN (fun W ok x=>zV W ok x p):=fun W W' ok ok' x h r z=>h.bound.keepW (fun b o _=>r b o.1 o.2) (fun b o=>z b o.1 o.2)
theorem set3_ext {w0 W:World} (h:za w0 W) (o:w0.heap.size<=g):za w0 (((W.setCell ⟨g,0,none⟩ a).setCell ⟨g,1,none⟩ b).setCell ⟨g,2,none⟩ c):=((h.setCell (p:=⟨g,0,none⟩) o a).setCell (p:=⟨g,1,none⟩) o b).setCell (p:=⟨g,2,none⟩) o c
theorem set3_off {W:World}:∀k,k≠g->(((W.setCell ⟨g,0,none⟩ a).setCell ⟨g,1,none⟩ b).setCell ⟨g,2,none⟩ c).heap[k]?=W.heap[k]?:=fun k o=>((hset k o).trans (hset k o)).trans (hset k o)
theorem set3_blk {W:World} {t:TypeId} {x y z:Value} (h:ze W g t #[x,y,z]):ze (((W.setCell ⟨g,0,none⟩ a).setCell ⟨g,1,none⟩ b).setCell ⟨g,2,none⟩ c) g t #[a,b,c]:=((h.set (k:=0) a).set (k:=1) b).set (k:=2) c
theorem ycodes_calls {ok ok':Nat->Prop} {v v':Value} {px py:PT} (k:Nat) (S:List UInt8) (w:World) (hv:z9 w) (h:zV w ok v px) (h':zV w ok' v' py) (j9:px.In) (f0:py.In) (n9:k<=65535) (hS:S.length<=9223372036854775807):
  Calls Tryz.prog 4 #[v,v',.agg #[.int .u16 k,.string ⟨S.toArray⟩]] w fun e w'=>e=.returned (.bool true)/\za w w':=by
 have HV:=zh hv;have i5:=zh h;have i6:=zh h';have d4:=zh j9;have d5:=zh f0;obtain ⟨A1,c1,B1,d1,rfl,-⟩:=h.form;obtain ⟨A2,c2,B2,d2,rfl,-⟩:=h'.form;clear hv h h' j9 f0
 go_enter Tryz.func4,Tryz.ntmps4
 go_upto_region 1 with fail;refine fin_wp29 w [_,_,_] fun w1 d6 M=>?_
 have a6:ze w1 w.heap.size 27 #[.int .i64 px.task,.slice A1 px.side.length c1,.slice B1 px.kids.length d1]:=M 0 _ rfl;have b9:ze w1 (w.heap.size+1) 27 #[.int .i64 py.task,.slice A2 py.side.length c2,.slice B2 py.kids.length d2]:=M 1 _ rfl;have d9:ze w1 (w.heap.size+2) 47 #[.int .u16 k,.string ⟨S.toArray⟩]:=M 2 _ rfl;obtain ⟨b5,g4⟩:∃b,b=w.heap.size+2:=⟨_,rfl⟩;obtain ⟨b4,g3⟩:∃b,b=w.heap.size+1:=⟨_,rfl⟩;obtain ⟨b3,g1⟩:∃b,b=w.heap.size:=⟨_,rfl⟩;rw [<-g1] at a6;rw [<-g3] at b9;rw [<-g4] at d9;rw [<-g4,<-g3,<-g1];have h7:=zh d6;have r30:=za.rule (a6.cell (k:=0) rfl);have r31:=za.rule (a6.cell (k:=1) rfl);have r32:=za.rule (a6.cell (k:=2) rfl);have r40:=za.rule (b9.cell (k:=0) rfl);have r41:=za.rule (b9.cell (k:=1) rfl);have r42:=za.rule (b9.cell (k:=2) rfl);have r50:=za.rule (d9.cell (k:=0) rfl);have r51:=za.rule (d9.cell (k:=1) rfl);have e2:=zh (i5.out.ext d6);have e3:=zh (i6.out.ext d6);clear M a6 b9 d9 g1 g3 g4 d6 i5 i6
 go_wp2_with fail
 refine (ysanity_calls w1 (HV.out.ext h7.out)).mono ?_;rintro e w2 ⟨rfl,a4⟩;have z:za w1 w2:=a4;have c0:Hid (za w w2):=h7.out.trans a4;clear a4;obtain ⟨pa,a7⟩:∃p,p=zE 4 px:=⟨_,rfl⟩;obtain ⟨pb,a8⟩:∃p,p=zE 4 py:=⟨_,rfl⟩
 have h8:Hid (∀W,za w2 W->Calls Tryz.prog 11 #[.agg #[.int .i64 px.task,.slice A1 px.side.length c1,.slice B1 px.kids.length d1],.int .i64 4] W (FewR W (fun b=>b<w2.heap.size) pa)):=fun W hW=>by
  rw [a7];exact few_calls 5 4 _ _ _ W (by omega) (by omega) (((e2.out.ext z).bound.ext hW).wk fun b E _=>E.2) d4.out
 have h9:Hid (∀W,za w2 W->Calls Tryz.prog 11 #[.agg #[.int .i64 py.task,.slice A2 py.side.length c2,.slice B2 py.kids.length d2],.int .i64 4] W (FewR W (fun b=>b<w2.heap.size) pb)):=fun W hW=>by
  rw [a8];exact few_calls 5 4 _ _ _ W (by omega) (by omega) (((e3.out.ext z).bound.ext hW).wk fun b E _=>E.2) d5.out
 have G:Hid (pa.Ok/\(zI pa).length<=200000/\pa.LenN 20/\pa.size<=400):=by
  refine ⟨?_,?_,?_,?_⟩
  ·rw [a7];exact few_ok 4 px d4.out
  ·rw [a7];have:=few_enc 4 px d4.out;have h:capF 4=341:=by decide
   omega
  ·rw [a7];exact few_lenN 4 px
  ·rw [a7];have:=few_size 4 px;have h:capF 4=341:=by decide
   omega
 have b0:Hid (pb.Ok/\(zI pb).length<=200000/\pb.LenN 20/\pb.size<=400):=by
  refine ⟨?_,?_,?_,?_⟩
  ·rw [a8];exact few_ok 4 py d5.out
  ·rw [a8];have:=few_enc 4 py d5.out;have h:capF 4=341:=by decide
   omega
  ·rw [a8];exact few_lenN 4 py
  ·rw [a8];have:=few_size 4 py;have h:capF 4=341:=by decide
   omega
 have s30:∀W,za w2 W->W.cell? ⟨b3,0,none⟩=some (.int .i64 px.task):=fun W h=>r30 W (z.trans h)
 have s31:∀W,za w2 W->W.cell? ⟨b3,1,none⟩=some (.slice A1 px.side.length c1):=fun W h=>r31 W (z.trans h)
 have s32:∀W,za w2 W->W.cell? ⟨b3,2,none⟩=some (.slice B1 px.kids.length d1):=fun W h=>r32 W (z.trans h)
 have s40:∀W,za w2 W->W.cell? ⟨b4,0,none⟩=some (.int .i64 py.task):=fun W h=>r40 W (z.trans h)
 have s41:∀W,za w2 W->W.cell? ⟨b4,1,none⟩=some (.slice A2 py.side.length c2):=fun W h=>r41 W (z.trans h)
 have s42:∀W,za w2 W->W.cell? ⟨b4,2,none⟩=some (.slice B2 py.kids.length d2):=fun W h=>r42 W (z.trans h)
 have b6:=zh z;clear a7 a8 d4 d5 e2 e3 r30 r31 r32 r40 r41 r42 z;go_upto_region 2 with fail;refine Dp (S:=(fun W=>za w2 W)) (by kernel_rfl) ((za.refl w2).drew) fun zH=>?_;refine zj 0 zH ?_;refine zj 2 zH ?_;simp only [zc,CV];refine Bg [1,3,4,5,6,7] (fun e v W=>J2 (fun W ok x=>zV W ok x pa) (fun W ok x=>zV W ok x pb) 27 #[.int .i64 0,.slice none 0 0,.slice none 0 0] w2 e v W) (F:=?F1) (by kernel_rfl) (by kernel_rfl) (by decide) zH (fun v=>?hF1) ?init1 (by kernel_rfl) ?steps1 ?fin1
 case hF1=>(simp only [zN,Bw,List.getElem?_toArray,List.getElem?_cons_succ,List.getElem?_cons_zero,Option.bind,Act.put,List.setIfInBounds_toArray,List.set_cons_succ,List.set_cons_zero];rfl)
 case init1=>(intro e v he;exact J2.init (za.refl w2).drew he)
 case steps1=>
  refine zp.cons rfl (fun e v W K D hW he Q B=>?_) ?_
  ·simp only [zc] at Q B⊢;go_simp;go_at_call 11;refine (h8.out W D.ext).mono ?_;rintro e' w' ⟨x,rfl,U,I⟩;exact B.out _ _ _ (by rfl) (D.ext.trans U) (D.call1 AD AD he U I)
  refine zp.cons rfl (fun e v W K D hW he Q B=>?_) ?_
  ·simp only [zc] at Q B⊢;go_simp;go_at_call 11;refine (h9.out W D.ext).mono ?_;rintro e' w' ⟨x,rfl,U,I⟩;exact B.out _ _ _ (by rfl) (D.ext.trans U) (D.call2 AD AD he U I)
  refine zp.cons rfl (fun e v W K D hW he Q B=>?_) ?_
  ·simp only [zc] at Q B⊢;go_simp;exact B.out _ (.pointer (some ⟨W.heap.size,0,none⟩)) _ (by rfl) (D.ext.alloc _) (D.box1 AD AD he)
  refine zp.cons rfl (fun e v W K D hW he Q B=>?_) ?_
  ·simp only [zc] at Q B⊢;go_simp;exact B.out _ (.pointer (some ⟨W.heap.size,0,none⟩)) _ (by rfl) (D.ext.alloc _) (D.box2 AD AD he)
  refine zp.cons rfl (fun e v W K D hW he Q B=>?_) ?_
  ·simp only [zc] at Q B⊢;have J:=Ah Q [1,3,4,5] (by kernel_rfl)
   skip
   obtain ⟨g,h4,lo,lt,m,-⟩:=D.b1 (J 4 (by simp));obtain ⟨As,cs,Ak,ck,h1,-⟩:=(D.p1 (J 1 (by simp))).form;have M:=m he;have y0:=M.cell (k:=0) rfl;have y1:=M.cell (k:=1) rfl;have y2:=M.cell (k:=2) rfl;have yf:∀j,W.frozen? ⟨g,j,none⟩=false:=fun j=>M.frozen j
   rw [h4,h1];go_simp;exact B.out _ undef _ (by simp [Act.put,h4,h1]) (set3_ext D.ext lo) (D.store1 AD AD he ⟨J 1 (by simp),J 3 (by simp),J 4 (by simp),J 5 (by simp)⟩ h4 h1 (set3_ext D.ext lo) (by simp) set3_off (set3_blk M))
  refine zp.cons rfl (fun e v W K D hW he Q B=>?_) ?_
  ·simp only [zc] at Q B⊢;have J:=Ah Q [3,5,6] (by kernel_rfl)
   skip
   obtain ⟨g,h5,lo,lt,m,-⟩:=D.b2 (J 5 (by simp));obtain ⟨As,cs,Ak,ck,h3,-⟩:=(D.p2 (J 3 (by simp))).form;have M:=m he;have y0:=M.cell (k:=0) rfl;have y1:=M.cell (k:=1) rfl;have y2:=M.cell (k:=2) rfl;have yf:∀j,W.frozen? ⟨g,j,none⟩=false:=fun j=>M.frozen j
   rw [h5,h3];go_simp;exact B.out _ undef _ (by simp [Act.put,h5,h3]) (set3_ext D.ext lo) (D.store2 AD AD he (J 6 (by simp)) h5 h3 (set3_ext D.ext lo) (by simp) set3_off (set3_blk M))
  exact zp.nil
 case fin1=>
  intro v W D _;obtain ⟨g8,g9,a1,a2,e4,e5,f1,f2,U,lo1,lo2,B8,B9,P8,P9⟩:=D.fin AD AD;obtain ⟨A8,c8,K8,k8,e,-⟩:=P8.form;injection e with e;subst e;obtain ⟨A9,c9,K9,k9,e,-⟩:=P9.form;injection e with e;subst e;rw [e4,e5,f1,f2];clear D e4 e5 f1 f2 s30 s31 s32 s40 s41 s42 h8 h9;obtain ⟨w3,rfl⟩:∃w3:World,w3=W:=⟨_,rfl⟩;have c7:Hid (za w w3):=c0.out.trans U;have t50:∀W,za w3 W->W.cell? ⟨b5,0,none⟩=some (.int .u16 k):=fun W h=>r50 W ((b6.out.trans U).trans h)
  have t51:∀W,za w3 W->W.cell? ⟨b5,1,none⟩=some (.string ⟨S.toArray⟩):=fun W h=>r51 W ((b6.out.trans U).trans h)
  have u80:=za.rule (B8.cell (k:=0) rfl);have u81:=za.rule (B8.cell (k:=1) rfl);have u82:=za.rule (B8.cell (k:=2) rfl);have u90:=za.rule (B9.cell (k:=0) rfl);have u91:=za.rule (B9.cell (k:=1) rfl);have u92:=za.rule (B9.cell (k:=2) rfl);have z:za w3 w3:=za.refl w3;obtain ⟨s,hs⟩:=DX (zI pa);obtain ⟨s2,g5⟩:=DX (zI pb)
  have e0:Hid (∀W,za w3 W->Calls Tryz.prog 14 #[.agg #[.int .i64 pa.task,.slice A8 pa.side.length c8,.slice K8 pa.kids.length k8]] W fun e w'=>e=.returned (.string ⟨s.toArray⟩)/\za W w'):=fun W hW=>by
   rw [hs];exact Cj pa.size W (HV.out.ext (c7.out.trans hW)) (P8.ext hW) (CY _) G.out.1 (by have:=G.out.2.1;omega)
  have e1:Hid (∀W,za w3 W->Calls Tryz.prog 14 #[.agg #[.int .i64 pb.task,.slice A9 pb.side.length c9,.slice K9 pb.kids.length k9]] W fun e w'=>e=.returned (.string ⟨s2.toArray⟩)/\za W w'):=fun W hW=>by
   rw [g5];exact Cj pb.size W (HV.out.ext (c7.out.trans hW)) (P9.ext hW) (CY _) b0.out.1 (by have:=b0.out.2.1;omega)
  have e8:Hid (∀W,za w3 W->Calls Tryz.prog 15 #[.agg #[.int .i64 pa.task,.slice A8 pa.side.length c8,.slice K8 pa.kids.length k8]] W fun e w'=>e=.returned (.string ⟨s.toArray⟩)/\za W w'):=fun W hW=>by
   rw [hs];exact venc_calls pa.size W (P8.ext hW) (CY _) G.out.1 (by have:=G.out.2.1;omega)
  have d7:pa.Lens:=lenN_lens (by omega) _ G.out.2.2.1;have j4:pb.Lens:=lenN_lens (by omega) _ b0.out.2.2.1
  have e7:Hid (∀W,za w3 W->Calls Tryz.prog 17 #[.agg #[.int .i64 pa.task,.slice A8 pa.side.length c8,.slice K8 pa.kids.length k8],.agg #[.int .i64 pb.task,.slice A9 pb.side.length c9,.slice K9 pb.kids.length k9]] W fun e w'=>e=.returned (.bool (s2==s))/\za W w'):=fun W hW=>by
   have h:=AI pa.size W (P8.ext hW) (P9.ext hW) (CY _) d7 j4;have e:AJ pa pb=(s2==s):=by rw [hs,g5];exact same_enc G.out.1 b0.out.1
   rw [e] at h;exact h
  have i7:Hid (∀W (ok:Nat->Prop) v,za w3 W->zV W ok v pa->Calls Tryz.prog 17 #[v,.agg #[.int .i64 pa.task,.slice A8 pa.side.length c8,.slice K8 pa.kids.length k8]] W fun e w'=>e=.returned (.bool true)/\za W w'):=fun W ok v hW hv=>by
   have h:=AI pa.size W hv (P8.ext hW) (CY _) d7 d7;rw [AZ] at h;exact h
  have h6:Hid (∀W,za w3 W->Calls Tryz.prog 16 #[.string ⟨s.toArray⟩] W fun e w'=>∃v,e=.returned (.tuple #[v,.int .i64 0])/\za W w'/\zV w' (fun b=>W.heap.size<=b) v pa):=fun W hW=>by
   have h:=dec_calls (l:=s) W (HV.out.ext (c7.out.trans hW));have e:decR s=(0,pa):=by rw [hs];exact decR_enc G.out.1 (by have:=G.out.2.1;omega)
   rw [e] at h;exact h
  have o4:s.length<=200000:=by rw [hs];exact G.out.2.1
  clear hs g5 U lo1 lo2 B8 B9 P8 P9 d7 j4 G b0 r50 r51 b6
  go_wp2_with fail
  refine (e0.out _ z).mono ?_;rintro e w4 ⟨rfl,b7⟩;clear z;have z:za w3 w4:=b7;clear b7
  go_wp2_with fail
  refine (e8.out _ z).mono ?_;rintro e w5 ⟨rfl,j3⟩;have g6:za w3 w5:=z.trans j3;clear j3 z
  go_wp2_with fail
  refine (h6.out _ g6).mono ?_;rintro e w6 ⟨v6,rfl,b8,f9⟩;obtain ⟨A6,c6,K6,k6,rfl,-⟩:=f9.form;have l3:za w3 w6:=g6.trans b8;have i3:=zh f9;clear b8 g6 f9;go_upto_region 7 with fail;obtain ⟨E,p0,p1,p2⟩:=box3 w6 (.int .i64 pa.task) (.slice A6 pa.side.length c6) (.slice K6 pa.kids.length k6);generalize w6.alloc _=w7 at E p0 p1 p2⊢;obtain ⟨g11,e9⟩:∃g,g=w6.heap.size:=⟨_,rfl⟩;rw [<-e9] at p0 p1 p2⊢;have o:Hid (za w3 w7):=l3.trans E;have i4:=zh (i3.out.ext E);have u80:=fun W h=>u80 W (o.out.trans h)
  have u81:=fun W h=>u81 W (o.out.trans h)
  have u82:=fun W h=>u82 W (o.out.trans h)
  have u90:=fun W h=>u90 W (o.out.trans h)
  have u91:=fun W h=>u91 W (o.out.trans h)
  have u92:=fun W h=>u92 W (o.out.trans h)
  have z:za w7 w7:=za.refl w7;have e6:=zh (fun W (h:za w7 W)=>i7.out W _ _ (o.out.trans h) (i4.out.ext h));have a9:=zh (fun W (h:za w7 W)=>e1.out W (o.out.trans h));have O:=zh (fun W (h:za w7 W)=>e7.out W (o.out.trans h));obtain ⟨b,g0⟩:=DX ((s2==s));have a6:(s2==s)=b:=g0.symm;rw [<-g0] at O;clear E e9 l3 i3 g0 e0 e1 e8 e7 i7 h6;refine Dp (S:=(fun W=>za w7 W)) An (z.drew) fun zH=>?_;generalize w7.drew=wd at zH⊢;refine zj 0 zH ?_;refine zj 1 zH ?_;simp only [zc,CV];refine zj 2 zH ?_;refine zj 3 zH ?_;simp only [zc,CV];refine zj 4 zH ?_;simp only [zc,CV];refine Aa 5 fun K B=>?_;go_simp;go_at_call 17;refine (e6.out _ zH).mono ?_;rintro e w8 ⟨rfl,m3⟩;go_simp;refine DY B (zH.trans m3) fun zH=>?_;clear B K;try simp only [zc,CV]
  refine zj 6 zH ?_;refine zj 7 zH ?_;simp only [zc,CV];refine zj 8 zH ?_;refine zj 9 zH ?_;simp only [zc,CV];refine zj 11 zH ?_;refine zj 13 zH ?_;simp only [zc,CV];refine zj 14 zH ?_;simp only [zc,CV];refine Aa 10 fun K B=>?_;go_simp;go_at_call 14;refine (a9.out _ zH).mono ?_;rintro e w9 ⟨rfl,m4⟩;go_simp;refine DY B (zH.trans m4) fun zH=>?_;clear B K;try simp only [zc,CV]
  refine zj 12 zH ?_;simp only [zc,CV];refine Aa 15 fun K B=>?_;go_simp;go_at_call 17;refine (O.out _ zH).mono ?_;rintro e wA ⟨rfl,m5⟩;go_simp;refine DY B (zH.trans m5) fun zH=>?_;clear B K;try simp only [zc,CV]
  refine zj 16 zH ?_;refine zj 17 zH ?_;simp only [zc,CV];refine DB (by kernel_rfl) ?_ _;have j2:Hid (za w wA):=c7.out.trans (o.out.trans zH);obtain ⟨N,hN⟩:=DX (min S.length 200);have m7:(N:Int)<=(S.length:Int):=by omega
  have m6:(0:Int)<=(N:Int):=by omega
  have n8:N<=200:=by omega
  have k5:min (S.length:Int) 200=(N:Int):=by omega
  have j7:(ByteArray.mk S.toArray).extract 0 N=⟨(S.take N).toArray⟩:=ext_take S N;have n4:(S.take N).length<=200:=by rw [List.length_take];omega
  obtain ⟨tx,l2⟩:=DX (S.take N);rw [<-l2] at j7 n4;obtain ⟨m,hm⟩:=DX (k % (s.length+1));have o3:m<s.length+1:=by rw [hm];exact Nat.mod_lt _ (by omega)
  have n0:(m:Int)<=(s.length:Int):=by omega
  have m9:(0:Int)<=(m:Int):=by omega
  have n1:((k:Int)).tmod ((s.length:Int)+1)=(m:Int):=by rw [hm];rfl
  have n2:IntKind.i64.wrap ((s.length:Int)+1)=(s.length:Int)+1:=by rw [Du];omega
  have n3:IntKind.i64.wrap (m:Int)=(m:Int):=by rw [Du];omega
  have j5:(ByteArray.mk s.toArray).extract 0 m=⟨(s.take m).toArray⟩:=ext_take s m;have j6:(ByteArray.mk s.toArray).extract m s.length=⟨(s.drop m).toArray⟩:=ext_drop s m;have l1:(s.take m).length<=200000:=by rw [List.length_take];omega
  have j8:(s.drop m).length<=200000:=by rw [List.length_drop];omega
  obtain ⟨ta,k7⟩:∃t,t=s.take m:=⟨_,rfl⟩;obtain ⟨tb,l0⟩:∃t,t=s.drop m:=⟨_,rfl⟩;rw [<-k7] at j5 l1;rw [<-l0] at j6 j8;have a1:∀w,(Op.stringOp .add ⟨ta.toArray⟩ ⟨tx.toArray⟩).run Tryz.prog w=.ok (.string ⟨(ta++tx).toArray⟩) w:=fun w=>Ab (by omega)
  have a2:∀w,(Op.stringOp .add ⟨(ta++tx).toArray⟩ ⟨tb.toArray⟩).run Tryz.prog w=.ok (.string ⟨(ta++(tx++tb)).toArray⟩) w:=fun w=>by rw [<-List.append_assoc];exact Ab (by rw [Dh];omega)
  have a3:∀w,(Op.stringOp .add ⟨s.toArray⟩ ⟨tx.toArray⟩).run Tryz.prog w=.ok (.string ⟨(s++tx).toArray⟩) w:=fun w=>Ab (by omega)
  have n5:wrap64 (k:Int)=(k:Int):=IntWalk.wrap64_in _ ⟨by omega,by omega⟩;have v50:=fun W h=>t50 W ((o.out.trans zH).trans h)
  have v51:=fun W h=>t51 W ((o.out.trans zH).trans h)
  have z:za wA wA:=za.refl wA;clear hN l2 hm k7 l0 t50 t51 u80 u81 u82 u90 u91 u92 p0 p1 p2 zH o i4 e6 a9 O;go_upto_region 11 with fail;clear n5 k5 n1 n2 n3 j7 v50 v51;refine wp_dark (fun Q' I m8=>?_) (fun c a a' w Q h=>by obtain ⟨t,d⟩:=a;obtain ⟨t',d'⟩:=a';cases Q;exact h);refine CS (S:=(fun W=>za wA W)) An (z.drew) fun zH=>?_;generalize wA.drew=wd at zH⊢;refine zm (i:=0) (v:=?v19) rfl (by kernel_rfl) (by kernel_rfl) (by kernel_rfl) (by kernel_rfl) (fun _ _ _ h=>I _ _ _ _ (by rfl) h) (Or.inl ⟨?w19,?y19⟩) zH ?r19
  case w19=>rfl
  case y19=>(intro w r;go_simp;try with_reducible rfl)
  simp only [zc,CV];refine zm (i:=1) (v:=?v20) rfl (by kernel_rfl) (by kernel_rfl) (by kernel_rfl) (by kernel_rfl) (fun _ _ _ h=>I _ _ _ _ (by rfl) h) (Or.inl ⟨?w20,?y20⟩) zH ?r20
  case w20=>rfl
  case y20=>(intro w r;go_simp;try with_reducible rfl)
  simp only [zc,CV];refine zm (i:=2) (v:=?v21) rfl (by kernel_rfl) (by kernel_rfl) (by kernel_rfl) (by kernel_rfl) (fun _ _ _ h=>I _ _ _ _ (by rfl) h) (Or.inl ⟨?w21,?y21⟩) zH ?r21
  case w21=>rfl
  case y21=>(intro w r;go_simp;try with_reducible rfl)
  simp only [zc,CV];refine zm (i:=3) (v:=?v22) rfl (by kernel_rfl) (by kernel_rfl) (by kernel_rfl) (by kernel_rfl) (fun _ _ _ h=>I _ _ _ _ (by rfl) h) (Or.inl ⟨?w22,?y22⟩) zH ?r22
  case w22=>rfl
  case y22=>(intro w r;go_simp;try with_reducible rfl)
  simp only [zc,CV];refine zm (i:=4) (v:=?v23) rfl (by kernel_rfl) (by kernel_rfl) (by kernel_rfl) (by kernel_rfl) (fun _ _ _ h=>I _ _ _ _ (by rfl) h) (Or.inl ⟨?w23,?y23⟩) zH ?r23
  case w23=>rfl
  case y23=>(intro w r;go_simp;try with_reducible rfl)
  simp only [zc,CV];refine zm (i:=5) (v:=?v24) rfl (by kernel_rfl) (by kernel_rfl) (by kernel_rfl) (by kernel_rfl) (fun _ _ _ h=>I _ _ _ _ (by rfl) h) (Or.inl ⟨?w24,?y24⟩) zH ?r24
  case w24=>rfl
  case y24=>(intro w r;go_simp;try with_reducible rfl)
  simp only [zc,CV];refine zm (i:=6) (v:=?v25) rfl (by kernel_rfl) (by kernel_rfl) (by kernel_rfl) (by kernel_rfl) (fun _ _ _ h=>I _ _ _ _ (by rfl) h) (Or.inl ⟨?w25,?y25⟩) zH ?r25
  case w25=>rfl
  case y25=>(intro w r;go_simp;try with_reducible rfl)
  simp only [zc,CV];refine zm (i:=7) (v:=?v26) rfl (by kernel_rfl) (by kernel_rfl) (by kernel_rfl) (by kernel_rfl) (fun _ _ _ h=>I _ _ _ _ (by rfl) h) (Or.inl ⟨?w26,?y26⟩) zH ?r26
  case w26=>rfl
  case y26=>(intro w r;go_simp;try with_reducible rfl)
  simp only [zc,CV];refine zm (i:=8) (v:=?v27) rfl (by kernel_rfl) (by kernel_rfl) (by kernel_rfl) (by kernel_rfl) (fun _ _ _ h=>I _ _ _ _ (by rfl) h) (Or.inl ⟨?w27,?y27⟩) zH ?r27
  case w27=>rfl
  case y27=>(intro w r;go_simp;try with_reducible rfl)
  simp only [zc,CV];refine zm (i:=9) (v:=?v28) rfl (by kernel_rfl) (by kernel_rfl) (by kernel_rfl) (by kernel_rfl) (fun _ _ _ h=>I _ _ _ _ (by rfl) h) (Or.inl ⟨?w28,?y28⟩) zH ?r28
  case w28=>rfl
  case y28=>(intro w r;go_simp;try with_reducible rfl)
  simp only [zc,CV];refine zm (i:=10) (v:=?v29) rfl (by kernel_rfl) (by kernel_rfl) (by kernel_rfl) (by kernel_rfl) (fun _ _ _ h=>I _ _ _ _ (by rfl) h) (Or.inl ⟨?w29,?y29⟩) zH ?r29
  case w29=>rfl
  case y29=>(intro w r;go_simp;try with_reducible rfl)
  simp only [zc,CV];refine zm (i:=11) (v:=?v30) rfl (by kernel_rfl) (by kernel_rfl) (by kernel_rfl) (by kernel_rfl) (fun _ _ _ h=>I _ _ _ _ (by rfl) h) (Or.inl ⟨?w30,?y30⟩) zH ?r30
  case w30=>rfl
  case y30=>(intro w r;go_simp;try with_reducible rfl)
  simp only [zc,CV];refine zm (i:=12) (v:=?v31) rfl (by kernel_rfl) (by kernel_rfl) (by kernel_rfl) (by kernel_rfl) (fun _ _ _ h=>I _ _ _ _ (by rfl) h) (Or.inl ⟨?w31,?y31⟩) zH ?r31
  case w31=>rfl
  case y31=>(intro w r;go_simp;try with_reducible rfl)
  simp only [zc,CV];refine zm (i:=13) (v:=?v32) rfl (by kernel_rfl) (by kernel_rfl) (by kernel_rfl) (by kernel_rfl) (fun _ _ _ h=>I _ _ _ _ (by rfl) h) (Or.inl ⟨?w32,?y32⟩) zH ?r32
  case w32=>rfl
  case y32=>(intro w r;go_simp;try with_reducible rfl)
  simp only [zc,CV];refine zm (i:=14) (v:=?v33) rfl (by kernel_rfl) (by kernel_rfl) (by kernel_rfl) (by kernel_rfl) (fun _ _ _ h=>I _ _ _ _ (by rfl) h) (Or.inl ⟨?w33,?y33⟩) zH ?r33
  case w33=>rfl
  case y33=>(intro w r;go_simp;try with_reducible rfl)
  simp only [zc,CV];refine zm (i:=15) (v:=?v34) rfl (by kernel_rfl) (by kernel_rfl) (by kernel_rfl) (by kernel_rfl) (fun _ _ _ h=>I _ _ _ _ (by rfl) h) (Or.inl ⟨?w34,?y34⟩) zH ?r34
  case w34=>rfl
  case y34=>(intro w r;go_simp;try with_reducible rfl)
  simp only [zc,CV];refine zm (i:=16) (v:=?v35) rfl (by kernel_rfl) (by kernel_rfl) (by kernel_rfl) (by kernel_rfl) (fun _ _ _ h=>I _ _ _ _ (by rfl) h) (Or.inl ⟨?w35,?y35⟩) zH ?r35
  case w35=>rfl
  case y35=>(intro w r;go_simp;try with_reducible rfl)
  simp only [zc,CV];refine AN (rs:=[17]) (by kernel_rfl) (by simp) ?_;refine zB.cons rfl (fun K B=>?_) zB.nil;go_simp;have L:=ze.new wd #[.string ⟨#[]⟩,.string ⟨#[]⟩,.string ⟨#[]⟩,.string ⟨#[]⟩] 51 (g:=wd.heap.size) rfl;have d8:za wA (wd.alloc (.cells #[.string ⟨#[]⟩,.string ⟨#[]⟩,.string ⟨#[]⟩,.string ⟨#[]⟩] 51)):=zH.alloc _;have a5:wA.heap.size<=wd.heap.size:=zH.size;generalize wd.alloc _=wx at L d8⊢;generalize wd.heap.size=gx at L a5⊢;refine DY B d8 fun zH=>?_;clear B K;try simp only [zc,CV]
  have fx:∀j,wx.frozen? ⟨gx,j,none⟩=false:=fun j=>L.frozen j
  have x0:=L.cell (k:=0) rfl;have x1:=L.cell (k:=1) rfl;have x2:=L.cell (k:=2) rfl;have x3:=L.cell (k:=3) rfl;refine AN (rs:=[18]) (by kernel_rfl) (by simp) ?_;refine zB.last rfl (by kernel_rfl) fun K B=>?_;go_simp;refine B.out _ _ ?_;clear B K;refine wpAnyL_done (by kernel_rfl) ?_ _;subst m8;have a0:ze ((((wx.setCell ⟨gx,0,none⟩ (.string ⟨tx.toArray⟩)).setCell ⟨gx,1,none⟩ (.string ⟨(ta++(tx++tb)).toArray⟩)).setCell ⟨gx,2,none⟩ (.string ⟨ta.toArray⟩)).setCell ⟨gx,3,none⟩ (.string ⟨(s++tx).toArray⟩)) gx 51 #[.string ⟨tx.toArray⟩,.string ⟨(ta++(tx++tb)).toArray⟩,.string ⟨ta.toArray⟩,.string ⟨(s++tx).toArray⟩]:=(((L.set (k:=0) _).set (k:=1) _).set (k:=2) _).set (k:=3) _;have f6:za wA ((((wx.setCell ⟨gx,0,none⟩ (.string ⟨tx.toArray⟩)).setCell ⟨gx,1,none⟩ (.string ⟨(ta++(tx++tb)).toArray⟩)).setCell ⟨gx,2,none⟩ (.string ⟨ta.toArray⟩)).setCell ⟨gx,3,none⟩ (.string ⟨(s++tx).toArray⟩)):=(((d8.setCell (p:=⟨gx,0,none⟩) a5 _).setCell (p:=⟨gx,1,none⟩) a5 _).setCell (p:=⟨gx,2,none⟩) a5 _).setCell (p:=⟨gx,3,none⟩) a5 _;clear x0 x1 x2 x3 fx zH L d8 a5;generalize ((((wx.setCell ⟨gx,0,none⟩ (.string ⟨tx.toArray⟩)).setCell ⟨gx,1,none⟩ (.string ⟨(ta++(tx++tb)).toArray⟩)).setCell ⟨gx,2,none⟩ (.string ⟨ta.toArray⟩)).setCell ⟨gx,3,none⟩ (.string ⟨(s++tx).toArray⟩))=wy at a0 f6⊢;clear z j5 j6 a1 a2 a3 m9 n0 l1 j8 m6 m7
  have l7:Hid (∀j,j<4->∃t:List UInt8,wy.cell? ⟨gx,j,none⟩=some (.string ⟨t.toArray⟩)):=fun j hj=>by
   match j,hj with
   | 0,_=>exact ⟨_,a0.cell (k:=0) rfl⟩
   | 1,_=>exact ⟨_,a0.cell (k:=1) rfl⟩
   | 2,_=>exact ⟨_,a0.cell (k:=2) rfl⟩
   | 3,_=>exact ⟨_,a0.cell (k:=3) rfl⟩
  have j0:Hid (za w wy):=j2.out.trans f6;clear a0 f6 j2
  go_wp2_with fail
  go_loopw [16] (fun v wr=>∃j:Nat,v=.int .i64 j/\j<=4/\Hid (za wy wr)) (fun v _=>4 - (intOf v).toNat)
  case atStart=>exact ⟨0,rfl,by omega,zh (za.refl wy)⟩
  case round=>
   obtain ⟨j,rfl,hj,U⟩:=hrel;obtain ⟨wk,rfl⟩:∃wk:World,wk=wr:=⟨_,rfl⟩;have z:za wy wk:=U.out;by_cases k3:j<4
   ·obtain ⟨t,ht⟩:=l7.out j k3;have ct:=za.rule ht;have o0:(0:Int)<=(j:Int):=by omega
    have o1:(j:Int)<4:=by omega
    have o2:decide (j<4)=true:=Db k3;have f3:Hid (∀W,za wy W->Calls Tryz.prog 16 #[.string ⟨t.toArray⟩] W fun e w'=>∃v,e=.returned (.tuple #[v,.int .i64 (decR t).1])/\za W w'/\zV w' (fun b=>W.heap.size<=b) v (decR t).2):=fun W hW=>dec_calls W (HV.out.ext (j0.out.trans hW))
    have f4:Hid (∀W,za wy W->Calls Tryz.prog 18 #[.string ⟨t.toArray⟩] W fun e w'=>∃v,e=.returned (.tuple #[v,.int .i64 (decR t).1])/\za W w'/\zV w' (fun b=>W.heap.size<=b) v (decR t).2):=fun W hW=>vdec_calls W
    have f5:Hid ((decR t).2.Lens):=decR_lens t;generalize decR t=q at f3 f4 f5;clear ht
    go_wp2_with fail
    refine (f3.out _ z).mono ?_;rintro e w2 ⟨v2,rfl,a4,f7⟩;obtain ⟨A2,c2,K2,k2,rfl,-⟩:=f7.form;have c0:Hid (za wy w2):=z.trans a4;have i0:=zh f7;clear a4 f7 z f3;go_upto_region 16 with fail;obtain ⟨E,p0,p1,p2⟩:=box3 w2 (.int .i64 q.2.task) (.slice A2 q.2.side.length c2) (.slice K2 q.2.kids.length k2);generalize w2.alloc _=w3 at E p0 p1 p2⊢;generalize w2.heap.size=g17 at p0 p1 p2⊢;have z:za wy w3:=c0.out.trans E;have i1:=zh (i0.out.ext E);clear E c0 i0
    go_wp2_with fail
    refine (f4.out _ z).mono ?_;rintro e w4 ⟨v4,rfl,b7,f8⟩;obtain ⟨A4,c4,K4,k4,rfl,-⟩:=f8.form;have V:Hid (za w3 w4):=b7;have i2:=zh f8;have j1:=zh z;clear b7 f8 z f4 ct;go_upto_region 17 with fail;obtain ⟨E,q0,q1,q2⟩:=box3 w4 (.int .i64 q.2.task) (.slice A4 q.2.side.length c4) (.slice K4 q.2.kids.length k4);generalize w4.alloc _=w5 at E q0 q1 q2⊢;generalize w4.heap.size=g19 at q0 q1 q2⊢;have p0:=fun W h=>p0 W ((V.out.trans E).trans h)
    have p1:=fun W h=>p1 W ((V.out.trans E).trans h)
    have p2:=fun W h=>p2 W ((V.out.trans E).trans h)
    have i8:Hid (Calls Tryz.prog 17 #[.agg #[.int .i64 q.2.task,.slice A2 q.2.side.length c2,.slice K2 q.2.kids.length k2],.agg #[.int .i64 q.2.task,.slice A4 q.2.side.length c4,.slice K4 q.2.kids.length k4]] w5 fun e w'=>e=.returned (.bool true)/\za w5 w'):=by
     have h:=AI q.2.size w5 (i1.out.ext (V.out.trans E)) (i2.out.ext E) (CY _) f5.out f5.out;rw [AZ] at h;exact h
    have l8:Hid (za wy w5):=j1.out.trans (V.out.trans E);have z:za w5 w5:=za.refl w5;clear E V i1 i2 j1
    go_wp2_with fail
    refine i8.out.mono ?_;rintro e w6 ⟨rfl,b8⟩;have l5:Hid (za wy w6):=l8.out.trans b8;clear b8 z i8 p0 p1 p2 q0 q1 q2
    go_wp2_with fail
    go_roundw
    case rel=>exact ⟨j+1,by go_num,by omega,l5⟩
    case measure=>simp [intOf];omega
   ·obtain rfl:j=4:=by omega
    have l6:Hid (za w wk):=j0.out.trans U.out;clear U z
    go_wp2_with fail
    go_ret;exact ⟨rfl,l6.out⟩
end
section
open Go.ChangeShapes Go.WideShapes Go.ChangeAt Go.RowKit
section
variable {H:Type} {enc:TypeId×Value->H} {w:World} {base:Nat} {held:Bool} {fuel:Nat} {cs:List Value} {x:DataW H×List MemPlace}
theorem len3 {α:Type} {l:List α} (h:l.length=3):∃a b c,l=[a,b,c]:=by
 match l,h with
 | [a,b,c],_=>exact ⟨a,b,c,rfl⟩
end
section
variable {H:Type} {enc:TypeId×Value->H} {w:World} {base:Nat} {held:Bool} {fuel:Nat} {cs:List Value} {x:DataW H×List MemPlace}
theorem cellsPf:Tryz.prog.cellsOf 27=3:=by kernel_rfl
theorem cellsPfs:Tryz.prog.cellsOf 25=1:=by kernel_rfl
def tri (l:List (Value×Value×Value)):List Value:=l.flatMap fun x=>[x.1,x.2.1,x.2.2]
theorem tri_get:∀(l:List (Value×Value×Value)) (j:Nat) (u:Value),(tri l)[j]?=some u->∃i x,l[i]?=some x/\((j=i*3/\u=x.1)\/(j=i*3+1/\u=x.2.1)\/(j=i*3+2/\u=x.2.2))
 | [],j,u,h=>by simp [tri] at h
 | x :: l,j,u,h=>by
  unfold tri at h;rw [List.flatMap_cons] at h
  match j,h with
  | 0,h=>exact ⟨0,x,rfl,.inl ⟨rfl,by simpa using h.symm⟩⟩
  | 1,h=>exact ⟨0,x,rfl,.inr (.inl ⟨rfl,by simpa using h.symm⟩)⟩
  | 2,h=>exact ⟨0,x,rfl,.inr (.inr ⟨rfl,by simpa using h.symm⟩)⟩
  | j+3,h=>
   have h2:(tri l)[j]?=some u:=by simpa [tri] using h
   obtain ⟨i,y,z,r⟩:=tri_get l j u h2;exact ⟨i+1,y,z,by rcases r with ⟨r,o⟩ | ⟨r,o⟩ | ⟨r,o⟩;exact .inl ⟨by omega,o⟩;exact .inr (.inl ⟨by omega,o⟩);exact .inr (.inr ⟨by omega,o⟩)⟩
theorem tri_at:∀(l:List (Value×Value×Value)) (i:Nat) (h:i<l.length),(tri l).getD (i*3) undef=l[i].1/\(tri l).getD (i*3+1) undef=l[i].2.1/\(tri l).getD (i*3+2) undef=l[i].2.2
 | [],i,h=>by simp at h
 | y :: l,0,h=>⟨rfl,rfl,rfl⟩
 | y :: l,i+1,h=>by
  obtain ⟨o,r,z⟩:=tri_at l i (by simpa using h);have e:tri (y :: l)=y.1 :: y.2.1 :: y.2.2 :: tri l:=by simp [tri]
  rw [e];refine ⟨?_,?_,?_⟩
  ·rw [show (i+1)*3=(i*3)+3 from by omega];simpa using o
  ·rw [show (i+1)*3+1=(i*3+1)+3 from by omega];simpa using r
  ·rw [show (i+1)*3+2=(i*3+2)+3 from by omega];simpa using z
theorem tri_len (l:List (Value×Value×Value)):(tri l).length=l.length*3:=by
 induction l with
 | nil=>rfl
 | cons x l ih=>
  have e:tri (x :: l)=x.1 :: x.2.1 :: x.2.2 :: tri l:=by simp [tri]
  rw [e];simp only [DV,ih];omega
theorem sliceOpenN {t e:TypeId} {sz:Nat} (ht:Tryz.prog.underlying t=some (.slice e)) (K:Tryz.prog.cellsOf e=sz) (h0:0<sz) (h:DataW.trod enc Tryz.prog w base (fun _=>true) held fuel t cs=some x):
  ∃A len c,cs=[.slice A len c]/\len<=c/\len<=9223372036854775807/\(0<len->∃b off,A=some ⟨b,off,none⟩/\∀i,i<len->∃(cl:List Value) (n:Nat) (y:DataW H×List MemPlace),n<fuel/\cl.length=sz/\(∀j,j<sz->w.cell? ⟨b,off+(i*sz+j),none⟩=cl[j]?)/\DataW.trod enc Tryz.prog w base (fun _=>true) held n e cl=some y):=by
 rcases DataW.trod_slice ht h with ⟨rfl,_⟩ | ⟨a,len,cap,elems,rest,n,O,rfl,_,V,U,hm,M,G,_,_⟩
 ·exact ⟨none,0,0,rfl,CY _,by decide,fun h=>by omega⟩
 ·refine ⟨some a,len,cap,rfl,U,by unfold maxLen at hm;omega,fun z=>?_⟩
  have each:∀i,i<len->∃(cl:List Value) (y:DataW H×List MemPlace),w.cells? base (a.add (i*sz)) sz=some cl/\DataW.trod enc Tryz.prog w base (fun _=>true) held n e cl=some y:=fun i I=>by
   have h1:=G i I;rw [K,CW (by omega)] at h1;obtain ⟨cl,h2,B⟩:=Option.bind_eq_some_iff.1 h1;exact ⟨cl,_,h2,B⟩
  have J:a.spot=none:=by
   obtain ⟨cl,y,h2,_⟩:=each 0 z;obtain ⟨_,L,D⟩:=World.cells?_some h2;have r:=D 0 h0;rw [CW (by omega)] at r;have E:=spot_none r;rw [Nat.zero_mul] at E;unfold Addr.add at E
   rwa [if_pos rfl,if_pos rfl] at E
  refine ⟨a.block,a.off,?_,fun i I=>?_⟩
  ·obtain ⟨b,o,s⟩:=a;simp only at J;subst J;rfl
  ·obtain ⟨cl,y,h2,B⟩:=each i I;obtain ⟨_,L,D⟩:=World.cells?_some h2;refine ⟨cl,n,y,by omega,L,fun j Q=>?_,B⟩;have r:=D j Q;rw [addr_at J,addr_at rfl] at r;rw [<-Nat.add_assoc];exact r
theorem fieldOpenN {t:TypeId} {fs:Array Field} (ht:Tryz.prog.underlying t=some (.struct fs)) (h:DataW.trod enc Tryz.prog w base (fun _=>true) held fuel t cs=some x):
  cs.length=Tryz.prog.cellsOf t/\∀(i ty off sz:Nat),(fs[i]?).map (fun f=>(f.type,f.offset))=some (ty,off)->Tryz.prog.cellsOf ty=sz->∃n y,n<fuel/\DataW.trod enc Tryz.prog w base (fun _=>true) held n ty ((cs.drop off).take sz)=some y:=by
 obtain ⟨xs,n,D,_,E,G,hf⟩:=DataW.trod_struct ht h;refine ⟨E,fun i ty off sz o B=>?_⟩;obtain ⟨f,o,he⟩:=Option.map_eq_some_iff.1 o;injection he with r z;have h1:=hf i f o;have h2:i<fs.size:=(DN.1 o).1;rw [CW (by omega),r,z,B] at h1;exact ⟨n,_,by omega,h1⟩
theorem inL_all:∀{ks:List PT},(∀k∈ks,k.In)->PT.InL ks
 | [],_=>by unfold PT.InL;trivial
 | k :: ks,h=>by
  unfold PT.InL;exact ⟨h k (DH ..),inL_all fun x o=>h x (Dt _ o)⟩
theorem intsOpenB (h:DataW.trod enc Tryz.prog w base (fun _=>true) held fuel 24 cs=some x):∃v l,cs=[v]/\zk w (fun _=>True) v l/\l.length<=9223372036854775807/\∀x∈l,Cp x:=by
 obtain ⟨v,l,rfl,he,D,r⟩:=eachOpen (R:=fun u a=>u=Value.int .i64 a/\Cp a) Tryz.underlying24 (by kernel_rfl) (fun n cl y z=>by
  obtain ⟨k,rfl,h0,h1⟩:=intOpen z;exact ⟨_,k,rfl,rfl,h0,h1⟩) h
 obtain ⟨vs,E,o⟩:=he
 exact ⟨v,l,rfl,row_of_each (f:=Value.int .i64) ⟨vs,E,fun i y z=>by
  obtain ⟨u,h1,h2,_⟩:=o i y z;exact ⟨u,h1,h2⟩⟩,D,fun a B=>by obtain ⟨u,h⟩:=r a B;exact h.2⟩
theorem proofOpen:∀(N fuel:Nat) (cs:List Value) (x:DataW H×List MemPlace),fuel<N->DataW.trod enc Tryz.prog w base (fun _=>true) held fuel 27 cs=some x->
  ∃t vs vk p,cs=[.int .i64 t,vs,vk]/\zV w (fun _=>True) (.agg #[.int .i64 t,vs,vk]) p/\p.In
 | 0,fuel,cs,x,hN,_=>by omega
 | N+1,fuel,cs,x,hN,h=>by
  obtain ⟨U,hf⟩:=fieldOpenN Tryz.underlying27 h;rw [cellsPf] at U;obtain ⟨c0,c1,c2,rfl⟩:=len3 U;obtain ⟨n0,y0,-,f0⟩:=hf 0 _ _ _ rfl cellsT3;obtain ⟨n1,y1,-,f1⟩:=hf 1 _ _ _ rfl cellsT24;obtain ⟨n2,y2,a2,f2⟩:=hf 2 _ _ _ rfl cellsPfs;have f0:DataW.trod enc Tryz.prog w base (fun _=>true) held n0 3 [c0]=some y0:=f0;have f1:DataW.trod enc Tryz.prog w base (fun _=>true) held n1 24 [c1]=some y1:=f1;have f2:DataW.trod enc Tryz.prog w base (fun _=>true) held n2 25 [c2]=some y2:=f2;obtain ⟨t,e0,t0,t1⟩:=intOpen f0;obtain ⟨vs,s,e1,V,G,I⟩:=intsOpenB f1;injection e0 with e0;injection e1 with e1;subst e0 e1;obtain ⟨A,len,c,e2,E,L,B⟩:=sliceOpenN Tryz.underlying25 cellsPf (by omega) f2;injection e2 with e2;subst e2;rcases DG len with rfl | hpos
  ·refine ⟨t,_,_,.node t s [],rfl,.mk (cs:=[]) V ⟨A,c,rfl,E,Aj.nil _ _ _ _⟩ (fun i o=>absurd o (by simp)),?_⟩;unfold PT.In;exact ⟨⟨t0,t1⟩,I,G,by simp,inL_all fun k K=>absurd K (DO)⟩
  ·obtain ⟨b,off,rfl,J⟩:=B hpos
   obtain ⟨l,r,hp⟩:=chooseList (β:=(Value×Value×Value)×PT) (p:=fun i x=>w.cell? ⟨b,off+(i*3),none⟩=some x.1.1/\w.cell? ⟨b,off+(i*3+1),none⟩=some x.1.2.1/\w.cell? ⟨b,off+(i*3+2),none⟩=some x.1.2.2/\zV w (fun _=>True) (.agg #[x.1.1,x.1.2.1,x.1.2.2]) x.2/\x.2.In) len (fun i o=>by
    obtain ⟨cl,n,y,hn,h1,h2,h3⟩:=J i o;obtain ⟨t',vs',vk',p',rfl,M,O⟩:=proofOpen N n cl y (by omega) h3;have g0:=h2 0 (by omega);have g1:=h2 1 (by omega);have g2:=h2 2 (by omega);exact ⟨((.int .i64 t',vs',vk'),p'),g0,g1,g2,M,O⟩)
   refine ⟨t,_,_,.node t s (l.map (·.2)),rfl,.mk (cs:=tri (l.map (·.1))) V ⟨_,c,by rw [DF,r],by rw [DF,r];exact E,by rw [tri_len,DF,DF],fun _=>⟨b,off,rfl,trivial,fun j u hu=>?_⟩⟩ (fun i o=>?_),?_⟩
   ·obtain ⟨i,y,h1,h2⟩:=tri_get _ j u hu;rw [DE] at h1;obtain ⟨z,Q,rfl⟩:=Option.map_eq_some_iff.1 h1;obtain ⟨g0,g1,g2,_⟩:=hp i z Q;rcases h2 with ⟨rfl,rfl⟩ | ⟨rfl,rfl⟩ | ⟨rfl,rfl⟩
    ·exact g0
    ·exact g1
    ·exact g2
   ·have D:i<l.length:=by simpa using o
    obtain ⟨k0,k1,k2⟩:=tri_at (l.map (·.1)) i (by simpa using D);obtain ⟨g0,g1,g2,g3,-⟩:=hp i l[i] (CW D);rw [k0,k1,k2];simp only [List.getElem_map];exact g3
   ·unfold PT.In;refine ⟨⟨t0,t1⟩,I,G,by rw [DF,r];exact L,inL_all fun k K=>?_⟩;obtain ⟨z,Q,rfl⟩:=DQ.1 K;obtain ⟨i,o,rfl⟩:=DC Q;exact (hp i _ (CW o)).2.2.2.2
end
theorem vTab : Tryz.prog.globalNamed "internal/strconv.uint64pow10" = some 0 := by kernel_rfl
theorem vSyn : Tryz.prog.globalNamed "strconv.ErrSyntax" = some 2 := by kernel_rfl
theorem vRng : Tryz.prog.globalNamed "strconv.ErrRange" = some 3 := by kernel_rfl
theorem vtTab:(Tryz.prog.globals[0]?).map (·.type)=some 190:=by kernel_rfl
theorem vtSyn:(Tryz.prog.globals[2]?).map (·.type)=some 149:=by kernel_rfl
theorem vtRng:(Tryz.prog.globals[3]?).map (·.type)=some 149:=by kernel_rfl
theorem star4 : "*" ++ "errors.errorString" = "*errors.errorString" := by decide
theorem row314 (u : TypeId) (h : Tryz.prog.typeName? 3 u = some "*errors.errorString") : u = 227 :=
 typeName_ptr_named (nm := "errors.errorString") (by rw [star4]; kernel_rfl) (by kernel_rfl) (by decide) u (by rw [star4]; exact h)
theorem laid_tab:(Rows.laid_internal_strconv_uint64pow10:DataW Unit)=Lib.tabData .u64 Lib.pow10Tab:=by kernel_rfl
theorem varsOk_laid {W: World} {a b: String × DataW Unit} (h : laidMet Tryz.prog [a, b, ("internal/strconv.uint64pow10", Rows.laid_internal_strconv_uint64pow10), ("strconv.ErrRange", Rows.laid_strconv_ErrRange), ("strconv.ErrSyntax", Rows.laid_strconv_ErrSyntax)] W) : z9 W := by
 have h2:=h.tail.tail;obtain ⟨a0,s0,hv0,-,-,-⟩:=laid_sentinel h2.tail vRng vtRng Tryz.underlying149 row314 Tryz.underlying227 Tryz.underlying229 rfl rfl Tryz.underlying9 (by kernel_rfl) (by kernel_rfl);obtain ⟨a1,s1,hv1,-,-,-⟩:=laid_sentinel h2.tail.tail vSyn vtSyn Tryz.underlying149 row314 Tryz.underlying227 Tryz.underlying229 rfl rfl Tryz.underlying9 (by kernel_rfl) (by kernel_rfl);rw [laid_tab] at h2;exact ⟨Lib.tabIs_of_head vTab vtTab Tryz.underlying190 Tryz.underlying177 (by kernel_rfl) (by kernel_rfl) h2,⟨_,_,hv1⟩,⟨_,_,hv0⟩⟩
section
variable {H:Type} {enc:TypeId×Value->H} {base:Nat} {v v0 v1 v2:Value} {d d0 d1 d2:DataW H} {p p0 p1 p2:List MemPlace} {W:World}
theorem proofArg (r:Value.okWide Tryz.prog W .any base 27 v) (h:DataW.Trod enc Tryz.prog W 0 (fun _=>true) true 27 v d p):∃q,zV W (fun _=>True) v q/\q.In:=by
 have o:∃cs,v=.agg cs:=by
  unfold Value.okWide at r;rw [Tryz.underlying27] at r;obtain ⟨cs,h,_⟩:=r;exact ⟨cs,h⟩
 obtain ⟨fuel,h⟩:=h;obtain ⟨t,vs,vk,q,e,B,z⟩:=proofOpen (fuel+1) fuel _ _ (Nat.lt_succ_self _) h;rw [agg_of e o];exact ⟨q,B,z⟩
theorem cells47:Tryz.prog.cellsOf 47=2:=by kernel_rfl
theorem cells45:Tryz.prog.cellsOf 45=1:=by kernel_rfl
theorem cutArg (r:Value.okWide Tryz.prog W .any base 47 v) (h:DataW.Trod enc Tryz.prog W 0 (fun _=>true) true 47 v d p):∃(k:Nat) (S:List UInt8),v=.agg #[.int .u16 k,.string ⟨S.toArray⟩]/\k<=65535/\S.length<=9223372036854775807:=by
 have o:∃cs,v=.agg cs:=by
  unfold Value.okWide at r;rw [Tryz.underlying47] at r;obtain ⟨cs,h,_⟩:=r;exact ⟨cs,h⟩
 obtain ⟨fuel,h⟩:=h;obtain ⟨D,hf⟩:=fieldOpenN Tryz.underlying47 h;rw [cells47] at D
 obtain ⟨c0,c1,B⟩:∃a b,v.cells.toList=[a,b]:=by
  match v.cells.toList,D with
  | [a,b],_=>exact ⟨a,b,rfl⟩
 have z:=agg_of B o;rw [B] at hf;obtain ⟨n0,y0,-,f0⟩:=hf 0 _ _ _ rfl cells45;obtain ⟨n1,y1,-,f1⟩:=hf 1 _ _ _ rfl cellsT9;have f0:DataW.trod enc Tryz.prog W 0 (fun _=>true) true n0 45 [c0]=some y0:=f0;have f1:DataW.trod enc Tryz.prog W 0 (fun _=>true) true n1 9 [c1]=some y1:=f1;obtain ⟨k,e0,_,G⟩:=DataW.trod_int Tryz.underlying45 f0;obtain ⟨s,e1,_,E⟩:=DataW.trod_string Tryz.underlying9 f1;have this:=G;simp only [Lit.wf,IntKind.has,Dm,Dj] at this;have m1:IntKind.u16.min=0:=rfl;have m2:IntKind.u16.max=65535:=rfl;injection e0 with e0;injection e1 with e1;subst e0 e1;refine ⟨k.toNat,s.data.toList,?_,by omega,?_⟩
 ·rw [z,Int.toNat_of_nonneg (by omega)]
 ·have:s.size=s.data.toList.length:=by rw [Array.length_toList];rfl
  unfold maxLen at E;omega
theorem proofCodes_walk (W:World) (B:z9 W) (o:Value.okWide Tryz.prog W .any base 27 v0) (h0:DataW.Trod enc Tryz.prog W 0 (fun _=>true) true 27 v0 d0 p0) (r:Value.okWide Tryz.prog W .any base 27 v1) (h1:DataW.Trod enc Tryz.prog W 0 (fun _=>true) true 27 v1 d1 p1) (z:Value.okWide Tryz.prog W .any base 47 v2) (h2:DataW.Trod enc Tryz.prog W 0 (fun _=>true) true 47 v2 d2 p2):
  Calls Tryz.prog 4 #[v0,v1,v2] W fun e w'=>e=.returned (.bool true)/\Below W.heap.size W w':=by
 obtain ⟨px,i0,i1⟩:=proofArg o h0;obtain ⟨py,j0,j1⟩:=proofArg r h1;obtain ⟨k,S,rfl,l0,l1⟩:=cutArg z h2;exact ycodes_calls k S W B i0 j0 i1 j1 l0 l1
end
end
end Go.Proofs.YtcnaogdgjkpkmaaGreatDoor
