import Derived.Test.YthbjngbhbbkkgaaGreatHPd
import Derived.Deep.LoopGhost
import Derived.StillTailTactics
import Derived.Deep.AppendLies
import Derived.Deep.RegionHeld3
set_option linter.unusedVariables false
set_option linter.unusedSimpArgs false
set_option maxRecDepth 100000
set_option maxHeartbeats 16000000
namespace Go.Proofs.YthbjngbhbbkkgaaGreat
variable {b:Int} {fixed l:List (List Int)} {c ch:List Int} {pt ptrs:List Nat} {vs:List Value} {cap g gr gs i:Nat} {X Y okc:Nat->Prop} {s:RS} {v v' vc:Value} {w w' wr:World}
section
open Go.RowKit
attribute [local go_sem ↓] Go.wp_at_zero Go.wp_at_succ
theorem Tryz.infoPst:(Tryz.prog.info? 97).map (fun i=>(i.zero,i.size,i.bytes))=some (some (.pointer none),1,8):=by kernel_rfl
structure SR (w wr:World) (X Y:Nat->Prop) (g gr cap:Nat) (m:MZ) (s:RS) (pt:List Nat) (k:Nat) (b:Int):Prop where
 rt:Bg wr X Y g gr cap m ⟨s.ch.take k,s.done,s.steps+1⟩ pt
 chg:zu X w wr
 se:srch m s.ch k b=stepC m s.ch
def StepPost (w:World) (X Y:Nat->Prop) (g:Nat) (m:MZ) (s:RS) (e:Ending) (w':World):Prop:=
 e=.returned (.tuple #[])/\∃gr' cap' ptrs',Bg w' X Y g gr' cap' m (s.one m) ptrs'/\zu X w w'
theorem no_step {m:MZ} {l:List Int} (h:∀n∈l.take i,¬ (b<n/\Cj m (ch++[n])=true)) (o:i<l.length) (h1:¬ (b<l[i]/\Cj m (ch++[l[i]])=true)):∀n∈l.take (i+1),¬ (b<n/\Cj m (ch++[n])=true):=by
 intro n z;rcases (Aj o n).1 z with h2 | rfl
 ·exact h n h2
 ·exact h1
theorem aft_of {m:MZ} {l:List Int} {n:Int} (z:l=Bw m ch) (o:i<l.length) (D:n=l[i]) (h:∀n∈l.take i,¬ (b<n/\Cj m (ch++[n])=true)) (h1:b<n) (h2:Cj m (ch++[n])=true):aft m ch b=some n:=by
 subst z D;exact aft_at o h h1 h2
theorem push_ok {w3 w4:World} {q:Nat} {m:MZ} (D:EJ w4 (fun b=>(okR X Y g gr b/\b<w3.heap.size)\/w3.heap.size<=b) q m c) (E:zb w w3) (z:Bg w X Y g gr cap m s pt) (o:∀b,w.heap.size<=b->X b):EJ w4 (okR X Y g gr) q m c:=
 D.weaken fun b hb=>by
  rcases hb with hb | hb
  ·exact hb.1
  ·have h1:g<w.heap.size:=zd z.blk;have h2:gr<w.heap.size:=(z.row.1.lt gr rfl).2;have h3:=E.size;exact .inl ⟨o b (by omega),by omega,by omega⟩
theorem stepX_calls {m:MZ} (w:World) (h:Bg w X Y g gr cap m s ptrs) (gd:zI m) (hl:Lens m) (hc:zC m s.ch) (j0:0<=s.steps) (j1:s.steps<=4000000000000000000)
  (e5:∀b,w.heap.size<=b->X b) (e7:∀b,Y b->b<w.heap.size):
  Calls Tryz.prog 62 #[.pointer (some ⟨g,0,none⟩)] w (StepPost w X Y g m s):=by
 obtain ⟨ch,dn,st⟩:=s;dsimp only at j0 j1 hc;have H:=zh h;have b9:w.cell? ⟨g,2,none⟩=some (.int .i64 st):=h.blk.cell (k:=2) rfl;have hf:=fun k=>h.blk.frozen k
 have GD:=zh gd;have HL:=zh hl;have HC:=zh hc;have e3:=zh e5;have h7:=zh e7;have j8:=hc.len300 gd;clear h gd hl hc e5 e7
 have e0:Hid (SR w (w.setCell ⟨g,2,none⟩ (.int .i64 (st+1))) X Y g gr cap m ⟨ch,dn,st⟩ ptrs ch.length (-1)):=by
  refine ⟨?_,chg_setg w H.out.xg 2 _,srch_top m ch⟩;have h1:=H.out.stepsTo (st+1);dsimp only at h1⊢;rw [EY];exact h1
 obtain ⟨i0,hi,f9,g0,g3⟩:=info_parts Tryz.infoPst;have IF:=zh hi;have IZ0:=zh f9;have IZ1:=zh g0;have IZ2:=zh g3;clear hi f9 g0 g3
 go_enter Tryz.func62,Tryz.ntmps62
 go_wp2_with fail
 go_step3
 go_wp2_with fail
 go_step3
 go_wp2_with fail
 clear b9 hf
 go_loopg [2] ch.length (fun gk v wr=>∃b pt,v=.int .i64 b/\gk<=ch.length/\Hid (SR w wr X Y g gr cap m ⟨ch,dn,st⟩ pt gk b))
 case atStart=>exact ⟨-1,ptrs,rfl,EN _,e0⟩
 clear e0
 case round=>
  obtain ⟨b,pt,rfl,hk,Z⟩:=hrel;obtain ⟨wo,rfl⟩:∃wo:World,wo=wr:=⟨_,rfl⟩;have o:=Z.out.rt;obtain ⟨p,hp,a9,i3⟩:=o.row.last;have f4:(ch.take gk).length=gk:=by rw [FH];omega
  have b5:=zh (last_c (w':=wo) o hp (by dsimp only;rw [f4];omega));have a5:=zh a9;dsimp only at a5;clear o hp a9 i3
  go_wp2_with fail
  refine b5.out.mono ?_;rintro e w1 ⟨rfl,a8⟩;have c8:zb wo w1:=a8.below _;clear a8
  go_wp2_with fail
  refine (Dm _ (a5.out.ext c8) GD.out HL.out (HC.out.take gk)).mono ?_;rintro e w2 ⟨v2,rfl,a6⟩;obtain ⟨A2,c2,rfl,b9⟩:=a6.slice;have j2:zb wo w2:=c8.trans a6.ext;have i9:(Bw m (ch.take gk)).length<=400000000000:=DO HL.out _;have d6:=zh a6;clear a6 c8;obtain ⟨l,c4⟩:=zak (Bw m (ch.take gk));rw [<-c4] at d6 b9 i9⊢;have b6:=zh c4;clear c4
  go_wp2_with fail
  go_loopg [19] l.length (fun gi v wz=>∃i:Nat,v=.int .i64 i/\i<=l.length/\gi=l.length - i/\Hid (zb w2 wz/\∀n∈l.take i,¬ (b<n/\Cj m (ch.take gk++[n])=true)))
  case atStart=>exact ⟨0,rfl,Fb _,rfl,zb.refl _,by simp⟩
  case round=>
   obtain ⟨i,rfl,hi,rfl,hZ⟩:=hrel;have hz:=hZ.out.1;have L:zb wo wr:=j2.trans hz;rcases Fk i l.length with U | hge
   ·obtain ⟨bl,rfl,_,J⟩:=own_at d6.out.own U;obtain ⟨n,hn⟩:=zak (l[i]);rw [<-hn] at J;have q0:=zb.rule J
    have c5:Hid (n∈Bw m (ch.take gk)):=by
     show n∈_;rw [<-b6.out,hn];exact EO _
    have HN:=zh hn;clear J hn;by_cases V:n<=b
    ·have hd:decide (n<=b)=true:=EQ V;have b7:=zh V;clear V
     go_wp2_with fail
     go_roundg (l.length - (i+1))
     case measure=>omega
     case rel=>exact ⟨i+1,by go_num,U,rfl,hZ.out.1,no_step hZ.out.2 U (fun h=>by have:=b7.out;rw [<-HN.out] at h;omega)⟩
    ·have hd:decide (n<=b)=false:=ER V;have b7:=zh V;clear V
     go_wp2_with fail
     refine (with_c _ (a5.out.ext L) GD.out HL.out (HC.out.take gk) c5.out).mono ?_;rintro e w3 ⟨q,rfl,b0,hq⟩;have HQ:=zh hq;clear hq
     go_wp2_with fail
     refine (open_c w3 HQ.out GD.out HL.out (.snoc (HC.out.take gk) c5.out)).mono ?_;rintro e w4 ⟨rfl,a3⟩;obtain ⟨ob,c6⟩:=zak (Cj m (ch.take gk++[n]));rw [<-c6];have d8:=zh c6;clear c6
     cases ob with
     | false=>
      have j3:zb w2 w4:=hz.trans (b0.trans a3);clear b0 a3
      go_wp2_with fail
      go_roundg (l.length - (i+1))
      case measure=>omega
      case rel=>exact ⟨i+1,by go_num,U,rfl,j3,no_step hZ.out.2 U (fun h=>by rw [<-HN.out,<-d8.out] at h;exact absurd h.2 (by simp))⟩
     | true=>
      have Q:zb wo w4:=L.trans (b0.trans a3);have h6:=zh (push_ok (HQ.out.ext a3) L Z.out.rt (fun b hb=>e3.out b (EP Z.out.chg.size hb)));have o:=Z.out.rt.ext Q;have T:w4.cell? ⟨g,0,none⟩=some (.slice (some ⟨gr,0,none⟩) pt.length cap):=o.blk.cell (k:=0) rfl;have hf:=fun k=>o.blk.frozen k
      have z:=zh o;clear o;have D:pt.length=gk+1:=by have:=z.out.row.2.1;dsimp only at this;omega
      have d9:=zh D;have j9:pt.length+1<=1000:=by omega
      clear b0 a3 hz L D
      go_wp2_with (at_builtin;refine wpList_append_own_at _ rfl _ _ 94 rfl 0 97 i0 (.pointer none) 1 8 Tryz.underlying94 IF.out IZ0.out IZ1.out IZ2.out rfl (by decide) (.slice (some ⟨gr,0,none⟩) pt.length cap) pt.length _ rfl (z.out.row.1.alloc _) ⟨w4.heap.size,0,none⟩ 1 1 [ptrV q] rfl rfl (cell_one_new _ _ _) (by simp [ptrV,Value.oneCell']) (by unfold maxLen;omega) (by omega) (Fb _) ?_)
      intro v' w5 b2 hg _ f7;have e4:∀b,w4.heap.size<=b->X b:=fun b hb=>e3.out b (EP Z.out.chg.size (EP Q.size hb))
      have e6:∀b,Y b->b<w4.heap.size:=fun b hb=>Fq (h7.out b hb) (EP Z.out.chg.size Q.size)
      obtain ⟨gr',cap',rfl,b3,b1⟩:=z.out.push h6.out e4 e6 b2 hg f7;have I:w5.heap[g]?=w4.heap[g]?:=(hg.block g (by have:=zd z.out.blk;simp;omega) (fun e=>z.out.ne (by injection e))).trans (Ff _ _ _ (zd z.out.blk));have h9:w5.cell? ⟨g,0,none⟩=some (.slice (some ⟨gr,0,none⟩) pt.length cap):=(Fc I).trans T;have i4:w5.frozen? ⟨g,0,none⟩=false:=(Fm (a:=⟨g,0,none⟩) I).trans (hf 0);have g9:=zh ((Z.out.chg.ext_r Q).tr b1);have M:=zh b3;clear b2 hg f7 b3 b1 T hf I e4 e6
      go_wp2_with fail
      clear h9 i4;generalize w5.setCell ⟨g,0,none⟩ (.slice (some ⟨gr',0,none⟩) (pt.length+1) cap')=w6 at*;have f5:(ch.take gk++[n]).length=pt.length:=by have:=d9.out;simp;omega
      have c7:(pt++[q])[(ch.take gk++[n]).length]?=some q:=by rw [f5];simp
      have b4:EJ w6 (okR X Y g gr') q m (ch.take gk++[n]):=by
       have:=M.out.row.2.2 _ q c7
       rwa [EY] at this
      refine (last_c (w':=w6) M.out c7 (by show (ch.take gk++[n]).length<=1000;omega)).mono ?_;rintro e w7 ⟨rfl,f1⟩;have G:zb w6 w7:=f1.below _;clear f1 f5 c7
      go_wp2_with fail
      refine (Ed w7 (b4.ext G) GD.out HL.out (.snoc (HC.out.take gk) c5.out)).mono ?_;rintro e w8 ⟨rfl,f2⟩;have a4:zb w6 w8:=G.trans (f2.below _);clear f2 G b4;have O:=M.out.ext a4;have i1:w8.cell? ⟨g,1,none⟩=some (.bool dn):=O.blk.cell (k:=1) rfl;have i5:w8.frozen? ⟨g,1,none⟩=false:=O.blk.frozen 1
      have E:StepPost w X Y g m ⟨ch,dn,st⟩ (.returned (.tuple #[])) (w8.setCell ⟨g,1,none⟩ (.bool (AZ m (ch.take gk++[n])))):=by
       refine ⟨rfl,gr',cap',pt++[q],?_,(g9.out.ext_r a4).tr (chg_setg _ M.out.xg 1 _)⟩;have h1:=O.done (AZ m (ch.take gk++[n]))
       have h2:stepC m ch=some (ch.take gk++[n]):=by
        have h3:=Z.out.se;dsimp only at h3;rw [<-h3];unfold srch;rw [aft_of b6.out U HN.out hZ.out.2 (by have:=b7.out;omega) d8.out.symm]
       show Bg _ X Y g gr' cap' m (RS.one m ⟨ch,dn,st⟩) _;unfold RS.one;dsimp only;rw [h2];exact h1
      have a0:=zh E;clear E O
      go_wp2_with fail
      try rw [Exit.noGoto_ret]
      refine FK (results_none rfl _ _ _) rfl ?_;exact a0.out
   ·have i8:i=l.length:=by omega
    subst i8;have c9:Hid (aft m (ch.take gk) b=none):=aft_none b6.out (by have:=hZ.out.2;rwa [EY] at this);have o:=Z.out.rt.ext L;have T:wr.cell? ⟨g,0,none⟩=some (.slice (some ⟨gr,0,none⟩) pt.length cap):=o.blk.cell (k:=0) rfl;have h8:wr.cell? ⟨g,1,none⟩=some (.bool dn):=o.blk.cell (k:=1) rfl;have hf:=fun k=>o.blk.frozen k
    have D:pt.length=gk+1:=by have:=o.row.2.1;dsimp only at this;omega
    have j6:=BG o.row.1;have z:=zh o;clear o;have d9:=zh D;have d4:=zh (Z.out.chg.ext_r L);clear hZ hz
    cases gk with
    | zero=>
     have a8:((pt.length:Int)==1)=true:=by rw [beq_iff_eq];omega
     have E:StepPost w X Y g m ⟨ch,dn,st⟩ (.returned (.tuple #[])) (wr.setCell ⟨g,1,none⟩ (.bool true)):=by
      refine ⟨rfl,gr,cap,pt,?_,d4.out.tr (chg_setg _ z.out.xg 1 _)⟩;have h1:=z.out.done true
      have h2:stepC m ch=none:=by
       have h3:=Z.out.se;dsimp only at h3;rw [<-h3];exact srch_zero c9.out
      show Bg _ X Y g gr cap m (RS.one m ⟨ch,dn,st⟩) _;unfold RS.one;dsimp only;rw [h2];exact h1
     have a0:=zh E;clear E D
     go_wp2_with fail
     try rw [Exit.noGoto_ret]
     refine FK (results_none rfl _ _ _) rfl ?_;exact a0.out
    | succ j=>
     have a8:((pt.length:Int)==1)=false:=by rw [Fa];omega
     have a9:=a5.out.ext L;obtain ⟨us,f,u,t,vc,vp,gu,_,h2⟩:=a9;obtain ⟨_,_,_,_,_,_,r6,_,_⟩:=h2.rules;have f0:=h2.ch;clear h2;obtain ⟨Ac,cc,rfl,i2,f6⟩:=f0;obtain ⟨bc,oc,rfl,_,a7⟩:=zy f6 (k:=j) (by omega) (by omega);rw [List.getElem_take] at a7;obtain ⟨N,hN⟩:=zak ((ch.take (j+1)).length);rw [<-hN] at i2 r6;rw [f4] at hN;obtain ⟨cj,a1⟩:=zak (ch[j]);rw [<-a1] at a7;have h4:=zh a1;have rj:=zb.rule a7;have k8:(0:Int)<=(j:Int):=by omega
     have k9:(j:Int)<(N:Int):=by omega
     have l0:IntKind.i64.wrap ((N:Int) - 1)=(j:Int):=by rw [Fi];omega
     have k6:IntKind.i64.wrap ((pt.length:Int) - 1)=(N:Int):=by rw [Fi];omega
     have j5:wrap64 ((pt.length:Int) - 1)=(N:Int):=by rw [IntWalk.wrap64_in _ (by omega)];omega
     have k3:(0:Int)<=(N:Int):=by omega
     have k4:(N:Int)<=(pt.length:Int):=by omega
     have k5:(N:Int)<=(cap:Int):=by omega
     have l1:=zb.refl wr;have d7:=zh hN;clear a7 f6 a1 D hN
     go_wp2_with fail
     go_quiet (fail)
     generalize f8:wr.drewN nq=w7;have G:zb wr w7:=by rw [<-f8];exact (zb.refl wr).drewN _
     have e9:w7.cell? ⟨g,0,none⟩=some (.slice (some ⟨gr,0,none⟩) pt.length cap):=G.cell T;have f3:w7.frozen? ⟨g,0,none⟩=false:=(Below.frozen G (p:=⟨g,0,none⟩) (zp T)).trans (hf 0);clear f8 T hf h8
     go_wp2_with fail
     go_still_tail 14,(by kernel_rfl)
     change wpList _ _ _ _ _ w7.drew;have a4:zb wr w7.drew:=G.drew;have i1:w7.drew.cell? ⟨g,0,none⟩=some (.slice (some ⟨gr,0,none⟩) pt.length cap):=e9;have i5:w7.drew.frozen? ⟨g,0,none⟩=false:=f3;generalize w7.drew=w8 at*;clear e9 f3 G
     go_wp2_with fail
     go_roundg j
     case measure=>omega
     case rel=>
      refine ⟨cj,pt.take (j+1),rfl,by omega,?_,?_,?_⟩
      ·have h1:=(z.out.ext a4).pop (k:=j) (by show j<=(ch.take (j+1)).length;omega);dsimp only at h1;rw [List.take_take,Nat.min_eq_left (by omega),<-d7.out] at h1;rw [<-d7.out];exact h1
      ·exact (d4.out.ext_r a4).tr (chg_setg _ z.out.xg 0 _)
      ·have h3:=Z.out.se;dsimp only at h3⊢;rw [<-h3,srch_back c9.out,h4.out,EM,EL (by omega),Ft]
theorem one_isCh {m:MZ} (h:zC m s.ch):zC m (s.one m).ch/\(s.one m).steps=s.steps+1:=by
 unfold RS.one
 split
 ·rename_i c o;exact ⟨(stepC_some h o).1,rfl⟩
 ·exact ⟨.nil,rfl⟩
theorem run_isCh {m:MZ}:∀(n:Nat) {s:RS},zC m s.ch->zC m (RS.run m n s).ch
 | 0,s,h=>h
 | n+1,s,h=>by
  unfold RS.run
  split
  ·exact h
  ·exact run_isCh n (one_isCh h).1
theorem run_steps {m:MZ}:∀(n:Nat) {s:RS},zC m s.ch->s.steps<=(RS.run m n s).steps/\(RS.run m n s).steps<=s.steps+n
 | 0,s,h=>⟨Int.le_refl _,by simp [RS.run]⟩
 | n+1,s,h=>by
  unfold RS.run
  split
  ·exact ⟨Int.le_refl _,by omega⟩
  ·have h1:=one_isCh h;have h2:=run_steps n h1.1;omega
structure RunR (w wr:World) (X Y:Nat->Prop) (g gr cap:Nat) (m:MZ) (s0:RS) (n:Nat) (s:RS) (pt:List Nat) (k:Nat):Prop where
 rt:Bg wr X Y g gr cap m s pt
 chg:zu X w wr
 run:RS.run m k s=RS.run m n s0
 ch:zC m s.ch
 st:0<=s.steps/\s.steps+k<=4000000000000000000
def RunPost (w:World) (X Y:Nat->Prop) (g:Nat) (m:MZ) (s:RS) (e:Ending) (w':World):Prop:=
 e=.returned (.bool s.done)/\∃gr' cap' ptrs',Bg w' X Y g gr' cap' m s ptrs'/\zu X w w'
theorem stepN_calls {m:MZ} (n:Nat) (w:World) (h:Bg w X Y g gr cap m s ptrs) (gd:zI m) (hl:Lens m) (hc:zC m s.ch) (hn:n<=1000000) (Q:0<=s.steps) (a6:s.steps<=3000000000000000000)
  (L:∀b,w.heap.size<=b->X b) (M:∀b,Y b->b<w.heap.size):
  Calls Tryz.prog 28 #[.pointer (some ⟨g,0,none⟩),.int .i64 n] w (RunPost w X Y g m (RS.run m n s)):=by
 have H0:Hid (RunR w w X Y g gr cap m s n s ptrs n):=⟨h,zu.refl _ _,rfl,hc,Q,by omega⟩;have GD:=zh gd;have HL:=zh hl;have U:=zh L;have V:=zh M;have a1:w.cell? ⟨g,0,none⟩=some (.slice (some ⟨gr,0,none⟩) ptrs.length cap):=h.blk.cell (k:=0) rfl;have a5:ptrs.length=s.ch.length+1:=h.row.2.1;have Z:((ptrs.length:Int)==0)=false:=by rw [Fa];omega
 obtain ⟨R,o⟩:=zak (RS.run m n s);rw [<-o];have HR:=zh o;clear h gd hl hc L M Q a6 a5 o
 go_enter Tryz.func28,Tryz.ntmps28
 go_wp2_with fail
 clear a1 Z
 go_loopg [1] n (fun gk v wr=>∃gr cap s' pt,v=.int .i64 gk/\gk<=n/\Hid (RunR w wr X Y g gr cap m s n s' pt gk))
 case atStart=>exact ⟨gr,cap,s,ptrs,rfl,EN _,H0⟩
 clear H0
 case round=>
  obtain ⟨gr,cap,s',pt,rfl,b4,o⟩:=hrel;have J:=o.out.rt;have O:wr.cell? ⟨g,1,none⟩=some (.bool s'.done):=J.blk.cell (k:=1) rfl;have I:=zh J;clear J;obtain ⟨d,hd⟩:=zak s'.done;rw [<-hd] at O;have T:=zh hd;clear hd
  cases gk with
  | zero=>
   have a4:decide ((0:Int)<((0:Nat):Int))=false:=by simp
   have z:RunPost w X Y g m R (.returned (.bool d)) wr:=by
    have h1:=o.out.run;rw [<-HR.out] at h1;rw [<-h1,T.out];exact ⟨rfl,gr,cap,pt,I.out,o.out.chg⟩
   have D:=zh z;clear z
   go_wp2_with fail
   go_ret;exact D.out
  | succ k=>
   have a4:decide ((0:Int)<((k+1:Nat):Int))=true:=EQ (by omega);have b1:(0:Int)<((k+1:Nat):Int):=by omega
   cases d with
   | true=>
    have z:RunPost w X Y g m R (.returned (.bool true)) wr:=by
     have h1:=o.out.run;rw [RS.run_done T.out.symm,<-HR.out] at h1;rw [<-h1];exact ⟨by rw [<-T.out],gr,cap,pt,I.out,o.out.chg⟩
    have D:=zh z;clear z
    go_wp2_with fail
    go_ret;exact D.out
   | false=>
    go_wp2_with fail
    refine (stepX_calls wr I.out GD.out HL.out o.out.ch o.out.st.1 (by have:=o.out.st.2;omega) (fun b hb=>U.out b (EP o.out.chg.size hb)) (fun b hb=>Fq (V.out b hb) o.out.chg.size)).mono ?_;rintro e w5 ⟨rfl,gr',cap',pt',G,E⟩
    have HN:Hid (RunR w w5 X Y g gr' cap' m s n (s'.one m) pt' k):=by
     have h1:=one_isCh o.out.ch;have h2:=o.out.st;have h3:=o.out.run;unfold RS.run at h3;rw [<-T.out,if_neg (by simp)] at h3;exact ⟨G,o.out.chg.tr E,h3.trans (by cases n <;> rfl),h1.1,by omega⟩
    clear G E O
    go_wp2_with fail
    go_roundg k
    case measure=>omega
    case rel=>exact ⟨gr',cap',_,pt',by go_num,by omega,HN⟩
structure FL (w wr:World) (v:Value) (vs:List Value) (l:List (List Int)):Prop where
 ext:zb w wr
 own:Cf wr w.heap.size v vs
 len:vs.length=l.length
 each:∀(j:Nat) x,l[j]?=some x->∃u,vs[j]?=some u/\zA wr w.heap.size u x
theorem FL.nil (w wr:World) (h:zb w wr):FL w wr (.slice none 0 0) [] []:=⟨h,World.ownsRow_nil _ _ _ _,rfl,fun j x h=>by simp at h⟩
theorem FL.more (h:FL w wr v vs l) (o:zb wr w'):FL w w' v vs l:=by
 have z:wr.grownBy w' none:=⟨o.os,o.tape,o.output,o.size,fun i D _=>o.block i D⟩;refine ⟨h.ext.trans o,h.own.kept z (by cases h:v.ownBlock <;> simp),h.len,fun j x E=>?_⟩;obtain ⟨u,I,G⟩:=h.each j x E;exact ⟨u,I,G.kept z (by cases h:u.ownBlock <;> simp)⟩
theorem own_neT {B B':Nat} {e e':TypeId} {sz sz' n n':Nat} {xs xs':List Value} (h:w.ownsRow B e sz v n xs) (E:w.ownsRow B' e' sz' v' n' xs') (D:e≠e'):v.ownBlock=none\/v.ownBlock≠v'.ownBlock:=by
 rcases h.2 with ⟨rfl,_⟩ | ⟨g,cap,cur,rfl,_,G,_⟩
 ·left;rfl
 ·right
  rcases E.2 with ⟨rfl,_⟩ | ⟨g',cap',cur',rfl,_,o,_⟩
  ·simp [Value.ownBlock]
  ·intro he;have z:g=g':=by simpa [Value.ownBlock] using he
   subst z;rw [G] at o;injection o with o;injection o with _ I;exact D I
theorem FL.app {u:Value} {x:List Int} {o:Obj} (h:FL w wr v vs l) (O:zA wr w.heap.size u x) (M:w'.ownsRow w.heap.size 23 1 v' (vs.length+1) (vs++[u])) (J:(wr.alloc o).grownBy w' v.ownBlock):FL w w' v' (vs++[u]) (l++[x]):=by
 have L:zb wr (wr.alloc o):=(zb.refl _).alloc _;have h1:=h.more L;have E:∀{u':Value} {x':List Int},zA wr w.heap.size u' x'->zA w' w.heap.size u' x':=fun z=>(World.ownsRow.alloc z o).kept J (own_neT z h.own (by decide))
 refine ⟨Ae h1.ext J h1.ext.size (fun k E=>(h1.own.lt k E).1),?_,by simp [h.len],fun j y D=>?_⟩
 ·show w'.ownsRow _ _ _ _ (vs++[u]).length _;rw [EV,Fo];exact M
 ·rcases Fk j l.length with hjl | hjl
  ·rw [ES hjl] at D;obtain ⟨u',z,I⟩:=h.each j y D;exact ⟨u',by rw [ES (by rw [h.len];exact hjl)];exact z,E I⟩
  ·have G:j=l.length:=by
    rcases Fk j (l++[x]).length with h1 | h1
    ·simp at h1;omega
    ·rw [Fg h1] at D;cases D
   subst G;rw [ET (EN _)] at D;have Q:x=y:=by simpa using D
   subst Q;exact ⟨u,by rw [<-h.len,ET (EN _)];simp,E O⟩
theorem FL.intss (h:FL w wr v vs l):zq wr (fun b=>w.heap.size<=b) v l:=
 ⟨vs,by rw [<-h.len];exact zV.of_own h.own,fun j x o=>by
  obtain ⟨u,D,z⟩:=h.each j x o;exact ⟨u,D,zV.of_own z⟩⟩
def foundL (m:MZ) (ch:List Int):List (List Int):=if AZ m ch=true then zY m ch else []
def DM (w:World) (m:MZ) (ch:List Int) (e:Ending) (w':World):Prop:=
 ∃v,e=.returned (.tuple #[v,.bool (AZ m ch)])/\zb w w'/\zq w' (fun b=>w.heap.size<=b) v (foundL m ch)
theorem found_c {m:MZ} (w:World) (h:Bg w X Y g gr cap m s ptrs) (gd:zI m) (hl:Lens m) (hc:zC m s.ch):
  Calls Tryz.prog 29 #[.pointer (some ⟨g,0,none⟩)] w (DM w m s.ch):=by
 obtain ⟨p,hp,b0,d7⟩:=h.row.last;have hn:=hc.len300 gd;have c0:=zh (last_c (w':=w) h hp (by omega));have c6:Hid (∀w2,zb w w2->Calls Tryz.prog 63 #[.pointer (some ⟨g,0,none⟩)] w2 fun e w'=>e=.returned (.pointer (some ⟨p,0,none⟩))/\zM w2 w'):=fun w2 hE=>last_c (w':=w2) (h.ext hE) hp (by omega)
 have f0:w.cell? ⟨g,0,none⟩=some (.slice (some ⟨gr,0,none⟩) ptrs.length cap):=h.blk.cell (k:=0) rfl;have Q:ptrs.length=s.ch.length+1:=h.row.2.1;have d6:((ptrs.length:Int)==0)=false:=by rw [Fa];omega
 have Z:=zh b0;have GD:=zh gd;have HL:=zh hl;have HC:=zh hc;obtain ⟨i0,hi,b3,b4,b5⟩:=info_parts Tryz.infoInts;have IF:=zh hi;have IZ0:=zh b3;have IZ1:=zh b4;have IZ2:=zh b5;clear hi b3 b4 b5;clear h gd hl hc Q hp d7 b0 hn;obtain ⟨cb,a1⟩:=zak (AZ m s.ch);have z:=zh a1;clear a1
 go_enter Tryz.func29,Tryz.ntmps29
 go_wp2_with fail
 refine c0.out.mono ?_;rintro e w1 ⟨rfl,a3⟩;have V:zb w w1:=a3.below _;clear a3
 go_wp2_with fail
 refine (Ed w1 (Z.out.ext V) GD.out HL.out HC.out).mono ?_;rintro e w2 ⟨rfl,a4⟩;have L:zb w w2:=V.trans (a4.below _);rw [<-z.out];clear a4 V d6
 cases cb with
 | false=>
  have o:DM w m s.ch (.returned (.tuple #[.slice none 0 0,.bool false])) w2:=⟨_,by rw [z.out],L,by unfold foundL;rw [<-z.out];exact zq.nil _ _⟩;have D:=zh o;clear o
  go_wp2_with fail
  go_ret2
  exact D.out
 | true=>
  go_wp2_with fail
  refine (c6.out w2 L).mono ?_;rintro e w3 ⟨rfl,a5⟩;have e3:zb w w3:=L.trans (a5.below _);clear a5 L;obtain ⟨us,f,u,t,vc,vp,gu,_,J⟩:=Z.out;obtain ⟨_,_,_,_,_,_,_,r7,_⟩:=J.rules;have T:=J.ps;clear J;have a8:Hid (∀p∈zY m s.ch,p.length<=1000):=(HC.out.sok GD.out HL.out).pp;have Q:(zY m s.ch).length<=6:=by have:=(HC.out.sok GD.out HL.out).pl;have:=GD.out.tk;omega
  obtain ⟨ps,I⟩:=zak (zY m s.ch);rw [<-I] at T a8 Q;have c8:=zh I;clear I;have HP:=zh T;obtain ⟨vs,⟨Ap,cp,rfl,f1,a9⟩,a6⟩:=T;have c9:=zh a9;have b8:=zh a6;clear a9 a6;have H0:=zh (FL.nil w w3 e3)
  go_wp2_with fail
  go_loopg [4,29] ps.length (fun gk v vi wr=>∃(i:Nat) (vs:List Value),vi=.int .i64 i/\i<=ps.length/\gk=ps.length - i/\Hid (FL w wr v vs (ps.take i)))
  case atStart=>exact ⟨0,[],rfl,Fb _,rfl,H0⟩
  clear H0
  case round=>
   obtain ⟨i,vl,rfl,hi,rfl,hF⟩:=hrel;have b2:=hF.out.ext;rcases Fk i ps.length with G | hge
   ·obtain ⟨bp,op,up,rfl,_,E,b1⟩:=zO c9.out b8.out G G;have q0:=zb.rule E;clear E;have a7:=a8.out _ (EO G);have d4:=zh b1;clear b1
    obtain ⟨As,cs,rfl,f2⟩:∃A c,u4=.slice A vl.length c/\vl.length<=c:=by
     obtain ⟨A,c,e,hc,_⟩:=zV.of_own hF.out.own;exact ⟨A,c,e,hc⟩
    have U:=hF.out.len;have c5:=zh a7;clear a7;have e8:=zh U;have e7:vl.length<=6:=by rw [U,FH];omega
    clear U
    go_wp2_with fail
    refine (BB _ (d4.out.below b2) (by have:=c5.out;omega)).mono ?_;rintro e w4 ⟨v4,rfl,hM⟩;have O:=zh (hF.out.more hM.ext);have c7:Hid (zA w4 w.heap.size v4 ps[i]):=World.ownsRow.mono hM.own b2.size;obtain ⟨A4,c4,rfl,_⟩:=hM.slice;have f4:w.heap.size<=w4.heap.size:=O.out.ext.size;clear hM
    go_wp2_with (at_builtin;refine wpList_append_own_at _ rfl _ _ 22 rfl w.heap.size 23 i0 (.slice none 0 0) 1 24 Tryz.underlying22 IF.out IZ0.out IZ1.out IZ2.out rfl (by decide) (.slice As vl.length cs) vl.length _ rfl (O.out.own.alloc _) ⟨w4.heap.size,0,none⟩ 1 1 [.slice A4 ps[i].length c4] rfl rfl (cell_one_new _ _ _) (by simp [Value.oneCell']) (by unfold maxLen;omega) (by omega) (by simp;omega) ?_)
    intro v' w5 M hg _ e0;have d5:=zh (O.out.app c7.out M hg);clear M hg e0
    go_wp2_with fail
    go_roundg (ps.length - (i+1))
    case measure=>omega
    case rel=>exact ⟨i+1,_,by go_num,G,rfl,by rw [EU G];exact d5⟩
   ·have d9:i=ps.length:=by omega
    subst d9
    have o:DM w m s.ch (.returned (.tuple #[u4,.bool true])) wr:=by
     refine ⟨u4,by rw [z.out],hF.out.ext,?_⟩;unfold foundL;rw [<-z.out,if_pos rfl,<-c8.out];have:=hF.out.intss
     rwa [EY] at this
    have D:=zh o;clear o
    go_wp2_with fail
    go_ret2
    exact D.out
def isChB (m:MZ) (ch:List Int):Bool:=(List.range ch.length).all fun k=>decide (ch.getD k 0∈Bw m (ch.take k))
theorem isCh_of {m:MZ} {ch:List Int} (h:∀k,k<ch.length->ch.getD k 0∈Bw m (ch.take k)):∀k,k<=ch.length->zC m (ch.take k)
 | 0,_=>by simpa using zC.nil
 | k+1,o=>by
  rw [EU (by omega)];have h1:=h k (by omega);rw [EM,EL (by omega),Ft] at h1;exact .snoc (isCh_of h k (by omega)) h1
theorem By {m:MZ}:isChB m ch=true↔zC m ch:=by
 unfold isChB;rw [zag];constructor
 ·intro h;have:=isCh_of (m:=m) (ch:=ch) (fun k o=>zah (h k (zad.2 o))) ch.length (EN _)
  rwa [EY] at this
 ·intro h k o;have o:=zad.1 o;rw [EX,EM,EL o,Ft];exact h.at o
noncomputable def loadE (m:MZ) (ch:List Int) (st:Int):Int:=
 if AY m≠0 then AY m else if st<0 then 1 else if (isChB m ch && (decide (ch=[]) || Cj m ch))=true then 0 else 51
def loadS (m:MZ) (ch:List Int) (st:Int):RS:=⟨ch,AZ m ch || (decide (ch=[]) && decide (0<st)),st⟩
theorem Bg.new {wb:World} {X Y ok:Nat->Prop} {p:Nat} {m:MZ} {st:Int} (z:EJ wb ok p m []) (o:∀b,ok b->b<wb.heap.size->X b\/Y b) (D:∀b,wb.heap.size<=b->X b) (E:∀b,Y b->b<wb.heap.size):
  Bg ((wb.alloc (.cells #[ptrV p] 97)).alloc (.cells #[.slice (some ⟨wb.heap.size,0,none⟩) 1 1,.bool false,.int .i64 st] 96)) X Y (wb.heap.size+1) wb.heap.size 1 m ⟨[],false,st⟩ [p]:=by
 have I:zb wb ((wb.alloc (.cells #[ptrV p] 97)).alloc (.cells #[.slice (some ⟨wb.heap.size,0,none⟩) 1 1,.bool false,.int .i64 st] 96)):=((zb.refl _).alloc _).alloc _;refine ⟨zg.new _ _ _ (by simp),D _ (by omega),D _ (by omega),by omega,fun h=>by have:=E _ h;omega,fun h=>by have:=E _ h;omega,?_,rfl,?_⟩
 ·exact ⟨rfl,.inr ⟨wb.heap.size,1,#[ptrV p],rfl,Fb _,(zg.new wb _ _ rfl).alloc _,EN _,by unfold maxLen;omega,rfl,rfl⟩⟩
 ·intro k p' hp
  match k,hp with
  | 0,hp=>
   have:p=p':=by simpa using hp
   subst this;refine (z.bound.ext I).weaken fun b G=>?_
   rcases o b G.1 G.2 with h | h
   ·exact .inl ⟨h,by omega,by omega⟩
   ·exact .inr h
def Cr (w:World) (Y:Nat->Prop) (m:MZ) (ch:List Int) (st:Int) (e:Ending) (w':World):Prop:=
 ∃v,e=.returned (.tuple #[v,.int .i64 (loadE m ch st)])/\zb w w'/\
  ((loadE m ch st≠0/\v=.pointer none)\/(loadE m ch st=0/\zI m/\zC m ch/\∃g gr cap pt,v=ptrV g/\Bg w' (fun b=>w.heap.size<=b) Y g gr cap m (loadS m ch st) pt))
structure LR (w wr:World) (Y:Nat->Prop) (g gr cap:Nat) (m:MZ) (ch:List Int) (st:Int) (k:Nat) (pt:List Nat):Prop where
 rt:Bg wr (fun b=>w.heap.size<=b) Y g gr cap m ⟨ch.take k,false,st⟩ pt
 ext:zb w wr
 ch:zC m (ch.take k)
theorem load_fin {w9:World} {m:MZ} {st:Int} {d:Bool} (h:Bg w9 (fun b=>w.heap.size<=b) Y g gr cap m ⟨c,false,st⟩ pt) (D:zb w w9) (E:c=ch) (z:zC m ch) (I:zI m) (o:loadE m ch st=0) (G:d=(loadS m ch st).done):
  Cr w Y m ch st (.returned (.tuple #[.pointer (some ⟨g,0,none⟩),.int .i64 0])) (w9.setCell ⟨g,1,none⟩ (.bool d)):=by
 subst E;refine ⟨.pointer (some ⟨g,0,none⟩),by rw [o],D.setCell (p:=⟨g,1,none⟩) h.xg _,.inr ⟨o,I,z,g,gr,cap,pt,rfl,?_⟩⟩;have:=h.done d;rw [G] at this⊢;exact this
theorem load_calls {m:MZ} (st:Int) (w:World) (hm:zt w Y v m) (hl:Lens m) (i2:zi w okc vc ch) (l7:ch.length<=20000000000000) (i1:∀b,Y b->b<w.heap.size):
  Calls Tryz.prog 61 #[v,vc,.int .i64 st] w (Cr w Y m ch st):=by
 have i5:=hm;obtain ⟨vfr,vup,vts,rfl,_,_,k3⟩:=hm;have h8:=zh i5;clear i5 k3;have k6:=zh i2;obtain ⟨Ac,cc,rfl,l6,i7⟩:=i2;have j2:=zh i7;clear i7;have HL:=zh hl;clear hl;have d8:=zh i1;clear i1;obtain ⟨MV,j4⟩:=zak (Value.agg #[.int .i64 m.w,.int .i64 m.h,.int .i64 m.l,vfr,vup,vts]);obtain ⟨ck,i3⟩:=zak (AY m);have d4:=zh i3;clear i3;obtain ⟨i0,hi,j0,f5,e9⟩:=info_parts Tryz.infoPst;have IF:=zh hi;have IZ0:=zh j0;have IZ1:=zh f5;have IZ2:=zh e9;clear hi j0 f5 e9 j4
 go_enter Tryz.func61,Tryz.ntmps61
 go_wp2_with fail
 generalize h5:w.alloc (.cells #[.int .i64 m.w,.int .i64 m.h,.int .i64 m.l,vfr,vup,vts] 32)=w1;have g4:zb w w1:=by rw [<-h5];exact (zb.refl w).alloc _
 have i4:zg w1 w.heap.size 32 #[.int .i64 m.w,.int .i64 m.h,.int .i64 m.l,vfr,vup,vts]:=by rw [<-h5];exact FB _ _
 clear h5;obtain ⟨m0,m1,m2,m3,m4,m5⟩:=zn i4;have c0:=zb.rule m0;have c1:=zb.rule m1;have c2:=zb.rule m2;have c3:=zb.rule m3;have c4:=zb.rule m4;have c5:=zb.rule m5;clear m0 m1 m2 m3 m4 m5 i4;refine (BO w1 (h8.out.below g4) HL.out).mono ?_;rintro e w2 ⟨rfl,f4⟩;have f4:zb w1 w2:=f4;have c7:zb w w2:=g4.trans f4;rw [<-d4.out];by_cases h0:ck=0
 case neg=>
  have l8:(ck==0)=false:=by rw [Fa];exact h0
  have l9:(ck != 0)=true:=by rw [bne_iff_ne];exact h0
  have U:loadE m ch st=ck:=by unfold loadE;rw [<-d4.out,if_pos h0]
  have O:Cr w Y m ch st (.returned (.tuple #[.pointer none,.int .i64 ck])) w2:=⟨.pointer none,by rw [U],c7,.inl ⟨by rw [U];exact h0,rfl⟩⟩;have I:=zh O;clear O U h0
  go_wp2_with fail
  go_ret2
  exact I.out
 case pos=>
  subst h0;have HG:=zh (zI.of d4.out.symm);by_cases f3:st<0
  ·have U:loadE m ch st=1:=by unfold loadE;rw [<-d4.out,if_neg (by simp),if_pos f3]
   have O:Cr w Y m ch st (.returned (.tuple #[.pointer none,.int .i64 1])) w2:=⟨.pointer none,by rw [U],c7,.inl ⟨by rw [U];decide,rfl⟩⟩;have I:=zh O;clear O U
   go_wp2_with fail
   go_ret2
   exact I.out
  ·have l2:0<=st:=by omega
   have m6:decide (st<0)=false:=ER f3
   have d6:Hid (loadE m ch st=if (isChB m ch && (decide (ch=[]) || Cj m ch))=true then 0 else 51):=by
    show loadE m ch st=_;unfold loadE;rw [<-d4.out,if_neg (by simp),if_neg f3]
   clear f3
   go_wp2_with fail
   refine (begin_c w2 (h8.out.below c7) (by have:=HG.out.tk;omega)).mono ?_;rintro e w3 ⟨p,rfl,i9,f8⟩;have g0:zb w w3:=c7.trans i9
   have H0:Hid (LR w ((w3.alloc (.cells #[ptrV p] 97)).alloc (.cells #[.slice (some ⟨w3.heap.size,0,none⟩) 1 1,.bool false,.int .i64 st] 96)) Y (w3.heap.size+1) w3.heap.size 1 m ch st 0 [p]):=by
    have hz:=g0.size;have e9:=c7.size;refine ⟨?_,(g0.alloc _).alloc _,by simpa using zC.nil⟩
    have:=Bg.new (X:=fun b=>w.heap.size<=b) (Y:=Y) (st:=st) f8 (fun b hb _=>by
     rcases hb with hb | hb
     ·exact .inr hb
     ·exact .inl (by omega)) (fun b hb=>by omega) (fun b hb=>by have:=d8.out b hb;omega)
    simpa using this
   clear f8
   go_wp2_with fail
   generalize i8:(w3.alloc (.cells #[.pointer (some ⟨p,0,none⟩)] 97)).alloc (.cells #[.slice (some ⟨w3.heap.size,0,none⟩) 1 1,.bool false,.int .i64 st] 96)=w4;have H0:Hid (LR w w4 Y (w3.heap.size+1) w3.heap.size 1 m ch st 0 [p]):=by rw [<-i8];exact H0
   clear i8;generalize w3.heap.size+1=g at*;generalize w3.heap.size=gr0 at*;clear c0 c1 c2 c3 c4 c5 i9 g0 c7 f4 g4
   go_loopg [27] ch.length (fun gk v wr=>∃(k gr cap:Nat) (pt:List Nat),v=.int .i64 k/\k<=ch.length/\gk=ch.length - k/\Hid (LR w wr Y g gr cap m ch st k pt))
   case atStart=>exact ⟨0,gr0,1,[p],rfl,Fb _,rfl,H0⟩
   clear H0
   case round=>
    obtain ⟨k,gr,cap,pt,rfl,hk,rfl,hR⟩:=hrel;have G:=hR.out.ext;have c9:=hR.out.rt;obtain ⟨p2,g9,e7,_⟩:=c9.row.last;dsimp only at g9 e7;have j8:(ch.take k).length=k:=by rw [FH];omega
    have g7:=hR.out.ch.len300 HG.out;rw [j8] at g7;have c6:Hid (∀W,zb wr W->Calls Tryz.prog 63 #[.pointer (some ⟨g,0,none⟩)] W fun e w'=>e=.returned (.pointer (some ⟨p2,0,none⟩))/\zM W w'):=fun W hE=>last_c (w':=W) (c9.ext hE) g9 (by dsimp only;omega)
    have a3:=zh e7;have rg0:∀W,zb wr W->W.cell? ⟨g,0,none⟩=some (.slice (some ⟨gr,0,none⟩) pt.length cap):=zb.rule (c9.blk.cell (k:=0) rfl);have k8:=BG c9.row.1;have l1:pt.length<=400:=by have:=c9.row.2.1;dsimp only at this;omega
    clear c9 g9 e7;rcases Fk k ch.length with a6 | hge
    ·obtain ⟨bc,oc,rfl,_,b3⟩:=zy j2.out a6 a6;obtain ⟨n,hn⟩:=zak (ch[k]);rw [<-hn] at b3;have q0:=zb.rule b3;have HN:=zh hn;clear b3 hn
     go_wp2_with fail
     refine (c6.out wr (zb.refl _)).mono ?_;rintro e w5 ⟨rfl,e4⟩;have b6:zb wr w5:=e4.below _;clear e4
     go_wp2_with fail
     refine (Dm w5 (a3.out.ext b6) HG.out HL.out hR.out.ch).mono ?_;rintro e w6 ⟨v6,rfl,hM⟩;have a7:zb wr w6:=b6.trans hM.ext;have HM:=zh hM.ints;clear hM b6
     go_wp2_with fail
     refine (zE n w6 HM.out (by have:=DO HL.out (ch.take k);omega)).mono ?_;rintro e w7 ⟨rfl,rfl⟩;by_cases c8:n∈Bw m (ch.take k)
     ·rw [EQ c8];have b0:=zh c8;clear c8;have a5:Hid (ch.take k++[n]=ch.take (k+1)):=by show _=_;rw [EU a6,HN.out]
      go_wp2_with fail
      refine Fd (S:=fun _=>True) zU trivial fun zH=>?_;have e3:zb wr w6.drew:=a7.drew;refine ze 0 zH ?_;refine ze 1 zH ?_;refine ze 2 zH ?_;refine ze 3 zH ?_;refine ze 5 zH ?_;refine ze 7 zH ?_;simp only [za,EK];refine rdA [4,6] ?_;refine Fp rfl (fun K o=>?_) ?_
      ·skip
       have hx:=e3;go_simp;clear hx;refine zal o trivial fun zH=>?_;clear o K
       refine zx 6 fun K o=>?_
       skip
       go_simp;go_at_call 63;refine (c6.out _ e3).mono ?_;rintro e wa2 ⟨rfl,j6⟩;have g3:zb wr wa2:=e3.trans (j6.below _);go_simp;refine zal o trivial fun zH=>?_;clear o K
       refine zx 8 fun K o=>?_
       skip
       go_simp;go_at_call 85;refine (with_c _ (a3.out.ext g3) HG.out HL.out hR.out.ch b0.out).mono ?_;rintro e wa3 ⟨q,rfl,a8,hq⟩;have HQ:=zh (push_ok (g:=g) (gr:=gr) hq g3 hR.out.rt (fun b hb=>EP G.size hb));clear hq;have d9:zb wr wa3:=g3.trans a8;clear a8;go_simp;refine zal o trivial fun zH=>?_;clear o K
       refine zx 9 fun K o=>?_
       skip
       go_simp;refine zal o trivial fun zH=>?_;clear o K
       refine zx 10 fun K o=>?_
       skip
       have J:=hR.out.rt.ext d9;have E:=zh J;have Z:wa3.cell? ⟨g,0,none⟩=some (.slice (some ⟨gr,0,none⟩) pt.length cap):=J.blk.cell (k:=0) rfl;have a0:wa3.frozen? ⟨g,0,none⟩=false:=J.blk.frozen 0;clear J;refine step_append_lies (P:=Tryz.prog) _ (by rfl) _ _ 94 (by rfl) 0 97 i0 (.pointer none) 1 8 Tryz.underlying94 IF.out IZ0.out IZ1.out IZ2.out rfl (by decide) (.slice (some ⟨gr,0,none⟩) pt.length cap) pt.length _ (by rfl) (E.out.row.1.alloc _) ⟨wa3.heap.size,0,none⟩ 1 1 [ptrV q] (by rfl) rfl (cell_one_new _ _ _) (by simp [ptrV,Value.oneCell']) (by decide) (by unfold maxLen;omega) (by omega) (Fb _) (wa3.heap.size+1) (by simp) ?_;intro g5 c5 w9 Q hg hv _;obtain ⟨gr',cap',h4,z,M⟩:=E.out.push HQ.out (fun b hb=>EP G.size (EP d9.size hb)) (fun b hb=>Fq (d8.out b hb) (EP G.size d9.size)) Q hg (by rcases hv with hv | hv;exact .inl hv.symm;exact .inr (congrArg some hv));have D:w9.heap[g]?=wa3.heap[g]?:=(hg.block g (by have:=zd E.out.blk;simp;omega) (fun e=>E.out.ne (by injection e))).trans (Ff _ _ _ (zd E.out.blk));have e0:w9.cell? ⟨g,0,none⟩=some (.slice (some ⟨gr,0,none⟩) pt.length cap):=(Fc D).trans Z;have e6:w9.frozen? ⟨g,0,none⟩=false:=(Fm (a:=⟨g,0,none⟩) D).trans a0;have a9:Hid (zb w (w9.setCell ⟨g,0,none⟩ (.slice (some ⟨g5,0,none⟩) (pt.length+1) c5))):=Below.trans (G.trans d9) (M.below (EP G.size d9.size) (fun b hb=>hb));have V:=zh z;clear Q hg hv z M D Z a0;refine zal o trivial fun zH=>?_;clear o K
       refine zx 11 fun K o=>?_
       skip
       go_simp;refine zal o trivial fun zH=>?_;clear o K
       refine zx 12 fun K o=>?_
       skip
       go_simp;refine zal o trivial fun zH=>?_;clear o K
       refine zx 13 fun K o=>?_
       skip
       go_simp;refine zal o trivial fun zH=>?_;clear o K;try simp only [za,EK]
       refine Fs (by kernel_rfl) ?_ _
       go_wp2_with fail
       go_roundg (ch.length - (k+1))
       case measure=>omega
       case rel=>exact ⟨k+1,_,_,_,by go_num,a6,rfl,⟨by have:=V.out;rwa [a5.out] at this,a9.out,by rw [<-a5.out];exact .snoc hR.out.ch b0.out⟩⟩
      refine Fp rfl (fun K o=>?_) .nil
      skip
      go_simp;go_at_call 63;refine (c6.out _ e3).mono ?_;rintro e wa9 ⟨rfl,b4⟩;have b1:zb wr wa9:=e3.trans (b4.below _);go_simp;refine zal o trivial fun zH=>?_;clear o K;try simp only [za,EK]
      refine rdA [4,8] ?_;refine Fp rfl (fun K o=>?_) ?_
      ·skip
       have hx:=b1;go_simp;clear hx;refine zal o trivial fun zH=>?_;clear o K
       refine zx 8 fun K o=>?_
       skip
       go_simp;go_at_call 85;refine (with_c _ (a3.out.ext b1) HG.out HL.out hR.out.ch b0.out).mono ?_;rintro e wa11 ⟨q,rfl,a8,hq⟩;have HQ:=zh (push_ok (g:=g) (gr:=gr) hq b1 hR.out.rt (fun b hb=>EP G.size hb));clear hq;have a4:zb wr wa11:=b1.trans a8;clear a8;go_simp;refine zal o trivial fun zH=>?_;clear o K
       refine zx 9 fun K o=>?_
       skip
       go_simp;refine zal o trivial fun zH=>?_;clear o K
       refine zx 10 fun K o=>?_
       skip
       have J:=hR.out.rt.ext a4;have E:=zh J;have Z:wa11.cell? ⟨g,0,none⟩=some (.slice (some ⟨gr,0,none⟩) pt.length cap):=J.blk.cell (k:=0) rfl;have a0:wa11.frozen? ⟨g,0,none⟩=false:=J.blk.frozen 0;clear J;refine step_append_lies (P:=Tryz.prog) _ (by rfl) _ _ 94 (by rfl) 0 97 i0 (.pointer none) 1 8 Tryz.underlying94 IF.out IZ0.out IZ1.out IZ2.out rfl (by decide) (.slice (some ⟨gr,0,none⟩) pt.length cap) pt.length _ (by rfl) (E.out.row.1.alloc _) ⟨wa11.heap.size,0,none⟩ 1 1 [ptrV q] (by rfl) rfl (cell_one_new _ _ _) (by simp [ptrV,Value.oneCell']) (by decide) (by unfold maxLen;omega) (by omega) (Fb _) (wa11.heap.size+1) (by simp) ?_;intro g5 c5 w9 Q hg hv _;obtain ⟨gr',cap',h4,z,M⟩:=E.out.push HQ.out (fun b hb=>EP G.size (EP a4.size hb)) (fun b hb=>Fq (d8.out b hb) (EP G.size a4.size)) Q hg (by rcases hv with hv | hv;exact .inl hv.symm;exact .inr (congrArg some hv));have D:w9.heap[g]?=wa11.heap[g]?:=(hg.block g (by have:=zd E.out.blk;simp;omega) (fun e=>E.out.ne (by injection e))).trans (Ff _ _ _ (zd E.out.blk));have e0:w9.cell? ⟨g,0,none⟩=some (.slice (some ⟨gr,0,none⟩) pt.length cap):=(Fc D).trans Z;have e6:w9.frozen? ⟨g,0,none⟩=false:=(Fm (a:=⟨g,0,none⟩) D).trans a0;have a9:Hid (zb w (w9.setCell ⟨g,0,none⟩ (.slice (some ⟨g5,0,none⟩) (pt.length+1) c5))):=Below.trans (G.trans a4) (M.below (EP G.size a4.size) (fun b hb=>hb));have V:=zh z;clear Q hg hv z M D Z a0;refine zal o trivial fun zH=>?_;clear o K
       refine zx 11 fun K o=>?_
       skip
       go_simp;refine zal o trivial fun zH=>?_;clear o K
       refine zx 12 fun K o=>?_
       skip
       go_simp;refine zal o trivial fun zH=>?_;clear o K
       refine zx 13 fun K o=>?_
       skip
       go_simp;refine zal o trivial fun zH=>?_;clear o K;try simp only [za,EK]
       refine Fs (by kernel_rfl) ?_ _
       go_wp2_with fail
       go_roundg (ch.length - (k+1))
       case measure=>omega
       case rel=>exact ⟨k+1,_,_,_,by go_num,a6,rfl,⟨by have:=V.out;rwa [a5.out] at this,a9.out,by rw [<-a5.out];exact .snoc hR.out.ch b0.out⟩⟩
      refine Fp rfl (fun K o=>?_) .nil
      skip
      go_simp;go_at_call 85;refine (with_c _ (a3.out.ext b1) HG.out HL.out hR.out.ch b0.out).mono ?_;rintro e wa17 ⟨q,rfl,a8,hq⟩;have HQ:=zh (push_ok (g:=g) (gr:=gr) hq b1 hR.out.rt (fun b hb=>EP G.size hb));clear hq;have L:zb wr wa17:=b1.trans a8;clear a8;go_simp;refine zal o trivial fun zH=>?_;clear o K;try simp only [za,EK]
      refine rdA [4,9] ?_;refine Fp rfl (fun K o=>?_) ?_
      ·skip
       have hx:=L;go_simp;clear hx;refine zal o trivial fun zH=>?_;clear o K
       refine zx 9 fun K o=>?_
       skip
       go_simp;refine zal o trivial fun zH=>?_;clear o K
       refine zx 10 fun K o=>?_
       skip
       have J:=hR.out.rt.ext L;have E:=zh J;have Z:wa17.cell? ⟨g,0,none⟩=some (.slice (some ⟨gr,0,none⟩) pt.length cap):=J.blk.cell (k:=0) rfl;have a0:wa17.frozen? ⟨g,0,none⟩=false:=J.blk.frozen 0;clear J;refine step_append_lies (P:=Tryz.prog) _ (by rfl) _ _ 94 (by rfl) 0 97 i0 (.pointer none) 1 8 Tryz.underlying94 IF.out IZ0.out IZ1.out IZ2.out rfl (by decide) (.slice (some ⟨gr,0,none⟩) pt.length cap) pt.length _ (by rfl) (E.out.row.1.alloc _) ⟨wa17.heap.size,0,none⟩ 1 1 [ptrV q] (by rfl) rfl (cell_one_new _ _ _) (by simp [ptrV,Value.oneCell']) (by decide) (by unfold maxLen;omega) (by omega) (Fb _) (wa17.heap.size+1) (by simp) ?_;intro g5 c5 w9 Q hg hv _;obtain ⟨gr',cap',h4,z,M⟩:=E.out.push HQ.out (fun b hb=>EP G.size (EP L.size hb)) (fun b hb=>Fq (d8.out b hb) (EP G.size L.size)) Q hg (by rcases hv with hv | hv;exact .inl hv.symm;exact .inr (congrArg some hv));have D:w9.heap[g]?=wa17.heap[g]?:=(hg.block g (by have:=zd E.out.blk;simp;omega) (fun e=>E.out.ne (by injection e))).trans (Ff _ _ _ (zd E.out.blk));have e0:w9.cell? ⟨g,0,none⟩=some (.slice (some ⟨gr,0,none⟩) pt.length cap):=(Fc D).trans Z;have e6:w9.frozen? ⟨g,0,none⟩=false:=(Fm (a:=⟨g,0,none⟩) D).trans a0;have a9:Hid (zb w (w9.setCell ⟨g,0,none⟩ (.slice (some ⟨g5,0,none⟩) (pt.length+1) c5))):=Below.trans (G.trans L) (M.below (EP G.size L.size) (fun b hb=>hb));have V:=zh z;clear Q hg hv z M D Z a0;refine zal o trivial fun zH=>?_;clear o K
       refine zx 11 fun K o=>?_
       skip
       go_simp;refine zal o trivial fun zH=>?_;clear o K
       refine zx 12 fun K o=>?_
       skip
       go_simp;refine zal o trivial fun zH=>?_;clear o K
       refine zx 13 fun K o=>?_
       skip
       go_simp;refine zal o trivial fun zH=>?_;clear o K;try simp only [za,EK]
       refine Fs (by kernel_rfl) ?_ _
       go_wp2_with fail
       go_roundg (ch.length - (k+1))
       case measure=>omega
       case rel=>exact ⟨k+1,_,_,_,by go_num,a6,rfl,⟨by have:=V.out;rwa [a5.out] at this,a9.out,by rw [<-a5.out];exact .snoc hR.out.ch b0.out⟩⟩
      refine Fp rfl (fun K o=>?_) .nil
      skip
      go_simp;refine zal o trivial fun zH=>?_;clear o K
      refine zx 4 fun K o=>?_
      skip
      have hx:=(L.alloc (.cells #[.pointer (some ⟨q,0,none⟩)] 97));go_simp;clear hx;refine zal o trivial fun zH=>?_;clear o K
      refine zx 10 fun K o=>?_
      skip
      have J:=hR.out.rt.ext L;have E:=zh J;have Z:wa17.cell? ⟨g,0,none⟩=some (.slice (some ⟨gr,0,none⟩) pt.length cap):=J.blk.cell (k:=0) rfl;have a0:wa17.frozen? ⟨g,0,none⟩=false:=J.blk.frozen 0;clear J;refine step_append_lies (P:=Tryz.prog) _ (by rfl) _ _ 94 (by rfl) 0 97 i0 (.pointer none) 1 8 Tryz.underlying94 IF.out IZ0.out IZ1.out IZ2.out rfl (by decide) (.slice (some ⟨gr,0,none⟩) pt.length cap) pt.length _ (by rfl) (E.out.row.1.alloc _) ⟨wa17.heap.size,0,none⟩ 1 1 [ptrV q] (by rfl) rfl (cell_one_new _ _ _) (by simp [ptrV,Value.oneCell']) (by decide) (by unfold maxLen;omega) (by omega) (Fb _) (wa17.heap.size+1) (by simp) ?_;intro g5 c5 w9 Q hg hv _;obtain ⟨gr',cap',h4,z,M⟩:=E.out.push HQ.out (fun b hb=>EP G.size (EP L.size hb)) (fun b hb=>Fq (d8.out b hb) (EP G.size L.size)) Q hg (by rcases hv with hv | hv;exact .inl hv.symm;exact .inr (congrArg some hv));have D:w9.heap[g]?=wa17.heap[g]?:=(hg.block g (by have:=zd E.out.blk;simp;omega) (fun e=>E.out.ne (by injection e))).trans (Ff _ _ _ (zd E.out.blk));have e0:w9.cell? ⟨g,0,none⟩=some (.slice (some ⟨gr,0,none⟩) pt.length cap):=(Fc D).trans Z;have e6:w9.frozen? ⟨g,0,none⟩=false:=(Fm (a:=⟨g,0,none⟩) D).trans a0;have a9:Hid (zb w (w9.setCell ⟨g,0,none⟩ (.slice (some ⟨g5,0,none⟩) (pt.length+1) c5))):=Below.trans (G.trans L) (M.below (EP G.size L.size) (fun b hb=>hb));have V:=zh z;clear Q hg hv z M D Z a0;refine zal o trivial fun zH=>?_;clear o K
      refine zx 11 fun K o=>?_
      skip
      go_simp;refine zal o trivial fun zH=>?_;clear o K
      refine zx 12 fun K o=>?_
      skip
      go_simp;refine zal o trivial fun zH=>?_;clear o K
      refine zx 13 fun K o=>?_
      skip
      go_simp;refine zal o trivial fun zH=>?_;clear o K;try simp only [za,EK]
      refine Fs (by kernel_rfl) ?_ _
      go_wp2_with fail
      go_roundg (ch.length - (k+1))
      case measure=>omega
      case rel=>exact ⟨k+1,_,_,_,by go_num,a6,rfl,⟨by have:=V.out;rwa [a5.out] at this,a9.out,by rw [<-a5.out];exact .snoc hR.out.ch b0.out⟩⟩
     ·rw [ER c8]
      have U:loadE m ch st=51:=by
       rw [d6.out]
       have:isChB m ch=false:=by
        rw [Bool.eq_false_iff];intro h;have h1:=(By.1 h).at a6;rw [<-HN.out] at h1;exact c8 h1
       rw [this];rfl
      have O:Cr w Y m ch st (.returned (.tuple #[.pointer none,.int .i64 51])) w6:=⟨.pointer none,by rw [U],G.trans a7,.inl ⟨by rw [U];decide,rfl⟩⟩;have I:=zh O;clear O U c8
      go_wp2_with fail
      go_ret2
      exact I.out
    ·have j7:k=ch.length:=by omega
     subst j7;have f1:Hid (ch.take ch.length=ch):=EY;have b9:Hid (zC m ch):=by have:=hR.out.ch;rwa [f1.out] at this
     have g6:isChB m ch=true:=By.2 b9.out;rw [g6] at d6;have l3:=zh g6;clear g6;rw [f1.out] at a3;by_cases T:ch=[]
     ·have f5:decide ((0:Int)<(ch.length:Int))=false:=by rw [T];rfl
      have e9:((ch.length:Int)==0)=true:=by rw [T];rfl
      have k4:decide (0<ch.length)=false:=by rw [T];rfl
      have k5:decide (ch.length=0)=true:=by rw [T];rfl
      have f6:=zh T;have d7:Hid (loadE m ch st=0):=by show _=_;rw [d6.out,EQ T];rfl
      clear T
      go_wp2_with fail
      refine (c6.out wr (zb.refl _)).mono ?_;rintro e w8 ⟨rfl,e5⟩;have b7:zb wr w8:=zb.trans (zb.refl _) (e5.below _);clear e5
      go_wp2_with fail
      refine (Ed w8 (a3.out.ext b7) HG.out HL.out b9.out).mono ?_;rintro e w9 ⟨rfl,b4⟩;have e8:zb wr w9:=b7.trans (b4.below _);clear b4 b7;obtain ⟨cb,b2⟩:=zak (AZ m ch);rw [<-b2];have b8:=zh b2;clear b2;have z:=hR.out.rt.ext e8;have e0:w9.cell? ⟨g,1,none⟩=some (.bool false):=z.blk.cell (k:=1) rfl;have e6:w9.frozen? ⟨g,1,none⟩=false:=z.blk.frozen 1;have I:Hid (∀d,d=(loadS m ch st).done->Cr w Y m ch st (.returned (.tuple #[.pointer (some ⟨g,0,none⟩),.int .i64 0])) (w9.setCell ⟨g,1,none⟩ (.bool d))):=fun d hd=>load_fin z (G.trans e8) f1.out b9.out HG.out d7.out hd
      clear z
      cases cb with
      | true=>
       go_wp2_with fail
       go_ret2
       exact I.out true (by unfold loadS;rw [<-b8.out];rfl)
      | false=>
       by_cases f2:0<st
       ·have k2:decide (0<st)=true:=EQ f2
        go_wp2_with fail
        go_ret2
        exact I.out true (by unfold loadS;rw [<-b8.out,f6.out];simp [f2])
       ·have k2:decide (0<st)=false:=ER f2
        go_wp2_with fail
        go_ret2
        exact I.out false (by unfold loadS;rw [<-b8.out,f6.out];simp [f2])
     ·have i6:0<ch.length:=List.length_pos_iff.2 T;have f5:decide ((0:Int)<(ch.length:Int))=true:=EQ (by omega);have e9:((ch.length:Int)==0)=false:=by rw [Fa];omega
      have k4:decide (0<ch.length)=true:=EQ i6;have k5:decide (ch.length=0)=false:=ER (by omega);have f9:=zh T;clear T
      go_wp2_with fail
      refine (c6.out wr (zb.refl _)).mono ?_;rintro e w5 ⟨rfl,e4⟩;have b6:zb wr w5:=e4.below _;clear e4
      go_wp2_with fail
      refine (open_c w5 (a3.out.ext b6) HG.out HL.out b9.out).mono ?_;rintro e w6 ⟨rfl,a7⟩;have a7:zb wr w6:=b6.trans a7;clear b6;obtain ⟨ob,g8⟩:=zak (Cj m ch);rw [<-g8];have h9:=zh g8;clear g8
      cases ob with
      | false=>
       have U:loadE m ch st=51:=by rw [d6.out,ER f9.out,<-h9.out];rfl
       have O:Cr w Y m ch st (.returned (.tuple #[.pointer none,.int .i64 51])) w6:=⟨.pointer none,by rw [U],G.trans a7,.inl ⟨by rw [U];decide,rfl⟩⟩;have I:=zh O;clear O U
       go_wp2_with fail
       go_ret2
       exact I.out
      | true=>
       have d7:Hid (loadE m ch st=0):=by show _=_;rw [d6.out,ER f9.out,<-h9.out];rfl
       go_wp2_with fail
       refine (c6.out w6 a7).mono ?_;rintro e w8 ⟨rfl,e5⟩;have b7:zb wr w8:=zb.trans a7 (e5.below _);clear e5
       go_wp2_with fail
       refine (Ed w8 (a3.out.ext b7) HG.out HL.out b9.out).mono ?_;rintro e w9 ⟨rfl,b4⟩;have e8:zb wr w9:=b7.trans (b4.below _);clear b4 b7;obtain ⟨cb,b2⟩:=zak (AZ m ch);rw [<-b2];have b8:=zh b2;clear b2;have z:=hR.out.rt.ext e8;have e0:w9.cell? ⟨g,1,none⟩=some (.bool false):=z.blk.cell (k:=1) rfl;have e6:w9.frozen? ⟨g,1,none⟩=false:=z.blk.frozen 1;have I:Hid (∀d,d=(loadS m ch st).done->Cr w Y m ch st (.returned (.tuple #[.pointer (some ⟨g,0,none⟩),.int .i64 0])) (w9.setCell ⟨g,1,none⟩ (.bool d))):=fun d hd=>load_fin z (G.trans e8) f1.out b9.out HG.out d7.out hd
       clear z
       cases cb with
       | true=>
        go_wp2_with fail
        go_ret2
        exact I.out true (by unfold loadS;rw [<-b8.out];rfl)
       | false=>
        go_wp2_with fail
        go_ret2
        exact I.out false (by unfold loadS;rw [<-b8.out];simp [f9.out])
theorem new_calls {m:MZ} (w:World) (hm:zt w Y v m) (Q:Lens m) (E:∀b,Y b->b<w.heap.size):
  Calls Tryz.prog 27 #[v] w (Cr w Y m [] 0):=by
 have G:=hm;obtain ⟨vfr,vup,vts,rfl,_,_,_⟩:=hm;have J:=zh G;clear G;have T:=zh Q;clear Q;have L:=zh E;clear E
 go_enter Tryz.func27,Tryz.ntmps27
 go_wp2_with fail
 generalize I:w.alloc (.cells #[.int .i64 m.w,.int .i64 m.h,.int .i64 m.l,vfr,vup,vts] 32)=w1;have o:zb w w1:=by rw [<-I];exact (zb.refl w).alloc _
 clear I;refine (load_calls (okc:=fun _=>True) 0 w1 (J.out.below o) T.out (zi.nil _ _) (by simp) (fun b M=>Fq (L.out b M) o.size)).mono ?_;rintro e w2 ⟨v2,rfl,O,hp⟩
 have z:Cr w Y m [] 0 (.returned (.tuple #[v2,.int .i64 (loadE m [] 0)])) w2:=by
  refine ⟨v2,rfl,o.trans O,?_⟩;rcases hp with hp | ⟨h1,h2,h3,g,gr,cap,pt,U,V⟩
  ·exact .inl hp
  ·exact .inr ⟨h1,h2,h3,g,gr,cap,pt,U,V.widen (fun b M=>EP o.size M)⟩
 have D:=zh z;clear z hp O
 go_wp2_with fail
 go_ret2
 exact D.out
def EH (m:MZ) (ch:List Int):Bool:=decide (AY m=0) && isChB m ch
def SoPost (w:World) (Y:Nat->Prop) (m:MZ) (ch:List Int) (e:Ending) (w':World):Prop:=
 ∃v,e=.returned (.tuple #[v,.bool (EH m ch)])/\zb w w'/\((EH m ch=false/\v=.pointer none)\/(EH m ch=true/\∃p,v=.pointer (some ⟨p,0,none⟩)/\EJ w' (fun b=>Y b\/w.heap.size<=b) p m ch))
theorem DT {m:MZ} (h:EH m ch=true):zI m/\zC m ch:=by
 unfold EH at h;rw [EZ,EX] at h;exact ⟨zI.of h.1,By.1 h.2⟩
theorem stateOf_calls {m:MZ} (w:World) (hm:zt w Y v m) (hl:Lens m) (d5:zi w okc vc ch) (f2:ch.length<=20000000000000):
  Calls Tryz.prog 112 #[v,vc] w (SoPost w Y m ch):=by
 have b4:=hm;obtain ⟨vfr,vup,vts,rfl,_,_,_⟩:=hm;have a5:=zh b4;clear b4;obtain ⟨Ac,cc,rfl,f1,b5⟩:=d5;have b8:=zh b5;clear b5;have HL:=zh hl;clear hl;obtain ⟨ck,a9⟩:=zak (AY m);have Q:=zh a9;clear a9
 go_enter Tryz.func112,Tryz.ntmps112
 go_wp2_with fail
 generalize a1:w.alloc (.cells #[.int .i64 m.w,.int .i64 m.h,.int .i64 m.l,vfr,vup,vts] 32)=w1;have a8:zb w w1:=by rw [<-a1];exact (zb.refl w).alloc _
 have b2:zg w1 w.heap.size 32 #[.int .i64 m.w,.int .i64 m.h,.int .i64 m.l,vfr,vup,vts]:=by rw [<-a1];exact FB _ _
 clear a1;obtain ⟨m0,m1,m2,m3,m4,m5⟩:=zn b2;have c0:=zb.rule m0;have c1:=zb.rule m1;have c2:=zb.rule m2;have c3:=zb.rule m3;have c4:=zb.rule m4;have c5:=zb.rule m5;clear m0 m1 m2 m3 m4 m5 b2;refine (BO w1 (a5.out.below a8) HL.out).mono ?_;rintro e w2 ⟨rfl,a3⟩;have a3:zb w1 w2:=a3;have a7:zb w w2:=a8.trans a3;rw [<-Q.out];by_cases h0:ck=0
 case neg=>
  have f3:(ck==0)=false:=by rw [Fa];exact h0
  have f4:(ck != 0)=true:=by rw [bne_iff_ne];exact h0
  have D:EH m ch=false:=by unfold EH;rw [<-Q.out,ER h0];rfl
  have o:SoPost w Y m ch (.returned (.tuple #[.pointer none,.bool false])) w2:=⟨.pointer none,by rw [D],a7,.inl ⟨D,rfl⟩⟩;have z:=zh o;clear o D h0
  go_wp2_with fail
  go_ret2
  exact z.out
 case pos=>
  subst h0;have HG:=zh (zI.of Q.out.symm);have G:=HG.out.dim;have d9:=G.n1;have b3:=G.layer;have HD:=zh G;clear G;have a0:Hid (EH m ch=isChB m ch):=by show _=_;unfold EH;rw [<-Q.out];rfl
  go_wp2_with fail
  refine (AN m.w m.h m.l vfr vup vts w2 (by omega) (by omega)).mono ?_;rintro e w3 ⟨rfl,U⟩;have U:zb w2 w3:=U;have T:zb w w3:=a7.trans U;have e5:zb w1 w3:=zb.trans ‹zb w1 w2› U;by_cases J:m.w*m.h*m.l<(ch.length:Int)
  ·have b1:decide (m.w*m.h*m.l<(ch.length:Int))=true:=EQ J
   have D:EH m ch=false:=by
    rw [a0.out,Bool.eq_false_iff];intro h;have h1:=(By.1 h).len HG.out;have h2:m.n=m.w*m.h*m.l:=rfl;omega
   have o:SoPost w Y m ch (.returned (.tuple #[.pointer none,.bool false])) w3:=⟨.pointer none,by rw [D],T,.inl ⟨D,rfl⟩⟩;have z:=zh o;clear o D
   go_wp2_with fail
   go_ret2
   exact z.out
  ·have b1:decide (m.w*m.h*m.l<(ch.length:Int))=false:=ER J;have d7:ch.length<=300:=by omega
   clear J b3 d9
   go_wp2_with fail
   refine (begin_c w3 (a5.out.below T) (by have:=HG.out.tk;omega)).mono ?_;rintro e w4 ⟨p,rfl,e0,Z⟩;have c6:zb w w4:=T.trans e0
   have H0:Hid (EJ w4 (fun b=>Y b\/w.heap.size<=b) p m (ch.take 0)):=by
    have:=T.size
    exact Z.weaken fun b hb=>by
     rcases hb with hb | hb
     ·exact .inl hb
     ·exact .inr (by omega)
   have V:Hid (zC m (ch.take 0)):=by show zC m (ch.take 0);simpa using zC.nil
   clear Z b1 c0 c1 c2 c3 c4 c5
   go_wp2_with fail
   go_loopg [6,23] ch.length (fun gk v6 v wr=>∃(k p:Nat),v6=.pointer (some ⟨p,0,none⟩)/\v=.int .i64 k/\k<=ch.length/\gk=ch.length - k/\Hid (EJ wr (fun b=>Y b\/w.heap.size<=b) p m (ch.take k))/\Hid (zC m (ch.take k))/\Hid (zb w wr))
   case atStart=>exact ⟨0,p,rfl,rfl,Fb _,rfl,H0,V,c6⟩
   clear H0 V
   case round=>
    obtain ⟨k,p,rfl,rfl,hk,rfl,hS,hI,hX⟩:=hrel;have O:=hX.out;rcases Fk k ch.length with L | hge
    ·obtain ⟨bc,oc,rfl,_,E⟩:=zy b8.out L L;obtain ⟨n,hn⟩:=zak (ch[k]);rw [<-hn] at E;have q0:=zb.rule E;have HN:=zh hn;clear E hn
     go_wp2_with fail
     refine (Dm wr hS.out HG.out HL.out hI.out).mono ?_;rintro e w6 ⟨v6,rfl,hM⟩;have M:zb wr w6:=hM.ext;have HM:=zh hM.ints;clear hM
     go_wp2_with fail
     refine (zE n w6 HM.out (by have:=DO HL.out (ch.take k);omega)).mono ?_;rintro e w7 ⟨rfl,rfl⟩;by_cases I:n∈Bw m (ch.take k)
     ·rw [EQ I];have a6:=zh I;clear I;have b0:Hid (ch.take k++[n]=ch.take (k+1)):=by show _=_;rw [EU L,HN.out]
      go_wp2_with fail
      refine (with_c w6 (hS.out.ext M) HG.out HL.out hI.out a6.out).mono ?_;rintro e w8 ⟨q,rfl,b6,hq⟩
      have HQ:Hid (EJ w8 (fun b=>Y b\/w.heap.size<=b) q m (ch.take (k+1))):=by
       have:=(O.trans M).size;rw [<-b0.out]
       exact hq.weaken fun b hb=>by
        rcases hb with hb | hb
        ·exact hb.1
        ·exact .inr (by omega)
      have c7:Hid (zC m (ch.take (k+1))):=by rw [<-b0.out];exact .snoc hI.out a6.out
      have d4:Hid (zb w w8):=O.trans (M.trans b6);clear hq b6 M O
      go_wp2_with fail
      go_roundg (ch.length - (k+1))
      case measure=>omega
      case rel=>exact ⟨k+1,q,rfl,by go_num,L,rfl,HQ,c7,d4⟩
     ·rw [ER I]
      have D:EH m ch=false:=by
       rw [a0.out,Bool.eq_false_iff];intro h;have h1:=(By.1 h).at L;rw [<-HN.out] at h1;exact I h1
      have o:SoPost w Y m ch (.returned (.tuple #[.pointer none,.bool false])) w6:=⟨.pointer none,by rw [D],O.trans M,.inl ⟨D,rfl⟩⟩;have z:=zh o;clear o D I
      go_wp2_with fail
      go_ret2
      exact z.out
    ·have d6:k=ch.length:=by omega
     subst d6;have b9:Hid (ch.take ch.length=ch):=EY
     have o:SoPost w Y m ch (.returned (.tuple #[.pointer (some ⟨p,0,none⟩),.bool true])) wr:=by
      have h1:=hI.out;have h2:=hS.out;rw [b9.out] at h1 h2;have h3:EH m ch=true:=by rw [a0.out];exact By.2 h1
      exact ⟨_,by rw [h3],O,.inr ⟨h3,p,rfl,h2⟩⟩
     have z:=zh o;clear o
     go_wp2_with fail
     go_ret2
     exact z.out
def AK (m:MZ) (ch:List Int):List Int:=if EH m ch=true then Bw m ch else []
theorem rCandidates_calls {m:MZ} (w:World) (hm:zt w Y v m) (V:Lens m) (G:zi w okc vc ch) (Q:ch.length<=20000000000000):
  Calls Tryz.prog 92 #[v,vc] w fun e w'=>∃v',e=.returned v'/\Mk w w' v' (AK m ch):=by
 have I:=hm;obtain ⟨vfr,vup,vts,rfl,_,_,_⟩:=hm;have O:=zh I;clear I;have T:=zh V;clear V;have M:=zh G;obtain ⟨Ac,cc,rfl,a1,_⟩:=G;obtain ⟨ok,J⟩:=zak (EH m ch);have o:=zh J;clear J
 go_enter Tryz.func92,Tryz.ntmps92
 go_wp2_with fail
 generalize L:w.alloc (.cells #[.int .i64 m.w,.int .i64 m.h,.int .i64 m.l,vfr,vup,vts] 32)=w1;have D:zb w w1:=by rw [<-L];exact (zb.refl w).alloc _
 clear L;refine (stateOf_calls w1 (O.out.below D) T.out (M.out.below D) Q).mono ?_;rintro e w2 ⟨v2,rfl,hE,hp⟩;rw [<-o.out];rw [<-o.out] at hp;have E:zb w w2:=D.trans hE;rcases hp with ⟨h1,rfl⟩ | ⟨h1,p,rfl,h2⟩
 ·subst h1
  have z:Hid (Mk w w2 (.slice none 0 0) (AK m ch)):=by
   show Mk _ _ _ _;unfold AK;rw [<-o.out];exact Mk.nil' E
  go_wp2_with fail
  go_ret;exact ⟨_,rfl,z.out⟩
 ·subst h1;have Z:=zh h2;clear h2
  go_wp2_with fail
  refine (Dm w2 Z.out (DT o.out.symm).1 T.out (DT o.out.symm).2).mono ?_;rintro e w3 ⟨v3,rfl,U⟩
  have z:Hid (Mk w w3 v3 (AK m ch)):=by
   show Mk _ _ _ _;unfold AK;rw [<-o.out,if_pos rfl];exact E.mono_mk U
  clear U
  go_wp2_with fail
  go_ret;exact ⟨_,rfl,z.out⟩
noncomputable def openO (m:MZ) (ch:List Int):Bool:=EH m ch && Cj m ch
def BE (m:MZ) (t:Nat) (p pre:List Int) (k:Nat):Bool:=
 decide (0<=p.getD k 0) && (decide (p.getD k 0<m.n) && (!decide (p.getD k 0∈pre) && (zl m t (p.getD k 0) && (decide (k=0) || decide (p.getD k 0∈zm m (p.getD (k - 1) 0))))))
def pathB (m:MZ) (t:Nat) (p pre:List Int):Bool:=
 !decide (p=[]) && (decide (p.getD 0 0∈(m.tasks.getD t ([],[])).1) && (decide (p.getD (p.length - 1) 0∈(m.tasks.getD t ([],[])).2) && (List.range p.length).all fun k=>BE m t p (pre++p.take k) k))
def zJ (m:MZ) (ps:List (List Int)):Bool:=
 decide (AY m=0) && (decide (ps.length=m.tasks.length) && (List.range ps.length).all fun t=>pathB m t (ps.getD t []) (ps.take t).flatten)
section
variable {m:MZ} {t:Nat} {p pre:List Int} {ps:List (List Int)}
theorem pathB_hd (h:p.getD 0 0∉(m.tasks.getD t ([],[])).1):pathB m t p pre=false:=by
 unfold pathB;rw [ER h];simp
theorem pathB_lt (h:p.getD (p.length - 1) 0∉(m.tasks.getD t ([],[])).2):pathB m t p pre=false:=by
 unfold pathB;rw [ER h];simp
theorem DV {k:Nat} (o:k<p.length) (h:BE m t p (pre++p.take k) k=false):pathB m t p pre=false:=by
 unfold pathB
 have:((List.range p.length).all fun k=>BE m t p (pre++p.take k) k)=false:=by
  rw [Bool.eq_false_iff];intro h2;have:=zag.1 h2 k (zad.2 o);rw [h] at this;cases this
 rw [this];simp
theorem pathB_ok (h0:p≠[]) (h1:p.getD 0 0∈(m.tasks.getD t ([],[])).1) (h2:p.getD (p.length - 1) 0∈(m.tasks.getD t ([],[])).2) (h3:∀k,k<p.length->BE m t p (pre++p.take k) k=true):pathB m t p pre=true:=by
 unfold pathB;rw [ER h0,EQ h1,EQ h2,zag.2 (fun k o=>h3 k (zad.1 o))];rfl
theorem rightB_path (o:t<ps.length) (h:pathB m t (ps.getD t []) (ps.take t).flatten=false):zJ m ps=false:=by
 unfold zJ
 have:((List.range ps.length).all fun t=>pathB m t (ps.getD t []) (ps.take t).flatten)=false:=by
  rw [Bool.eq_false_iff];intro h2;have:=zag.1 h2 t (zad.2 o);rw [h] at this;cases this
 rw [this];simp
theorem rightB_ok (h0:AY m=0) (h1:ps.length=m.tasks.length) (h2:∀t,t<ps.length->pathB m t (ps.getD t []) (ps.take t).flatten=true):zJ m ps=true:=by
 unfold zJ;rw [EQ h0,EQ h1,zag.2 (fun t o=>h2 t (zad.1 o))];rfl
end
structure RtI (w wr:World) (gs:Nat) (pre:List Int):Prop where
 ext:zb w wr
 gsB:w.heap.size<=gs
 set:∃s,zD wr gs s/\∀x,x∈s↔x∈pre
theorem RtI.more {pre:List Int} (h:RtI w wr gs pre) (o:zb wr w'):RtI w w' gs pre:=by
 obtain ⟨s,h1,h2⟩:=h.set;exact ⟨h.ext.trans o,h.gsB,s,h1.below o,h2⟩
theorem RtI.add {pre s:List Int} {x:Int} (h:RtI w wr gs pre) (D:∀y,y∈s↔y∈pre) (h1:zD w' gs (ins s x)) (z:wr.grownBy w' (some gs)):RtI w w' gs (pre++[x]):=
 ⟨Below.grown h.ext z h.ext.size (fun k o=>by injection o with o;have:=h.gsB;omega),h.gsB,_,h1,fun y=>by rw [mem_ins,D,FE,Fv]⟩
theorem right_calls {okm okp:Nat->Prop} {vp:Value} {m:MZ} {ps:List (List Int)} (w:World) (hm:zt w okm v m) (hl:Lens m) (hp:zq w okp vp ps) (s6:ps.length<=20000000000000) (e0:∀x∈ps,x.length<=20000000000000):
  Calls Tryz.prog 14 #[v,vp] w fun e w'=>e=.returned (.bool (zJ m ps))/\zb w w':=by
 have j6:=hm;obtain ⟨vfr,vup,vts,rfl,-,-,k9⟩:=hm;have n0:=zh k9;obtain ⟨_,⟨At,ct,rfl,-⟩,-⟩:=k9;have f1:=zh j6;clear j6;obtain ⟨vsp,⟨Ap,cp,rfl,r6,k7⟩,j2⟩:=hp;have m9:=zh k7;have l5:=zh j2;clear k7 j2;have HL:=zh hl;clear hl;have m8:=zh e0;clear e0;obtain ⟨ck,j1⟩:=zak (AY m);have a9:=zh j1;clear j1;have o1:=@run_makeMap Tryz.prog
 go_enter Tryz.func14,Tryz.ntmps14
 go_wp2_with fail
 generalize g9:w.alloc (.cells #[.int .i64 m.w,.int .i64 m.h,.int .i64 m.l,vfr,vup,.slice At m.tasks.length ct] 32)=w1;have J:zb w w1:=by rw [<-g9];exact (zb.refl w).alloc _
 have j3:zg w1 w.heap.size 32 #[.int .i64 m.w,.int .i64 m.h,.int .i64 m.l,vfr,vup,.slice At m.tasks.length ct]:=by rw [<-g9];exact FB _ _
 clear g9;obtain ⟨m0,m1,m2,m3,m4,m5⟩:=zn j3;have c0:=zb.rule m0;have c1:=zb.rule m1;have c2:=zb.rule m2;have c3:=zb.rule m3;have c4:=zb.rule m4;have c5:=zb.rule m5;clear m0 m1 m2 m3 m4 m5 j3;refine (BO w1 (f1.out.below J) HL.out).mono ?_;rintro e w2 ⟨rfl,U⟩;have U:zb w1 w2:=U;have z:Hid (zb w w2):=J.trans U;have r4:=zh J;rw [<-a9.out];by_cases h0:ck=0
 case neg=>
  have j8:(ck==0)=false:=by rw [Fa];exact h0
  have s7:(ck != 0)=true:=by rw [bne_iff_ne];exact h0
  have o:Hid (zJ m ps=false):=by show _=_;unfold zJ;rw [<-a9.out,ER h0];rfl
  clear h0
  go_wp2_with fail
  go_ret;exact ⟨zf o.out.symm,z.out⟩
 case pos=>
  subst h0;have HG:=zh (zI.of a9.out.symm);have l8:Hid (∀h1:ps.length=m.tasks.length,∀h2:(∀t,t<ps.length->pathB m t (ps.getD t []) (ps.take t).flatten=true),zJ m ps=true):=fun h1 h2=>rightB_ok a9.out.symm h1 h2
  clear a9;by_cases a3:ps.length=m.tasks.length
  case neg=>
   have j9:((ps.length:Int)==(m.tasks.length:Int))=false:=by rw [Fa];omega
   have k6:((ps.length:Int) != (m.tasks.length:Int))=true:=by rw [bne_iff_ne];omega
   have o:Hid (zJ m ps=false):=by show _=_;unfold zJ;rw [ER a3];simp
   clear a3
   go_wp2_with fail
   go_ret;exact ⟨zf o.out.symm,z.out⟩
  case pos=>
   have j9:((ps.length:Int)==(m.tasks.length:Int))=true:=by rw [beq_iff_eq];omega
   have k6:((ps.length:Int) != (m.tasks.length:Int))=false:=by rw [bne_eq_false_iff_eq];omega
   have e5:=zh a3;have t0:=HG.out.tk;have s5:ps.length<=6:=by omega
   have H0:Hid (RtI w2 (w2.alloc (.map #[] 0)) w2.heap.size []):=⟨(zb.refl _).alloc _,EN _,[],zD.new _,fun x=>Iff.rfl⟩;have p0:∀W,zb w2 W->W.cell? ⟨w.heap.size,0,none⟩=some (.int .i64 m.w):=fun W h=>c0 W (U.trans h)
   have p1:∀W,zb w2 W->W.cell? ⟨w.heap.size,1,none⟩=some (.int .i64 m.h):=fun W h=>c1 W (U.trans h)
   have p2:∀W,zb w2 W->W.cell? ⟨w.heap.size,2,none⟩=some (.int .i64 m.l):=fun W h=>c2 W (U.trans h)
   have p3:∀W,zb w2 W->W.cell? ⟨w.heap.size,3,none⟩=some vfr:=fun W h=>c3 W (U.trans h)
   have p4:∀W,zb w2 W->W.cell? ⟨w.heap.size,4,none⟩=some vup:=fun W h=>c4 W (U.trans h)
   have p5:∀W,zb w2 W->W.cell? ⟨w.heap.size,5,none⟩=some (.slice At m.tasks.length ct):=fun W h=>c5 W (U.trans h)
   clear a3
   go_wp2_with fail
   obtain ⟨gs,j4⟩:=zak w2.heap.size;rw [<-j4] at H0⊢;generalize o7:w2.alloc (.map #[] 0)=w3 at*;clear o7 o1 j9 k6 j4 c0 c1 c2 c3 c4 c5
   go_loopg [24] ps.length (fun gk v wr=>∃t:Nat,v=.int .i64 t/\t<=ps.length/\gk=ps.length - t/\Hid (RtI w2 wr gs (ps.take t).flatten/\∀t',t'<t->pathB m t' (ps.getD t' []) (ps.take t').flatten=true))
   case atStart=>exact ⟨0,rfl,Fb _,rfl,H0.out,fun t' h=>by omega⟩
   clear H0
   case round=>
    obtain ⟨t,rfl,ht,rfl,hI⟩:=hrel;have M:zb w2 wr:=hI.out.1.ext;rcases Fk t ps.length with a1 | hge
    ·have b5:t<m.tasks.length:=by have:=e5.out;omega
     have g6:ps.getD t []=ps[t]:=zgd a1
     obtain ⟨bp,offp,up,rfl,-,e7,l0⟩:=zO m9.out l5.out a1 a1;obtain ⟨bt,offt,sn,u1,u2,rfl,-,-,i9,j0,g0,g3⟩:=AO n0.out b5;have e0:=m8.out _ (EO a1);have g8:=HL.out.tl _ (EO b5);have g7:m.tasks.getD t ([],[])=m.tasks[t]:=zgd b5
     have I:Hid (pathB m t (ps.getD t []) (ps.take t).flatten=false->zJ m ps=false):=rightB_path a1;have d5:Hid ((ps.take (t+1)).flatten=(ps.take t).flatten++ps[t]):=by show _=_;rw [EU a1,List.flatten_append];simp
     rw [g6] at I;have i2:=zh g6;obtain ⟨p,hp⟩:=zak (ps[t]);rw [<-hp] at l0 e0 I d5 i2;obtain ⟨pre,b7⟩:=zak ((ps.take t).flatten);have f4:=hI.out;rw [<-b7] at I d5 f4;have i1:=zh b7;have HI:=zh f4;obtain ⟨T1,f6⟩:=zak (m.tasks[t].1);obtain ⟨T2,f7⟩:=zak (m.tasks[t].2);have i4:Hid ((m.tasks.getD t ([],[])).1=T1):=by show _=_;rw [g7,f6]
     have i5:Hid ((m.tasks.getD t ([],[])).2=T2):=by show _=_;rw [g7,f7]
     rw [<-f6] at g0 g8;rw [<-f7] at g3 g8;obtain ⟨q9,r3⟩:=g8;have c8:=zh g0;have e9:=zh g3;obtain ⟨Aq,cq,rfl,r7,k8⟩:=l0;have c9:=zh k8;have V:=z.out;have qp:∀W,zb w2 W->W.cell? ⟨bp,offp+t,none⟩=some (.slice Aq p.length cq):=fun W h=>zb.rule e7 W (V.trans h)
     have q1:∀W,zb w2 W->W.cell? ⟨bt,offt+t*3+1,none⟩=some u1:=fun W h=>zb.rule i9 W (V.trans h)
     have q2:∀W,zb w2 W->W.cell? ⟨bt,offt+t*3+2,none⟩=some u2:=fun W h=>zb.rule j0 W (V.trans h)
     have q5:(0:Int)<=(t:Int):=by omega
     have q6:(t:Int)<(m.tasks.length:Int):=by omega
     have q7:(t:Int)<(ps.length:Int):=by omega
     clear e7 i9 j0 g6 g7 hp b7 f4 f6 f7 g0 g3 k8 V hI;have T:∀q,zb w2 (wr.drewN q):=fun q=>M.drewN q
     go_upto_region 7 with fail;rcases Fz p.length with hpz | hpz
     ·have o3:p=[]:=Fe hpz;subst o3;have hz:([]:List Int).length=0:=rfl;have o:Hid (zJ m ps=false):=I.out rfl;clear hpz;go_quiet (fail)
      go_wp2_with fail
      go_ret;exact ⟨zf o.out.symm,z.out.trans (T _)⟩
     ·obtain ⟨bq,offq,rfl,-,b2⟩:=zy c9.out (k:=0) hpz hpz;obtain ⟨n1,g4⟩:=zak (p.length - 1);have g5:n1<p.length:=by omega
      obtain ⟨bq',offq',e,-,b3⟩:=zy c9.out (k:=n1) g5 g5;injection e with e;injection e with e1 e2;subst e1 e2;obtain ⟨x0,h4⟩:=zak (p[0]);obtain ⟨xl,h5⟩:=zak (p[n1]);rw [<-h4] at b2;rw [<-h5] at b3;have V:=z.out;have qx0:∀W,zb w2 W->W.cell? ⟨bq,offq,none⟩=some (.int .i64 x0):=fun W h=>zb.rule b2 W (V.trans h)
      have qxl:∀W,zb w2 W->W.cell? ⟨bq,offq+n1,none⟩=some (.int .i64 xl):=fun W h=>zb.rule b3 W (V.trans h)
      have i6:Hid (p.getD 0 0=x0):=by show _=_;rw [h4,EM,EL hpz];rfl
      have i7:Hid (p.getD (p.length - 1) 0=xl):=by show _=_;rw [<-g4,h5,EM,EL g5];rfl
      have o8:((p.length:Int)==0)=false:=by rw [Fa];omega
      have o9:(0:Int)<(p.length:Int):=by omega
      have o5:IntKind.i64.wrap ((p.length:Int) - 1)=(n1:Int):=by rw [Fi];omega
      have o4:(0:Int)<=(n1:Int):=by omega
      have j8:(n1:Int)<(p.length:Int):=by omega
      have j7:p.length≠0:=by omega
      have r5:=zh g4;have l9:Hid (p≠[]):=by rintro rfl;simp at hpz
      clear g4 b2 b3 h4 h5 V;by_cases J:x0∈T1
      case neg=>
       have o:Hid (zJ m ps=false):=I.out (pathB_hd (by rw [i6.out,i4.out];exact J));have HB:=zh (ER J);clear J;go_quiet ((go_at_call 42;refine (zE x0 _ (c8.out.below (z.out.trans (T _))) (by omega)).mono ?_;rintro e w8 ⟨G,rfl⟩;rw [HB.out] at G;exact ⟨G,⟨_,rfl⟩⟩))
       go_wp2_with fail
       go_ret;exact ⟨zf o.out.symm,z.out.trans (T _)⟩
      case pos=>
       have HB:=zh (EQ J);by_cases a5:xl∈T2
       case neg=>
        have o:Hid (zJ m ps=false):=I.out (pathB_lt (by rw [i7.out,i5.out];exact a5));have c7:=zh (ER a5);clear J a5;go_quiet (first | (go_at_call 42;refine (zE x0 _ (c8.out.below (z.out.trans (T _))) (by omega)).mono ?_;rintro e w8 ⟨G,rfl⟩;rw [HB.out] at G;exact ⟨G,⟨_,rfl⟩⟩) | (go_at_call 42;refine (zE xl _ (e9.out.below (z.out.trans (T _))) (by omega)).mono ?_;rintro e w8 ⟨G,rfl⟩;rw [c7.out] at G;exact ⟨G,⟨_,rfl⟩⟩))
        go_wp2_with fail
        go_ret;exact ⟨zf o.out.symm,z.out.trans (T _)⟩
       case pos=>
        have c7:=zh (EQ a5);have m7:Hid ((∀k,k<p.length->BE m t p (pre++p.take k) k=true)->pathB m t p pre=true):=fun h=>pathB_ok l9.out (by rw [i6.out,i4.out];exact J) (by rw [i7.out,i5.out];exact a5) h
        clear J a5;go_quiet (first | (go_at_call 42;refine (zE x0 _ (c8.out.below (z.out.trans (T _))) (by omega)).mono ?_;rintro e w8 ⟨G,rfl⟩;rw [HB.out] at G;exact ⟨G,⟨_,rfl⟩⟩) | (go_at_call 42;refine (zE xl _ (e9.out.below (z.out.trans (T _))) (by omega)).mono ?_;rintro e w8 ⟨G,rfl⟩;rw [c7.out] at G;exact ⟨G,⟨_,rfl⟩⟩))
        have h8:Hid (RtI w2 (wr.drewN nq) gs pre):=HI.out.1.more ((zb.refl wr).drewN nq);generalize wr.drewN nq=w8 at*;clear qx0 qxl o8 o9 o5 o4 j8 j7 T HB c7 c8 e9 q1 q2 qp M
        go_wp2_with fail
        go_loopg [63] p.length (fun gk v wr=>∃k:Nat,v=.int .i64 k/\k<=p.length/\gk=p.length - k/\Hid (RtI w2 wr gs (pre++p.take k)/\∀k',k'<k->BE m t p (pre++p.take k') k'=true))
        case atStart=>exact ⟨0,rfl,Fb _,rfl,by simpa using h8.out,fun k' h=>by omega⟩
        clear h8
        case round=>
         obtain ⟨k,rfl,hk,rfl,hJ⟩:=hrel;obtain ⟨wk,rfl⟩:∃wk:World,wk=wr:=⟨_,rfl⟩;have M:zb w2 wk:=hJ.out.1.ext;rcases Fk k p.length with D | hkge
         ·obtain ⟨bq',offq',e,-,f9⟩:=zy c9.out (k:=k) D D;injection e with e;injection e with e1 e2;subst e1 e2;obtain ⟨y,hy⟩:=zak (p[k]);rw [<-hy] at f9;have qy:∀W,zb wk W->W.cell? ⟨bq,offq+k,none⟩=some (.int .i64 y):=fun W h=>zb.rule f9 W (z.out.trans (M.trans h))
          have a0:Hid (p.getD k 0=y):=by show _=_;rw [hy,EM,EL D];rfl
          have HY:=zh hy;have O:Hid (∀W,Calls Tryz.prog 43 #[.agg #[.int .i64 m.w,.int .i64 m.h,.int .i64 m.l,vfr,vup,.slice (some ⟨bt,offt,none⟩) m.tasks.length ct]] W fun e w'=>e=.returned (.int .i64 (m.w*m.h*m.l))/\Below W.heap.size W w'):=fun W=>AN m.w m.h m.l _ vup _ W (by have:=HG.out.dim.layer;have:=HG.out.dim.n1;omega) (by have:=HG.out.dim.layer;have:=HG.out.dim.n1;omega)
          have k0:∀W,zb wk W->W.cell? ⟨w.heap.size,0,none⟩=some (.int .i64 m.w):=fun W h=>p0 W (M.trans h)
          have k1:∀W,zb wk W->W.cell? ⟨w.heap.size,1,none⟩=some (.int .i64 m.h):=fun W h=>p1 W (M.trans h)
          have k2:∀W,zb wk W->W.cell? ⟨w.heap.size,2,none⟩=some (.int .i64 m.l):=fun W h=>p2 W (M.trans h)
          have k3:∀W,zb wk W->W.cell? ⟨w.heap.size,3,none⟩=some vfr:=fun W h=>p3 W (M.trans h)
          have k4:∀W,zb wk W->W.cell? ⟨w.heap.size,4,none⟩=some vup:=fun W h=>p4 W (M.trans h)
          have k5:∀W,zb wk W->W.cell? ⟨w.heap.size,5,none⟩=some (.slice (some ⟨bt,offt,none⟩) m.tasks.length ct):=fun W h=>p5 W (M.trans h)
          have s2:=zb.refl wk;have q3:(0:Int)<=(k:Int):=by omega
          have q4:(k:Int)<(p.length:Int):=by omega
          clear f9 hy p0 p1 p2 p3 p4 p5
          go_wp2_with fail
          rcases Int.lt_or_le y 0 with hy0 | hy0
          ·have o:Hid (zJ m ps=false):=I.out (DV D (by unfold BE;rw [a0.out,ER (by omega)];rfl));have n3:decide (y<0)=true:=EQ hy0;refine Fd (S:=fun W=>zb wk W) (by kernel_rfl) ((zb.refl wk).drew) fun zH=>?_;refine ze 0 zH ?_;refine ze 1 zH ?_;simp only [za,EK];refine ze 2 zH ?_;refine AC 3 zH ?_;simp only [za,EK];refine AC 4 zH ?_;refine AC 5 zH ?_;simp only [za,EK];refine AC 6 zH ?_;refine ze 7 zH ?_;simp only [za,EK];refine ze 8 zH ?_;refine AC 9 zH ?_;simp only [za,EK];refine AC 10 zH ?_;refine AC 11 zH ?_;simp only [za,EK];refine ze 12 zH ?_;refine ze 13 zH ?_;simp only [za,EK];refine AC 14 zH ?_;refine AC 15 zH ?_;simp only [za,EK];refine AC 16 zH ?_;refine AC 17 zH ?_;simp only [za,EK];refine AC 18 zH ?_;refine AC 19 zH ?_;simp only [za,EK];refine AC 20 zH ?_;refine AC 21 zH ?_;simp only [za,EK];refine AC 22 zH ?_;refine ze 23 zH ?_;simp only [za,EK];refine ze 24 zH ?_;refine AC 25 zH ?_;simp only [za,EK];refine AC 26 zH ?_;refine AC 27 zH ?_;simp only [za,EK];refine AC 28 zH ?_;refine AC 29 zH ?_;simp only [za,EK];refine AC 30 zH ?_;refine AC 31 zH ?_;simp only [za,EK];refine AC 32 zH ?_;refine AC 33 zH ?_;simp only [za,EK];refine AC 35 zH ?_;refine AC 34 zH ?_;simp only [za,EK];refine AC 36 zH ?_;refine AC 37 zH ?_;simp only [za,EK];refine AC 38 zH ?_;refine ze 39 zH ?_;simp only [za,EK];refine Fs (by kernel_rfl) ?_ _;have HS:=zh (z.out.trans (M.trans zH));clear zH
           go_wp2_with fail
           go_ret;exact ⟨zf o.out.symm,HS.out⟩
          ·have n3:decide (y<0)=false:=ER (by omega);rcases Int.lt_or_le y m.n with hyn | hyn
           case inr=>
            have o:Hid (zJ m ps=false):=I.out (DV D (by unfold BE;rw [a0.out,ER (show ¬ y<m.n by omega)];simp));have n2:decide (m.w*m.h*m.l<=y)=true:=EQ hyn;clear hyn;refine Fd (S:=fun W=>zb wk W) (by kernel_rfl) ((zb.refl wk).drew) fun zH=>?_;refine ze 0 zH ?_;refine ze 1 zH ?_;simp only [za,EK];refine ze 2 zH ?_;refine ze 3 zH ?_;simp only [za,EK];refine ze 4 zH ?_;simp only [za,EK];refine zx 5 fun K E=>?_;go_simp;go_at_call 43;refine (O.out _).mono ?_;rintro e w9 ⟨rfl,L⟩;go_simp;refine zal E (zb.trans zH L) fun zH=>?_;clear E K;try simp only [za,EK]
            refine ze 6 zH ?_;refine ze 7 zH ?_;simp only [za,EK];refine ze 8 zH ?_;refine AC 9 zH ?_;simp only [za,EK];refine AC 10 zH ?_;refine AC 11 zH ?_;simp only [za,EK];refine ze 12 zH ?_;refine ze 13 zH ?_;simp only [za,EK];refine AC 14 zH ?_;refine AC 15 zH ?_;simp only [za,EK];refine AC 16 zH ?_;refine AC 17 zH ?_;simp only [za,EK];refine AC 18 zH ?_;refine AC 19 zH ?_;simp only [za,EK];refine AC 20 zH ?_;refine AC 21 zH ?_;simp only [za,EK];refine AC 22 zH ?_;refine ze 23 zH ?_;simp only [za,EK];refine ze 24 zH ?_;refine AC 25 zH ?_;simp only [za,EK];refine AC 26 zH ?_;refine AC 27 zH ?_;simp only [za,EK];refine AC 28 zH ?_;refine AC 29 zH ?_;simp only [za,EK];refine AC 30 zH ?_;refine AC 31 zH ?_;simp only [za,EK];refine AC 32 zH ?_;refine AC 33 zH ?_;simp only [za,EK];refine AC 35 zH ?_;refine AC 34 zH ?_;simp only [za,EK];refine AC 36 zH ?_;refine AC 37 zH ?_;simp only [za,EK];refine AC 38 zH ?_;refine ze 39 zH ?_;simp only [za,EK];refine Fs (by kernel_rfl) ?_ _;have HS:=zh (z.out.trans (M.trans zH));clear zH
            go_wp2_with fail
            go_ret;exact ⟨zf o.out.symm,HS.out⟩
           case inl=>
            have n2:decide (m.w*m.h*m.l<=y)=false:=ER (by have:m.n=m.w*m.h*m.l:=rfl;omega);obtain ⟨s,a4,e3⟩:=hJ.out.1.set;by_cases a8:y∈s
            ·have o:Hid (zJ m ps=false):=I.out (DV D (by unfold BE;rw [a0.out,EQ ((e3 y).1 a8)];simp));have o0:∀W,zb wk W->(Instr.lookup 79 (.map (some gs)) (.int .i64 y) false).run Tryz.prog W=.ok (.bool true) W:=fun W hW=>look_t (a4.below hW) a8
             clear a4 e3 a8 hyn;refine Fd (S:=fun W=>zb wk W) (by kernel_rfl) ((zb.refl wk).drew) fun zH=>?_;refine ze 0 zH ?_;refine ze 1 zH ?_;simp only [za,EK];refine ze 2 zH ?_;refine ze 3 zH ?_;simp only [za,EK];refine ze 4 zH ?_;simp only [za,EK];refine zx 5 fun K E=>?_;go_simp;go_at_call 43;refine (O.out _).mono ?_;rintro e w9 ⟨rfl,L⟩;go_simp;refine zal E (zb.trans zH L) fun zH=>?_;clear E K;try simp only [za,EK]
             refine ze 6 zH ?_;refine ze 7 zH ?_;simp only [za,EK];refine ze 8 zH ?_;refine ze 9 zH ?_;simp only [za,EK];refine ze 10 zH ?_;refine ze 11 zH ?_;simp only [za,EK];refine ze 12 zH ?_;refine ze 13 zH ?_;simp only [za,EK];refine AC 14 zH ?_;refine AC 15 zH ?_;simp only [za,EK];refine AC 16 zH ?_;refine AC 17 zH ?_;simp only [za,EK];refine AC 18 zH ?_;refine AC 19 zH ?_;simp only [za,EK];refine AC 20 zH ?_;refine AC 21 zH ?_;simp only [za,EK];refine AC 22 zH ?_;refine ze 23 zH ?_;simp only [za,EK];refine ze 24 zH ?_;refine AC 25 zH ?_;simp only [za,EK];refine AC 26 zH ?_;refine AC 27 zH ?_;simp only [za,EK];refine AC 28 zH ?_;refine AC 29 zH ?_;simp only [za,EK];refine AC 30 zH ?_;refine AC 31 zH ?_;simp only [za,EK];refine AC 32 zH ?_;refine AC 33 zH ?_;simp only [za,EK];refine AC 35 zH ?_;refine AC 34 zH ?_;simp only [za,EK];refine AC 36 zH ?_;refine AC 37 zH ?_;simp only [za,EK];refine AC 38 zH ?_;refine ze 39 zH ?_;simp only [za,EK];refine Fs (by kernel_rfl) ?_ _;have HS:=zh (z.out.trans (M.trans zH));clear zH
             go_wp2_with fail
             go_ret;exact ⟨zf o.out.symm,HS.out⟩
            ·have o0:∀W,zb wk W->(Instr.lookup 79 (.map (some gs)) (.int .i64 y) false).run Tryz.prog W=.ok (.bool false) W:=fun W hW=>look_f (a4.below hW) a8
             have h9:Hid (y∉pre++p.take k):=fun h=>a8 ((e3 y).2 h)
             have n4:t<m.free.length:=by have:=HG.out.fl;omega
             obtain ⟨bf,offf,cf,bf',offf',lf,cf',rfl,e6,s4,s3,r8,Q⟩:=mazeFree f1.out HG.out.fn n4 hy0 hyn;have i8:=zh hyn;have qf1:∀W,zb wk W->W.cell? ⟨bf,offf+t,none⟩=some (.slice (some ⟨bf',offf',none⟩) lf cf'):=fun W h=>zb.rule e6 W (z.out.trans (M.trans h))
             have p9:(t:Int)<(m.free.length:Int):=by omega
             clear a4 e3 a8 hyn e6
             cases a7:zl m t y with
             | false=>
              rw [a7] at Q;have qf2:∀W,zb wk W->W.cell? ⟨bf',offf'+y.toNat,none⟩=some (.bool false):=fun W h=>zb.rule Q W (z.out.trans (M.trans h))
              have o:Hid (zJ m ps=false):=I.out (DV D (by unfold BE;rw [a0.out,a7];simp));clear Q a7;refine Fd (S:=fun W=>zb wk W) (by kernel_rfl) ((zb.refl wk).drew) fun zH=>?_;refine ze 0 zH ?_;refine ze 1 zH ?_;simp only [za,EK];refine ze 2 zH ?_;refine ze 3 zH ?_;simp only [za,EK];refine ze 4 zH ?_;simp only [za,EK];refine zx 5 fun K E=>?_;go_simp;go_at_call 43;refine (O.out _).mono ?_;rintro e w9 ⟨rfl,L⟩;go_simp;refine zal E (zb.trans zH L) fun zH=>?_;clear E K;try simp only [za,EK]
              refine ze 6 zH ?_;refine ze 7 zH ?_;simp only [za,EK];refine ze 8 zH ?_;refine ze 9 zH ?_;simp only [za,EK];refine ze 10 zH ?_;refine ze 11 zH ?_;simp only [za,EK];refine ze 12 zH ?_;refine ze 13 zH ?_;simp only [za,EK];refine ze 14 zH ?_;refine ze 15 zH ?_;simp only [za,EK];refine ze 16 zH ?_;refine ze 17 zH ?_;simp only [za,EK];refine ze 18 zH ?_;refine ze 19 zH ?_;simp only [za,EK];refine ze 20 zH ?_;refine ze 21 zH ?_;simp only [za,EK];refine ze 22 zH ?_;refine ze 23 zH ?_;simp only [za,EK];refine ze 24 zH ?_;refine AC 25 zH ?_;simp only [za,EK];refine AC 26 zH ?_;refine AC 27 zH ?_;simp only [za,EK];refine AC 28 zH ?_;refine AC 29 zH ?_;simp only [za,EK];refine AC 30 zH ?_;refine AC 31 zH ?_;simp only [za,EK];refine AC 32 zH ?_;refine AC 33 zH ?_;simp only [za,EK];refine AC 35 zH ?_;refine AC 34 zH ?_;simp only [za,EK];refine AC 36 zH ?_;refine AC 37 zH ?_;simp only [za,EK];refine AC 38 zH ?_;refine ze 39 zH ?_;simp only [za,EK];refine Fs (by kernel_rfl) ?_ _;have HS:=zh (z.out.trans (M.trans zH));clear zH
              go_wp2_with fail
              go_ret;exact ⟨zf o.out.symm,HS.out⟩
             | true=>
              have h7:=zh a7;rw [a7] at Q;have qf2:∀W,zb wk W->W.cell? ⟨bf',offf'+y.toNat,none⟩=some (.bool true):=fun W h=>zb.rule Q W (z.out.trans (M.trans h))
              clear Q a7;rcases Fz k with hkz | hkz
              ·have n8:decide ((0:Int)<(k:Int))=false:=ER (by omega);have j5:decide (0<k)=false:=ER (by omega);have f0:=zh hkz;clear hkz;refine Fd (S:=fun W=>zb wk W) (by kernel_rfl) ((zb.refl wk).drew) fun zH=>?_;refine ze 0 zH ?_;refine ze 1 zH ?_;simp only [za,EK];refine ze 2 zH ?_;refine ze 3 zH ?_;simp only [za,EK];refine ze 4 zH ?_;simp only [za,EK];refine zx 5 fun K E=>?_;go_simp;go_at_call 43;refine (O.out _).mono ?_;rintro e w9 ⟨rfl,L⟩;go_simp;refine zal E (zb.trans zH L) fun zH=>?_;clear E K;try simp only [za,EK]
               refine ze 6 zH ?_;refine ze 7 zH ?_;simp only [za,EK];refine ze 8 zH ?_;refine ze 9 zH ?_;simp only [za,EK];refine ze 10 zH ?_;refine ze 11 zH ?_;simp only [za,EK];refine ze 12 zH ?_;refine ze 13 zH ?_;simp only [za,EK];refine ze 14 zH ?_;refine ze 15 zH ?_;simp only [za,EK];refine ze 16 zH ?_;refine ze 17 zH ?_;simp only [za,EK];refine ze 18 zH ?_;refine ze 19 zH ?_;simp only [za,EK];refine ze 20 zH ?_;refine ze 21 zH ?_;simp only [za,EK];refine ze 22 zH ?_;refine ze 23 zH ?_;simp only [za,EK];refine ze 24 zH ?_;refine ze 25 zH ?_;simp only [za,EK];refine ze 26 zH ?_;refine ze 27 zH ?_;simp only [za,EK];refine AC 28 zH ?_;refine AC 29 zH ?_;simp only [za,EK];refine AC 30 zH ?_;refine AC 31 zH ?_;simp only [za,EK];refine AC 32 zH ?_;refine AC 33 zH ?_;simp only [za,EK];refine AC 35 zH ?_;refine AC 34 zH ?_;simp only [za,EK];refine AC 36 zH ?_;refine AC 37 zH ?_;simp only [za,EK];refine ze 38 zH ?_;refine ze 39 zH ?_;simp only [za,EK];refine Fs (by kernel_rfl) ?_ _;have b0:=zh (hJ.out.1.more zH);obtain ⟨s9,b9,Z⟩:=b0.out.set;have f3:=zh Z;have f2:Hid (BE m t p (pre++p.take k) k=true):=by show _=_;unfold BE;rw [a0.out,EQ hy0,EQ i8.out,ER h9.out,h7.out,EQ f0.out];rfl
               clear zH Z
               go_wp2_with (at_mapUpdate;refine CS rfl _ _ _ _ rfl Tryz.underlying79 gs s9 y rfl rfl rfl b9 ?_)
               intro wa c6 b4;have f5:=zh (b0.out.add f3.out c6 b4);clear c6 b4 b9
               go_wp2_with fail
               go_roundg (p.length - (k+1))
               case measure=>omega
               case rel=>exact ⟨k+1,by go_num,D,rfl,by rw [EU D,<-List.append_assoc,<-HY.out];exact f5.out,fun k' n7=>by
                rcases Fk k' k with h1 | h1
                ·exact hJ.out.2 k' h1
                ·obtain rfl:k'=k:=by omega
                 exact f2.out⟩
              ·have n8:decide ((0:Int)<(k:Int))=true:=EQ (by omega);have j5:decide (0<k)=true:=EQ hkz;have d7:k - 1<p.length:=by omega
               obtain ⟨j,hj⟩:=zak (k - 1);have n6:j<k:=by omega
               rw [<-hj] at d7;obtain ⟨bq',offq',e,-,f8⟩:=zy c9.out (k:=j) d7 d7;injection e with e;injection e with e1 e2;subst e1 e2;have d9:p.getD j 0=p[j]:=zgd d7
               have d8:=hJ.out.2 j n6;obtain ⟨prev,b8⟩:=zak (p[j]);rw [<-b8] at f8 d9;unfold BE at d8;rw [d9] at d8;simp only [EZ,EX] at d8;obtain ⟨l1,l2,-⟩:=d8;have i3:Hid (p.getD (k - 1) 0=prev):=by show _=_;rw [<-hj,d9]
               have qv:∀W,zb wk W->W.cell? ⟨bq,offq+j,none⟩=some (.int .i64 prev):=fun W h=>zb.rule f8 W (z.out.trans (M.trans h))
               have s1:IntKind.i64.wrap ((k:Int) - 1)=(j:Int):=by rw [Fi];omega
               have r9:(0:Int)<=(j:Int):=by omega
               have s0:(j:Int)<(p.length:Int):=by omega
               have i0:Hid (∀W,zb wk W->Calls Tryz.prog 44 #[.agg #[.int .i64 m.w,.int .i64 m.h,.int .i64 m.l,.slice (some ⟨bf,offf,none⟩) m.free.length cf,vup,.slice (some ⟨bt,offt,none⟩) m.tasks.length ct],.int .i64 prev] W fun e w'=>∃v',e=.returned v'/\Below W.heap.size W w'/\w'.ownsRow W.heap.size 3 1 v' (zm m prev).length ((zm m prev).map (Value.int .i64))):=fun W hW=>DC m prev W (f1.out.below (z.out.trans (M.trans hW))) HG.out.dim l1 l2
               have f0:Hid (k≠0):=by show _≠_;omega
               clear f8 b8 d9 l1 l2 hkz hj;by_cases a6:y∈zm m prev
               ·have e8:=zh (EQ a6);have l7:=zh a6;clear a6;refine Fd (S:=fun W=>zb wk W) (by kernel_rfl) ((zb.refl wk).drew) fun zH=>?_;refine ze 0 zH ?_;refine ze 1 zH ?_;simp only [za,EK];refine ze 2 zH ?_;refine ze 3 zH ?_;simp only [za,EK];refine ze 4 zH ?_;simp only [za,EK];refine zx 5 fun K E=>?_;go_simp;go_at_call 43;refine (O.out _).mono ?_;rintro e w9 ⟨rfl,L⟩;go_simp;refine zal E (zb.trans zH L) fun zH=>?_;clear E K;try simp only [za,EK]
                refine ze 6 zH ?_;refine ze 7 zH ?_;simp only [za,EK];refine ze 8 zH ?_;refine ze 9 zH ?_;simp only [za,EK];refine ze 10 zH ?_;refine ze 11 zH ?_;simp only [za,EK];refine ze 12 zH ?_;refine ze 13 zH ?_;simp only [za,EK];refine ze 14 zH ?_;refine ze 15 zH ?_;simp only [za,EK];refine ze 16 zH ?_;refine ze 17 zH ?_;simp only [za,EK];refine ze 18 zH ?_;refine ze 19 zH ?_;simp only [za,EK];refine ze 20 zH ?_;refine ze 21 zH ?_;simp only [za,EK];refine ze 22 zH ?_;refine ze 23 zH ?_;simp only [za,EK];refine ze 24 zH ?_;refine ze 25 zH ?_;simp only [za,EK];refine ze 26 zH ?_;refine ze 27 zH ?_;simp only [za,EK];refine ze 28 zH ?_;refine ze 29 zH ?_;simp only [za,EK];refine ze 30 zH ?_;refine ze 31 zH ?_;simp only [za,EK];refine ze 32 zH ?_;refine ze 33 zH ?_;simp only [za,EK];refine ze 35 zH ?_;simp only [za,EK];refine zx 34 fun K E=>?_;go_simp;go_at_call 44;refine (i0.out _ zH).mono ?_;rintro e w10 ⟨v10,rfl,b1,b6⟩;go_simp;refine zal E (zb.trans zH b1) fun zH=>?_;clear E K;try simp only [za,EK]
                refine zx 36 fun K E=>?_;go_simp;go_at_call 42;refine (zE y _ (zV.of_own b6) (by have:=Ba m prev;omega)).mono ?_;rintro e w11 ⟨he,rfl⟩;rw [e8.out] at he;subst he;go_simp;refine zal E (zH) fun zH=>?_;clear E K;try simp only [za,EK]
                refine ze 37 zH ?_;refine ze 38 zH ?_;simp only [za,EK];refine ze 39 zH ?_;simp only [za,EK];refine Fs (by kernel_rfl) ?_ _;have b0:=zh (hJ.out.1.more zH);obtain ⟨s9,b9,Z⟩:=b0.out.set;have f3:=zh Z;have f2:Hid (BE m t p (pre++p.take k) k=true):=by show _=_;unfold BE;rw [a0.out,EQ hy0,EQ i8.out,ER h9.out,h7.out,i3.out,EQ l7.out];simp
                clear zH Z
                go_wp2_with (at_mapUpdate;refine CS rfl _ _ _ _ rfl Tryz.underlying79 gs s9 y rfl rfl rfl b9 ?_)
                intro wa c6 b4;have f5:=zh (b0.out.add f3.out c6 b4);clear c6 b4 b9
                go_wp2_with fail
                go_roundg (p.length - (k+1))
                case measure=>omega
                case rel=>exact ⟨k+1,by go_num,D,rfl,by rw [EU D,<-List.append_assoc,<-HY.out];exact f5.out,fun k' n7=>by
                 rcases Fk k' k with h1 | h1
                 ·exact hJ.out.2 k' h1
                 ·obtain rfl:k'=k:=by omega
                  exact f2.out⟩
               ·have e8:=zh (ER a6);have o:Hid (zJ m ps=false):=I.out (DV D (by unfold BE;rw [a0.out,i3.out,ER f0.out,ER a6];simp));clear a6;refine Fd (S:=fun W=>zb wk W) (by kernel_rfl) ((zb.refl wk).drew) fun zH=>?_;refine ze 0 zH ?_;refine ze 1 zH ?_;simp only [za,EK];refine ze 2 zH ?_;refine ze 3 zH ?_;simp only [za,EK];refine ze 4 zH ?_;simp only [za,EK];refine zx 5 fun K E=>?_;go_simp;go_at_call 43;refine (O.out _).mono ?_;rintro e w9 ⟨rfl,L⟩;go_simp;refine zal E (zb.trans zH L) fun zH=>?_;clear E K;try simp only [za,EK]
                refine ze 6 zH ?_;refine ze 7 zH ?_;simp only [za,EK];refine ze 8 zH ?_;refine ze 9 zH ?_;simp only [za,EK];refine ze 10 zH ?_;refine ze 11 zH ?_;simp only [za,EK];refine ze 12 zH ?_;refine ze 13 zH ?_;simp only [za,EK];refine ze 14 zH ?_;refine ze 15 zH ?_;simp only [za,EK];refine ze 16 zH ?_;refine ze 17 zH ?_;simp only [za,EK];refine ze 18 zH ?_;refine ze 19 zH ?_;simp only [za,EK];refine ze 20 zH ?_;refine ze 21 zH ?_;simp only [za,EK];refine ze 22 zH ?_;refine ze 23 zH ?_;simp only [za,EK];refine ze 24 zH ?_;refine ze 25 zH ?_;simp only [za,EK];refine ze 26 zH ?_;refine ze 27 zH ?_;simp only [za,EK];refine ze 28 zH ?_;refine ze 29 zH ?_;simp only [za,EK];refine ze 30 zH ?_;refine ze 31 zH ?_;simp only [za,EK];refine ze 32 zH ?_;refine ze 33 zH ?_;simp only [za,EK];refine ze 35 zH ?_;simp only [za,EK];refine zx 34 fun K E=>?_;go_simp;go_at_call 44;refine (i0.out _ zH).mono ?_;rintro e w10 ⟨v10,rfl,b1,b6⟩;go_simp;refine zal E (zb.trans zH b1) fun zH=>?_;clear E K;try simp only [za,EK]
                refine zx 36 fun K E=>?_;go_simp;go_at_call 42;refine (zE y _ (zV.of_own b6) (by have:=Ba m prev;omega)).mono ?_;rintro e w11 ⟨he,rfl⟩;rw [e8.out] at he;subst he;go_simp;refine zal E (zH) fun zH=>?_;clear E K;try simp only [za,EK]
                refine ze 37 zH ?_;refine ze 38 zH ?_;simp only [za,EK];refine ze 39 zH ?_;simp only [za,EK];refine Fs (by kernel_rfl) ?_ _;have HS:=zh (z.out.trans (M.trans zH));clear zH
                go_wp2_with fail
                go_ret;exact ⟨zf o.out.symm,HS.out⟩
         ·have n9:k=p.length:=by omega
          subst n9
          have m6:Hid (∀t',t'<t+1->pathB m t' (ps.getD t' []) (ps.take t').flatten=true):=fun t' s8=>by
           rcases Fk t' t with h1 | h1
           ·exact HI.out.2 t' h1
           ·obtain rfl:t'=t:=by omega
            rw [i2.out];have h2:=m7.out hJ.out.2;have h3:=d5.out;exact i1.out ▸ h2
          have l6:Hid (RtI w2 wk gs (ps.take (t+1)).flatten):=by
           show RtI _ _ _ _;rw [d5.out];have:=hJ.out.1
           rwa [EY] at this
          go_wp2_with fail
          go_roundg (ps.length - (t+1))
          case measure=>omega
          case rel=>exact ⟨t+1,by go_num,a1,rfl,l6.out,m6.out⟩
    ·have o6:t=ps.length:=by omega
     subst o6;have o:Hid (zJ m ps=true):=l8.out e5.out hI.out.2
     go_wp2_with fail
     go_ret;exact ⟨zf o.out.symm,z.out.trans M⟩
end
section
open Go.RowKit
def DJ (m:MZ) (t:Nat) (fixed:List (List Int)):Int->Bool:=fun n=>zl m t n && !decide (n∈fixed.flatten)
def farP (m:MZ) (t:Nat) (fixed:List (List Int)):List (Int×Int):=bfs m (DJ m t fixed) (m.n.toNat+1) 0 (zw (DJ m t fixed) 0 (m.tasks.getD t ([],[])).2 [])
def CV (m:MZ) (F:List (Int×Int)) (fm:List Int):Option (List Int):=(BN F fm none).map fun b=>CH m F ((F.lookup b).getD 0).toNat b
def AM (m:MZ) (t:Int):Bool:=decide (AY m=0) && (decide (0<=t) && decide (t<m.tasks.length))
def Br (m:MZ) (t:Int) (fixed:List (List Int)):Option (List Int):=if AM m t=true then CV m (farP m t.toNat fixed) (m.tasks.getD t.toNat ([],[])).1 else none
theorem Be {m:MZ} {t:Int}:AM m t=true↔AY m=0/\0<=t/\t<m.tasks.length:=by
 unfold AM;simp
theorem farP_fi {m:MZ} {t:Nat} (g:zI m) (o:t<m.tasks.length):DY m (DJ m t fixed) (m.tasks.getD t ([],[])).2 (farP m t fixed).length (farP m t fixed):=by
 have h0:DY m (DJ m t fixed) (m.tasks.getD t ([],[])).2 0 (zw (DJ m t fixed) 0 (m.tasks.getD t ([],[])).2 []):=DY.start fun x z=>by
  rw [EM,EL o,Ft] at z;exact g.tn _ (EO o) x (.inr z)
 obtain ⟨j,D,e⟩:=bfs_fi g.dim (m.n.toNat+1) 0 _ h0 (Fb _) (by omega);have:j=(farP m t fixed).length:=e;rw [<-this];exact D
structure PathI (m:MZ) (t:Nat) (fixed:List (List Int)) (p:List Int):Prop where
 ne:p≠[]
 hd:p.getD 0 0∈(m.tasks.getD t ([],[])).1
 lt:p.getD (p.length - 1) 0∈(m.tasks.getD t ([],[])).2
 rg:∀x∈p,0<=x/\x<m.n
 fr:∀x∈p,zl m t x=true/\x∉fixed.flatten
 nd:p.Nodup
 ch:∀(i:Nat) x y,p[i]?=some x->p[i+1]?=some y->y∈zm m x
 nc:∀(i j:Nat) x y,i+2<=j->p[i]?=some x->p[j]?=some y->y∉zm m x
theorem descP_ok {m:MZ} {t:Nat} {p:List Int} (g:zI m) (ht:t<m.tasks.length) (h:CV m (farP m t fixed) (m.tasks.getD t ([],[])).1=some p):PathI m t fixed p:=by
 have hF:=farP_fi (fixed:=fixed) g ht;generalize farP m t fixed=F at hF h;unfold CV at h;obtain ⟨b,hb,rfl⟩:=Option.map_eq_some_iff.1 h;obtain ⟨d,h1,h2,-,-⟩:=CW (fun c hc=>by cases hc) hb;rw [h1,Ft];have J:=AE h1;have L:=(hF.rg _ J).2.2;simp only at L;obtain ⟨f,rfl⟩:∃f:Nat,d=(f:Int):=⟨d.toNat,by omega⟩;rw [FF];obtain ⟨a1,a2,a3,a4⟩:=down_spec g.dim hF f b h1;generalize CH m F f b=p at*
 have z:∀x∈p,∃e,(x,e)∈F:=fun x D=>by
  obtain ⟨i,M⟩:=List.getElem?_of_mem D;exact ⟨_,AE (a3 i x M).2⟩
 have U:p≠[]:=fun e=>by rw [e] at a1;simp at a1
 refine ⟨U,?_,?_,fun x D=>?_,fun x D=>?_,?_,a4,fun i j x y O D hy hn=>?_⟩
 ·have e0:p.getD 0 0=b:=by rw [EM,a2,Ft]
  rw [e0];rcases h2 with h2 | h2
  ·cases h2
  ·exact h2
 ·have hl:p.length - 1<p.length:=by omega
  have e0:p.getD (p.length - 1) 0=p[p.length - 1]:=by rw [EM,EL hl,Ft]
  rw [e0];obtain ⟨h3,o⟩:=a3 (p.length - 1) _ (EL hl);have Z:=AE o;rcases hF.bk _ Z with ⟨-,G⟩ | ⟨q,V,-,G⟩
  ·exact G
  ·have:=(hF.rg q V).2.2;simp only at G;omega
 ·obtain ⟨e,he⟩:=z x D;exact (hF.rg _ he).1
 ·obtain ⟨e,he⟩:=z x D;have:=(hF.rg _ he).2.1;unfold DJ at this;simp only [EZ,Bool.not_eq_true',Fl] at this;exact this
 ·rw [List.nodup_iff_pairwise_ne,List.pairwise_iff_getElem];intro i j M hj O e;have h3:=(a3 i _ (EL M));have o:=(a3 j _ (EL hj));rw [e,o.2] at h3;have:=h3.2;injection this with this;omega
 ·obtain ⟨h3,o⟩:=a3 i x D;obtain ⟨Z,G⟩:=a3 j y hy;have h7:=AE o;have h8:=AE G;have b4:=(hF.rg _ h8);have E:=(hF.rg _ h7);have h9:=nextL_symm g.dim E.1.1 E.1.2 hn;obtain ⟨k,Q⟩:=List.getElem?_of_mem h8
  have T:k<F.length:=by
   rcases Fk k F.length with h | h
   ·exact h
   ·rw [Fg h] at Q;cases Q
  obtain ⟨q,V,e,I⟩:=hF.cl k T _ Q x h9 E.2.1;obtain ⟨q1,q2⟩:=q;simp only at e I;subst e;rw [Db hF.nd V] at o;injection o with o;omega
theorem pathP_ok {m:MZ} {t:Int} {p:List Int} (h:Br m t fixed=some p):AY m=0/\(0<=t/\t<m.tasks.length)/\PathI m t.toNat fixed p:=by
 unfold Br at h
 split at h
 ·rename_i o
  obtain ⟨h1,h2,h3⟩:=Be.1 o;exact ⟨h1,⟨h2,h3⟩,descP_ok (zI.of h1) (by omega) h⟩
 ·cases h
theorem PathI.pathB {m:MZ} {t:Nat} {fixed:List (List Int)} {p pre:List Int} (h:PathI m t fixed p) (hp:∀x∈p,x∉pre):pathB m t p pre=true:=by
 refine pathB_ok h.ne h.hd h.lt fun k o=>?_
 have z:p.getD k 0=p[k]:=by rw [EM,EL o,Ft]
 have hm:=EO o;have E:=h.rg _ hm;unfold BE;rw [z,EQ E.1,EQ E.2,(h.fr _ hm).1]
 have h1:p[k]∉pre++p.take k:=fun hc=>by
  rcases FE.1 hc with hc | hc
  ·exact hp _ hm hc
  ·obtain ⟨i,G,e⟩:=Fu hc;rw [List.getElem_take] at e;have D:i<k:=by rw [FH] at G;omega
   exact List.pairwise_iff_getElem.1 (List.nodup_iff_pairwise_ne.1 h.nd) i k (by omega) o D e
 rw [ER h1];rcases Fz k with rfl | h0
 ·rfl
 ·have h2:p.getD (k - 1) 0=p[k - 1]:=by rw [EM,EL (by omega),Ft]
  have h3:=h.ch (k - 1) _ _ (EL (by omega)) (by rw [show k - 1+1=k by omega];exact EL o);rw [h2,EQ h3];simp
end
end Go.Proofs.YthbjngbhbbkkgaaGreat
