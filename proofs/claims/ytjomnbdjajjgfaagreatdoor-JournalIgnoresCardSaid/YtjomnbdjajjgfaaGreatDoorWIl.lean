import Derived.Test.YtjomnbdjajjgfaaGreatDoorWIk
set_option linter.unusedVariables false
set_option linter.unusedSimpArgs false
set_option maxRecDepth 100000
set_option maxHeartbeats 16000000
namespace Go.Proofs.YtjomnbdjajjgfaaGreatDoor
variable {ch:List Int} {m:MZ} {ok okc:Nat->Prop} {v vc:Value}
section
open Go.RowKit
attribute [local go_sem ↓] Go.wp_at_zero Go.wp_at_succ
def SpI (m:MZ) (ch:List Int) (w1 wr:World) (v:Value) (k:Nat):Prop:=∃qs p,Aj m (ch.take k)=qs++[p]/\SpV w1 wr v qs p
theorem cmp_take (h:zK m ch) {k:Nat} (d:k<ch.length):zV m (ch.take k)=false:=Cl (h.at d)
theorem Dy (w:World) (hm:zY w ok v m) (g:AG m) (hl:Lens m) (b5:zk w okc vc ch) (hc:zK m ch):
  Calls Tryz.prog 177 #[v,vc] w fun e w'=>∃v',e=.returned v'/\za w w'/\Aa w' (fun b=>w.heap.size<=b) v' (Aj m ch):=by
 have f1:=hc.len300 g;obtain ⟨vfr,vup,vts,rfl,_,_,e0⟩:=hm;have e3:=zh e0;obtain ⟨vst,⟨At,ct,rfl,g0,_⟩,_⟩:=e0;have f3:=zh b5;have c8:=b5;obtain ⟨A,c,rfl,f9,hr⟩:=b5;have HR:=zh hr;have HC:=zh hc;have HL:=zh hl;have g8:=g.tk;clear hr c8 hc g hl
 go_enter Tryz.func177,Tryz.ntmps177
 go_wp2_with fail
 generalize b1:w.alloc (.cells #[.int .i64 m.w,.int .i64 m.h,.int .i64 m.l,vfr,vup,.slice At m.tasks.length ct] 32)=w1;have a3:za w w1:=by rw [<-b1];exact (za.refl w).alloc _
 have d4:zl w1 w.heap.size 32 #[.int .i64 m.w,.int .i64 m.h,.int .i64 m.l,vfr,vup,.slice At m.tasks.length ct]:=by rw [<-b1];exact EL _ _
 have d7:w1.heap.size=w.heap.size+1:=by rw [<-b1];simp
 clear b1;have r5:∀W,za w1 W->W.cell? ⟨w.heap.size,5,none⟩=some (.slice At m.tasks.length ct):=za.rule (d4.cell (k:=5) rfl);clear d4;have hI0:Hid (SpI m ch w1 (w1.alloc (.cells #[.slice none 0 0] 23)) (.slice (some ⟨w1.heap.size,0,none⟩) 1 1) 0):=⟨[],[],by rw [List.take_zero,splitL_nil];rfl,_,_,_,SpA.init (za.refl w1)⟩;generalize e9:w1.alloc (.cells #[.slice none 0 0] 23)=w2 at hI0⊢;clear e9;rw [d7] at hI0;clear d7
 go_wp2_with fail
 go_loopw [5,6] (fun v i wr=>∃k:Nat,k<=ch.length/\i=.int .i64 k/\Hid (SpI m ch w1 wr v k)) (fun _ i _=>ch.length - (intOf i).toNat)
 case atStart=>exact ⟨0,Em _,rfl,hI0⟩
 clear hI0
 case round=>
  obtain ⟨k,hk,rfl,hI⟩:=hrel;obtain ⟨wk,rfl⟩:∃wk:World,wk=wr:=⟨_,rfl⟩;obtain ⟨qs,p,d6,u,vs,S,a8⟩:=hI.out;clear hI;obtain ⟨gv,cv,rfl,g3,g1,e7⟩:=a8.form;have hx:za w1 wk:=a8.ext;have b2:=zh a8;have a4:=zh d6;clear a8 d6;by_cases J:k<ch.length
  ·obtain ⟨b,off,rfl,_,V⟩:=AH HR.out J J;have a9:=cmp_take HC.out J
   have g4:p.length<=300:=by
    have h4:=a4.out;rw [CD a9] at h4;have h5:=(HC.out.take k).psOk.fl;have h6:=flat_le (ps:=zW m (ch.take k)) (p:=p) (by rw [h4];simp);rw [h5,EQ] at h6;omega
   have b0:qs.length<m.tasks.length:=by
    obtain ⟨qs',p',h1,h2,h3⟩:=ps_form (HC.out.take k) a9;have h4:=a4.out;rw [h3] at h4;have:=congrArg List.length h4;simp at this;omega
   have G:Hid (Aj m (ch.take k++[ch[k]])=qs++[p++[ch[k]]]++(if ch[k]∈(m.tasks.getD qs.length ([],[])).2 then [[]] else [])):=split_step _ (by rw [<-CD a9];exact a4.out) b0;rw [<-Ef J] at G;obtain ⟨x,e1⟩:=Fd (ch[k]);rw [<-e1] at V G;clear e1 a9;obtain ⟨bt,offt,sn,u1,u2,rfl,_,e5,e6,c7,e8,b8⟩:=Ce e3.out b0;have d5:=(HL.out.tl _ (DZ b0)).2;have d8:(m.tasks.getD qs.length ([],[])).2=(m.tasks[qs.length]).2:=by simp [b0]
   rw [d8] at G;obtain ⟨tg,d9⟩:=Fd ((m.tasks[qs.length]).2);rw [<-d9] at b8 d5 G;clear d8 d9 e8 e5 e6;have c0:=zh b8;clear b8;have rt:∀W,za w1 W->W.cell? ⟨bt,offt+qs.length*3+2,none⟩=some u2:=fun W hW=>za.rule c7 W (a3.trans hW)
   have rc:=za.rule e7;have rx:∀W,za w1 W->W.cell? ⟨b,off+k,none⟩=some (.int .i64 x):=fun W hW=>za.rule V W (a3.trans hW)
   clear c7 V;have g5:decide ((m.tasks.length:Int)<=(qs.length:Int))=false:=Ec (by omega);have g7:(qs.length:Int)<(qs.length:Int)+1:=by omega
   have g6:decide (m.tasks.length<=qs.length)=false:=Ec (by omega)
   go_wp2_with fail
   refine Eo (S:=(fun W=>za w1 W)) AI (hx.drew) fun zH=>?_;have a7:za wk wk.drew:=(za.refl wk).drew;generalize wk.drew=wd at a7 zH⊢;refine z6 0 zH ?_;refine z6 1 zH ?_;simp only [zd,DV];refine z6 2 zH ?_;refine z6 3 zH ?_;simp only [zd,DV];refine z6 4 zH ?_;refine z6 6 zH ?_;simp only [zd,DV];refine z6 7 zH ?_;refine z6 8 zH ?_;simp only [zd,DV];refine z6 9 zH ?_;simp only [zd,DV];refine rdA [5,10] ?_;refine Ez rfl (fun K o=>?_) ?_
   ·have hx:=a7;go_simp;clear hx;refine Fe o (zH) fun zH=>?_;clear o K;try simp only [zd,DV]
    refine AB 10 fun K o=>?_;go_simp;refine Fe o (zH.alloc _) fun zH=>?_;clear o K;try simp only [zd,DV]
    refine AB 11 fun K o=>?_;have B:=zh (b2.out.more (a7.alloc (.cells #[.int .i64 x] 3)));refine AM (ok:=fun _=>True) (by rfl) _ _ _ (by rfl) S p [x] u _ (by rfl) (by rfl) B.out.cur (ints_one (zA wd _ _ rfl)) B.out.hi (by simp;omega) ?_;intro u' w9 a1 a0 a6;obtain ⟨b4,b7,a2⟩:=B.out.slot a0;have E:=zh (B.out.push a1 a0);obtain ⟨A9,n9,c9,rfl⟩:=Dw a1;clear a1 a0 a6;refine Fe o (a2) fun zH=>?_;clear o K;try simp only [zd,DV]
    refine AB 12 fun K o=>?_;go_simp;refine Fe o (a2) fun zH=>?_;clear o K;try simp only [zd,DV]
    refine AB 13 fun K o=>?_;go_simp;refine Fe o (E.out.ext) fun zH=>?_;clear o K;try simp only [zd,DV]
    refine EC (by kernel_rfl) ?_ _
    go_wp2_with fail
    have a5:Hid (za w1 (w9.setCell ⟨gv,qs.length,none⟩ (.slice A9 n9 c9))):=E.out.ext;generalize w9.setCell ⟨gv,qs.length,none⟩ (.slice A9 n9 c9)=wt at E a5 zH⊢;clear b4 b7 a2 B;have d:za w1 wt:=a5.out;go_quiet ((go_at_call 73;refine (AK x _ (c0.out.below (a3.trans (d.drewN _))) (by omega)).mono ?_;rintro e w9 ⟨b6,rfl⟩;exact ⟨b6,⟨_,rfl⟩⟩))
    generalize hW:wt.drewN nq=wu;have b3:za wt wu:=by rw [<-hW];exact (za.refl wt).drewN _
    clear hW;have D:=zh (E.out.more b3);by_cases d:x∈tg
    ·rw [Eb d];have Q:Hid (Aj m (ch.take (k+1))=qs++[p++[x]]++[[]]):=by have:=G.out;rw [if_pos d] at this;exact this
     clear d
     go_wp2_with (at_builtin;refine AY (ok:=fun _=>True) rfl _ _ _ rfl w1.heap.size (vs++[.slice A9 n9 c9]) [.slice none 0 0] _ _ rfl rfl ?h1 ?h2 ?h3 ?d1 ?d2 ?_)
     case h1=>exact World.ownsRow.alloc D.out.own _
     case h2=>exact (row_one (zA _ _ _ rfl))
     case h3=>(simp [Value.oneCell'])
     case d1=>(have:=D.out.ext.size;simp;omega)
     case d2=>(have:=D.out.vl;simp;omega)
     intro v' w10 M I U;have O:Hid (SpI m ch w1 w10 v' (k+1)):=⟨qs++[p++[x]],[],Q.out,_,_,_,SpA.next (D.out.more ((za.refl wu).alloc _)) (by simpa using M) I⟩;clear M I U;go_wp2;go_roundw
     case rel=>exact ⟨k+1,J,by go_num,O⟩
     case measure=>simp [intOf];omega
    ·rw [Ec d];have Q:Hid (Aj m (ch.take (k+1))=qs++[p++[x]]):=by have:=G.out;rw [if_neg d,List.append_nil] at this;exact this
     clear d;have O:Hid (SpI m ch w1 wu (.slice (some ⟨gv,0,none⟩) (qs.length+1) cv) (k+1)):=⟨qs,p++[x],Q.out,_,_,_,D.out⟩;go_wp2;go_roundw
     case rel=>exact ⟨k+1,J,by go_num,O⟩
     case measure=>simp [intOf];omega
   refine Ez rfl (fun K o=>?_) .nil;go_simp;refine Fe o (zH.alloc _) fun zH=>?_;clear o K;try simp only [zd,DV]
   refine AB 5 fun K o=>?_;have hx:=(a7.alloc (.cells #[.int .i64 x] 3));go_simp;clear hx;refine Fe o (zH) fun zH=>?_;clear o K;try simp only [zd,DV]
   refine AB 11 fun K o=>?_;have B:=zh (b2.out.more (a7.alloc (.cells #[.int .i64 x] 3)));refine AM (ok:=fun _=>True) (by rfl) _ _ _ (by rfl) S p [x] u _ (by rfl) (by rfl) B.out.cur (ints_one (zA wd _ _ rfl)) B.out.hi (by simp;omega) ?_;intro u' w9 a1 a0 a6;obtain ⟨b4,b7,a2⟩:=B.out.slot a0;have E:=zh (B.out.push a1 a0);obtain ⟨A9,n9,c9,rfl⟩:=Dw a1;clear a1 a0 a6;refine Fe o (a2) fun zH=>?_;clear o K;try simp only [zd,DV]
   refine AB 12 fun K o=>?_;go_simp;refine Fe o (a2) fun zH=>?_;clear o K;try simp only [zd,DV]
   refine AB 13 fun K o=>?_;go_simp;refine Fe o (E.out.ext) fun zH=>?_;clear o K;try simp only [zd,DV]
   refine EC (by kernel_rfl) ?_ _
   go_wp2_with fail
   have a5:Hid (za w1 (w9.setCell ⟨gv,qs.length,none⟩ (.slice A9 n9 c9))):=E.out.ext;generalize w9.setCell ⟨gv,qs.length,none⟩ (.slice A9 n9 c9)=wt at E a5 zH⊢;clear b4 b7 a2 B;have d:za w1 wt:=a5.out;go_quiet ((go_at_call 73;refine (AK x _ (c0.out.below (a3.trans (d.drewN _))) (by omega)).mono ?_;rintro e w9 ⟨b6,rfl⟩;exact ⟨b6,⟨_,rfl⟩⟩))
   generalize hW:wt.drewN nq=wu;have b3:za wt wu:=by rw [<-hW];exact (za.refl wt).drewN _
   clear hW;have D:=zh (E.out.more b3);by_cases d:x∈tg
   ·rw [Eb d];have Q:Hid (Aj m (ch.take (k+1))=qs++[p++[x]]++[[]]):=by have:=G.out;rw [if_pos d] at this;exact this
    clear d
    go_wp2_with (at_builtin;refine AY (ok:=fun _=>True) rfl _ _ _ rfl w1.heap.size (vs++[.slice A9 n9 c9]) [.slice none 0 0] _ _ rfl rfl ?h1 ?h2 ?h3 ?d1 ?d2 ?_)
    case h1=>exact World.ownsRow.alloc D.out.own _
    case h2=>exact (row_one (zA _ _ _ rfl))
    case h3=>(simp [Value.oneCell'])
    case d1=>(have:=D.out.ext.size;simp;omega)
    case d2=>(have:=D.out.vl;simp;omega)
    intro v' w10 M I U;have O:Hid (SpI m ch w1 w10 v' (k+1)):=⟨qs++[p++[x]],[],Q.out,_,_,_,SpA.next (D.out.more ((za.refl wu).alloc _)) (by simpa using M) I⟩;clear M I U;go_wp2;go_roundw
    case rel=>exact ⟨k+1,J,by go_num,O⟩
    case measure=>simp [intOf];omega
   ·rw [Ec d];have Q:Hid (Aj m (ch.take (k+1))=qs++[p++[x]]):=by have:=G.out;rw [if_neg d,List.append_nil] at this;exact this
    clear d;have O:Hid (SpI m ch w1 wu (.slice (some ⟨gv,0,none⟩) (qs.length+1) cv) (k+1)):=⟨qs,p++[x],Q.out,_,_,_,D.out⟩;go_wp2;go_roundw
    case rel=>exact ⟨k+1,J,by go_num,O⟩
    case measure=>simp [intOf];omega
  ·obtain rfl:k=ch.length:=by omega
   rw [Ej] at a4;go_wp2;go_ret;refine ⟨_,rfl,a3.trans hx,?_⟩;rw [a4.out];exact b2.out.intss.weaken fun b hb=>Ea a3.size hb
theorem qbehind_calls (w:World) (hm:zY w ok v m) (g:AG m) (hl:Lens m) (k9:zk w okc vc ch) (hc:zK m ch):
  Calls Tryz.prog 180 #[v,vc] w fun e w'=>∃v',e=.returned v'/\Mk w w' v' (Ba m ch):=by
 have q7:=hc.len300 g;have g6:=zh hm;obtain ⟨vfr,vup,vts,rfl,o8,_,m1⟩:=hm;obtain ⟨vsf,⟨Af,cf,rfl,s6,l9⟩,l1⟩:=o8;have k6:=zh m1;obtain ⟨vst,⟨At,ct,rfl,s7,-⟩,-⟩:=m1;have g3:=zh k9;obtain ⟨A,c,rfl,s5,hr⟩:=k9;have k5:=zh l9;have j5:=zh l1;have HC:=zh hc;have HL:=zh hl;have HG:=zh g;have x0:=g.tk;have j6:=zh g.fl;have s8:m.free.length<=6:=by rw [g.fl];exact g.tk
 have p6:=g.dim.layer;have t5:=g.dim.n1;obtain ⟨t3,t4⟩:=p6;clear hr hc g hl l9 l1
 go_enter Tryz.func180,Tryz.ntmps180
 go_wp2_with fail
 generalize j1:w.alloc (.cells #[.int .i64 m.w,.int .i64 m.h,.int .i64 m.l,.slice Af m.free.length cf,vup,.slice At m.tasks.length ct] 32)=w1;have o:za w w1:=by rw [<-j1];exact (za.refl w).alloc _
 have b0:zl w1 w.heap.size 32 #[.int .i64 m.w,.int .i64 m.h,.int .i64 m.l,.slice Af m.free.length cf,vup,.slice At m.tasks.length ct]:=by rw [<-j1];exact EL _ _
 clear j1;have r0:∀W,za w1 W->W.cell? ⟨w.heap.size,0,none⟩=some (.int .i64 m.w):=za.rule (b0.cell (k:=0) rfl);have r1:∀W,za w1 W->W.cell? ⟨w.heap.size,1,none⟩=some (.int .i64 m.h):=za.rule (b0.cell (k:=1) rfl);have r2:∀W,za w1 W->W.cell? ⟨w.heap.size,2,none⟩=some (.int .i64 m.l):=za.rule (b0.cell (k:=2) rfl);have r3:∀W,za w1 W->W.cell? ⟨w.heap.size,3,none⟩=some (.slice Af m.free.length cf):=za.rule (b0.cell (k:=3) rfl);have r4:∀W,za w1 W->W.cell? ⟨w.heap.size,4,none⟩=some vup:=za.rule (b0.cell (k:=4) rfl);have r5:∀W,za w1 W->W.cell? ⟨w.heap.size,5,none⟩=some (.slice At m.tasks.length ct):=za.rule (b0.cell (k:=5) rfl);clear b0;have x1:za w1 w1:=za.refl w1;refine (Dy w1 (g6.out.below o) HG.out HL.out (g3.out.below o) HC.out).mono ?_;rintro e w2 ⟨v2,rfl,p7,i7⟩;have hx:za w1 w2:=p7
 cases b6:zV m ch
 ·obtain ⟨qs,p,f8,a5,m0⟩:=ps_form HC.out b6;have c6:=zh f8;have j4:=zh b6;rw [m0] at i7;obtain ⟨vs,⟨Ap,cp,rfl,h9,e0⟩,f3⟩:=i7;have l8:(qs++[p]).length=qs.length+1:=by simp
  rw [l8] at h9 e0⊢;obtain ⟨bp,ofp,up,rfl,_,i1,i9⟩:=AX e0 f3 (k:=qs.length) (by omega) (by simp);have l4:(qs++[p])[qs.length]=p:=by simp
  rw [l4] at i9;clear e0 f3 m0 f8 b6 l4 l8;have ru:=za.rule i1;have r7:za w2 w2:=za.refl w2;have t6:decide ((m.tasks.length:Int)<=(qs.length:Int))=false:=Ec (by omega);have t7:decide (m.tasks.length<=qs.length)=false:=Ec (by omega);have t8:(qs.length:Int)<(qs.length:Int)+1:=by omega
  have k4:=zh i9;obtain ⟨Aq,cq,rfl,l0,i8⟩:=i9;rcases List.eq_nil_or_concat p with rfl | ⟨q,y,rfl⟩
  ·have hz:([]:List Int).length=0:=rfl;rw [hz] at i1 ru l0 k4;obtain ⟨bt,offt,sn,u1,u2,rfl,_,h4,c9,h7,a3,f4⟩:=Ce k6.out a5;have d7:=(HL.out.tl _ (DZ a5)).1;have e3:(m.tasks.getD qs.length ([],[])).1=(m.tasks[qs.length]).1:=by simp [a5]
   have M:Hid (Ba m ch=begL m qs.length ch):=cand_beg HG.out c6.out j4.out a5;unfold begL at M;rw [e3] at M;obtain ⟨fm,d4⟩:=Fd ((m.tasks[qs.length]).1);rw [<-d4] at a3 d7 M;clear e3 d4 h4 h7 f4;have g5:=zh a3;clear a3;have rt:∀W,za w1 W->W.cell? ⟨bt,offt+qs.length*3+1,none⟩=some u1:=fun W hW=>za.rule c9 W (o.trans hW)
   have a4:qs.length<m.free.length:=by rw [j6.out];exact a5
   obtain ⟨bf,off3,uf,rfl,_,Q,g8⟩:=AX k5.out j5.out a4 a4;have I:=HG.out.fn _ (DZ a4);obtain ⟨A4,c4,rfl,h8,d9⟩:=g8;have c7:=zh d9;clear d9;have b8:Hid (∀x:Nat,(hx:x<(m.free[qs.length]).length)->(m.free[qs.length])[x]=zi m qs.length (x:Int)):=fun x hx=>by simp [zi,a4,hx]
   obtain ⟨fl,V⟩:=Fd (m.free[qs.length]);rw [<-V] at Q I h8 c7;have c0:Hid (∀x:Nat,(hx:x<fl.length)->fl[x]=zi m qs.length (x:Int)):=by subst V;exact b8
   clear b8 V;have rf:∀W,za w1 W->W.cell? ⟨bf,off3+qs.length,none⟩=some (.slice A4 fl.length c4):=fun W hW=>za.rule Q W (o.trans hW)
   clear c9 Q;obtain ⟨N,hN⟩:∃N:Nat,m.w*m.h*m.l=(N:Int):=⟨(m.w*m.h*m.l).toNat,by omega⟩;have l2:fl.length=N:=by have:m.n=m.w*m.h*m.l:=rfl;omega
   have s2:N<=300:=by omega
   have n8:Hid (m.n.toNat=N):=by have:m.n=m.w*m.h*m.l:=rfl;show _=_;omega
   have HN:=zh hN;have g4:=zh l2;obtain ⟨PR,g7⟩:∃PR:Int->Bool,PR=fun k=>decide (k∈fm) && zi m qs.length k && !decide (k∈ch):=⟨_,rfl⟩
   rw [n8.out,<-g7] at M;have n9:=zh g7;have c8:Hid (Mk w2 w2 (.slice none 0 0) (((List.range 0).map Int.ofNat).filter PR)):=Mk.nil w2;clear g7 I hN l2
   go_wp2_with fail
   go_loopw [8,9] (fun v i wr=>∃k:Nat,k<=N/\i=.int .i64 k/\Hid (Mk w2 wr v (((List.range k).map Int.ofNat).filter PR))) (fun _ i _=>N - (intOf i).toNat)
   case atStart=>exact ⟨0,Em _,rfl,c8⟩
   clear c8
   case round=>
    obtain ⟨k,hk,rfl,hM⟩:=hrel;obtain ⟨wk,rfl⟩:∃wk:World,wk=wr:=⟨_,rfl⟩;have e6:za w2 wk:=hM.out.ext;have a1:za w1 wk:=hx.trans e6
    go_wp2_with fail
    refine (Ai _ _ _ _ _ _ _ (by omega) (by omega)).mono ?_;rintro e wA ⟨rfl,f1⟩;rw [HN.out];have O:=zh (hM.out.more f1);have a0:za w1 wA:=a1.trans f1;have f9:za w2 wA:=e6.trans f1;clear hM e6 a1 f1;by_cases D:k<N
    ·have J:((List.range (k+1)).map Int.ofNat).filter PR=((List.range k).map Int.ofNat).filter PR++[(k:Int)].filter PR:=by
      rw [List.range_succ,EP,List.filter_append];rfl
     have HS:=zh J;clear J;have i5:(((List.range k).map Int.ofNat).filter PR).length<=k:=Ea (EB _ _) (by simp);obtain ⟨lk,a6⟩:=Fd (((List.range k).map Int.ofNat).filter PR);rw [<-a6] at O i5 HS;clear a6;have b1:k<fl.length:=by rw [g4.out];exact D
     obtain ⟨b4,off4,e4,_,U⟩:=Bu c7.out b1 b1;rw [c0.out k b1] at U;subst e4;have rb:∀W,za w1 W->W.cell? ⟨b4,off4+k,none⟩=some (.bool (zi m qs.length (k:Int))):=fun W hW=>za.rule U W (o.trans hW)
     clear U;have G:Hid (∀W,za w1 W->Calls Tryz.prog 73 #[u1,.int .i64 k] W fun e w'=>e=.returned (.bool (decide ((k:Int)∈fm)))/\W=w'):=fun W hW=>AK _ W (g5.out.below (o.trans hW)) (by omega)
     have a8:Hid (∀W,za w1 W->Calls Tryz.prog 73 #[.slice A ch.length c,.int .i64 k] W fun e w'=>e=.returned (.bool (decide ((k:Int)∈ch)))/\W=w'):=fun W hW=>AK _ W (g3.out.below (o.trans hW)) (by omega)
     have B:Hid (PR k=(decide ((k:Int)∈fm) && zi m qs.length k && !decide ((k:Int)∈ch))):=by rw [n9.out];rfl
     generalize decide ((k:Int)∈fm)=d1 at G B;generalize decide ((k:Int)∈ch)=d2 at a8 B;generalize zi m qs.length (k:Int)=d3 at rb B
     cases d1 <;> cases d2 <;> cases d3
     ·have d:Hid (((List.range (k+1)).map Int.ofNat).filter PR=lk):=by rw [HS.out,EG (by rw [B.out];simp),List.filter_nil,List.append_nil];exact (by rfl:lk=lk)
      go_wp2_with fail
      refine (G.out _ a0).mono ?_;rintro e w8 ⟨rfl,rfl⟩
      go_wp2_with fail
      go_roundw
      case rel=>exact ⟨k+1,D,by go_num,by rw [d.out];exact O⟩
      case measure=>simp [intOf];omega
     ·have d:Hid (((List.range (k+1)).map Int.ofNat).filter PR=lk):=by rw [HS.out,EG (by rw [B.out];simp),List.filter_nil,List.append_nil];exact (by rfl:lk=lk)
      go_wp2_with fail
      refine (G.out _ a0).mono ?_;rintro e w8 ⟨rfl,rfl⟩
      go_wp2_with fail
      go_roundw
      case rel=>exact ⟨k+1,D,by go_num,by rw [d.out];exact O⟩
      case measure=>simp [intOf];omega
     ·have d:Hid (((List.range (k+1)).map Int.ofNat).filter PR=lk):=by rw [HS.out,EG (by rw [B.out];simp),List.filter_nil,List.append_nil];exact (by rfl:lk=lk)
      go_wp2_with fail
      refine (G.out _ a0).mono ?_;rintro e w8 ⟨rfl,rfl⟩
      go_wp2_with fail
      go_roundw
      case rel=>exact ⟨k+1,D,by go_num,by rw [d.out];exact O⟩
      case measure=>simp [intOf];omega
     ·have d:Hid (((List.range (k+1)).map Int.ofNat).filter PR=lk):=by rw [HS.out,EG (by rw [B.out];simp),List.filter_nil,List.append_nil];exact (by rfl:lk=lk)
      go_wp2_with fail
      refine (G.out _ a0).mono ?_;rintro e w8 ⟨rfl,rfl⟩
      go_wp2_with fail
      go_roundw
      case rel=>exact ⟨k+1,D,by go_num,by rw [d.out];exact O⟩
      case measure=>simp [intOf];omega
     ·have d:Hid (((List.range (k+1)).map Int.ofNat).filter PR=lk):=by rw [HS.out,EG (by rw [B.out];simp),List.filter_nil,List.append_nil];exact (by rfl:lk=lk)
      go_wp2_with fail
      refine (G.out _ a0).mono ?_;rintro e w8 ⟨rfl,rfl⟩
      go_wp2_with fail
      go_roundw
      case rel=>exact ⟨k+1,D,by go_num,by rw [d.out];exact O⟩
      case measure=>simp [intOf];omega
     ·have d:Hid (((List.range (k+1)).map Int.ofNat).filter PR=lk++[(k:Int)]):=by rw [HS.out,List.filter_cons_of_pos (by rw [B.out];simp),List.filter_nil];exact rfl
      go_wp2_with fail
      refine (G.out _ a0).mono ?_;rintro e w8 ⟨rfl,rfl⟩
      go_wp2_with fail
      refine (a8.out _ a0).mono ?_;rintro e w8 ⟨rfl,rfl⟩
      go_wp2_with (at_builtin;refine AR rfl _ _ rfl _ lk (k:Int) w2.heap.size wA.heap.size 1 _ rfl rfl (O.out.own.alloc _) ?d1 ?d2 ?d3 ?_)
      (try case d1=>exact zA _ _ _ (by simp))
      case d2=>(first | (simp;done) | (have:=f9.size;simp;omega) | (have:=f9.size;omega))
      case d3=>omega
      intro v' wb d8 d5 g9;have e8:=zh ((O.out.alloc _).app d8 d5);clear d8 d5 g9;go_wp2;go_roundw
      case rel=>exact ⟨k+1,D,by go_num,by rw [d.out];exact e8⟩
      case measure=>simp [intOf];omega
     ·have d:Hid (((List.range (k+1)).map Int.ofNat).filter PR=lk):=by rw [HS.out,EG (by rw [B.out];simp),List.filter_nil,List.append_nil];exact (by rfl:lk=lk)
      go_wp2_with fail
      refine (G.out _ a0).mono ?_;rintro e w8 ⟨rfl,rfl⟩
      go_wp2_with fail
      go_roundw
      case rel=>exact ⟨k+1,D,by go_num,by rw [d.out];exact O⟩
      case measure=>simp [intOf];omega
     ·have d:Hid (((List.range (k+1)).map Int.ofNat).filter PR=lk):=by rw [HS.out,EG (by rw [B.out];simp),List.filter_nil,List.append_nil];exact (by rfl:lk=lk)
      go_wp2_with fail
      refine (G.out _ a0).mono ?_;rintro e w8 ⟨rfl,rfl⟩
      go_wp2_with fail
      refine (a8.out _ a0).mono ?_;rintro e w8 ⟨rfl,rfl⟩
      go_wp2_with fail
      go_roundw
      case rel=>exact ⟨k+1,D,by go_num,by rw [d.out];exact O⟩
      case measure=>simp [intOf];omega
    ·obtain rfl:k=N:=by omega
     go_wp2;go_ret;refine ⟨_,rfl,(o.trans hx).mono_mk ?_⟩;rw [M.out];exact O.out
  ·rw [List.concat_eq_append] at*;obtain ⟨bq,ofq,rfl,_,i2⟩:=AH i8 (k:=q.length) (by simp) (by simp);have l5:(q++[y])[q.length]'(by simp)=y:=by simp
   rw [l5] at i2;have l7:(q++[y]).length=q.length+1:=by simp
   have q8:q.length+1<=300:=by
    have h5:=HC.out.psOk.fl;have h6:=flat_le (ps:=zW m ch) (p:=q++[y]) (by rw [c6.out];simp);rw [h5] at h6;omega
   have p8:0<=y/\y<m.w*m.h*m.l:=(HC.out.range HG.out).1 y (by rw [<-HC.out.psOk.fl,c6.out];simp);rw [l7] at i1 ru l0 k4;have ry:=za.rule i2;have t9:((q.length:Int)+1==0)=false:=by rw [El];omega
   have v4:decide ((q.length:Int)+1=0)=false:=Ec (by omega);have v5:(q.length:Int)<(q.length:Int)+1:=by omega
   have o1:Hid (∀j (hj:j<q.length),w2.cell? ⟨bq,ofq+j,none⟩=some (.int .i64 q[j])):=fun j hj=>by
    obtain ⟨b9,of9,e9,_,o7⟩:=AH i8 (k:=j) (by simp;omega) (by simp;omega);injection e9 with e9;injection e9 with e1 e2;subst e1 e2;rw [o7,List.getElem_append_left hj]
   have o0:Hid (∀j (hj:j<q.length),0<=q[j]/\q[j]<m.w*m.h*m.l):=fun j hj=>(HC.out.range HG.out).1 _ (by rw [<-HC.out.psOk.fl,c6.out];simp)
   clear i2 l5 i8 l7;obtain ⟨bt,offt,sn,u1,u2,rfl,_,h4,c9,h7,a3,f4⟩:=Ce k6.out a5;have d7:=(HL.out.tl _ (DZ a5)).1;have e3:(m.tasks.getD qs.length ([],[])).1=(m.tasks[qs.length]).1:=by simp [a5]
   have M:Hid (Ba m ch=(zm m y).filter (zB m ch qs.length q (m.tasks.getD qs.length ([],[])).1)):=cand_on c6.out j4.out;rw [e3] at M;obtain ⟨fm,d4⟩:=Fd ((m.tasks[qs.length]).1);rw [<-d4] at a3 d7 M;clear e3 d4 h4 h7 f4;have g5:=zh a3;clear a3;have rt:∀W,za w1 W->W.cell? ⟨bt,offt+qs.length*3+1,none⟩=some u1:=fun W hW=>za.rule c9 W (o.trans hW)
   have a4:qs.length<m.free.length:=by rw [j6.out];exact a5
   obtain ⟨bf,off3,uf,rfl,_,Q,g8⟩:=AX k5.out j5.out a4 a4;have I:=HG.out.fn _ (DZ a4);obtain ⟨A4,c4,rfl,h8,d9⟩:=g8;have c7:=zh d9;clear d9;have b8:Hid (∀x:Nat,(hx:x<(m.free[qs.length]).length)->(m.free[qs.length])[x]=zi m qs.length (x:Int)):=fun x hx=>by simp [zi,a4,hx]
   obtain ⟨fl,V⟩:=Fd (m.free[qs.length]);rw [<-V] at Q I h8 c7;have c0:Hid (∀x:Nat,(hx:x<fl.length)->fl[x]=zi m qs.length (x:Int)):=by subst V;exact b8
   clear b8 V;have rf:∀W,za w1 W->W.cell? ⟨bf,off3+qs.length,none⟩=some (.slice A4 fl.length c4):=fun W hW=>za.rule Q W (o.trans hW)
   clear c9 Q;have g4:Hid ((fl.length:Int)=m.n):=I;clear I;have p4:=Cr m y
   go_wp2_with fail
   obtain ⟨m6,m7⟩:=p8;have v8:IntKind.i64.wrap ((q.length:Int)+1 - 1)=(q.length:Int):=by rw [Eu];omega
   have q9:IntKind.i64.wrap (q.length:Int)=(q.length:Int):=by rw [Eu];omega
   have v6:(0:Int)<=(q.length:Int):=by omega
   have hR:=zh (za.refl w2)
   go_region_held3 (fun w'=>za w1 w'/\za w2 w')
    (first | (exact held_drew hx) | (exact held_ext (by assumption) k8))
    ((go_at_call 165;refine (DP m y _ (g6.out.below (o.trans hx.drew)) HG.out.dim m6 m7).mono ?_;rintro e w9 ⟨v9,rfl,k8,i6⟩))
   rename_i hS
   have r9:=zh hS;have j2:za w1 w9:=hS.1;have m2:za w2 w9:=hS.2;have j9:Hid (zL w9 w2.drew.heap.size v9 (zm m y)):=i6;obtain ⟨A3,c3,rfl,o6,p5⟩:=Bv.of_own i6;clear i6 k8 hS p5;obtain ⟨L,hL⟩:=Fd (zm m y);rw [<-hL] at j9 M o6 p4⊢;have n5:=zh hL;obtain ⟨F,hF⟩:=Fd (zB m ch qs.length q fm);rw [<-hF] at M;have n3:=zh hF;have c8:Hid (Mk w9 w9 (.slice none 0 0) ((L.take 0).filter F)):=Mk.nil w9;clear hL hF
   go_wp2_with fail
   go_loopw [8,11] (fun v i wr=>∃k:Nat,k<=L.length/\i=.int .i64 k/\Hid (Mk w9 wr v ((L.take k).filter F))) (fun _ i _=>L.length - (intOf i).toNat)
   case atStart=>exact ⟨0,Em _,rfl,c8⟩
   clear c8
   case round=>
    obtain ⟨k,hk,rfl,hM⟩:=hrel;obtain ⟨wk,rfl⟩:∃wk:World,wk=wr:=⟨_,rfl⟩;have m3:za w9 wk:=hM.out.ext;have a1:za w1 wk:=j2.trans m3;by_cases D:k<L.length
    ·obtain ⟨b3,rfl,f0,a9⟩:=own_at j9.out D
     have J:(L.take (k+1)).filter F=(L.take k).filter F++[L[k]].filter F:=by
      rw [Ef D,List.filter_append]
     have m4:0<=L[k]/\L[k]<m.n:=Bz HG.out.dim m6 (show y<m.n from m7) (by rw [<-n5.out];exact DZ D);obtain ⟨x,m5⟩:=Fd (L[k]);rw [<-m5] at a9 J m4;have HS:=zh J;clear J m5;obtain ⟨X,hX⟩:∃X:Nat,(X:Int)=x:=⟨x.toNat,by omega⟩;have b1:X<fl.length:=by have:=g4.out;omega
     obtain ⟨b4,off4,e4,_,U⟩:=Bu c7.out b1 b1;rw [c0.out X b1] at U;subst e4;subst hX;have rb:∀W,za w1 W->W.cell? ⟨b4,off4+X,none⟩=some (.bool (zi m qs.length (X:Int))):=fun W hW=>za.rule U W (o.trans hW)
     have rx:∀W,za w9 W->W.cell? ⟨b3,k,none⟩=some (.int .i64 (X:Int)):=za.rule a9;have s4:(0:Int)<=(X:Int):=by omega
     have o3:(X:Int)<(fl.length:Int):=by omega
     have i5:((L.take k).filter F).length<=k:=Ea (EB _ _) (by simp;omega);obtain ⟨lk,a6⟩:=Fd ((L.take k).filter F);rw [<-a6] at hM i5 HS;clear a9 U a6 m4;have G:Hid (∀W,za w1 W->Calls Tryz.prog 73 #[u1,.int .i64 X] W fun e w'=>e=.returned (.bool (decide ((X:Int)∈fm)))/\W=w'):=fun W hW=>AK _ W (g5.out.below (o.trans hW)) (by omega)
     have a8:Hid (∀W,za w1 W->Calls Tryz.prog 73 #[.slice A ch.length c,.int .i64 X] W fun e w'=>e=.returned (.bool (decide ((X:Int)∈ch)))/\W=w'):=fun W hW=>AK _ W (g3.out.below (o.trans hW)) (by omega)
     have B:Hid (F X=(zi m qs.length X && !decide ((X:Int)∈ch) && !(q.any fun y=>decide ((X:Int)∈zm m y)) && !decide ((X:Int)∈fm))):=by rw [n3.out];rfl
     generalize decide ((X:Int)∈fm)=d1 at G B;generalize decide ((X:Int)∈ch)=d2 at a8 B;generalize zi m qs.length (X:Int)=d3 at rb B
     go_wp2_with fail
     have v7:(X:Int)<(fl.length:Int):=o3;go_cut [12] (fun s wx=>s=.bool (d3 && !d2 && !d1)/\Hid (za wk wx))
     case first=>
      cases d1 <;> cases d2 <;> cases d3
      all_goals
       go_quiet (first | (go_at_call 73;with_reducible refine (G.out _ (a1.drewN _)).mono ?_;rintro e w8 ⟨i4,rfl⟩;exact ⟨i4,⟨_,rfl⟩⟩) | (go_at_call 73;with_reducible refine (a8.out _ (a1.drewN _)).mono ?_;rintro e w8 ⟨i4,rfl⟩;exact ⟨i4,⟨_,rfl⟩⟩))
       go_wp2_with fail
       go_meet;exact ⟨rfl,(za.refl wk).drewN _⟩
     case rest=>
      obtain ⟨rfl,hE⟩:=hcut;have e8:=zh (hM.out.more hE.out);have r6:za w1 wc:=a1.trans hE.out;clear hM hE rb G a8
      have f7:Hid (F X=((d3 && !d2 && !d1) && !(q.any fun y=>decide ((X:Int)∈zm m y)))):=by
       show _=_;rw [B.out]
       cases d1 <;> cases d2 <;> cases d3 <;> simp
      clear B;obtain ⟨g0,l3⟩:=Fd ((d3 && !d2 && !d1));rw [<-l3] at f7⊢;clear l3
      go_wp2_with fail
      go_loopw [12,13] (fun gv i wr=>∃i0:Nat,i0<=q.length/\i=.int .i64 i0/\gv=.bool (g0 && !((q.take i0).any fun y=>decide ((X:Int)∈zm m y)))/\Hid (Mk w9 wr u8 lk)) (fun _ i _=>q.length - (intOf i).toNat)
      case atStart=>exact ⟨0,Em _,rfl,by simp,e8⟩
      clear e8
      case round=>
       obtain ⟨i0,t0,rfl,rfl,hM⟩:=hrel;obtain ⟨wj,rfl⟩:∃wj:World,wj=wr:=⟨_,rfl⟩;obtain ⟨bb,K⟩:=Fd ((g0 && !((q.take i0).any fun y=>decide ((X:Int)∈zm m y))));rw [<-K];have a2:za w9 wj:=hM.out.ext;have e5:za w1 wj:=j2.trans a2;have g1:za w2 wj:=m2.trans a2;by_cases E:i0<q.length/\bb=true
       ·obtain ⟨E,rfl⟩:=E;have i3:=o1.out i0 E;obtain ⟨m8,f5⟩:=o0.out i0 E
        have j8:Hid ((g0 && !((q.take (i0+1)).any fun y=>decide ((X:Int)∈zm m y)))=!decide ((X:Int)∈zm m q[i0])):=by
         show _=_;have h1:=K.symm;rw [Ek,Bool.not_eq_true'] at h1;rw [Ef E,List.any_append,h1.1,h1.2];simp
        obtain ⟨z,hz⟩:=Fd (q[i0]);rw [<-hz] at i3 j8 m8 f5;have rz:=za.rule i3;have a3:(i0:Int)+1<(q.length:Int)+1:=by omega
        have f4:i0<q.length+1:=by omega
        have t1:(i0:Int)<(q.length:Int)+1:=by omega
        have d6:decide ((i0:Int)+1<(q.length:Int)+1)=true:=Eb a3;clear i3 K hz;have n6:=zh (hM.out.drew)
        go_wp2_with fail
        go_region_held3 (fun w'=>(za w1 w'/\za w2 w'/\za w9 w')/\za wj w')
         (first | (exact ⟨⟨e5.drew,g1.drew,a2.drew⟩,(za.refl _).drew⟩) | (exact ⟨⟨e5.drew.trans b5,g1.drew.trans b5,a2.drew.trans b5⟩,(za.refl _).drew.trans b5⟩))
         (first | (go_at_call 165;refine (DP m z _ (g6.out.below (o.trans e5.drew)) HG.out.dim m8 f5).mono ?_;rintro e wn ⟨v9,rfl,b5,l6⟩) | (go_at_call 73;refine (AK (X:Int) _ (Bv.of_own l6) (by have:=Cr m z;omega)).mono ?_;rintro e w10 ⟨rfl,rfl⟩))
        rename_i hS
        have n7:=zh (n6.out.more b5);clear b5 l6 hS
        go_wp2_with fail
        go_roundw
        case rel=>exact ⟨i0+1,E,by go_num,by rw [j8.out],n7⟩
        case measure=>simp [intOf];omega
       ·have j7:Hid (F X=bb):=by
         show _=_;rw [f7.out,K];by_cases o:i0<q.length
         ·have o4:bb=false:=by
           cases f0:bb
           ·rfl
           ·exact absurd ⟨o,f0⟩ E
          rw [o4] at K;rw [<-K]
          cases hg:g0
          ·rfl
          ·rw [hg,Bool.true_and] at K;have K:=K.symm;rw [Bool.not_eq_false',EZ] at K;obtain ⟨z,f5,p9⟩:=K;rw [Bool.true_and,Bool.not_eq_false',EZ];exact ⟨z,List.mem_of_mem_take f5,p9⟩
         ·rw [List.take_of_length_le (by omega)]
        clear K
        have f2:(decide ((i0:Int)+1<(q.length:Int)+1) && bb)=false:=by
         cases f0:bb
         ·rw [Bool.and_false]
         ·rw [Bool.and_true,Ew];intro h;exact E ⟨by omega,f0⟩
        cases bb
        ·have d:Hid ((L.take (k+1)).filter F=lk):=by rw [HS.out,EG (by rw [j7.out];simp),List.filter_nil,List.append_nil];exact (by rfl:lk=lk)
         clear E f2;by_cases q5:i0<q.length
         ·have d6:decide ((i0:Int)+1<(q.length:Int)+1)=true:=Eb (by omega)
          go_wp2_with fail
          go_roundw
          case rel=>exact ⟨k+1,D,by go_num,by rw [d.out];exact hM⟩
          case measure=>simp [intOf];omega
         ·have d6:decide ((i0:Int)+1<(q.length:Int)+1)=false:=Ec (by omega)
          go_wp2_with fail
          go_roundw
          case rel=>exact ⟨k+1,D,by go_num,by rw [d.out];exact hM⟩
          case measure=>simp [intOf];omega
        ·have d:Hid ((L.take (k+1)).filter F=lk++[(X:Int)]):=by rw [HS.out,List.filter_cons_of_pos (by rw [j7.out]),List.filter_nil];exact rfl
         have d6:decide ((i0:Int)+1<(q.length:Int)+1)=false:=by rw [Bool.and_true] at f2;exact f2
         have o9:i0=q.length:=by rw [Ew] at d6;omega
         subst o9;clear d6;clear E f2
         go_wp2_with (at_builtin;refine AR rfl _ _ rfl _ lk (X:Int) w9.heap.size wj.heap.size 1 _ rfl rfl (hM.out.own.alloc _) ?d1 ?d2 ?d3 ?_)
         (try case d1=>exact zA _ _ _ (by simp))
         case d2=>(first | (simp;done) | (have:=a2.size;simp;omega) | (have:=a2.size;omega))
         case d3=>omega
         intro v' wb d8 d5 g9;have k7:=zh ((hM.out.alloc _).app d8 d5);clear d8 d5 g9;go_wp2;go_roundw
         case rel=>exact ⟨k+1,D,by go_num,by rw [d.out];exact k7⟩
         case measure=>simp [intOf];omega
    ·obtain rfl:k=L.length:=by omega
     go_wp2;go_ret;refine ⟨_,rfl,(o.trans j2).mono_mk ?_⟩;rw [M.out];have:=hM.out
     rwa [Ej] at this
 ·have h1:=(Ct HC.out).1 b6;have n2:=zh (cand_cmp b6);obtain ⟨vs,⟨Ap,cp,rfl,h9,e0⟩,f3⟩:=i7;rw [h1] at h9⊢;clear e0 f3 h1 b6;go_wp2;go_ret;refine ⟨_,rfl,?_⟩;rw [n2.out];exact Mk.nil' (o.trans hx)
theorem qchosen_calls (w:World) (hm:zY w ok v m) (hl:Lens m) (a5:zk w okc vc ch) (d9:ch.length<=20000000000000):
  Calls Tryz.prog 176 #[v,vc] w fun e w'=>e=.returned (.bool (okC m ch))/\za w w':=by
 have a1:=zh hm;obtain ⟨vfr,vup,vts,rfl,-,-,-⟩:=hm;have b2:=zh a5;obtain ⟨A,c,rfl,d4,hr⟩:=a5;have HR:=zh hr;have HL:=zh hl;clear hr hl;obtain ⟨ck,a6⟩:=Fd (BM m);have J:=zh a6;clear a6
 go_enter Tryz.func176,Tryz.ntmps176
 go_wp2_with fail
 generalize U:w.alloc (.cells #[.int .i64 m.w,.int .i64 m.h,.int .i64 m.l,vfr,vup,vts] 32)=w1;have o:za w w1:=by rw [<-U];exact (za.refl w).alloc _
 have a8:zl w1 w.heap.size 32 #[.int .i64 m.w,.int .i64 m.h,.int .i64 m.l,vfr,vup,vts]:=by rw [<-U];exact EL _ _
 clear U;obtain ⟨m0,m1,m2,m3,m4,m5⟩:=zt a8;have c0:=za.rule m0;have c1:=za.rule m1;have c2:=za.rule m2;have c3:=za.rule m3;have c4:=za.rule m4;have c5:=za.rule m5;clear m0 m1 m2 m3 m4 m5 a8;refine (Dx w1 (a1.out.below o) HL.out).mono ?_;rintro e w2 ⟨rfl,V⟩;have V:za w1 w2:=V;have a4:za w w2:=o.trans V;rw [<-J.out];by_cases h0:ck=0
 case neg=>
  have e2:(ck==0)=false:=by rw [El];exact h0
  have e3:(ck != 0)=true:=by rw [bne_iff_ne];exact h0
  have D:Hid (okC m ch=false):=by show _=_;unfold okC;rw [<-J.out,Ec h0];rfl
  clear h0
  go_wp2_with fail
  go_ret;exact ⟨zo D.out.symm,a4⟩
 case pos=>
  subst h0;have HG:=zh (AG.of J.out.symm);have e1:=HG.out.dim.n1;have b9:=HG.out.dim.layer;have Q:Hid (okC m ch=isChB m ch):=by show _=_;unfold okC;rw [<-J.out];rfl
  go_wp2_with fail
  refine (Ai m.w m.h m.l vfr vup vts w2 (by omega) (by omega)).mono ?_;rintro e w3 ⟨rfl,a9⟩;have b4:za w w3:=a4.trans a9;have a3:za w1 w3:=za.trans ‹za w1 w2› a9;by_cases M:m.w*m.h*m.l<(ch.length:Int)
  ·have a7:decide (m.w*m.h*m.l<(ch.length:Int))=true:=Eb M
   have D:Hid (okC m ch=false):=by
    show _=_;rw [Q.out,Bool.eq_false_iff];intro h;have h1:=(Bo.1 h).len HG.out;have h2:m.n=m.w*m.h*m.l:=rfl;omega
   go_wp2_with fail
   go_ret;exact ⟨zo D.out.symm,b4⟩
  ·have a7:decide (m.w*m.h*m.l<(ch.length:Int))=false:=Ec M;have b6:ch.length<=300:=by omega
   go_wp2_with fail
   clear a7;go_loopw [5] (fun i wr=>∃k:Nat,k<=ch.length/\i=.int .i64 k/\Hid (zK m (ch.take k))/\Hid (za w1 wr)) (fun i _=>ch.length - (intOf i).toNat)
   case atStart=>exact ⟨0,Em _,rfl,by rw [List.take_zero];exact zK.nil,a3⟩
   case round=>
    obtain ⟨k,hk,rfl,hI,hX⟩:=hrel;obtain ⟨wk,rfl⟩:∃wk:World,wk=wr:=⟨_,rfl⟩;have d:za w1 wk:=hX.out;by_cases G:k<ch.length
    ·obtain ⟨b,off,rfl,_,B⟩:=AH HR.out G G;have a0:=zh (intsTake b2.out (show k<=ch.length by omega));have I:=zh (Ef G)
     have a2:Hid (ch[k]∉Ba m (ch.take k)->okC m ch=false):=fun hn=>by
      rw [Q.out,Bool.eq_false_iff];intro h;exact hn ((Bo.1 h).at G)
     obtain ⟨x,b0⟩:=Fd (ch[k]);rw [<-b0] at B I a2;clear b0;have rx:∀W,za w1 W->W.cell? ⟨b,off+k,none⟩=some (.int .i64 x):=fun W hW=>za.rule B W (o.trans hW)
     have d8:(k:Int)<=(c:Int):=by omega
     have d7:k<=c:=by omega
     have d5:(0:Int)<=(k:Int):=by omega
     have d6:(k:Int)<(ch.length:Int):=by omega
     clear B;have c6:=cand_len HL.out (ch.take k)
     go_wp2_with fail
     go_region_held3 (fun w'=>za w1 w'/\za wk w')
      (first | (exact ⟨d.drew,(za.refl _).drew⟩) | (exact ⟨d.drew.trans K.ext,(za.refl _).drew.trans K.ext⟩))
      (first | (go_at_call 180;refine (qbehind_calls _ (a1.out.below (o.trans d.drew)) HG.out HL.out (a0.out.below (o.trans d.drew)) hI.out).mono ?_;rintro e wn ⟨v9,rfl,K⟩) | (go_at_call 73;refine (AK x _ K.ints (by omega)).mono ?_;rintro e w10 ⟨rfl,rfl⟩))
     rename_i hS
     have O:za w1 wn:=hS.1;clear K hS;by_cases E:x∈Ba m (ch.take k)
     ·rw [Eb E];have b5:Hid (zK m (ch.take (k+1))):=by show zK _ _;rw [I.out];exact zK.snoc hI.out E
      clear E
      go_wp2_with fail
      go_roundw
      case rel=>exact ⟨k+1,G,by go_num,b5,O⟩
      case measure=>simp [intOf];omega
     ·rw [Ec E];have D:=zh (a2.out E);clear E;go_wp2;go_ret;exact ⟨zo D.out.symm,o.trans O⟩
    ·obtain rfl:k=ch.length:=by omega
     have D:Hid (okC m ch=true):=by
      show _=_;rw [Q.out,Bo];have:=hI.out
      rwa [Ej] at this
     go_wp2;go_ret;exact ⟨zo D.out.symm,o.trans d⟩
theorem cmp_len (h:zK m ch):decide (m.tasks.length<(Aj m ch).length)=zV m ch:=by
 obtain ⟨h1,h2⟩:=Ct h
 cases d:zV m ch
 ·have:=h2 d;exact Ec (by omega)
 ·have:=h1 d;exact Eb (by omega)
theorem DF (w:World) (hm:zY w ok v m) (g:AG m) (hl:Lens m) (G:zk w okc vc ch) (O:zK m ch):
  Calls Tryz.prog 167 #[v,vc] w fun e w'=>e=.returned (.bool (zV m ch))/\za w w':=by
 have M:=zh hm;obtain ⟨vfr,vup,vts,rfl,-,-,U⟩:=hm;obtain ⟨vst,⟨At,ct,rfl,a6,-⟩,-⟩:=U;have J:=zh G;obtain ⟨A,c,rfl,a5,hr⟩:=G;have HG:=zh g;have HL:=zh hl;have V:=zh O;have K:=zh (cmp_len O);clear hr g hl O
 go_enter Tryz.func167,Tryz.ntmps167
 go_wp2_with fail
 generalize E:w.alloc (.cells #[.int .i64 m.w,.int .i64 m.h,.int .i64 m.l,vfr,vup,.slice At m.tasks.length ct] 32)=w1;have B:za w w1:=by rw [<-E];exact (za.refl w).alloc _
 have I:zl w1 w.heap.size 32 #[.int .i64 m.w,.int .i64 m.h,.int .i64 m.l,vfr,vup,.slice At m.tasks.length ct]:=by rw [<-E];exact EL _ _
 clear E;obtain ⟨m0,m1,m2,m3,m4,m5⟩:=zt I;have c0:=za.rule m0;have c1:=za.rule m1;have c2:=za.rule m2;have c3:=za.rule m3;have c4:=za.rule m4;have c5:=za.rule m5;clear m0 m1 m2 m3 m4 m5 I;have o:za w1 w1:=za.refl w1
 go_wp2_with fail
 have d:=Ct V.out
 have Q:(Aj m ch).length<=7:=by
  have:=HG.out.tk
  cases h:zV m ch
  ·have:=d.2 h;omega
  ·have:=d.1 h;omega
 clear d
 go_region_held3 (fun w'=>za w1 w')
  (first | (exact o.drew) | (exact o.drew.trans D))
  ((go_at_call 177;refine (Dy _ (M.out.below (B.trans o.drew)) HG.out HL.out (J.out.below (B.trans o.drew)) V.out).mono ?_;rintro e w9 ⟨v9,rfl,D,⟨vs9,⟨A9,c9,rfl,a4,-⟩,-⟩⟩;have D:za _ _:=D))
 rename_i hS
 clear Q
 go_wp2_with fail
 go_ret;exact ⟨zo K.out,B.trans hS⟩
theorem qmeets_calls {ok':Nat->Prop} {va vb:Value} {a b:List Int} (w:World) (ha:zk w ok va a) (O:zk w ok' vb b) (a4:a.length<=20000000000000) (I:b.length<=20000000000000):
  Calls Tryz.prog 236 #[va,vb] w fun e w'=>e=.returned (.bool (a.any fun x=>decide (x∈b)))/\z8 w w':=by
 have HB:=zh O;obtain ⟨A2,c2,rfl,a3,-⟩:=O;obtain ⟨A,c,rfl,hc,U⟩:=ha;have HR:=zh U;clear U
 go_enter Tryz.func236,Tryz.ntmps236
 go_wp2_with fail
 go_loopw [5] (fun i wr=>∃k:Nat,k<=a.length/\i=.int .i64 k/\Hid ((a.take k).any (fun x=>decide (x∈b))=false)/\Hid (z8 w wr)) (fun i _=>a.length - (intOf i).toNat)
 case atStart=>exact ⟨0,Em _,rfl,rfl,z8.refl w⟩
 case round=>
  obtain ⟨k,hk,rfl,Q,E⟩:=hrel;by_cases B:k<a.length
  ·obtain ⟨bb,off,rfl,_,d⟩:=AH HR.out B B;have D:=zh (Ef B);have M:Hid (a[k]∈a):=DZ B;obtain ⟨x,V⟩:=Fd (a[k]);rw [<-V] at d D M;clear V;have rx:=za.rule d;have K:za w wr:=E.out.below _;clear d
   go_wp2_with fail
   refine (AK x wr (HB.out.below K) I).mono ?_;rintro e w9 ⟨rfl,rfl⟩;by_cases o:x∈b
   ·rw [Eb o];have G:=zh o;clear o
    go_wp2_with fail
    go_ret;exact ⟨zo (by rw [eq_comm,EZ];exact ⟨x,M.out,by simpa using G.out⟩),E.out⟩
   ·rw [Ec o]
    have J:Hid ((a.take (k+1)).any (fun x=>decide (x∈b))=false):=by
     show _=_;rw [D.out,List.any_append,Q.out];simpa using o
    clear o
    go_wp2_with fail
    go_roundw
    case rel=>exact ⟨k+1,B,by go_num,J,E⟩
    case measure=>simp [intOf];omega
  ·obtain rfl:k=a.length:=by omega
   go_wp2;go_ret;exact ⟨zo (by have h:=Q.out;rw [Ej] at h;rw [h]),E.out⟩
end
end Go.Proofs.YtjomnbdjajjgfaaGreatDoor
