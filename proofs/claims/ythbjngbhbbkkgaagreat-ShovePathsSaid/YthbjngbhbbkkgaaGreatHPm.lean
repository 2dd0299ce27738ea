import Derived.Test.YthbjngbhbbkkgaaGreatHPl
import Derived.Laws.EntriesVeiled
import Derived.Scope
import Derived.LoopIn
set_option linter.unusedVariables false
set_option linter.unusedSimpArgs false
set_option maxRecDepth 100000
set_option maxHeartbeats 16000000
namespace Go.Proofs.YthbjngbhbbkkgaaGreat
variable {a:Act} {Q:Exit->Act->World->Prop} {L M all o ps:List (List Int)} {p set zs:List Int} {xs:List Value} {m:MZ} {b cz g g1 gc gl gy j k lb n s sz t:Nat} {ok okf okm:Nat->Prop} {Az:Option Addr} {P:Program} {v vf:Value} {W W' w5:World}
section
open Go.RowKit
attribute [local go_sem ↓] Go.wp_at_zero Go.wp_at_succ
attribute [local go_sem] Oper.semAt_some
structure Ctx (lb B gy gl gc:Nat) (Az:Option Addr) (cz:Nat) (zs:List Int) (W:World):Prop where
 y:W.cell? ⟨gy,0,none⟩=some (.func (.yield lb) #[] #[])
 z:W.cell? ⟨gl,0,none⟩=some (.slice Az zs.length cz)
 c:W.cell? ⟨gc,0,none⟩=some (.func (.func 73) #[] #[.pointer (some ⟨gy,0,none⟩),.pointer (some ⟨gl,0,none⟩),.pointer (some ⟨gc,0,none⟩)])
 zc:∀j (hj:j<zs.length),∃b off,Az=some ⟨b,off,none⟩/\b<B/\b≠lb/\W.cell? ⟨b,off+j,none⟩=some (.int .i64 zs[j])
 lt:gy<B/\gl<B/\gc<B/\lb<B
 ne:gy≠lb/\gl≠lb/\gc≠lb
 sz:B<=W.heap.size
theorem rc_cell {B off:Nat} {u:Value} (D:RC lb B j W W') (E:b<B) (z:b≠lb) (h:W.cell? ⟨b,off,none⟩=some u):W'.cell? ⟨b,off,none⟩=some u:=
 (Fc (w:=W) (a:=⟨b,off,none⟩) (D.keep b E (zp h) z)).trans h
theorem Ctx.rc {B:Nat} (h:Ctx lb B gy gl gc Az cz zs W) (D:RC lb B j W W'):Ctx lb B gy gl gc Az cz zs W':=
 ⟨rc_cell D h.lt.1 h.ne.1 h.y,rc_cell D h.lt.2.1 h.ne.2.1 h.z,rc_cell D h.lt.2.2.1 h.ne.2.2 h.c,fun j J=>by
  obtain ⟨b,off,e,G,E,I⟩:=h.zc j J;exact ⟨b,off,e,G,E,rc_cell D G E I⟩,h.lt,h.ne,EP h.sz D.size⟩
theorem Ec:∀(k:Nat) (l:List Int),l.length<k->zF k l=[]
 | 0,l,h=>by omega
 | k+1,[],_=>rfl
 | k+1,x :: l,h=>by
  unfold zF;rw [Ec k l (by simp at h;omega),Ec (k+1) l (by simp at h;omega)];rfl
theorem combos_drop {i:Nat} {l:List Int} (z:i<l.length):zF (k+1) (l.drop i)=(zF k (l.drop (i+1))).map (l[i] :: ·)++zF (k+1) (l.drop (i+1)):=by
 rw [List.drop_eq_getElem_cons z]
 conv=>lhs;unfold zF
def OutAt (all:List (List Int)) (k:Nat) (set:List Int) (L:List (List Int)):Prop:=∀(i:Nat) c,L[i]?=some c->all[k+i]?=some (set++c)
theorem OutAt.left {x:Int} (h:OutAt all k set (L.map (x :: ·)++M)):OutAt all k (set++[x]) L:=fun i c z=>by
 have:=h i (x :: c) (by rw [ES (by rw [Fy];exact (FM.1 z).1),Fx,z];rfl);rw [this,List.append_assoc];rfl
theorem OutAt.right (h:OutAt all k set (L++M)):OutAt all (k+L.length) set M:=fun i c z=>by
 have:=h (L.length+i) c (by rw [ET (by omega),Nat.add_sub_cancel_left];exact z);rw [<-this];congr 1;omega
def ChPost (lb B:Nat) (J:Nat->World->Prop) (Jx:World->Prop) (k j:Nat) (W:World) (e:Ending) (W':World):Prop:=
 ∃b,e=.returned (.bool b)/\(b=true->RC lb B j W W'/\J k W')/\(b=false->Jx W')
theorem choose_zero {B:Nat} {J:Nat->World->Prop} {Jx:World->Prop} (frm:Nat) (W:World) (I:Ctx lb B gy gl gc Az cz zs W) (hp:Pref W B v set) (hl:set.length<=1000)
  (T:∀W',zb W W'->J k W')
  (V:∀u W1,J k W1->zi W1 (fun b=>W.heap.size<=b) u set->YieldAt Fence.wide 5 Tryz.prog lb #[u] W1 fun e W'=>∃b,e=.returned (.bool b)/\(b=true->J (k+1) W'/\W1.grownBy W' (some lb))/\(b=false->Jx W')):
  Calls Tryz.prog 73 #[v,.int .i64 frm,.int .i64 0,.pointer (some ⟨gy,0,none⟩),.pointer (some ⟨gl,0,none⟩),.pointer (some ⟨gc,0,none⟩)] W (ChPost lb B J Jx (k+1) set.length W):=by
 refine (callsIn_wide (n:=6)).1 ?_;refine callsIn_of_wp Tryz.func73 rfl trivial ?_ rfl;simp only [Tryz.ntmps73,List.size_toArray,zai,zaj,Nat.reduceAdd,Nat.reduceSub,Array.replicate_succ,Array.replicate_zero,List.push_toArray,List.append_toArray,List.nil_append,List.cons_append];have HP:=zh hp.ints;have a5:=zh hp;have HY:=zh V;have HJ:=zh T;have HC:=zh I;have ry:=zb.rule I.y;have a8:zb W W.drew:=(zb.refl W).drew;obtain ⟨Av,cv,rfl,-,-⟩:=hp.ints;clear hp V T I;have Z:=zU
 gi_wp2
 gi_region_with_o (first
  | (refine ⟨trivial,?_⟩;refine (callsIn_wide.2 (BB W.drew (zi.below HP.out (zb.refl W).drew) (by omega))).mono ?_;rintro e w1 ⟨u,rfl,E⟩;have D:zb W w1:=(zb.refl W).drew.trans E.ext;obtain ⟨fn,tmps,assign,body,a9,U⟩:=HY.out u w1 (HJ.out w1 D) (E.ints.weaken (fun b z=>z));obtain ⟨Au,cu,rfl,-,-⟩:=E.ints;have HR:=zh U;have G:=zh D;clear E U)
  | (refine HR.out.mono ?_;rintro e W3 ⟨b,rfl,h1,h2⟩;have O:=zh h1;have H2:=zh h2;clear h1 h2))
 all_goals (gi_wp2;go_ret)
 all_goals exact ⟨b,rfl,fun z=>⟨(RC.ext G.out).trans (RC.yield (O.out z).2 HC.out.lt.2.2.2),(O.out z).1⟩,fun z=>H2.out z⟩
theorem choose_calls {lb B gy gl gc cz N:Nat} {Az:Option Addr} {zs:List Int} {all:List (List Int)} {J:Nat->World->Prop} {Jx:World->Prop} (hz:zs.length<=1000) (hJ:∀k A A',J k A->Below B A A'->J k A')
  (hY:∀k u W1,k<N->J k W1->zi W1 (fun b=>B<=b) u (all.getD k [])->YieldAt Fence.wide 5 Tryz.prog lb #[u] W1 fun e W'=>∃b,e=.returned (.bool b)/\(b=true->J (k+1) W'/\W1.grownBy W' (some lb))/\(b=false->Jx W')):
  ∀(more:Nat) (set:List Int) (frm:Nat) (v:Value) (k:Nat) (W:World),Ctx lb B gy gl gc Az cz zs W->Pref W B v set->set.length+more<=1000->frm<=zs.length->OutAt all k set (zF more (zs.drop frm))->k+(zF more (zs.drop frm)).length<=N->J k W->
  Calls Tryz.prog 73 #[v,.int .i64 frm,.int .i64 more,.pointer (some ⟨gy,0,none⟩),.pointer (some ⟨gl,0,none⟩),.pointer (some ⟨gc,0,none⟩)] W (ChPost lb B J Jx (k+(zF more (zs.drop frm)).length) set.length W)
 | 0,set,frm,v,k,W,hC,hp,hs,hf,hO,hN,hj=>by
  have c9:all.getD k []=set:=by
   have:=hO 0 [] (by simp [zF]);rw [Nat.add_zero,List.append_nil] at this;rw [EM,this];rfl
  have g0:k<N:=by simp [zF] at hN;omega
  have h1:(zF 0 (zs.drop frm)).length=1:=by simp [zF]
  rw [h1];refine choose_zero frm W hC hp (by omega) (fun W' hE=>hJ k W W' hj (Below.mono hE hC.sz)) fun u W1 f9 hu=>?_;refine hY k u W1 g0 f9 ?_;rw [c9];exact hu.weaken fun b hb=>by have:=hC.sz;omega
 | more+1,set,frm,v,k,W,hC,hp,hs,hf,hO,hN,hj=>by
  have IH:=zh (choose_calls (gy:=gy) (gl:=gl) (gc:=gc) (cz:=cz) (Az:=Az) hz hJ hY more);have HJ:=zh hJ;have HC:=zh hC;have HP:=zh hp;have HO:=zh hO;have d9:=zh hj;obtain ⟨K,D⟩:=zak (k+(zF (more+1) (zs.drop frm)).length);rw [<-D];have HN:Hid (K<=N/\k+(zF (more+1) (zs.drop frm)).length=K):=⟨by omega,D.symm⟩;obtain ⟨Av,cv,rfl,-,-⟩:=hp.ints;clear hJ hY hC hp hO hN hj D;have g3:(((more+1:Nat):Int)==0)=false:=by rw [Fa];omega
  obtain ⟨mo,b2⟩:∃mo:Int,mo=((more+1:Nat):Int):=⟨_,rfl⟩;rw [<-b2] at g3⊢;have HM:=zh b2;clear b2
  go_enter Tryz.func73,Tryz.ntmps73
  go_wp2_with fail
  go_loopw [10] (fun i wr=>∃j kk:Nat,j<=zs.length/\i=.int .i64 (j:Nat)/\Hid (RC lb B set.length W wr)/\Hid (J kk wr)/\Hid (OutAt all kk set (zF (more+1) (zs.drop j)))/\Hid (kk+(zF (more+1) (zs.drop j)).length=K)) (fun i _=>zs.length - (intOf i).toNat)
  case atStart=>exact ⟨frm,k,hf,rfl,RC.refl _ _ _ _,d9.out,HO.out,HN.out.2⟩
  case round=>
   obtain ⟨j,kk,i6,rfl,hR,c5,c8,c6⟩:=hrel;obtain ⟨wk,rfl⟩:∃wk:World,wk=wr:=⟨_,rfl⟩;have b6:=zh (HC.out.rc hR.out);have i5:=b6.out.z;have b2:=HM.out;have j0:IntKind.i64.wrap ((j:Int)+mo)=(j:Int)+mo:=by rw [Fi];omega
   by_cases i7:j+(more+1)<=zs.length
   ·have d4:(j:Int)+mo<=(zs.length:Int):=by omega
    have c0:j<zs.length:=by omega
    have b4:=zh (combos_drop (k:=more) c0);obtain ⟨bx,offx,rfl,-⟩:=b6.out.zc j c0;obtain ⟨x,hx⟩:=zak (zs[j]);rw [<-hx] at b4
    have kx:∀W',Ctx lb B gy gl gc (some ⟨bx,offx,none⟩) cz zs W'->W'.cell? ⟨bx,offx+j,none⟩=some (.int .i64 x):=fun W' h=>by
     obtain ⟨b,off,e,-,-,hc⟩:=h.zc j c0;injection e with e;injection e with e1 e2;subst e1 e2;rw [hx];exact hc
    have b5:=zh kx;clear kx hx;have j1:IntKind.i64.wrap ((j:Int)+1)=(j:Int)+1:=by rw [Fi];omega
    have j2:IntKind.i64.wrap (mo - 1)=(more:Int):=by rw [Fi];omega
    have h8:(j:Int)<(zs.length:Int):=by omega
    have h7:(0:Int)<=(j:Int):=by omega
    have e8:Hid (OutAt all kk (set++[x]) (zF more (zs.drop (j+1)))):=OutAt.left (by have:=c8.out;rwa [b4.out] at this)
    have e9:Hid (OutAt all (kk+(zF more (zs.drop (j+1))).length) set (zF (more+1) (zs.drop (j+1)))):=by
     have:=c8.out;rw [b4.out] at this;have h2:=this.right
     rwa [Fy] at h2
    have c7:Hid ((kk+(zF more (zs.drop (j+1))).length)+(zF (more+1) (zs.drop (j+1))).length=K):=by
     have:=c6.out;rw [b4.out,EV,Fy] at this;show _=_;omega
    have e7:Hid (kk+(zF more (zs.drop (j+1))).length<=N):=by
     have h1:=c7.out;have h2:=HN.out.1;show _<=_;omega
    have IHC:Hid (∀v' W',Ctx lb B gy gl gc (some ⟨bx,offx,none⟩) cz zs W'->Pref W' B v' (set++[x])->J kk W'->Calls Tryz.prog 73 #[v',.int .i64 ((j:Int)+1),.int .i64 (more:Int),.pointer (some ⟨gy,0,none⟩),.pointer (some ⟨gl,0,none⟩),.pointer (some ⟨gc,0,none⟩)] W' (ChPost lb B J Jx (kk+(zF more (zs.drop (j+1))).length) (set++[x]).length W')):=fun v' W' h1 h2 h3=>by
     have h4:=IH.out (set++[x]) (j+1) v' kk W' h1 h2 (by rw [EV,Fo];omega) (by omega) e8.out e7.out h3;rw [show ((j+1:Nat):Int)=(j:Int)+1 from by omega] at h4;exact h4
    clear b2;go_upto_region 6 with fail;go_cut [39] (fun v wx=>∃b:Bool,v=.bool (!b)/\Hid ((b=true->RC lb B set.length wk wx/\J (kk+(zF more (zs.drop (j+1))).length) wx)/\(b=false->Jx wx)))
    case first=>
     refine Fd (S:=(fun _=>True)) zU (trivial) fun zH=>?_;have b7:zb wk wk.drew:=(zb.refl wk).drew;have O:=b6.out.rc (RC.ext (j:=set.length) b7);have a9:RC lb B set.length wk wk.drew:=RC.ext b7;have b1:=(RC.trans hR.out a9).pre _ _ HP.out (EN _);have b0:=HJ.out _ _ _ c5.out (Below.mono b7 b6.out.sz);generalize wk.drew=wd at zH b7 O a9 b1 b0⊢;refine ze 1 zH ?_;refine ze 3 zH ?_;simp only [za,EK];refine ze 8 zH ?_;refine ze 9 zH ?_;simp only [za,EK];refine ze 10 zH ?_;refine ze 11 zH ?_;simp only [za,EK];refine rdA [0,2] ?_;refine Fp rfl (fun K D=>?_) ?_
     ·have g7:=O.c;go_simp;refine zal D trivial fun zH=>?_;clear D K;try simp only [za,EK]
      refine zx 2 fun K D=>?_;have g9:=O.z;go_simp;refine zal D trivial fun zH=>?_;clear D K;try simp only [za,EK]
      refine zx 4 fun K D=>?_;go_simp;refine zal D trivial fun zH=>?_;clear D K;try simp only [za,EK]
      refine zx 5 fun K D=>?_;have g8:=b5.out _ O;go_simp;refine zal D trivial fun zH=>?_;clear D K;try simp only [za,EK]
      refine zx 6 fun K D=>?_;go_simp;have E:zb wd (wd.alloc (.cells #[.int .i64 x] 3)):=(zb.refl wd).alloc _;have T:=zr wd (.int .i64 x) 3 (g:=wd.heap.size) rfl;generalize wd.alloc _=wa at E T⊢;generalize wd.heap.size=ga at T⊢;have I:=O.rc (RC.ext (j:=set.length) E);have a7:=a9.trans (RC.ext (j:=set.length) E);have a6:=(RC.ext (lb:=lb) (j:=set.length) E).pre _ _ b1 (EN _);have a5:=HJ.out _ _ _ b0 (Below.mono E O.sz);refine zal D trivial fun zH=>?_;clear D K;try simp only [za,EK]
      refine zx 7 fun K D=>?_;rw [if_pos (by simp [Region.wanted])];refine Ds (.tmp 27) (.tmp 32) rfl wa set x B ga 1 lb _ rfl rfl a6 T I.sz (by omega) I.lt.2.2.2 ?_;intro v' wb a1 G Z;have V:=I.rc G;have a3:=a7.trans G;have a0:=HJ.out _ _ _ a5 Z;refine zal D trivial fun zH=>?_;clear D K;try simp only [za,EK]
      refine zx 12 fun K D=>?_;go_simp;go_at_call 73;refine (IHC.out v' wb V a1 a0).mono ?_;rintro e wc ⟨b,rfl,U,a4⟩;refine zal D trivial fun zH=>?_;clear D K;try simp only [za,EK]
      refine zx 13 fun K D=>?_;go_simp;refine zal D trivial fun zH=>?_;clear D K;try simp only [za,EK]
      refine Fs (by kernel_rfl) ?_ _;go_wp2;go_meet;exact ⟨b,rfl,fun hb=>⟨a3.trans ((U hb).1.mono (by rw [EV];omega)),(U hb).2⟩,a4⟩
     refine Fp rfl (fun K D=>?_) .nil;have h5:=O.z;go_simp;refine zal D trivial fun zH=>?_;clear D K;try simp only [za,EK]
     refine rdA [0,4] ?_;refine Fp rfl (fun K D=>?_) ?_
     ·have f1:=O.c;go_simp;refine zal D trivial fun zH=>?_;clear D K;try simp only [za,EK]
      refine zx 4 fun K D=>?_;go_simp;refine zal D trivial fun zH=>?_;clear D K;try simp only [za,EK]
      refine zx 5 fun K D=>?_;have f6:=b5.out _ O;go_simp;refine zal D trivial fun zH=>?_;clear D K;try simp only [za,EK]
      refine zx 6 fun K D=>?_;go_simp;have E:zb wd (wd.alloc (.cells #[.int .i64 x] 3)):=(zb.refl wd).alloc _;have T:=zr wd (.int .i64 x) 3 (g:=wd.heap.size) rfl;generalize wd.alloc _=wa at E T⊢;generalize wd.heap.size=ga at T⊢;have I:=O.rc (RC.ext (j:=set.length) E);have a7:=a9.trans (RC.ext (j:=set.length) E);have a6:=(RC.ext (lb:=lb) (j:=set.length) E).pre _ _ b1 (EN _);have a5:=HJ.out _ _ _ b0 (Below.mono E O.sz);refine zal D trivial fun zH=>?_;clear D K;try simp only [za,EK]
      refine zx 7 fun K D=>?_;rw [if_pos (by simp [Region.wanted])];refine Ds (.tmp 27) (.tmp 32) rfl wa set x B ga 1 lb _ rfl rfl a6 T I.sz (by omega) I.lt.2.2.2 ?_;intro v' wb a1 G Z;have V:=I.rc G;have a3:=a7.trans G;have a0:=HJ.out _ _ _ a5 Z;refine zal D trivial fun zH=>?_;clear D K;try simp only [za,EK]
      refine zx 12 fun K D=>?_;go_simp;go_at_call 73;refine (IHC.out v' wb V a1 a0).mono ?_;rintro e wc ⟨b,rfl,U,a4⟩;refine zal D trivial fun zH=>?_;clear D K;try simp only [za,EK]
      refine zx 13 fun K D=>?_;go_simp;refine zal D trivial fun zH=>?_;clear D K;try simp only [za,EK]
      refine Fs (by kernel_rfl) ?_ _;go_wp2;go_meet;exact ⟨b,rfl,fun hb=>⟨a3.trans ((U hb).1.mono (by rw [EV];omega)),(U hb).2⟩,a4⟩
     refine Fp rfl (fun K D=>?_) .nil;go_simp;refine zal D trivial fun zH=>?_;clear D K;try simp only [za,EK]
     refine rdA [0,5] ?_;refine Fp rfl (fun K D=>?_) ?_
     ·have f2:=O.c;go_simp;refine zal D trivial fun zH=>?_;clear D K;try simp only [za,EK]
      refine zx 5 fun K D=>?_;have f7:=b5.out _ O;go_simp;refine zal D trivial fun zH=>?_;clear D K;try simp only [za,EK]
      refine zx 6 fun K D=>?_;go_simp;have E:zb wd (wd.alloc (.cells #[.int .i64 x] 3)):=(zb.refl wd).alloc _;have T:=zr wd (.int .i64 x) 3 (g:=wd.heap.size) rfl;generalize wd.alloc _=wa at E T⊢;generalize wd.heap.size=ga at T⊢;have I:=O.rc (RC.ext (j:=set.length) E);have a7:=a9.trans (RC.ext (j:=set.length) E);have a6:=(RC.ext (lb:=lb) (j:=set.length) E).pre _ _ b1 (EN _);have a5:=HJ.out _ _ _ b0 (Below.mono E O.sz);refine zal D trivial fun zH=>?_;clear D K;try simp only [za,EK]
      refine zx 7 fun K D=>?_;rw [if_pos (by simp [Region.wanted])];refine Ds (.tmp 27) (.tmp 32) rfl wa set x B ga 1 lb _ rfl rfl a6 T I.sz (by omega) I.lt.2.2.2 ?_;intro v' wb a1 G Z;have V:=I.rc G;have a3:=a7.trans G;have a0:=HJ.out _ _ _ a5 Z;refine zal D trivial fun zH=>?_;clear D K;try simp only [za,EK]
      refine zx 12 fun K D=>?_;go_simp;go_at_call 73;refine (IHC.out v' wb V a1 a0).mono ?_;rintro e wc ⟨b,rfl,U,a4⟩;refine zal D trivial fun zH=>?_;clear D K;try simp only [za,EK]
      refine zx 13 fun K D=>?_;go_simp;refine zal D trivial fun zH=>?_;clear D K;try simp only [za,EK]
      refine Fs (by kernel_rfl) ?_ _;go_wp2;go_meet;exact ⟨b,rfl,fun hb=>⟨a3.trans ((U hb).1.mono (by rw [EV];omega)),(U hb).2⟩,a4⟩
     refine Fp rfl (fun K D=>?_) .nil;have f8:=b5.out _ O;go_simp;refine zal D trivial fun zH=>?_;clear D K;try simp only [za,EK]
     refine rdA [0,6] ?_;refine Fp rfl (fun K D=>?_) ?_
     ·have f3:=O.c;go_simp;refine zal D trivial fun zH=>?_;clear D K;try simp only [za,EK]
      refine zx 6 fun K D=>?_;go_simp;have E:zb wd (wd.alloc (.cells #[.int .i64 x] 3)):=(zb.refl wd).alloc _;have T:=zr wd (.int .i64 x) 3 (g:=wd.heap.size) rfl;generalize wd.alloc _=wa at E T⊢;generalize wd.heap.size=ga at T⊢;have I:=O.rc (RC.ext (j:=set.length) E);have a7:=a9.trans (RC.ext (j:=set.length) E);have a6:=(RC.ext (lb:=lb) (j:=set.length) E).pre _ _ b1 (EN _);have a5:=HJ.out _ _ _ b0 (Below.mono E O.sz);refine zal D trivial fun zH=>?_;clear D K;try simp only [za,EK]
      refine zx 7 fun K D=>?_;rw [if_pos (by simp [Region.wanted])];refine Ds (.tmp 27) (.tmp 32) rfl wa set x B ga 1 lb _ rfl rfl a6 T I.sz (by omega) I.lt.2.2.2 ?_;intro v' wb a1 G Z;have V:=I.rc G;have a3:=a7.trans G;have a0:=HJ.out _ _ _ a5 Z;refine zal D trivial fun zH=>?_;clear D K;try simp only [za,EK]
      refine zx 12 fun K D=>?_;go_simp;go_at_call 73;refine (IHC.out v' wb V a1 a0).mono ?_;rintro e wc ⟨b,rfl,U,a4⟩;refine zal D trivial fun zH=>?_;clear D K;try simp only [za,EK]
      refine zx 13 fun K D=>?_;go_simp;refine zal D trivial fun zH=>?_;clear D K;try simp only [za,EK]
      refine Fs (by kernel_rfl) ?_ _;go_wp2;go_meet;exact ⟨b,rfl,fun hb=>⟨a3.trans ((U hb).1.mono (by rw [EV];omega)),(U hb).2⟩,a4⟩
     refine Fp rfl (fun K D=>?_) .nil;go_simp;have E:zb wd (wd.alloc (.cells #[.int .i64 x] 3)):=(zb.refl wd).alloc _;have T:=zr wd (.int .i64 x) 3 (g:=wd.heap.size) rfl;generalize wd.alloc _=wa at E T⊢;generalize wd.heap.size=ga at T⊢;have I:=O.rc (RC.ext (j:=set.length) E);have a7:=a9.trans (RC.ext (j:=set.length) E);have a6:=(RC.ext (lb:=lb) (j:=set.length) E).pre _ _ b1 (EN _);have a5:=HJ.out _ _ _ b0 (Below.mono E O.sz);refine zal D trivial fun zH=>?_;clear D K;try simp only [za,EK]
     refine rdA [0,7] ?_;refine Fp rfl (fun K D=>?_) ?_
     ·have f4:=I.c;go_simp;refine zal D trivial fun zH=>?_;clear D K;try simp only [za,EK]
      refine zx 7 fun K D=>?_;rw [if_pos (by simp [Region.wanted])];refine Ds (.tmp 27) (.tmp 32) rfl wa set x B ga 1 lb _ rfl rfl a6 T I.sz (by omega) I.lt.2.2.2 ?_;intro v' wb a1 G Z;have V:=I.rc G;have a3:=a7.trans G;have a0:=HJ.out _ _ _ a5 Z;refine zal D trivial fun zH=>?_;clear D K;try simp only [za,EK]
      refine zx 12 fun K D=>?_;go_simp;go_at_call 73;refine (IHC.out v' wb V a1 a0).mono ?_;rintro e wc ⟨b,rfl,U,a4⟩;refine zal D trivial fun zH=>?_;clear D K;try simp only [za,EK]
      refine zx 13 fun K D=>?_;go_simp;refine zal D trivial fun zH=>?_;clear D K;try simp only [za,EK]
      refine Fs (by kernel_rfl) ?_ _;go_wp2;go_meet;exact ⟨b,rfl,fun hb=>⟨a3.trans ((U hb).1.mono (by rw [EV];omega)),(U hb).2⟩,a4⟩
     refine Fp rfl (fun K D=>?_) .nil;rw [if_pos (by simp [Region.wanted])];refine Ds (.tmp 27) (.tmp 32) rfl wa set x B ga 1 lb _ rfl rfl a6 T I.sz (by omega) I.lt.2.2.2 ?_;intro v' wb a1 G Z;have V:=I.rc G;have a3:=a7.trans G;have a0:=HJ.out _ _ _ a5 Z;refine zal D trivial fun zH=>?_;clear D K;try simp only [za,EK]
     refine zx 0 fun K D=>?_;have f5:=V.c;go_simp;refine zal D trivial fun zH=>?_;clear D K;try simp only [za,EK]
     refine zx 12 fun K D=>?_;go_simp;go_at_call 73;refine (IHC.out v' wb V a1 a0).mono ?_;rintro e wc ⟨b,rfl,U,a4⟩;refine zal D trivial fun zH=>?_;clear D K;try simp only [za,EK]
     refine zx 13 fun K D=>?_;go_simp;refine zal D trivial fun zH=>?_;clear D K;try simp only [za,EK]
     refine Fs (by kernel_rfl) ?_ _;go_wp2;go_meet;exact ⟨b,rfl,fun hb=>⟨a3.trans ((U hb).1.mono (by rw [EV];omega)),(U hb).2⟩,a4⟩
    case rest=>
     obtain ⟨b,rfl,b9⟩:=hcut
     cases b with
     | false=>
      have e3:=zh (b9.out.2 rfl);go_wp2;go_ret;exact ⟨false,rfl,fun h=>(by cases h),fun _=>e3.out⟩
     | true=>
      obtain ⟨h1,h2⟩:=b9.out.1 rfl;have e5:=zh (hR.out.trans h1);have e0:=zh h2;clear h1 h2 b9;go_wp2;go_roundw
      case rel=>exact ⟨j+1,kk+(zF more (zs.drop (j+1))).length,by omega,by go_num,e5,e0,e9,c7⟩
      case measure=>simp [intOf];omega
   ·have d4:¬ ((j:Int)+mo<=(zs.length:Int)):=by omega
    have b8:zF (more+1) (zs.drop j)=[]:=Ec _ _ (by rw [List.length_drop];omega);have e4:Hid (kk=K):=by show _=_;have:=c6.out;rw [b8] at this;simpa using this
    clear b8 b2;go_wp2;go_ret;exact ⟨true,rfl,fun _=>⟨hR.out,by rw [<-e4.out];exact c5.out⟩,fun h=>(by cases h)⟩
end
section
open Go.RowKit
def GivesX {α:Type} (n:Nat) (P:Program) (g:Nat) (lb:Array Value) (encs:α->Array Value) (G:Nat->α->World->Prop) (N:Nat) (w:World):Prop:=
 ∀(l:Nat) (J:Nat->World->Prop) (Jx:World->Prop) (W:World),zb w W->w.heap.size<=l->l<W.heap.size->(∀k A B,J k A->Below W.heap.size A B->J k B)->
  (∀k x W1,k<N->J k W1->G k x W1->YieldAt Fence.wide (n - 1) P l (encs x) W1 fun e W'=>(e=.returned (.bool true)/\J (k+1) W'/\W1.grownBy W' (some l))\/(e=.returned (.bool false)/\Jx W'))->
  J 0 W->
  CallsIn Fence.wide n P g (#[.func (.yield l) #[] #[]]++lb) W fun e W'=>(∃v,e=.returned v)/\(J N W'\/Jx W')
theorem wpIn_loopX {α:Type} {g:Operand} {ps:Array Tmp} {assign body:Code} {w:World}
  {gf:Nat} {lb:Array Value} (hg:a.eval g=.func (.func gf) #[] lb) (eg:∀args w,(callFunc gf args).run P w=.ok (.enter gf args) w)
  {encs:α->Array Value} {G:Nat->α->World->Prop} {N:Nat} {w0:World} (b6:GivesX (n - 1) P gf lb encs G N w0) (b5:zb w0 w) (c6:∀x,(encs x).size=ps.size)
  (I:Nat->World->Prop) (Ix:Code->World->Prop) (hI:∀k A B,I k A->Below w.heap.size A B->I k B) (hIx:∀c A B,Ix c A->A.grownBy B (some (w.heap.size+1))->Ix c B)
  (hG:∀k x A l,G k x A->w.heap.size<l->l<A.heap.size->(∃r,A.heap[l]?=some (.loop r))->∀o,G k x (A.putObj l o)) (h0:I 0 w) (a₁:α->Act)
  (a5:∀(l:Nat) (x:α) (W:World) (K:Act->World->Prop),K (a₁ x) W->
   assign.wpIn (Fence.wide.inRound l) (n - 1 - 1) P (Exit.then K (fun _ _ _=>False)) { tmps:=(ps.zip (encs x)).foldl (fun t (p,v)=>t.setIfInBounds p v) a.tmps,defers:=[] } W)
  (a9:∀(l k:Nat) (x:α) (W:World),k<N->I k W->G k x W->w.heap.size<W.heap.size->(∃r,W.heap[w.heap.size+1]?=some (.loop r))->body.wpIn (Fence.wide.inRound l) (n - 1 - 1) P (postB w.heap.size k I Ix W) (a₁ x) W)
  (b0:∀(D:Nat) (W:World),w.heap.size<=D->I N W->W.heap[D]?=some (.deferred (some []))->Q .normal { a with defers:={ target:=.collected D,args:=#[] } :: a.defers } W)
  (b2:∀(D:Nat) (c:Code) (W:World),w.heap.size<=D->Ix c W->W.heap[D]?=some (.deferred (some []))->c.wpIn Fence.wide n P Q { a with defers:={ target:=.collected D,args:=#[] } :: a.defers } W):
  (Code.rangeFunc g ps assign body).wpIn Fence.wide n P Q a w:=by
 refine wpIn_rangeFunc ?_;intro fn b9;obtain ⟨rec,E⟩:∃rec:LoopState->Option Code->Loop,rec=fun st pe=>{ state:=st,pending:=pe,fn,tmps:=a.tmps,params:=ps,assign,body,defers:=w.heap.size }:=⟨_,rfl⟩
 obtain ⟨W1,a4⟩:∃W1,(w.alloc (.deferred (some []))).alloc (.loop (rec .ready none))=W1:=⟨_,rfl⟩;have d4:W1.heap.size=w.heap.size+2:=by rw [<-a4];simp
 have b8:W1.heap[w.heap.size+1]?=some (.loop (rec .ready none)):=by
  rw [<-a4];have:=World.alloc_heap_new (w.alloc (.deferred (some []))) (.loop (rec .ready none))
  rwa [World.size_alloc] at this
 have b7:W1.heap[w.heap.size]?=some (.deferred (some [])):=by
  rw [<-a4];exact (Ff _ _ _ (by simp)).trans (World.alloc_heap_new w _)
 have b4:zb w W1:=by rw [<-a4];exact ((zb.refl w).alloc _).alloc _
 refine ⟨w.heap.size+1,[{ target:=.collected w.heap.size,args:=#[] }],W1,{ target:=.fn (.func gf) lb,args:=#[.func (.yield (w.heap.size+1)) #[] #[]] },W1,gf,
  #[.func (.yield (w.heap.size+1)) #[] #[]]++lb,W1,?_,?_,fun _ _=>trivial,?_,fun h=>absurd h (by simp [Fence.wide]),?_⟩
 ·rw [<-a4,E];exact run_enterLoop_outer _ _ _ _ _
 ·simp only [resolve,hg];simp [go_sem]
 ·simp [invoke,go_sem,eg]
 ·refine (b6 (w.heap.size+1)
   (fun k W=>I k W/\W.heap[w.heap.size+1]?=some (.loop (rec .ready none))/\W.heap[w.heap.size]?=some (.deferred (some []))/\w.heap.size+1<W.heap.size)
   (fun W=>∃c,Ix c W/\W.heap[w.heap.size+1]?=some (.loop (rec .done (some c)))/\W.heap[w.heap.size]?=some (.deferred (some [])))
   W1 (b5.trans b4) (by have:=b5.size;omega) (by omega) ?_ ?_ ⟨hI _ _ _ h0 b4,b8,b7,by omega⟩).mono ?_
  ·rintro k A B ⟨h1,h2,h3,h4⟩ a6;exact ⟨hI _ _ _ h1 (a6.mono (by omega)),(a6.block _ (by omega)).trans h2,(a6.block _ (by omega)).trans h3,Fq h4 a6.size⟩
  ·-- one round
   rintro k x W c5 ⟨hi,hl,hD,a1⟩ c4;have hy:=run_yield (P:=P) (args:=encs x) hl (by rw [E];exact c6 x);rw [E] at hy;refine ⟨fn,_,assign,body,hy,roundIn_of_wpIn b9 (a5 _ x W _ ⟨_,run_beginRound hl (by rw [E]),?_⟩)⟩;have a0:(W.putObj (w.heap.size+1) (.loop { rec .ready none with state:=.busy })).heap[w.heap.size+1]?=some (.loop { rec .ready none with state:=.busy }):=World.putObj_heap_same a1;have a7:(W.putObj (w.heap.size+1) (.loop { rec .ready none with state:=.busy })).heap[w.heap.size]?=some (.deferred (some [])):=(World.putObj_heap_other (by omega)).trans hD;have T:w.heap.size+1<(W.putObj (w.heap.size+1) (.loop { rec .ready none with state:=.busy })).heap.size:=(FN.1 a0).1;have c0:W.grownBy (W.putObj (w.heap.size+1) (.loop { rec .ready none with state:=.busy })) (some (w.heap.size+1)):=grownBy_putObj' _ _ _;refine wpIn_mono (a9 _ k x _ c5 (hI _ _ _ hi (AW _ (by omega) a1)) (hG _ _ _ _ c4 (by omega) a1 ⟨_,hl⟩ _) (Nat.lt_trans (Nat.lt_succ_self _) T) ⟨_,a0⟩) ?_;generalize W.putObj (w.heap.size+1) (.loop { rec .ready none with state:=.busy })=W2 at*
   have fin:∀(jump:Option Code) (W3:World),W3.heap[w.heap.size+1]?=some (.loop { rec .ready none with state:=.busy })->
     (Instr.endRound (w.heap.size+1) jump).run P W3=.ok (.bool jump.isNone) (W3.putObj (w.heap.size+1) (.loop (rec (if jump.isNone then .ready else .done) jump))):=fun jump W3 J=>by
    have:=run_endRound (P:=P) jump J;rw [E] at this⊢;exact this
   rintro e a3 W3 hp
   cases e with
   | normal=>
    obtain ⟨V,Z⟩:=hp;have J:=(V.block _ T).trans a0;have z:=(FN.1 J).1;have U:=(V.block _ (by omega)).trans a7;refine ⟨_,_,fin none W3 J,.inl ⟨rfl,⟨hI _ _ _ Z (AW _ (by omega) z),World.putObj_heap_same z,(World.putObj_heap_other (by omega)).trans U,?_⟩,?_⟩⟩
    ·exact (FN.1 (World.putObj_heap_same z)).1
    ·exact (c0.trans ⟨V.os,V.tape,V.output,V.size,fun i hi _=>V.block i hi⟩).trans (grownBy_putObj' _ _ _)
   | ret=>
    obtain ⟨O,Z⟩:=hp;have J:=(O _ (by omega) T).trans a0;have z:=(FN.1 J).1;have U:=(O _ (EN _) (by omega)).trans a7;exact ⟨_,_,fin (some .ret) W3 J,.inr ⟨rfl,.ret,hIx _ _ _ Z (grownBy_putObj' _ _ _),World.putObj_heap_same z,(World.putObj_heap_other (by omega)).trans U⟩⟩
   | exit id=>
    obtain ⟨O,Z⟩:=hp;have J:=(O _ (by omega) T).trans a0;have z:=(FN.1 J).1;have U:=(O _ (EN _) (by omega)).trans a7;exact ⟨_,_,fin (some (.exit id)) W3 J,.inr ⟨rfl,.exit id,hIx _ _ _ Z (grownBy_putObj' _ _ _),World.putObj_heap_same z,(World.putObj_heap_other (by omega)).trans U⟩⟩
   | goto t=>
    obtain ⟨O,Z⟩:=hp;have J:=(O _ (by omega) T).trans a0;have z:=(FN.1 J).1;have U:=(O _ (EN _) (by omega)).trans a7;exact ⟨_,_,fin (some (.goto t)) W3 J,.inr ⟨rfl,.goto t,hIx _ _ _ Z (grownBy_putObj' _ _ _),World.putObj_heap_same z,(World.putObj_heap_other (by omega)).trans U⟩⟩
   | panic ch=>exact hp.elim
   | outgrown=>exact hp.elim
  ·-- behind the iterator
   rintro e W2 ⟨⟨v,rfl⟩,(⟨hi,hl,hD,a1⟩ | ⟨c,hi,hl,hD⟩)⟩
   ·exact ⟨none,_,by have:=run_endLoop (P:=P) hl (by rw [E];simp);rw [E] at this;exact this,b0 _ _ (EN _) (hI _ _ _ hi (AW _ (by omega) a1)) ((World.putObj_heap_other (by omega)).trans hD)⟩
   ·have a1:=(FN.1 hl).1;exact ⟨some c,_,by have:=run_endLoop (P:=P) hl (by rw [E];simp);rw [E] at this;exact this,b2 _ c _ (EN _) (hIx _ _ _ hi (grownBy_putObj' _ _ _)) ((World.putObj_heap_other (by omega)).trans hD)⟩
end
section
open Go.RowKit
attribute [local go_sem ↓] Go.wp_at_zero Go.wp_at_succ
attribute [local go_sem] Oper.semAt_some
theorem yieldAt_wide {m:Nat} (m':Nat) {l:Nat} {args:Array Value} {R:Ending->World->Prop} (h:YieldAt Fence.wide m P l args W R):YieldAt Fence.wide m' P l args W R:=by
 obtain ⟨fn,tmps,assign,body,D,z⟩:=h;exact ⟨fn,tmps,assign,body,D,z.1,fun c cs _=>z.2 c cs (room_wide _)⟩
def offK (zs:List Int) (s:Nat):Nat:=((List.range s).flatMap fun k=>zF k zs).length
theorem offK_succ (zs:List Int) (s:Nat):offK zs (s+1)=offK zs s+(zF s zs).length:=by
 unfold offK;rw [List.range_succ,List.flatMap_append,EV];simp
theorem subs_split (zs:List Int) (z:s<=zs.length):∃R,AX zs=((List.range s).flatMap fun k=>zF k zs)++(zF s zs++R):=by
 refine ⟨((List.range (zs.length - s)).map (s+1+·)).flatMap fun k=>zF k zs,?_⟩;unfold AX
 have h:List.range (zs.length+1)=List.range s++([s]++(List.range (zs.length - s)).map (s+1+·)):=by
  have h1:zs.length+1=(s+1)+(zs.length - s):=by omega
  rw [h1,List.range_add,List.range_succ,List.append_assoc]
 rw [h,List.flatMap_append,List.flatMap_append];simp
theorem subs_out (zs:List Int) (G:s<=zs.length):OutAt (AX zs) (offK zs s) [] (zF s zs):=fun i c z=>by
 obtain ⟨R,D⟩:=subs_split zs G;have E:i<(zF s zs).length:=(FM.1 z).1;rw [D,ET (by unfold offK;omega)];rw [show offK zs s+i - ((List.range s).flatMap fun k=>zF k zs).length=i from by unfold offK;omega,ES E,z];rfl
theorem subs_len (zs:List Int) (D:s<=zs.length):offK zs s+(zF s zs).length<=(AX zs).length:=by
 obtain ⟨R,z⟩:=subs_split zs D;rw [z];simp only [EV];unfold offK;omega
theorem offK_all (zs:List Int):offK zs (zs.length+1)=(AX zs).length:=rfl
theorem subs_gives (w:World) (h:zi w (fun _=>True) v zs) (hl:w.cell? ⟨gl,0,none⟩=some v) (hz:zs.length<=900) (n:Nat):
  GivesX n Tryz.prog 72 #[.pointer (some ⟨gl,0,none⟩)] (fun x:Value=>#[x]) (fun k x W=>zi W (fun b=>w.heap.size<=b) x ((AX zs).getD k [])) (AX zs).length w:=by
 intro l J Jx W hW b6 a7 hJ hY h0;refine callsIn_wide.2 ?_
 have a5:∀(B:Nat),w.heap.size<=B->∀k u W1,k<(AX zs).length->J k W1->zi W1 (fun b=>B<=b) u ((AX zs).getD k [])->YieldAt Fence.wide 5 Tryz.prog l #[u] W1 fun e W'=>∃b,e=.returned (.bool b)/\(b=true->J (k+1) W'/\W1.grownBy W' (some l))/\(b=false->Jx W'):=fun B hB k u W1 hk hj hu=>by
  have h1:=hY k u W1 hk hj (hu.weaken fun b hb=>EP hB hb);refine (yieldAt_wide 5 h1).mono ?_;rintro e W' (⟨rfl,h2,h3⟩ | ⟨rfl,h2⟩)
  ·exact ⟨true,rfl,fun _=>⟨h2,h3⟩,fun h=>(by cases h)⟩
  ·exact ⟨false,rfl,fun h=>(by cases h),fun _=>h2⟩
 have HY:=zh a5;have HJ:=zh hJ;have a0:=zh h0;have HI:=zh (h.bound.keep (Ao.of_below hW));have b0:gl<w.heap.size:=zp hl;have HB:Hid (w.heap.size<=l/\l<W.heap.size/\w.heap.size<=W.heap.size/\gl<w.heap.size):=⟨b6,a7,hW.size,b0⟩;have E:=hW.cell hl;obtain ⟨Av,cv,rfl,f1,-⟩:=h;clear hY hJ h0 b6 a7 hW a5 hl b0;have Z:=zh E;have rcl:=zb.rule E;clear E
 go_enter Tryz.func72,Tryz.ntmps72
 go_wp2;obtain ⟨B,hB⟩:=zak (W.heap.size+2);obtain ⟨W1,D⟩:∃W1,(W.alloc (.cells #[.func (.yield l) #[] #[]] 114)).alloc (.cells #[.func (.func 73) #[] #[.pointer (some ⟨W.heap.size,0,none⟩),.pointer (some ⟨gl,0,none⟩),.pointer (some ⟨W.heap.size+1,0,none⟩)]] 115)=W1:=⟨_,rfl⟩;rw [D];have G:zb W W1:=by rw [<-D];exact ((zb.refl W).alloc _).alloc _
 have d7:W1.heap.size=B:=by rw [<-D,hB];simp
 have T:Hid (Ctx l B W.heap.size gl (W.heap.size+1) Av cv zs W1):=by
  obtain ⟨b1,b2,b3,b4⟩:=HB.out;refine ⟨?_,G.cell Z.out,?_,fun j hj=>?_,⟨by omega,by omega,by omega,by omega⟩,⟨by omega,by omega,by omega⟩,by omega⟩
  ·rw [<-D];exact ((zb.refl _).alloc _).cell (zr W _ _ rfl)
  ·rw [<-D];exact zr _ _ _ (by simp)
  ·obtain ⟨A,c,e,hc,hr⟩:=HI.out;injection e with e1 e2 e3;subst e1;obtain ⟨b,off,e,⟨-,hb⟩,V⟩:=hr.2 (by omega);refine ⟨b,off,e,by omega,by omega,G.cell (V j _ (by rw [Fx,EL hj];rfl))⟩
 have c6:Hid (J 0 W1):=HJ.out _ _ _ a0.out G;have c8:Hid (∀k A A',J k A->Below B A A'->J k A'):=fun k A A' h hb=>HJ.out k A A' h (hb.mono (by omega))
 have d4:W.heap.size+1<B:=by omega
 have c0:Hid (w.heap.size<=B):=by (show _<=_);have:=HB.out;omega
 obtain ⟨gy,a6⟩:∃gy,W.heap.size=gy:=⟨_,rfl⟩;obtain ⟨gc,O⟩:∃gc,gy+1=gc:=⟨_,rfl⟩;rw [a6] at T⊢;rw [O] at T⊢;clear D d7 HJ G hB HB Z rcl HI a0 d4 a6 O;go_loopw [4] (fun i wr=>∃s:Nat,s<=zs.length+1/\i=.int .i64 (s:Nat)/\Hid (Ctx l B gy gl gc Av cv zs wr)/\Hid (J (offK zs s) wr)) (fun i _=>zs.length+1 - (intOf i).toNat)
 case atStart=>exact ⟨0,by omega,rfl,T,c6⟩
 case round=>
  obtain ⟨s,hs,rfl,hC,a4⟩:=hrel;have E:=hC.out.z;by_cases a8:s<=zs.length
  ·have a9:(s:Int)<=(zs.length:Int):=by omega
   have f5:IntKind.i64.wrap ((s:Int)+1)=(s:Int)+1:=by rw [Fi];omega
   have HO:Hid (OutAt (AX zs) (offK zs s) [] (zF s (zs.drop 0))):=by rw [List.drop_zero];exact subs_out zs a8
   have HL:Hid (offK zs s+(zF s (zs.drop 0)).length<=(AX zs).length):=by rw [List.drop_zero];exact subs_len zs a8
   have HS:Hid (offK zs s+(zF s (zs.drop 0)).length=offK zs (s+1)):=by rw [List.drop_zero];exact (offK_succ zs s).symm
   have c9:=hC.out.c;have rcc:=zb.rule hC.out.c
   go_wp2_with fail
   refine (choose_calls (by omega) c8.out (HY.out B c0.out) s [] 0 _ (offK zs s) wr hC.out (Pref.nil _ _) (by simp;omega) (by omega) HO.out HL.out a4.out).mono ?_;rintro e wc ⟨b,rfl,I,U⟩;rw [HS.out] at I
   cases b with
   | false=>
    have HX:=zh (U rfl);clear I U;go_wp2;refine FK (results_none rfl _ _ _) rfl ?_;exact ⟨⟨_,rfl⟩,.inr HX.out⟩
   | true=>
    obtain ⟨hR,a3⟩:=I rfl;have c4:=zh (hC.out.rc hR);have c7:=zh a3;clear I U hR a3 rcc c9 E;go_wp2;go_roundw
    case rel=>exact ⟨s+1,by omega,by go_num,c4,c7⟩
    case measure=>simp [intOf];omega
  ·have a9:¬ ((s:Int)<=(zs.length:Int)):=by omega
   have b5:s=zs.length+1:=by omega
   have HF:Hid (J (AX zs).length wr):=by have:=a4.out;rw [b5,offK_all] at this;exact this
   clear b5
   go_wp2_with fail
   refine bodyPost_end (results_none rfl _ _ _) rfl ?_;exact ⟨⟨_,rfl⟩,.inl HF.out⟩
theorem subsets_calls (w:World) (h:zi w (fun _=>True) v zs) (z:zs.length<=900):
  Calls Tryz.prog 38 #[v] w fun e w'=>∃gl,e=.returned (.func (.func 72) #[] #[.pointer (some ⟨gl,0,none⟩)])/\zb w w'/\∀W,zb w' W->∀n,GivesX n Tryz.prog 72 #[.pointer (some ⟨gl,0,none⟩)] (fun x:Value=>#[x]) (fun k x W'=>zi W' (fun b=>W.heap.size<=b) x ((AX zs).getD k [])) (AX zs).length W:=by
 have H:=zh h;obtain ⟨A,c,rfl,D,-⟩:=h
 go_enter Tryz.func38,Tryz.ntmps38
 go_wp2;go_ret;refine ⟨_,rfl,(zb.refl w).alloc _,fun W hW n=>?_⟩;exact subs_gives W ((H.out.below ((zb.refl w).alloc _)).below hW) (hW.cell (zr w _ _ rfl)) z n
structure RB (W:World) (g:Nat) (a b c0 c1 c2 d:Value):Prop where
 p:zg W (g+3) 22 #[a]
 m:zg W (g+4) 23 #[b]
 y:zg W (g+5) 37 #[c0,c1,c2]
 e:zg W (g+6) 38 #[d]
theorem RB.ext {W W':World} {g:Nat} {a b c0 c1 c2 d:Value} (h:RB W g a b c0 c1 c2 d) (z:zb W W'):RB W' g a b c0 c1 c2 d:=⟨h.p.ext z,h.m.ext z,h.y.ext z,h.e.ext z⟩
theorem DP {P:World->Prop} {a b c0 c1 c2 d a' b' c0' c1' c2' d':Value} (z:RB W g a b c0 c1 c2 d) (h:∀WZ,RB WZ g a' b' c0' c1' c2' d'->zu (fun k=>g+3<=k/\k<=g+6) W WZ->P WZ):
  P ((((((W.setCell ⟨g+3,0,none⟩ a').setCell ⟨g+4,0,none⟩ b').setCell ⟨g+5,0,none⟩ c0').setCell ⟨g+5,1,none⟩ c1').setCell ⟨g+5,2,none⟩ c2').setCell ⟨g+6,0,none⟩ d'):=by
 have q1:=z.p.set (k:=0) a';have q2:=(z.m.setOther (a:=⟨g+3,0,none⟩) (by show g+4≠g+3;omega) a').set (k:=0) b';have q3:=((((z.y.setOther (a:=⟨g+3,0,none⟩) (by show g+5≠g+3;omega) a').setOther (a:=⟨g+4,0,none⟩) (by show g+5≠g+4;omega) b').set (k:=0) c0').set (k:=1) c1').set (k:=2) c2';have q4:=(((((z.e.setOther (a:=⟨g+3,0,none⟩) (by show g+6≠g+3;omega) a').setOther (a:=⟨g+4,0,none⟩) (by show g+6≠g+4;omega) b').setOther (a:=⟨g+5,0,none⟩) (by show g+6≠g+5;omega) c0').setOther (a:=⟨g+5,1,none⟩) (by show g+6≠g+5;omega) c1').setOther (a:=⟨g+5,2,none⟩) (by show g+6≠g+5;omega) c2').set (k:=0) d';refine h _ ⟨?_,?_,?_,q4⟩ ((((((zu.refl _ W).set (g+3) 0 a' (by omega)).set (g+4) 0 b' (by omega)).set (g+5) 0 c0' (by omega)).set (g+5) 1 c1' (by omega)).set (g+5) 2 c2' (by omega) |>.set (g+6) 0 d' (by omega))
 ·exact ((((q1.setOther (a:=⟨g+4,0,none⟩) (by show g+3≠g+4;omega) b').setOther (a:=⟨g+5,0,none⟩) (by show g+3≠g+5;omega) c0').setOther (a:=⟨g+5,1,none⟩) (by show g+3≠g+5;omega) c1').setOther (a:=⟨g+5,2,none⟩) (by show g+3≠g+5;omega) c2').setOther (a:=⟨g+6,0,none⟩) (by show g+3≠g+6;omega) d'
 ·exact (((q2.setOther (a:=⟨g+5,0,none⟩) (by show g+4≠g+5;omega) c0').setOther (a:=⟨g+5,1,none⟩) (by show g+4≠g+5;omega) c1').setOther (a:=⟨g+5,2,none⟩) (by show g+4≠g+5;omega) c2').setOther (a:=⟨g+6,0,none⟩) (by show g+4≠g+6;omega) d'
 ·exact q3.setOther (a:=⟨g+6,0,none⟩) (by show g+5≠g+6;omega) d'
theorem laid_lens (h:AV m ps=true):∀x∈ps,x.length<=300:=by
 obtain ⟨h0,h1,h2,h3⟩:=AS.1 h;intro x J;obtain ⟨k,E,rfl⟩:=Fu J;have z:ps.getD k []=ps[k]:=zgd E
 by_cases G:ps[k]=[]
 ·rw [G];simp
 ·have hp:=h2 k E (by rw [z];exact G);rw [z] at hp
  have D:(ps[k]).Nodup:=by
   have:=h3.1 k
   rwa [z] at this
  have I:=Bz D m.n hp.rg;have O:=(zI.of h0).dim.n1;unfold MZ.n at I;omega
def Dz (ps:List (List Int)) (k:Nat):List Int:=((List.range k).filter fun k=>decide (ps.getD k []≠[])).map Int.ofNat
theorem hasTo_t (h:ps.getD k []≠[]):Dz ps (k+1)=Dz ps k++[(k:Int)]:=by
 unfold Dz;rw [List.range_succ,FC,FG,FJ (by simpa using h)];rfl
theorem hasTo_f (h:ps.getD k []=[]):Dz ps (k+1)=Dz ps k:=by
 unfold Dz;rw [List.range_succ,FC,FG,Fw (by rw [h];simp)];simp
theorem hasTo_len (ps:List (List Int)) (k:Nat):(Dz ps k).length<=k:=by
 unfold Dz;rw [Fy];exact EP (Fr _ _) (by simp)
theorem zN.apartO {w:World} {size:Nat} {A:Option Addr} (h:zN w ok size A n xs) (I:0<size) (G:∀off,w.cell? ⟨b,off,none⟩=none):zN w (fun k=>ok k/\k≠b) size A n xs:=by
 refine ⟨h.1,fun D=>?_⟩;obtain ⟨k,off,e,E,z⟩:=h.2 D;have h0:0<xs.length:=by rw [h.1];exact Nat.mul_pos D I
 refine ⟨k,off,e,⟨E,?_⟩,z⟩;rintro rfl;have h1:=z 0 _ (EL h0);rw [G] at h1;cases h1
theorem zi.apartO {w:World} {ok:Nat->Prop} {v:Value} {l:List Int} {b:Nat} (h:zi w ok v l) (D:∀off,w.cell? ⟨b,off,none⟩=none):zi w (fun k=>ok k/\k≠b) v l:=by
 obtain ⟨A,c,e,z,E⟩:=h;exact ⟨A,c,e,z,E.apartO (by decide) D⟩
theorem zq.apartO {w:World} {ok:Nat->Prop} {v:Value} {l:List (List Int)} {b:Nat} (h:zq w ok v l) (z:∀off,w.cell? ⟨b,off,none⟩=none):zq w (fun k=>ok k/\k≠b) v l:=by
 obtain ⟨vs,⟨A,c,e,D,G⟩,he⟩:=h;exact ⟨vs,⟨A,c,e,D,G.apartO (by decide) z⟩,fun i x J=>by obtain ⟨u,I,E⟩:=he i x J;exact ⟨u,I,E.apartO z⟩⟩
theorem En.apartO {w:World} {ok:Nat->Prop} {v:Value} {p:PT} {b:Nat} (h:En w ok v p) (z:∀off,w.cell? ⟨b,off,none⟩=none):En w (fun k=>ok k/\k≠b) v p:=by
 induction h with
 | mk h1 h2 _ ih=>
  obtain ⟨A,c,e,D,E⟩:=h2;exact .mk (h1.apartO z) ⟨A,c,e,D,E.apartO (by decide) z⟩ ih
structure AddX (w:World) (g L:Nat) (m:MZ) (ps:List (List Int)) (t:Nat) (W:World):Prop where
 ext:zb w W
 res:∃vo vs o s,addP m ps t=⟨o,s,.zero,0⟩/\RB W g vo vs (.int .i64 0) (.slice none 0 0) (.slice none 0 0) (.int .i64 0)/\zq W (fun b=>w.heap.size<=b/\b≠L) vo o/\zi W (fun b=>w.heap.size<=b/\b≠L) vs s
theorem AddX.grown {w A B:World} {g L:Nat} {m:MZ} {ps:List (List Int)} {t:Nat} (h:AddX w g L m ps t A) (G:A.grownBy B (some L)) (U:w.heap.size<=L) (O:g+6<L):AddX w g L m ps t B:=by
 obtain ⟨h1,vo,vs,o,s,h2,h3,I,J⟩:=h;have D:∀b,b≠L->b<A.heap.size->B.heap[b]?=A.heap[b]?:=fun b E z=>G.block b z (fun e=>E (Option.some.inj e))
 refine ⟨((zu.of_ext (X:=fun k=>k=L) h1).grown G (fun k T _=>(Option.some.inj T).symm)).below (EN _) (fun b E=>by omega),vo,vs,o,s,h2,⟨?_,?_,?_,?_⟩,I.keep fun b E z=>D b E.2 z,J.keep fun b E z=>D b E.2 z⟩
 ·exact (D _ (by omega) (zd h3.p)).trans h3.p
 ·exact (D _ (by omega) (zd h3.m)).trans h3.m
 ·exact (D _ (by omega) (zd h3.y)).trans h3.y
 ·exact (D _ (by omega) (zd h3.e)).trans h3.e
theorem EI {F:Fence} {ops:Array Oper} {rest:List Oper} {o:Oper} (O:o.guard=none) (W:World) (s x:Operand) {t e:TypeId} {z:Value} {bytes:Nat} (I:ElemI t e z sz bytes)
  (T:o.op=.call { callee:=.builtin .append,args:=#[s,x],argTypes:=#[t,t] }) (base k m:Nat) (l l2:List Value) (v u:Value) (hs:a.eval s=v) (hx:a.eval x=u)
  (E:W.ownsRow base e sz v k l) (hu:zV W ok sz u m l2) (h1:∀u∈l2,u.oneCell'=true) (D:base<=W.heap.size) (G:k+m<=maxLen) (Z:(k+m)*bytes<=140737488355328)
  (h:∀v' w',w'.ownsRow base e sz v' (k+m) (l++l2)->W.grownBy w' v.ownBlock->(v'.ownBlock=v.ownBlock\/v'.ownBlock=some W.heap.size)->wpListIn F n Tryz.prog ops Q rest (a.put o.dst v') w'):wpListIn F n Tryz.prog ops Q (o :: rest) a W:=by
 refine wpListIn_plain O fun K V=>?_
 obtain ⟨v',w',hr,h2,h3,U⟩:=Eo (ok:=ok) W base t o.type e z sz bytes I v k l E u m l2 hu h1 G Z D;unfold Oper.wpIn;refine ⟨?_,?_⟩
 ·simp [Oper.about,T,resolve,Target.leads,Sem.run_pure]
 ·rw [Oper.semAt_plain F _ _ (by rw [T];intro c J;cases J)];simp [execOp,T,resolve,invoke,builtin,hs,hx,hr,Result.andThen];exact V _ _ (h v' w' h2 h3 U)
theorem CP.intssLo {w wr:World} (h:CP w wr g ps) (c:Nat) (E:ps.length<=c):zq wr (fun b=>w.heap.size<=b) (.slice (some ⟨g,0,none⟩) ps.length c) ps:=by
 obtain ⟨vs,D,J,he⟩:=h.row;refine ⟨vs,⟨_,c,rfl,E,by omega,fun _=>⟨g,0,rfl,h.lo,fun j u z=>?_⟩⟩,fun i x I=>by obtain ⟨u,z,G⟩:=he i x I;exact ⟨u,z,G.weaken fun _ h=>h.2⟩⟩;rw [Nat.zero_add];exact D.cell (by simpa using z)
theorem clearP_take {s:List Int} (z:j<s.length):Cu ps (s.take (j+1))=(Cu ps (s.take j)).set (s[j]).toNat []:=by
 unfold Cu;rw [EU z,List.foldl_append];rfl
theorem sub_set (z:k<(AX (Ci ps)).length):((AX (Ci ps)).getD k []).length<=ps.length/\∀x∈(AX (Ci ps)).getD k [],∃i:Nat,x=(i:Int)/\i<ps.length:=by
 have hm:(AX (Ci ps)).getD k []∈AX (Ci ps):=by rw [EM,EL z];exact EO z
 have D:=subsP_sub hm;refine ⟨EP D.length_le (hasTo_len ps ps.length),fun x E=>?_⟩;obtain ⟨i,h1,h2,-⟩:=mem_laidL.1 (D.subset E);exact ⟨i,h2,h1⟩
theorem path_len {t:Int} (h:Br m t o=some p):p.length<=300:=by
 obtain ⟨h0,-,h1⟩:=pathP_ok h;have z:=Bz h1.nd m.n h1.rg;have D:=(zI.of h0).dim.n1;unfold MZ.n at z;omega
theorem set_lens (h:∀x∈o,x.length<=300) (k:Nat) (hp:p.length<=300):∀x∈o.set k p,x.length<=300:=fun x z=>by
 rcases List.mem_or_eq_of_mem_set z with h1 | h1
 ·exact h x h1
 ·rw [h1];exact hp
theorem clear_lens:∀(s:List Int) {ps:List (List Int)},(∀x∈ps,x.length<=300)->∀x∈Cu ps s,x.length<=300
 | [],ps,h=>h
 | k :: s,ps,h=>by
  have:Cu ps (k :: s)=Cu (ps.set k.toNat []) s:=rfl;rw [this];exact clear_lens s (set_lens h _ (by simp))
theorem addP_found (J:AV m ps=true) (O:AM m t=true) (h2:ps.getD t []=[]) (z:k<(AX (Ci ps)).length) (E:∀j,j<k->DD m ps t ((AX (Ci ps)).getD j [])=none)
  (G:DD m ps t ((AX (Ci ps)).getD k [])=some o):addP m ps t=⟨o,(AX (Ci ps)).getD k [],.zero,0⟩:=by
 unfold addP;rw [J,O,FF,EQ h2];simp only [Bool.and_self,if_true]
 have:(AX (Ci ps)).findSome? (fun s=>(DD m ps t s).map fun o=>(o,s))=some (o,(AX (Ci ps)).getD k []):=by
  obtain ⟨L,D⟩:=zak (AX (Ci ps));rw [<-D] at z E G⊢;clear D
  induction L generalizing k with
  | nil=>simp at z
  | cons a L ih=>
   cases k with
   | zero=>
    have I:DD m ps t a=some o:=by simpa using G
    rw [List.findSome?_cons,I];simp
   | succ k=>
    have h0:DD m ps t a=none:=by simpa using E 0 (by omega)
    rw [List.findSome?_cons,h0];simp only [Option.map_none];have:=ih (k:=k) (by simpa using G) (fun j T=>by simpa using E (j+1) (by omega)) (by simpa using z);simpa using this
 rw [this]
theorem addP_search (D:AV m ps=true) (E:AM m t=true) (h2:ps.getD t []=[]) (G:∀j,j<(AX (Ci ps)).length->DD m ps t ((AX (Ci ps)).getD j [])=none):addP m ps t=Bc m ps t:=by
 unfold addP;rw [D,E,FF,EQ h2];simp only [Bool.and_self,if_true]
 have:(AX (Ci ps)).findSome? (fun s=>(DD m ps t s).map fun o=>(o,s))=none:=by
  rw [List.findSome?_eq_none_iff];intro s I;obtain ⟨j,z,rfl⟩:=Fu I;have:=G j z;rw [EM,EL z,Ft] at this;rw [this];rfl
 rw [this]
theorem add_ext {w WZ:World} (G:g=w.heap.size) (D:zb w W) (E:zu (fun k=>g+3<=k/\k<=g+6) W WZ):zb w WZ:=
 ((zu.of_ext (X:=fun k=>g<=k) D).trans E (fun k _ h=>by omega)).below (EN _) (fun b z=>by rw [G] at z;exact z)
theorem hadd_calls (t:Int) (w:World) (hm:zt w okm v m) (hl:Lens m) (hf:zq w okf vf ps) (t8:ps.length<=20000000000000) (m4:∀x∈ps,x.length<=20000000000000):
  Calls Tryz.prog 10 #[v,vf,.int .i64 t] w (AddPost w (addP m ps t)):=by
 have HM:=zh hm;have HL:=zh hl;have HF:=zh hf;obtain ⟨Af,cf,Au,cu,At,ct,rfl,-,-,-⟩:=hm.parts;obtain ⟨vs,⟨Ap,cp,rfl,g9,-⟩,-⟩:=hf;clear hm hl;refine (callsIn_wide (n:=6)).1 ?_;refine callsIn_of_wp_marks Tryz.func10 rfl trivial ?_ rfl;simp only [Tryz.ntmps10,List.size_toArray,zai,zaj,Nat.reduceAdd,Nat.reduceSub,Array.replicate_succ,Array.replicate_zero,List.push_toArray,List.append_toArray,List.nil_append,List.cons_append];refine wpIn_wide.2 ?_;go_upto_region 1 with fail;refine wp_scope_straight ?_;obtain ⟨W7,d9⟩:=zak ((((((((w.alloc (.cells #[.int .i64 m.w,.int .i64 m.h,.int .i64 m.l,.slice Af m.free.length cf,.slice Au m.up.length cu,.slice At m.tasks.length ct] 32)).alloc (.cells #[.slice Ap ps.length cp] 22)).alloc (.cells #[.int .i64 t] 3)).alloc (.cells #[.slice none 0 0] 22)).alloc (.cells #[.slice none 0 0] 23)).alloc (.cells #[.int .i64 0,.slice none 0 0,.slice none 0 0] 37)).alloc (.cells #[.int .i64 0] 38)));rw [<-d9];have l4:zb w W7:=by rw [d9];exact DZ [_,_,_,_,_,_,_] w
 have a0:∀(i:Nat) o,[Obj.cells #[.int .i64 m.w,.int .i64 m.h,.int .i64 m.l,.slice Af m.free.length cf,.slice Au m.up.length cu,.slice At m.tasks.length ct] 32,Obj.cells #[.slice Ap ps.length cp] 22,Obj.cells #[.int .i64 t] 3,Obj.cells #[.slice none 0 0] 22,Obj.cells #[.slice none 0 0] 23,Obj.cells #[.int .i64 0,.slice none 0 0,.slice none 0 0] 37,Obj.cells #[.int .i64 0] 38][i]?=some o->W7.heap[w.heap.size+i]?=some o:=fun i o h=>by rw [d9];exact allocs_at _ w i o h
 clear d9;obtain ⟨g,hg⟩:=zak w.heap.size;rw [<-hg] at a0⊢;have HG:Hid (g=w.heap.size):=hg;have O:=zh l4;have bm:zg W7 g 32 _:=a0 0 _ rfl;have r0:=zb.rule (bm.cell (k:=0) rfl);have r1:=zb.rule (bm.cell (k:=1) rfl);have r2:=zb.rule (bm.cell (k:=2) rfl);have r3:=zb.rule (bm.cell (k:=3) rfl);have r4:=zb.rule (bm.cell (k:=4) rfl);have r5:=zb.rule (bm.cell (k:=5) rfl);have rp:=zb.rule ((show zg W7 (g+1) 22 _ from a0 1 _ rfl).cell (k:=0) rfl);have rt:=zb.rule ((show zg W7 (g+2) 3 _ from a0 2 _ rfl).cell (k:=0) rfl);have b5:Hid (RB W7 g (.slice none 0 0) (.slice none 0 0) (.int .i64 0) (.slice none 0 0) (.slice none 0 0) (.int .i64 0)):=⟨a0 3 _ rfl,a0 4 _ rfl,a0 5 _ rfl,a0 6 _ rfl⟩;clear hg l4 a0 bm;simp only [Nat.add_assoc,Nat.reduceAdd];have hx:zb W7 W7:=zb.refl W7
 go_wp2_with fail
 refine (Eh W7 (HM.out.below O.out) HL.out (HF.out.below O.out) t8 m4).mono ?_;rintro e w8 ⟨rfl,l5⟩;clear hx;have hx:zb W7 w8:=l5;clear l5
 cases a8:AV m ps with
 | false=>
  have a3:Hid (addP m ps t=⟨[],[],.zero,1⟩):=by (show _=_);unfold addP;rw [a8];rfl
  clear a8;have E:=zh (b5.out.ext hx);have s3:=E.out.p.cell (k:=0) rfl;have s4:=E.out.m.cell (k:=0) rfl;have s50:=E.out.y.cell (k:=0) rfl;have s51:=E.out.y.cell (k:=1) rfl;have s52:=E.out.y.cell (k:=2) rfl;have s6:=E.out.e.cell (k:=0) rfl;have f3:=E.out.p.frozen 0;have f4:=E.out.m.frozen 0;have f5:=fun j=>E.out.y.frozen j
  have f6:=E.out.e.frozen 0
  go_wp2_with fail
  refine DP (P:=fun W=>Exit.noGoto (bodyPostM Fence.wide 6 Tryz.prog Tryz.f10 _) Exit.ret _ W) (g:=g) E.out ?_;intro WZ Z hc;have y3:=Z.p.cell (k:=0) rfl;have y4:=Z.m.cell (k:=0) rfl;have y50:=Z.y.cell (k:=0) rfl;have y51:=Z.y.cell (k:=1) rfl;have y52:=Z.y.cell (k:=2) rfl;have y6:=Z.e.cell (k:=0) rfl;refine ⟨.tuple #[.slice none 0 0,.slice none 0 0,.agg #[.int .i64 0,.slice none 0 0,.slice none 0 0],.int .i64 1],by simp [results,Tryz.results10,go_sem,y3,y4,y50,y51,y52,y6],?_⟩;rw [a3.out];exact ⟨_,_,_,rfl,add_ext HG.out (O.out.trans hx) hc,Da _ _,zi.nil _ _,En.zero _ _⟩
 | true=>
  go_wp2_with fail
  refine (Ew t w8 (HM.out.below (O.out.trans hx)) HL.out).mono ?_;rintro e w9 ⟨rfl,l6⟩;have hx:zb W7 w9:=hx.trans l6;clear l6
  cases c6:AM m t with
  | false=>
   have a3:Hid (addP m ps t=⟨[],[],.zero,1⟩):=by (show _=_);unfold addP;rw [a8,c6];rfl
   clear a8 c6;have E:=zh (b5.out.ext hx);have s3:=E.out.p.cell (k:=0) rfl;have s4:=E.out.m.cell (k:=0) rfl;have s50:=E.out.y.cell (k:=0) rfl;have s51:=E.out.y.cell (k:=1) rfl;have s52:=E.out.y.cell (k:=2) rfl;have s6:=E.out.e.cell (k:=0) rfl;have f3:=E.out.p.frozen 0;have f4:=E.out.m.frozen 0;have f5:=fun j=>E.out.y.frozen j
   have f6:=E.out.e.frozen 0
   go_wp2_with fail
   refine DP (P:=fun W=>Exit.noGoto (bodyPostM Fence.wide 6 Tryz.prog Tryz.f10 _) Exit.ret _ W) (g:=g) E.out ?_;intro WZ Z hc;have y3:=Z.p.cell (k:=0) rfl;have y4:=Z.m.cell (k:=0) rfl;have y50:=Z.y.cell (k:=0) rfl;have y51:=Z.y.cell (k:=1) rfl;have y52:=Z.y.cell (k:=2) rfl;have y6:=Z.e.cell (k:=0) rfl;refine ⟨.tuple #[.slice none 0 0,.slice none 0 0,.agg #[.int .i64 0,.slice none 0 0,.slice none 0 0],.int .i64 1],by simp [results,Tryz.results10,go_sem,y3,y4,y50,y51,y52,y6],?_⟩;rw [a3.out];exact ⟨_,_,_,rfl,add_ext HG.out (O.out.trans hx) hc,Da _ _,zi.nil _ _,En.zero _ _⟩
  | true=>
   obtain ⟨m1,i0,-⟩:=AS.1 a8;obtain ⟨-,v4,v6⟩:=Be.1 c6;obtain ⟨tn,rfl⟩:∃tn:Nat,t=tn:=⟨t.toNat,by omega⟩;have G:=zh (zI.of m1);have v8:=G.out.tk;have y2:ps.length<=6:=by omega
   have d4:tn<ps.length:=by omega
   obtain ⟨vs,⟨A',c',e,-,i4⟩,h5⟩:=HF.out;injection e with e1 e2 e3;subst e1 e3;obtain ⟨bp,offp,up,rfl,-,e9,o1⟩:=zO i4 h5 d4 d4;have h9:ps.getD tn []=ps[tn]:=zgd d4
   have q9:=zh i4;have p8:=zh h5;obtain ⟨q,hq⟩:=zak (ps[tn]);rw [<-hq] at o1 h9;have g0:=zh h9;obtain ⟨Aq,cq,rfl,-,-⟩:=o1;have rq:=zb.rule (O.out.cell e9);have n9:(0:Int)<=(tn:Int):=by omega
   have v7:(tn:Int)<(ps.length:Int):=by omega
   have d7:=zh a8;have f8:=zh c6;have w7:=m4;clear a8 c6 m1 i0 v4 v6 v8 i4 h5 e9 h9 hq;by_cases b0:q=[]
   ·have n5:(0:Int)<(q.length:Int)↔False:=by rw [b0];simp
    have f0:q.length=0:=by rw [b0];rfl
    have g4:Hid (ps.getD tn []=[]):=by (show _=_);rw [g0.out,b0]
    have c4:Hid (∀x∈ps,x.length<=300):=laid_lens d7.out;clear n5 b0 g0
    go_wp2_with fail
    have s8:=zh hx;have j8:=zh (Mk.nil w9);have s0:Hid (tn<ps.length):=d4;clear f0 hx d4 v7 n9;go_loopw [10,42] (fun v i wr=>∃k:Nat,k<=ps.length/\i=.int .i64 (k:Nat)/\Hid (Mk w9 wr v (Dz ps k))) (fun _ i _=>ps.length - (intOf i).toNat)
    case atStart=>exact ⟨0,Fb _,rfl,j8.out⟩
    clear j8
    case round=>
     obtain ⟨k,hk,rfl,hM⟩:=hrel;obtain ⟨wk,rfl⟩:∃wk:World,wk=wr:=⟨_,rfl⟩;have hx:zb W7 wk:=s8.out.trans hM.out.ext;by_cases J:k<ps.length
     ·obtain ⟨bk,offk,uk,ebk,-,e8,o0⟩:=zO q9.out p8.out J J;injection ebk with ebk;injection ebk with eb1 eb2;subst eb1 eb2;have h8:ps.getD k []=ps[k]:=zgd J
      obtain ⟨x,o6⟩:=zak (ps[k]);rw [<-o6] at o0 h8;have f9:=zh h8;obtain ⟨Ak,ck,rfl,-,-⟩:=o0;have rk:=zb.rule (O.out.cell e8);have x9:(k:Int)<(ps.length:Int):=by omega
      have x0:(0:Int)<=(k:Int):=by omega
      clear e8 h8 o6;have t7:=hasTo_len ps k;by_cases b9:x=[]
      ·have o5:x.length=0:=by rw [b9];rfl
       have HS:Hid (Dz ps (k+1)=Dz ps k):=hasTo_f (by rw [f9.out,b9]);clear b9
       go_wp2_with fail
       go_roundw
       case rel=>exact ⟨k+1,by omega,by go_num,by rw [HS.out];exact hM⟩
       case measure=>simp [intOf];omega
      ·have z2:(0:Int)<(x.length:Int):=by
        have:x.length≠0:=fun h=>b9 (Fe h)
        omega
       have o5:0<x.length:=by omega
       have HS:Hid (Dz ps (k+1)=Dz ps k++[(k:Int)]):=hasTo_t (by rw [f9.out];exact b9);clear b9;obtain ⟨l,n0⟩:=zak (Dz ps k);rw [<-n0] at hM t7 HS;clear n0;have z1:=hM.out.ext.size
       go_wp2_with (at_builtin;refine AP rfl _ _ rfl _ l k w9.heap.size wk.heap.size 1 _ rfl rfl (hM.out.own.alloc _) ?d1 ?d2 ?d3 ?_)
       (try case d1=>exact zr _ _ _ (by simp))
       (try case d2=>(first | (simp;done) | (simp;omega) | omega))
       (try case d3=>omega)
       intro v' wb n2 m5 t2;have t1:=zh ((hM.out.alloc _).app n2 m5);clear n2 m5 t2;go_wp2;go_roundw
       case rel=>exact ⟨k+1,by omega,by go_num,by rw [HS.out];exact t1⟩
       case measure=>simp [intOf];omega
     ·obtain rfl:k=ps.length:=by omega
      have t0:Hid (Dz ps ps.length=Ci ps):=rfl;have t6:=hasTo_len ps ps.length;have hI:=hM.out.ints;have j9:Hid (zi wk (fun _=>True) u10 (Ci ps)):=hI.weaken fun _ _=>trivial
      have e4:=subsets_calls wk j9.out (by rw [<-t0.out];omega);clear hI
      go_wp2_with fail
      refine wp_label ?_
      go_wp2_with fail
      refine e4.mono ?_;rintro e w0 ⟨gl,rfl,b6,m6⟩;have p9:=zh m6;have a6:Hid (zb W7 w0):=hx.trans b6;clear e4 m6 b6 hx hM j9 t6;have d6:Hid (g+6<w0.heap.size):=zd (b5.out.ext a6.out).e
      go_wp2_with fail
      refine (wpIn_wide (n:=6)).1 ?_
      refine wpIn_loopX (gf:=72) (lb:=#[.pointer (some ⟨gl,0,none⟩)]) rfl (enters_of Tryz.func72 (by kernel_rfl) rfl) (p9.out w0 (zb.refl w0) _) (zb.refl w0) (fun _=>rfl)
       (fun k W=>zb w0 W/\∀j,j<k->DD m ps tn ((AX (Ci ps)).getD j [])=none)
       (fun c W=>c=.ret/\AddX w g (w0.heap.size+1) m ps tn W)
       ?hI ?hIx ?hG ⟨zb.refl w0,fun _ h=>absurd h (by omega)⟩ ?a1 ?assign ?body ?done ?stop
      case assign=>
       intro l x W K hK
       gi_wp2
       exact hK
      case hI=>
       rintro k A B ⟨h1,h2⟩ g8;exact ⟨Below.trans h1 g8,h2⟩
      case hIx=>
       rintro c A B ⟨rfl,h⟩ g8;have h1:=(O.out.trans a6.out).size;exact ⟨rfl,h.grown g8 (by omega) (by have:=d6.out;omega)⟩
      case hG=>
       rintro k x A l h1 y0 y1 ⟨r,hr⟩ o;exact ((h1.apart hr).keep fun b U J=>World.putObj_heap_other U.2).weaken fun _ h=>h.1
      case body=>
       rintro l k x W hk ⟨b6,a4⟩ hs v3 ⟨rl,i3⟩;have i5:=hs.apart i3;obtain ⟨e4,i7⟩:=sub_set hk;obtain ⟨s,i6⟩:=zak ((AX (Ci ps)).getD k []);rw [<-i6] at hs i5 e4 i7;have g5:=zh i6;have k8:=zh i7;have k5:=zh i5;have e5:=zh a4;have q3:=zh hk;have r9:Hid (w0.heap.size+1<W.heap.size):=zd i3;obtain ⟨As,cs,rfl,-,n6⟩:=hs;have r6:=zh n6;have p6:=zh b6;have hx:zb W7 W:=a6.out.trans b6;have g7:=zh hx;have g9:=copied_calls W (HF.out.below (O.out.trans hx)) (by omega) (fun x hx=>by have:=c4.out x hx;omega);clear i6 i5 i7 a4 hk v3 i3 n6 b6
       gi_wp2_with fail
       refine ⟨trivial,?_⟩;refine (CallsIn.inRound l (callsIn_wide.2 g9)).mono ?_;rintro e W1 ⟨go,rfl,l2⟩;have p4:=zh l2;clear g9 l2 hx
       gi_wp2_with fail
       gi_loopw [62] (fun i wr=>∃j:Nat,j<=s.length/\i=.int .i64 j/\Hid (CP W wr go (Cu ps (s.take j)))) (fun i _=>s.length - (intOf i).toNat)
       case atStart=>exact ⟨0,Fb _,rfl,p4.out⟩
       case round=>
        obtain ⟨j,hj,rfl,hC⟩:=hrel;obtain ⟨wj,rfl⟩:∃wj:World,wj=wr:=⟨_,rfl⟩;by_cases J:j<s.length
        ·obtain ⟨bs,offs,rfl,-,c7⟩:=zy r6.out J J;obtain ⟨i,hi,h7⟩:=k8.out _ (EO J);have c8:=clearP_take (ps:=ps) J;rw [hi] at c7;rw [hi,FF] at c8;have j5:=zh c8;have x5:wj.cell? ⟨bs,offs+j,none⟩=some (.int .i64 i):=hC.out.ext.cell c7;have t5:(j:Int)<(s.length:Int):=by omega
         have m9:(0:Int)<=(j:Int):=by omega
         have t4:(i:Int)<(ps.length:Int):=by omega
         have m8:(0:Int)<=(i:Int):=by omega
         obtain ⟨uo,m2,m3,-⟩:=hC.out.at_ (k:=i) (by rw [clearP_len];exact h7)
         have f1:Hid (CP W (wj.setCell ⟨go,i,none⟩ (.slice none 0 0)) go (Cu ps (s.take (j+1)))):=by
          (show CP _ _ _ _)
          rw [j5.out];exact hC.out.set i (zi.nil _ _)
         clear c8 hi c7
         gi_wp2_with fail
         go_roundw
         case rel=>exact ⟨j+1,by omega,by go_num,f1.out⟩
         case measure=>simp [intOf];omega
        ·obtain rfl:j=s.length:=by omega
         have b4:Hid (CP W wj go (Cu ps s)):=by have:=hC.out;rwa [EY] at this
         have j4:Hid (∀x∈Cu ps s,x.length<=300):=clear_lens s c4.out;clear hC;have v9:zb W7 wj:=g7.out.trans b4.out.ext;have n8:zi wj (fun _=>True) (.slice As s.length cs) s:=k5.out.below b4.out.ext |>.weaken fun _ _=>trivial
         have k7:=zh n8;have hO:=ownOne wj wj.heap.size 3 (.int .i64 tn) (EN _);have HO:=zh hO;have j7:Hid (go<wj.heap.size/\W.heap.size<=go):=⟨b4.out.lt,b4.out.lo⟩;clear n8 hO
         gi_wp2_with (gi_at_builtin;refine EI (ok:=fun _=>True) rfl _ _ _ eInt rfl wj.heap.size 1 s.length [.int .i64 tn] (s.map (Value.int .i64)) _ _ rfl rfl HO.out (k7.out.below ((zb.refl wj).alloc _)) (fun u hu=>by obtain ⟨z,-,rfl⟩:=zac.1 hu;rfl) (by simp) (by unfold maxLen;omega) (by omega) ?_)
         intro vt w2 ho hg hv;have a7:zb wj w2:=((zu.of_ext (X:=fun k=>wj.heap.size<=k) ((zb.refl wj).alloc _)).grown hg (fun k hk _=>by have h:some wj.heap.size=some k:=hk;injection h with h;omega)).below (EN _) (fun b U=>U);obtain ⟨T,hT⟩:∃T:List Int,T=(tn:Int) :: s:=⟨_,rfl⟩
         have l8:zi w2 (fun b=>wj.heap.size<=b) vt T:=by
          have h:=zV.of_own ho;rw [hT];unfold zi;rw [zai,Nat.add_comm];exact h
         have x3:=zh l8
         have s1:Hid (∀x∈T,∃i:Nat,x=(i:Int)/\i<ps.length):=fun x hx=>by
          rw [hT] at hx;rcases FD.1 hx with rfl | hx
          ·exact ⟨tn,rfl,s0.out⟩
          ·exact k8.out x hx
         have k4:Hid (DD m ps tn s=pushL m (T.drop 0) (Cu ps s)):=by (show _=_);rw [hT];rfl
         have l9:T.length=s.length+1:=by rw [hT];rfl
         have j2:=zh (b4.out.more a7);have k2:Hid ((Cu ps s).length=ps.length):=clearP_len s ps;obtain ⟨AT,cT,rfl,-,n7⟩:=l8;have r7:=zh n7;have j5:=zh l9;have x4:T.length<=7:=by omega
         clear ho hg hv hT l9 n7 v9 b4 k7 HO;have p7:=zh a7;clear a7
         gi_wp2_with fail
         gi_loopw [75] (fun i wr=>∃(j:Nat) (o:List (List Int)),j<=T.length/\i=.int .i64 j/\Hid (CP W wr go o)/\Hid (o.length=ps.length)/\Hid (∀x∈o,x.length<=300)/\Hid (DD m ps tn s=pushL m (T.drop j) o)/\Hid (zu (fun b=>b=go) w2 wr)) (fun i _=>T.length - (intOf i).toNat)
         case atStart=>exact ⟨0,_,Fb _,rfl,j2.out,k2.out,j4.out,k4.out,zu.refl _ _⟩
         clear j2 k2 j4 k4
         case round=>
          obtain ⟨j,o,hj,rfl,hC,a9,n3,i2,e0⟩:=hrel;obtain ⟨wq,rfl⟩:∃wq:World,wq=wr:=⟨_,rfl⟩;have hx:zb W7 wq:=g7.out.trans hC.out.ext;by_cases b3:j<T.length
          ·obtain ⟨bt,offt,rfl,t3,c9⟩:=zy r7.out b3 b3;obtain ⟨i,hi,h7⟩:=s1.out _ (EO b3);have k9:Hid (T.drop j=(i:Int) :: T.drop (j+1)):=by (show _=_);rw [List.drop_eq_getElem_cons b3,hi]
           rw [hi] at c9;have c8:wq.cell? ⟨bt,offt+j,none⟩=some (.int .i64 i):=e0.out.cellk c9 (by have h1:=j7.out;show ¬ (bt=go);omega);have t5:(j:Int)<(T.length:Int):=by omega
           have m9:(0:Int)<=(j:Int):=by omega
           have t4:(i:Int)<(ps.length:Int):=by omega
           have m8:(0:Int)<=(i:Int):=by omega
           have k3:Hid (Calls Tryz.prog 18 #[.agg #[.int .i64 m.w,.int .i64 m.h,.int .i64 m.l,.slice Af m.free.length cf,.slice Au m.up.length cu,.slice At m.tasks.length ct],.int .i64 i,.slice (some ⟨go,0,none⟩) ps.length ps.length] wq fun e w'=>∃v',e=.returned (.tuple #[v',.bool (Br m i o).isSome])/\Mk wq w' v' ((Br m i o).getD [])):=by
            (show Calls _ _ _ _ _)
            have h:=hC.out.intss ps.length (by rw [a9.out];exact EN _);rw [a9.out] at h;exact Ej i wq (HM.out.below (O.out.trans hx)) HL.out h (by have:=a9.out;omega) (fun x hx=>by have:=n3.out x hx;omega)
           clear c9 hi t3
           gi_wp2_with fail
           refine ⟨trivial,?_⟩;refine (CallsIn.inRound l (callsIn_wide.2 k3.out)).mono ?_;rintro e w5 ⟨v5,rfl,d8⟩;have l1:Hid (zb wq w5):=d8.ext;have f2:=zh d8.ints;obtain ⟨A5,c5,rfl,-⟩:=d8.slice;have d5:=zh (hC.out.more l1.out);have e6:Hid (zu (fun b=>b=go) w2 w5):=e0.out.trans (zu.of_ext (X:=fun b=>b=go) l1.out) (fun _ _ h=>h);obtain ⟨po,i1⟩:=zak (Br m i o);rw [<-i1] at f2⊢;have g3:=zh i1;have s7:Hid (w2.heap.size<=wq.heap.size):=e0.out.size;clear d8 k3 i1 e0 hC c8
           cases po with
           | none=>
            have q5:Hid (DD m ps tn s=none):=by
             (show _=_)
             rw [i2.out,k9.out];unfold pushL;rw [<-g3.out]
            simp only [Option.isSome_none,Option.getD_none,zaj]
            gi_wp2_with fail
            refine ⟨d5.out.ext,p6.out.trans d5.out.ext,fun j' x8=>?_⟩;rcases Fk j' k with h | h
            ·exact e5.out j' h
            ·obtain rfl:j'=k:=by omega
             rw [<-g5.out];exact q5.out
           | some p=>
            have q7:Hid (p.length<=300):=path_len g3.out.symm;simp only [Option.isSome_some,Ft] at f2⊢;obtain ⟨uo,m2,m3,-⟩:=d5.out.at_ (k:=i) (by rw [a9.out];exact h7);have f1:Hid (CP W (w5.setCell ⟨go,i,none⟩ (.slice A5 p.length c5)) go (o.set i p)):=d5.out.set i (f2.out.weaken fun b U=>by have h1:=j7.out;have h2:=e6.out.size;have h3:=p7.out.size;have h4:=s7.out;omega);have j3:Hid (zu (fun b=>b=go) w2 (w5.setCell ⟨go,i,none⟩ (.slice A5 p.length c5))):=e6.out.set go i _ rfl
            have q8:Hid (DD m ps tn s=pushL m (T.drop (j+1)) (o.set i p)):=by
             (show _=_)
             rw [i2.out,k9.out]
             conv=>lhs;unfold pushL
             rw [<-g3.out];simp
            gi_wp2_with fail
            go_roundw
            case rel=>exact ⟨j+1,o.set i p,by omega,by go_num,f1.out,by rw [List.length_set];exact a9.out,set_lens n3.out i q7.out,q8.out,j3.out⟩
            case measure=>simp [intOf];omega
          ·obtain rfl:j=T.length:=by omega
           have r8:Hid (DD m ps tn s=some o):=by
            (show _=_)
            rw [i2.out,List.drop_length];rfl
           have c0:Hid (addP m ps tn=⟨o,s,.zero,0⟩):=by
            (show _=_)
            rw [addP_found d7.out f8.out g4.out q3.out e5.out (by rw [<-g5.out];exact r8.out),<-g5.out]
           have I:=zh (b5.out.ext hx);have g6:=zh hx;clear hx;have s3:=I.out.p.cell (k:=0) rfl;have s4:=I.out.m.cell (k:=0) rfl;have s50:=I.out.y.cell (k:=0) rfl;have s51:=I.out.y.cell (k:=1) rfl;have s52:=I.out.y.cell (k:=2) rfl;have s6:=I.out.e.cell (k:=0) rfl;have f3:=I.out.p.frozen 0;have f4:=I.out.m.frozen 0;have f5:=fun j=>I.out.y.frozen j
           have f6:=I.out.e.frozen 0
           gi_wp2_with fail
           refine DP (P:=fun W'=>postB _ _ _ _ W Exit.ret _ W') (g:=g) I.out ?_;intro WZ Z hc;have m7:=d6.out;have z0:=r9.out;refine ⟨fun b h1 h2=>(hc.block b (Fq h2 hC.out.ext.size) (by omega)).trans (hC.out.ext.block b h2),rfl,add_ext HG.out (O.out.trans g6.out) hc,_,_,o,s,c0.out,Z,?_,?_⟩
           ·have h:=hC.out.intssLo ps.length (by rw [a9.out];exact EN _);rw [a9.out] at h;exact (h.keep fun b U J=>hc.block b J (by omega)).weaken fun b U=>by have h1:=(O.out.trans g7.out).size;omega
           ·exact ((k5.out.below hC.out.ext).keep fun b U J=>hc.block b J (by omega)).weaken fun b U=>⟨by have h1:=(O.out.trans a6.out).size;omega,U.2⟩
      case done=>
       rintro D Wd hD ⟨hE,a4⟩ hK;have c0:Hid (addP m ps tn=Bc m ps tn):=addP_search d7.out f8.out g4.out a4;have hx:zb W7 Wd:=a6.out.trans hE;have s5:Hid (w0.heap.size<=Wd.heap.size/\w.heap.size<=Wd.heap.size):=⟨hE.size,(O.out.trans hx).size⟩;have k6:=zh (searched_calls tn Wd (HM.out.below (O.out.trans hx)) HL.out (HF.out.below (O.out.trans hx)) (fun x hx=>by have:=c4.out x hx;omega) d7.out f8.out g4.out);have f9:=zh hK;have p5:Hid (w0.heap.size<=D):=hD;have g6:=zh hx;clear a4 hE hD
       go_wp2_with fail
       refine k6.out.mono ?_;rintro e W2 ⟨vp,vm,vw,rfl,a7,n4,n1,i8⟩;have q6:=zh n4;have q4:=zh n1;have s2:=zh i8;have l0:=zh (g6.out.trans a7);have f7:Hid (W2.heap[D]?=some (.deferred (some []))):=(a7.block D (zd hK)).trans hK;obtain ⟨_,⟨Avp,cvp,rfl,-,-⟩,-⟩:=n4;obtain ⟨Avm,cvm,rfl,-,-⟩:=n1;obtain ⟨Aw,cw,Akw,ckw,rfl,-⟩:=i8.form;have I:=zh (b5.out.ext l0.out);clear a7 i8 hK hx k6;have s3:=I.out.p.cell (k:=0) rfl;have s4:=I.out.m.cell (k:=0) rfl;have s50:=I.out.y.cell (k:=0) rfl;have s51:=I.out.y.cell (k:=1) rfl;have s52:=I.out.y.cell (k:=2) rfl;have s6:=I.out.e.cell (k:=0) rfl;have f3:=I.out.p.frozen 0;have f4:=I.out.m.frozen 0;have f5:=fun j=>I.out.y.frozen j
       have f6:=I.out.e.frozen 0
       go_wp2_with fail
       refine DP (P:=fun W'=>Exit.noGoto (bodyPostM Fence.wide 6 Tryz.prog Tryz.f10 _) Exit.ret _ W') (g:=g) I.out ?_;intro W V hc;have m7:=d6.out;have x6:=p5.out;have hK:W.heap[D]?=some (.deferred (some [])):=(hc.block D (zd f7.out) (by omega)).trans f7.out;refine ⟨by simp,.inl ⟨_,_,rfl,run_takeDeferred hK,?_⟩⟩;have b8:∀off,W2.cell? ⟨D,off,none⟩=none:=fun off=>by unfold World.cell?;simp only [f7.out]
       have hS:∀b,b≠D->(W.putObj D (.deferred none)).heap[b]?=W.heap[b]?:=fun b U=>World.putObj_heap_other U
       have y3:=(show zg (W.putObj D (.deferred none)) (g+3) _ _ from (hS _ (by omega)).trans V.p).cell (k:=0) rfl;have y4:=(show zg (W.putObj D (.deferred none)) (g+4) _ _ from (hS _ (by omega)).trans V.m).cell (k:=0) rfl;have y50:=(show zg (W.putObj D (.deferred none)) (g+5) _ _ from (hS _ (by omega)).trans V.y).cell (k:=0) rfl;have y51:=(show zg (W.putObj D (.deferred none)) (g+5) _ _ from (hS _ (by omega)).trans V.y).cell (k:=1) rfl;have y52:=(show zg (W.putObj D (.deferred none)) (g+5) _ _ from (hS _ (by omega)).trans V.y).cell (k:=2) rfl;have y6:=(show zg (W.putObj D (.deferred none)) (g+6) _ _ from (hS _ (by omega)).trans V.e).cell (k:=0) rfl;refine ⟨.tuple #[.slice Avp (Bc m ps tn).ps.length cvp,.slice Avm (Bc m ps tn).mv.length cvm,.agg #[.int .i64 (Bc m ps tn).why.task,.slice Aw (Bc m ps tn).why.side.length cw,.slice Akw (Bc m ps tn).why.kids.length ckw],.int .i64 (Bc m ps tn).err],by simp [results,Tryz.results10,go_sem,y3,y4,y50,y51,y52,y6],?_⟩;rw [c0.out];have y9:=s5.out;have hq:∀b,Wd.heap.size<=b/\b≠D->b<W2.heap.size->(W.putObj D (.deferred none)).heap[b]?=W2.heap[b]?:=fun b U J=>(hS b U.2).trans (hc.block b J (by omega))
       refine ⟨_,_,_,rfl,?_,?_,?_,?_⟩
       ·exact Below.trans (add_ext HG.out (O.out.trans l0.out) hc) (belowK_b (w:=w) (EN _) _ D _ _ (by have:=(O.out.trans a6.out).size;omega) hK rfl rfl)
       ·exact ((q6.out.apartO b8).keep fun b U J=>hq b U J).weaken fun b U=>by omega
       ·exact ((q4.out.apartO b8).keep fun b U J=>hq b U J).weaken fun b U=>by omega
       ·exact (s2.out.apartO b8).keepW (fun b U J=>hq b U J) fun b U=>by omega
      case stop=>
       rintro D c W hD ⟨rfl,⟨hE,vo,vs',o,s,m0,V,o3,o4⟩⟩ hK
       gi_wp2
       refine ⟨by simp,.inl ⟨_,_,rfl,run_takeDeferred hK,?_⟩⟩;have b8:∀off,W.cell? ⟨D,off,none⟩=none:=fun off=>by unfold World.cell?;simp only [hK]
       have m7:=d6.out;have hS:∀b,b≠D->(W.putObj D (.deferred none)).heap[b]?=W.heap[b]?:=fun b U=>World.putObj_heap_other U
       have y3:=(show zg (W.putObj D (.deferred none)) (g+3) _ _ from (hS _ (by omega)).trans V.p).cell (k:=0) rfl;have y4:=(show zg (W.putObj D (.deferred none)) (g+4) _ _ from (hS _ (by omega)).trans V.m).cell (k:=0) rfl;have y50:=(show zg (W.putObj D (.deferred none)) (g+5) _ _ from (hS _ (by omega)).trans V.y).cell (k:=0) rfl;have y51:=(show zg (W.putObj D (.deferred none)) (g+5) _ _ from (hS _ (by omega)).trans V.y).cell (k:=1) rfl;have y52:=(show zg (W.putObj D (.deferred none)) (g+5) _ _ from (hS _ (by omega)).trans V.y).cell (k:=2) rfl;have y6:=(show zg (W.putObj D (.deferred none)) (g+6) _ _ from (hS _ (by omega)).trans V.e).cell (k:=0) rfl;obtain ⟨_,⟨Avp,cvp,rfl,-,-⟩,-⟩:=id o3;obtain ⟨Avm,cvm,rfl,-,-⟩:=id o4;refine ⟨.tuple #[.slice Avp o.length cvp,.slice Avm s.length cvm,.agg #[.int .i64 0,.slice none 0 0,.slice none 0 0],.int .i64 0],by simp [results,Tryz.results10,go_sem,y3,y4,y50,y51,y52,y6],?_⟩;rw [m0];refine ⟨_,_,_,rfl,?_,?_,?_,En.zero _ _⟩
       ·exact Below.trans hE (belowK_b (w:=w) (EN _) _ D _ _ (by have:=(O.out.trans a6.out).size;omega) hK rfl rfl)
       ·exact ((o3.apartO b8).keep fun b U _=>hS b U.2).weaken fun _ h=>h.1.1
       ·exact ((o4.apartO b8).keep fun b U _=>hS b U.2).weaken fun _ h=>h.1.1
   ·have n5:(0:Int)<(q.length:Int):=by
     have:q.length≠0:=fun h=>b0 (Fe h)
     omega
    have f0:0<q.length:=by omega
    have a3:Hid (addP m ps (tn:Int)=⟨[],[],.zero,1⟩):=by
     (show _=_)
     unfold addP;rw [FF,g0.out,ER b0,Bool.and_false,Bool.and_false];rfl
    clear b0;have E:=zh (b5.out.ext hx);have s3:=E.out.p.cell (k:=0) rfl;have s4:=E.out.m.cell (k:=0) rfl;have s50:=E.out.y.cell (k:=0) rfl;have s51:=E.out.y.cell (k:=1) rfl;have s52:=E.out.y.cell (k:=2) rfl;have s6:=E.out.e.cell (k:=0) rfl;have f3:=E.out.p.frozen 0;have f4:=E.out.m.frozen 0;have f5:=fun j=>E.out.y.frozen j
    have f6:=E.out.e.frozen 0
    go_wp2_with fail
    refine DP (P:=fun W=>Exit.noGoto (bodyPostM Fence.wide 6 Tryz.prog Tryz.f10 _) Exit.ret _ W) (g:=g) E.out ?_;intro WZ Z hc;have y3:=Z.p.cell (k:=0) rfl;have y4:=Z.m.cell (k:=0) rfl;have y50:=Z.y.cell (k:=0) rfl;have y51:=Z.y.cell (k:=1) rfl;have y52:=Z.y.cell (k:=2) rfl;have y6:=Z.e.cell (k:=0) rfl;refine ⟨.tuple #[.slice none 0 0,.slice none 0 0,.agg #[.int .i64 0,.slice none 0 0,.slice none 0 0],.int .i64 1],by simp [results,Tryz.results10,go_sem,y3,y4,y50,y51,y52,y6],?_⟩;rw [a3.out];exact ⟨_,_,_,rfl,add_ext HG.out (O.out.trans hx) hc,Da _ _,zi.nil _ _,En.zero _ _⟩
end
section
open Go.RowKit
attribute [local go_sem ↓] Go.wp_at_zero Go.wp_at_succ
theorem Ev {okw okq:Nat->Prop} {vw vq:Value} {want:List (List Int)} {mv:List Int} (t:Int) (w:World) (hm:zt w okm v m) (hl:Lens m) (hf:zq w okf vf ps) (b6:ps.length<=20000000000000) (b5:∀x∈ps,x.length<=20000000000000) (hw:zq w okw vw want) (c4:want.length<=20000000000000) (c5:∀x∈want,x.length<=20000000000000) (hq:zi w okq vq mv) (b8:mv.length<=20000000000000) (a1:(addP m ps t).ps.length<=20000000000000) (a4:∀x∈(addP m ps t).ps,x.length<=20000000000000) (a3:(addP m ps t).mv.length<=20000000000000):
  Calls Tryz.prog 34 #[v,vf,.int .i64 t,vw,vq] w fun e w'=>e=.returned (.bool (decide ((addP m ps t).err=0) && (decide ((addP m ps t).ps=want) && decide ((addP m ps t).mv=mv))))/\zb w w':=by
 have HM:=zh hm;have HF:=zh hf;have b3:=zh hw;have HQ:=zh hq
 go_enter Tryz.func34,Tryz.ntmps34
 obtain ⟨r,hr⟩:=zak (addP m ps t);rw [<-hr] at a1 a4 a3⊢;obtain ⟨b1,G⟩:∃b,b=decide (r.ps=want):=⟨_,rfl⟩;obtain ⟨b2,I⟩:∃b,b=decide (r.mv=mv):=⟨_,rfl⟩;rw [<-G,<-I];have a7:Hid (b1=decide (r.ps=want)):=G;have a8:Hid (b2=decide (r.mv=mv)):=I;clear G I;have HR:=zh hr;clear hr
 have a0:Hid (∀W,zb w W->Calls Tryz.prog 10 #[v,vf,.int .i64 t] W (AddPost W r)):=fun W hE=>by
  have h:=hadd_calls t W (hm.below hE) hl (hf.below hE) b6 b5;rw [<-HR.out] at h;exact h
 obtain ⟨Am,cm,Au,cu,At,ct,rfl,-,-,-⟩:=hm.parts;obtain ⟨_,⟨Ap,cp,rfl,-,-⟩,-⟩:=id hf;obtain ⟨_,⟨Aw,cw,rfl,-,-⟩,-⟩:=id hw;obtain ⟨Aq,cq,rfl,-,-⟩:=id hq;clear hm hf hw hq
 go_wp2_with fail
 refine (a0.out _ ((zb.refl w).alloc _)).mono ?_;rintro e w2 ⟨vp,vmm,vy,rfl,V,O,J,a5⟩;obtain ⟨As,cs,Ak,ck,rfl,-⟩:=a5.form;have Z:zb w w2:=((zb.refl w).alloc _).trans V;have b0:=zh O;have a9:=zh J;have z:=zh Z;obtain ⟨_,⟨Bp,dp,rfl,-,-⟩,-⟩:=id O;obtain ⟨Bm,dm,rfl,-,-⟩:=id J;clear O J a5 V Z;have E:∀o,zb w2 (w2.alloc o):=fun o=>(zb.refl w2).alloc o
 by_cases h0:r.err=0
 ·rw [h0]
  go_wp2_with fail
  refine (samePaths_calls _ (b0.out.below (E _)) (b3.out.below (z.out.trans (E _))) a1 c4 a4 c5).mono ?_;rw [<-a7.out];rintro e w3 ⟨rfl,T⟩;have D:zb w2 w3:=(E _).trans (T.below _);clear T;cases b1
  ·go_wp2;refine FK (v:=.bool false) (by simp [results,Tryz.results34,go_sem]) rfl ?_;exact ⟨by simp,z.out.trans D⟩
  ·go_wp2_with fail
   refine (Ck _ (a9.out.below D) (HQ.out.below (z.out.trans D)) a3 b8).mono ?_;rw [<-a8.out];rintro e w4 ⟨rfl,U⟩;have b4:zb w2 w4:=D.trans (U.below _);clear U D;go_wp2;refine FK (v:=.bool b2) (by simp [results,Tryz.results34,go_sem]) rfl ?_;exact ⟨by simp [h0],z.out.trans b4⟩
 ·have c9:decide (r.err=0)=false:=by simp [h0]
  go_wp2;refine FK (v:=.bool false) (by simp [results,Tryz.results34,go_sem]) rfl ?_;exact ⟨by simp [h0],z.out.trans (E _)⟩
def exN (l:List (Int×Int)):MZ:=⟨3,3,1,List.replicate l.length exFree,List.replicate 9 false,l.map fun x=>([x.1],[x.2])⟩
def exC:Array Value:=#[.bool true,.bool true,.bool true,.bool true,.bool false,.bool true,.bool true,.bool true,.bool true]
def upC:Array Value:=#[.bool false,.bool false,.bool false,.bool false,.bool false,.bool false,.bool false,.bool false,.bool false]
structure XI (B:Nat) (w:World) (gm gu nF:Nat) (vF vT:Value) (fs ts:List Value) (l:List (Int×Int)):Prop where
 hB:B<=w.heap.size
 gm0:B<=gm
 gu0:B<=gu
 mz:zg w gm 32 #[.int .i64 3,.int .i64 3,.int .i64 1,vF,.slice (some ⟨gu,0,none⟩) 9 9,vT]
 up:zg w gu 4 upC
 F:w.ownsRow B 29 1 vF nF fs
 T:w.ownsRow B 56 3 vT l.length ts
 fd:∀j,j<nF->∃g,fs[j]?=some (.slice (some ⟨g,0,none⟩) 9 9)/\B<=g/\zg w g 4 exC
 td:∀(j:Nat) (x:Int×Int),l[j]?=some x->∃g1 g2,ts[j*3]?=some (.string ⟨#[]⟩)/\ts[j*3+1]?=some (.slice (some ⟨g1,0,none⟩) 1 1)/\ts[j*3+2]?=some (.slice (some ⟨g2,0,none⟩) 1 1)/\B<=g1/\B<=g2/\zg w g1 3 #[.int .i64 x.1]/\zg w g2 3 #[.int .i64 x.2]
section
variable {B:Nat} {w w':World} {gm gu nF:Nat} {vF vT:Value} {fs ts:List Value} {l:List (Int×Int)}
theorem XI.ext (h:XI B w gm gu nF vF vT fs ts l) (z:zb w w'):XI B w' gm gu nF vF vT fs ts l:=
 ⟨EP h.hB z.size,h.gm0,h.gu0,zg.ext h.mz z,zg.ext h.up z,Ai h.F fun g D=>z.block g (World.ownsRow.lt h.F g D).2,Ai h.T fun g D=>z.block g (World.ownsRow.lt h.T g D).2,
  fun j E=>by
   obtain ⟨g,h1,h2,h3⟩:=h.fd j E;exact ⟨g,h1,h2,zg.ext h3 z⟩,
  fun j x E=>by
   obtain ⟨g1,g2,h1,h2,h3,G,I,J,O⟩:=h.td j x E;exact ⟨g1,g2,h1,h2,h3,G,I,zg.ext J z,zg.ext O z⟩⟩
theorem own_set {w:World} {B:Nat} {e t:TypeId} {cs:Array Value} (h:w.ownsRow B e sz v n xs) (E:zg w g t cs) (D:e≠t) (u:Value):(w.setCell ⟨g,k,none⟩ u).ownsRow B e sz v n xs:=
 Ai h fun g' z=>EW w ⟨g,k,none⟩ _ g' (fun e=>by
  have e':g'=g:=e;subst e';exact zj h E D z)
theorem own_otherK {w:World} {B B':Nat} {e e':TypeId} {sz' n':Nat} {v':Value} {xs':List Value} {o:Obj} (h:w.ownsRow B e sz v n xs) (G:w.ownsRow B' e' sz' v' n' xs') (E:e≠e') (J:(w.alloc o).grownBy w5 v'.ownBlock):w5.ownsRow B e sz v n xs:=
 Ai h fun g z=>by
  have D:=(World.ownsRow.lt h g z).2;refine (J.block g (by simp;omega) (fun e2=>?_)).trans (Ff _ _ _ D);obtain ⟨U,⟨e3,_⟩ | ⟨g2,cap,cur,e3,O,I,T⟩⟩:=h
  ·rw [e3] at z;cases z
  ·rw [e3] at z;have:g2=g:=by simpa [Value.ownBlock] using z
   subst this;exact zj G I (Ne.symm E) e2.symm
theorem XI.addT (h:XI B w gm gu nF vF vT fs ts l) {g2:Nat} {x:Int×Int} {vT':Value} {o:Obj} (k1:B<=g1) (k2:B<=g2) (b1:zg w g1 3 #[.int .i64 x.1]) (b2:zg w g2 3 #[.int .i64 x.2])
  (ho:w5.ownsRow B 56 3 vT' (l.length+1) (ts++[.string ⟨#[]⟩,.slice (some ⟨g1,0,none⟩) 1 1,.slice (some ⟨g2,0,none⟩) 1 1])) (U:(w.alloc o).grownBy w5 vT.ownBlock):
  XI B (w5.setCell ⟨gm,5,none⟩ vT') gm gu nF vF vT' fs (ts++[.string ⟨#[]⟩,.slice (some ⟨g1,0,none⟩) 1 1,.slice (some ⟨g2,0,none⟩) 1 1]) (l++[x])/\Below B w (w5.setCell ⟨gm,5,none⟩ vT'):=by
 have h1:∀g ty cs,zg w g ty cs->ty≠56->w5.heap[g]?=w.heap[g]?:=fun g ty cs z E=>(U.block g (by have:=zd z;simp;omega) (fun e=>zj h.T z (Ne.symm E) e.symm)).trans (Ff _ _ _ (zd z))
 have D:zg w5 gm 32 _:=(h1 gm _ _ h.mz (by decide)).trans h.mz;have h2:∀g ty cs,zg w g ty cs->ty≠56->ty≠32->zg (w5.setCell ⟨gm,5,none⟩ vT') g ty cs:=fun g ty cs z E O=>(EW w5 ⟨gm,5,none⟩ _ g (zg.ne_ z h.mz O)).trans ((h1 g ty cs z E).trans z)
 have a0:w.heap.size<=(w5.setCell ⟨gm,5,none⟩ vT').heap.size:=by have:=U.size;simp [World.setCell] at this⊢;omega
 have J:Below B w (w5.setCell ⟨gm,5,none⟩ vT'):=by
  have h3:Below B w (w.alloc o):=(Below.refl B w).alloc h.hB _;have I:Below B w w5:=h3.grown U (by simp;have:=h.hB;omega) (fun k hk=>(h.T.lt k hk).1);exact I.setCell (p:=⟨gm,5,none⟩) h.gm0 _
 refine ⟨⟨EP h.hB a0,h.gm0,h.gu0,D.set (k:=5) vT',h2 gu _ _ h.up (by decide) (by decide),own_set (own_otherK h.F h.T (by decide) U) D (by decide) _,?_,fun j G=>?_,fun j y G=>?_⟩,J⟩
 ·rw [EV];exact own_set ho D (by decide) _
 ·obtain ⟨g,h3,I,V⟩:=h.fd j G;exact ⟨g,h3,I,h2 g _ _ V (by decide) (by decide)⟩
 ·have a3:ts.length=l.length*3:=h.T.1;rcases Fk j l.length with hj2 | hj2
  ·rw [ES hj2] at G;obtain ⟨a,b,h3,I,V,h6,h7,h8,h9⟩:=h.td j y G;exact ⟨a,b,by rw [ES (by omega)];exact h3,by rw [ES (by omega)];exact I,by rw [ES (by omega)];exact V,h6,h7,h2 _ _ _ h8 (by decide) (by decide),h2 _ _ _ h9 (by decide) (by decide)⟩
  ·have Z:j=l.length:=by
    have:=(FM.1 G).1;simp at this;omega
   subst Z;have a1:x=y:=by simpa using G
   subst a1;refine ⟨g1,g2,?_,?_,?_,k1,k2,h2 _ _ _ b1 (by decide) (by decide),h2 _ _ _ b2 (by decide) (by decide)⟩
   ·rw [ET (by omega),show l.length*3 - ts.length=0 from by omega];rfl
   ·rw [ET (by omega),show l.length*3+1 - ts.length=1 from by omega];rfl
   ·rw [ET (by omega),show l.length*3+2 - ts.length=2 from by omega];rfl
theorem XI.addF (h:XI B w gm gu nF vF vT fs ts l) {vF':Value} {o:Obj} (k1:B<=g1) (b1:zg w g1 4 exC)
  (ho:w5.ownsRow B 29 1 vF' (nF+1) (fs++[.slice (some ⟨g1,0,none⟩) 9 9])) (O:(w.alloc o).grownBy w5 vF.ownBlock):
  XI B (w5.setCell ⟨gm,3,none⟩ vF') gm gu (nF+1) vF' vT (fs++[.slice (some ⟨g1,0,none⟩) 9 9]) ts l/\Below B w (w5.setCell ⟨gm,3,none⟩ vF'):=by
 have h1:∀g ty cs,zg w g ty cs->ty≠29->w5.heap[g]?=w.heap[g]?:=fun g ty cs z E=>(O.block g (by have:=zd z;simp;omega) (fun e=>zj h.F z (Ne.symm E) e.symm)).trans (Ff _ _ _ (zd z))
 have D:zg w5 gm 32 _:=(h1 gm _ _ h.mz (by decide)).trans h.mz;have h2:∀g ty cs,zg w g ty cs->ty≠29->ty≠32->zg (w5.setCell ⟨gm,3,none⟩ vF') g ty cs:=fun g ty cs z E J=>(EW w5 ⟨gm,3,none⟩ _ g (zg.ne_ z h.mz J)).trans ((h1 g ty cs z E).trans z)
 have Z:w.heap.size<=(w5.setCell ⟨gm,3,none⟩ vF').heap.size:=by have:=O.size;simp [World.setCell] at this⊢;omega
 have I:Below B w (w5.setCell ⟨gm,3,none⟩ vF'):=by
  have h3:Below B w (w.alloc o):=(Below.refl B w).alloc h.hB _;have G:Below B w w5:=h3.grown O (by simp;have:=h.hB;omega) (fun k hk=>(h.F.lt k hk).1);exact G.setCell (p:=⟨gm,3,none⟩) h.gm0 _
 have a1:fs.length=nF*1:=h.F.1;refine ⟨⟨EP h.hB Z,h.gm0,h.gu0,D.set (k:=3) vF',h2 gu _ _ h.up (by decide) (by decide),own_set ho D (by decide) _,own_set (own_otherK h.T h.F (by decide) O) D (by decide) _,fun j hj=>?_,fun j y hj=>?_⟩,I⟩
 ·rcases Fk j nF with hj2 | hj2
  ·obtain ⟨g,h3,G,U⟩:=h.fd j hj2;exact ⟨g,by rw [ES (by omega)];exact h3,G,h2 g _ _ U (by decide) (by decide)⟩
  ·have V:j=nF:=by omega
   subst V;exact ⟨g1,by rw [ET (by omega),show j - fs.length=0 from by omega];rfl,k1,h2 _ _ _ b1 (by decide) (by decide)⟩
 ·obtain ⟨a,b,h3,G,U,h6,h7,h8,h9⟩:=h.td j y hj;exact ⟨a,b,h3,G,U,h6,h7,h2 _ _ _ h8 (by decide) (by decide),h2 _ _ _ h9 (by decide) (by decide)⟩
theorem XI.maze (h:XI B w gm gu l.length vF vT fs ts l):zt w (fun b=>B<=b) (.agg #[.int .i64 3,.int .i64 3,.int .i64 1,vF,.slice (some ⟨gu,0,none⟩) 9 9,vT]) (exN l):=by
 refine ⟨vF,_,vT,rfl,⟨fs,by show zV w _ 1 vF (List.replicate l.length exFree).length fs;rw [List.length_replicate];exact zV.of_own h.F,fun i x D=>?_⟩,⟨_,_,rfl,EN _,zN.block (cs:=upC) h.up h.gu0 rfl⟩,⟨ts,by show zV w _ 3 vT (l.map _).length ts;rw [Fy];exact zV.of_own h.T,fun i x D=>?_⟩⟩
 ·have z:(List.replicate l.length exFree)[i]?=some x:=D;obtain ⟨G,e⟩:=FM.1 z;rw [List.length_replicate] at G;rw [List.getElem_replicate] at e;subst e;obtain ⟨g,h1,h2,h3⟩:=h.fd i G;exact ⟨_,h1,⟨_,_,rfl,EN _,zN.block (cs:=exC) h3 h2 rfl⟩⟩
 ·have z:(l.map fun x=>([x.1],[x.2]))[i]?=some x:=D;rw [Fx] at z
  cases E:l[i]? with
  | none=>rw [E] at z;cases z
  | some y=>
   rw [E] at z;injection z with z;subst z;obtain ⟨a,b,h3,I,J,O,U,V,Z⟩:=h.td i y E;exact ⟨_,_,_,h3,I,J,⟨_,_,rfl,EN _,zN.block (cs:=#[.int .i64 y.1]) V O rfl⟩,⟨_,_,rfl,EN _,zN.block (cs:=#[.int .i64 y.2]) Z U rfl⟩⟩
end
theorem kexample_calls (l:List (Int×Int)) (gt:Nat) (w:World) (hl:l.length<=1000) (hc:∀(k:Nat) (x:Int×Int),l[k]?=some x->w.cell? ⟨gt,k*2,none⟩=some (.int .i64 x.1)/\w.cell? ⟨gt,k*2+1,none⟩=some (.int .i64 x.2)):
  Calls Tryz.prog 33 #[.slice (some ⟨gt,0,none⟩) l.length l.length] w fun e w'=>∃v,e=.returned v/\zb w w'/\zt w' (fun x=>w.heap.size<=x) v (exN l):=by
 have HC:=zh hc;clear hc;obtain ⟨iT,ti,tz0,tz1,tz2⟩:=info_parts Tryz.infoTask;have TF:=zh ti;have TZ0:=zh tz0;have TZ1:=zh tz1;have TZ2:=zh tz2;clear ti tz0 tz1 tz2;obtain ⟨iL,li,lz0,lz1,lz2⟩:=info_parts Tryz.infoBools;have LF:=zh li;have LZ0:=zh lz0;have LZ1:=zh lz1;have LZ2:=zh lz2;clear li lz0 lz1 lz2;have g8:∀w,(Instr.makeSlice 29 (.int .i64 9) (.int .i64 9)).run Tryz.prog w=.ok (.slice (some ⟨w.heap.size,0,none⟩) 9 9) (w.alloc (.cells #[.bool false,.bool false,.bool false,.bool false,.bool false,.bool false,.bool false,.bool false,.bool false] 4)):=fun _=>by kernel_rfl
 go_enter Tryz.func33,Tryz.ntmps33
 go_upto_region 1 with fail;have a4:Hid (zg (w.alloc (.cells #[.int .i64 0,.int .i64 0,.int .i64 0,.slice none 0 0,.slice none 0 0,.slice none 0 0] 32)) w.heap.size 32 _):=zg.new w _ 32 rfl;have a1:Hid (zb w (w.alloc (.cells #[.int .i64 0,.int .i64 0,.int .i64 0,.slice none 0 0,.slice none 0 0,.slice none 0 0] 32))):=(zb.refl w).alloc _;generalize w.alloc _=w1 at a4 a1⊢;obtain ⟨g0,b6⟩:∃g,g=w.heap.size:=⟨_,rfl⟩;rw [<-b6] at a4⊢;have e7:Hid (g0=w.heap.size):=b6;clear b6;have d7:Hid (∀(k:Nat) (x:Int×Int),l[k]?=some x->w1.cell? ⟨gt,k*2,none⟩=some (.int .i64 x.1)/\w1.cell? ⟨gt,k*2+1,none⟩=some (.int .i64 x.2)):=fun k x hx=>⟨a1.out.cell (HC.out k x hx).1,a1.out.cell (HC.out k x hx).2⟩
 go_upto_region 2 with fail
 have b1:Hid (XI w1.heap.size ((w1.alloc (.cells #[.bool false,.bool false,.bool false,.bool false,.bool false,.bool false,.bool false,.bool false,.bool false] 4)).alloc (.cells #[.int .i64 3,.int .i64 3,.int .i64 1,.slice none 0 0,.slice (some ⟨w1.heap.size,0,none⟩) 9 9,.slice none 0 0] 32)) (w1.heap.size+1) w1.heap.size 0 (.slice none 0 0) (.slice none 0 0) [] [] []):=
  ⟨by simp;omega,by omega,EN _,zg.new _ _ _ (by simp),zg.ext (zg.new w1 _ _ rfl) ((zb.refl _).alloc _),⟨rfl,.inl ⟨rfl,rfl⟩⟩,⟨rfl,.inl ⟨rfl,rfl⟩⟩,fun j hj=>absurd hj (by omega),fun j x hj=>by simp at hj⟩
 have a8:Hid (zb w1 _):=((zb.refl w1).alloc (.cells #[.bool false,.bool false,.bool false,.bool false,.bool false,.bool false,.bool false,.bool false,.bool false] 4)).alloc (.cells #[.int .i64 3,.int .i64 3,.int .i64 1,.slice none 0 0,.slice (some ⟨w1.heap.size,0,none⟩) 9 9,.slice none 0 0] 32);generalize (w1.alloc (.cells #[.bool false,.bool false,.bool false,.bool false,.bool false,.bool false,.bool false,.bool false,.bool false] 4)).alloc (.cells #[.int .i64 3,.int .i64 3,.int .i64 1,.slice none 0 0,.slice (some ⟨w1.heap.size,0,none⟩) 9 9,.slice none 0 0] 32)=w2 at b1 a8⊢;obtain ⟨gu,b7⟩:∃g,g=w1.heap.size:=⟨_,rfl⟩;obtain ⟨B,hB⟩:∃g,g=w1.heap.size:=⟨_,rfl⟩;have a5:=b1.out;rw [show XI w1.heap.size w2 (w1.heap.size+1) w1.heap.size=XI B w2 (gu+1) gu from by rw [hB,b7]] at a5;have HB:Hid (B=w1.heap.size):=hB;rw [<-b7] at⊢;obtain ⟨gm,e0⟩:∃g,g=gu+1:=⟨_,rfl⟩;rw [<-e0] at a5⊢;have c9:=zh a5;clear b1 a5 e0 b7 hB;go_upto_region 3 with fail
 go_loopg [10] l.length (fun gk v wr=>∃(k:Nat) (vF vT:Value) (fs ts:List Value),v=.int .i64 k/\k<=l.length/\gk=l.length - k/\Hid (XI B wr gm gu k vF vT fs ts (l.take k)/\zb w1 wr))
 case atStart=>exact ⟨0,_,_,_,_,rfl,Fb _,by omega,c9.out,a8.out⟩
 clear c9 a8
 case round=>
  obtain ⟨k,vF,vT,fs,ts,rfl,hk,rfl,U⟩:=hrel;obtain ⟨wR,rfl⟩:∃wR:World,wR=wr:=⟨_,rfl⟩;rcases Fk k l.length with a7 | hge
  ·have f5:decide ((k:Int)<(l.length:Int))=true:=EQ (by omega);have g7:((k:Int)<(l.length:Int)):=by omega
   obtain ⟨x,hx⟩:∃x,l[k]?=some x:=⟨_,EL a7⟩;have f1:=zh hx;have c0:=U.out.2.cell (d7.out k x hx).1;have c1:=U.out.2.cell (d7.out k x hx).2;clear hx;go_upto_region 5 with fail;have a9:Hid (zb wR (wR.alloc (.cells #[.int .i64 x.1,.int .i64 x.2] 70))):=(zb.refl _).alloc _;have a3:Hid (zg (wR.alloc (.cells #[.int .i64 x.1,.int .i64 x.2] 70)) wR.heap.size 70 #[.int .i64 x.1,.int .i64 x.2]):=zg.new wR _ 70 rfl;generalize wR.alloc _=wa at a9 a3⊢;obtain ⟨gx,e3⟩:∃g,g=wR.heap.size:=⟨_,rfl⟩;rw [<-e3] at a3⊢;clear e3 c0 c1;have x0:=zb.rule (a3.out.cell (k:=0) rfl);have x1:=zb.rule (a3.out.cell (k:=1) rfl);have f9:zb wa wa:=zb.refl wa;have f8:=Ah wa;have a6:=U.out.1.ext a9.out;have m5:wa.cell? ⟨gm,5,none⟩=some vT:=a6.mz.cell (k:=5) rfl;have c8:Hid ((l.take k).length=k):=by show _=_;rw [FH];omega
   have e8:Hid (wa.ownsRow B 56 3 vT k ts):=by have:=a6.T;rw [c8.out] at this;exact this
   have b2:=zh a6;clear a6
   have O:∀j u,[Value.string ⟨#[]⟩,.slice (some ⟨wa.heap.size,0,none⟩) 1 1,.slice (some ⟨wa.heap.size+1,0,none⟩) 1 1][j]?=some u->((((wa.alloc (.cells #[.int .i64 x.1] 3)).alloc (.cells #[.int .i64 x.2] 3)).alloc (.cells #[.string ⟨#[]⟩,.slice (some ⟨wa.heap.size,0,none⟩) 1 1,.slice (some ⟨wa.heap.size+1,0,none⟩) 1 1] 56))).cell? ((⟨wa.heap.size+1+1,0,none⟩:Addr).add j)=some u:=by
    intro j u h;have h2:=cells3n ((wa.alloc (.cells #[.int .i64 x.1] 3)).alloc (.cells #[.int .i64 x.2] 3)) _ _ _ 56 j u h;rw [show ((wa.alloc (.cells #[.int .i64 x.1] 3)).alloc (.cells #[.int .i64 x.2] 3)).heap.size=wa.heap.size+1+1 from by simp] at h2;exact h2
   have c7:=zh O;clear O
   go_wp2_with (at_builtin;refine wpList_append_own_at _ rfl _ _ 30 rfl B 56 iT (.agg #[.string ⟨#[]⟩,.slice none 0 0,.slice none 0 0]) 3 64 Tryz.underlying30 TF.out TZ0.out TZ1.out TZ2.out rfl (by decide) vT k _ rfl (((e8.out.alloc _).alloc _).alloc _) ⟨wa.heap.size+1+1,0,none⟩ 1 1 [.string ⟨#[]⟩,.slice (some ⟨wa.heap.size,0,none⟩) 1 1,.slice (some ⟨wa.heap.size+1,0,none⟩) 1 1] rfl rfl c7.out (by simp [Value.oneCell']) (by unfold maxLen;omega) (by omega) (by have:=b2.out.hB;simp;omega) ?_)
   intro v' w9 G hg _ b8;obtain ⟨gv,cv,rfl,-,-⟩:=World.ownsRow.form G (by omega);have I:zb wa ((wa.alloc (.cells #[.int .i64 x.1] 3)).alloc (.cells #[.int .i64 x.2] 3)):=((zb.refl _).alloc _).alloc _;have z:=b2.out.ext I;have b3:=b2.out.hB;obtain ⟨b4,d5⟩:=z.addT (g1:=wa.heap.size) (g2:=wa.heap.size+1) (x:=x) (by omega) (by omega) (zg.ext (zg.new wa _ 3 rfl) ((zb.refl _).alloc _)) (zg.new _ _ 3 (by simp)) (by rw [c8.out];exact G) hg;have E:=(hg.block gm (by have:=zd z.mz;simp at this⊢;omega) (fun e=>zj z.T z.mz (by decide) e.symm)).trans (Ff _ _ _ (zd z.mz));have V:zg w9 gm 32 _:=E.trans z.mz;have d8:w9.cell? ⟨gm,5,none⟩=some vT:=V.cell (k:=5) rfl;have d9:∀j,w9.frozen? ⟨gm,j,none⟩=false:=fun j=>V.frozen j
   have e4:l.take k++[x]=l.take (k+1):=by rw [List.take_add_one,f1.out];rfl
   rw [e4] at b4;have Z:=zh b4;have c6:Hid (zb w1 (w9.setCell ⟨gm,5,none⟩ (.slice (some ⟨gv,0,none⟩) (k+1) cv))):=Below.trans ((U.out.2.trans a9.out).trans I) (HB.out ▸ d5);clear b4 d5 G hg b8 E V e4 z I x0 x1 f9 f8 m5 b3;go_upto_region 6 with fail;clear d8 d9;generalize w9.setCell ⟨gm,5,none⟩ (.slice (some ⟨gv,0,none⟩) (k+1) cv)=wv at Z c6⊢;have m3:wv.cell? ⟨gm,3,none⟩=some vF:=Z.out.mz.cell (k:=3) rfl
   have O:∀j u,[Value.slice (some ⟨wv.heap.size,0,none⟩) 9 9][j]?=some u->(((wv.alloc (.cells exC 4)).alloc (.cells #[.slice (some ⟨wv.heap.size,0,none⟩) 9 9] 29))).cell? ((⟨wv.heap.size+1,0,none⟩:Addr).add j)=some u:=by
    intro j u h;have h2:=cell_one_new (wv.alloc (.cells exC 4)) (.slice (some ⟨wv.heap.size,0,none⟩) 9 9) 29 j u h;rw [show (wv.alloc (.cells exC 4)).heap.size=wv.heap.size+1 from by simp] at h2;exact h2
   have b0:=zh O;clear O
   go_wp2_with (at_builtin;refine wpList_append_own_at _ rfl _ _ 28 rfl B 29 iL (.slice none 0 0) 1 24 Tryz.underlying28 LF.out LZ0.out LZ1.out LZ2.out rfl (by decide) vF k _ rfl ((Z.out.F.alloc _).alloc _) ⟨wv.heap.size+1,0,none⟩ 1 1 [.slice (some ⟨wv.heap.size,0,none⟩) 9 9] rfl rfl b0.out (by simp [Value.oneCell']) (by unfold maxLen;omega) (by omega) (by have:=Z.out.hB;simp;omega) ?_)
   intro v2 w9 G hg _ b8;obtain ⟨gv2,cv2,rfl,-,-⟩:=World.ownsRow.form G (by omega);have I:zb wv (wv.alloc (.cells exC 4)):=(zb.refl _).alloc _;have z:=Z.out.ext I;have b3:=Z.out.hB;obtain ⟨d4,d6⟩:=z.addF (g1:=wv.heap.size) (by omega) (zg.new wv _ 4 rfl) G hg;have E:=(hg.block gm (by have:=zd z.mz;simp at this⊢;omega) (fun e=>zj z.F z.mz (by decide) e.symm)).trans (Ff _ _ _ (zd z.mz));have V:zg w9 gm 32 _:=E.trans z.mz;have d8:w9.cell? ⟨gm,3,none⟩=some vF:=V.cell (k:=3) rfl;have d9:∀j,w9.frozen? ⟨gm,j,none⟩=false:=fun j=>V.frozen j
   have e9:=zh d4;have e6:Hid (zb w1 (w9.setCell ⟨gm,3,none⟩ (.slice (some ⟨gv2,0,none⟩) (k+1) cv2))):=Below.trans (c6.out.trans I) (HB.out ▸ d6);clear d4 d6 G hg b8 E V z I m3 b3
   go_wp2_with fail
   go_roundg (l.length - (k+1))
   case measure=>omega
   case rel=>exact ⟨k+1,_,_,_,_,by go_num,a7,rfl,e9.out,e6.out⟩
  ·have f5:decide ((k:Int)<(l.length:Int))=false:=ER (by omega);have f7:k=l.length:=by omega
   subst f7;have D:=U.out.1;rw [EY] at D;obtain ⟨Af,cf,rfl,-,-⟩:=zV.of_own D.F;obtain ⟨At,ct,rfl,-,-⟩:=zV.of_own D.T;have c0:=D.mz.cell (k:=0) rfl;have c1:=D.mz.cell (k:=1) rfl;have c2:=D.mz.cell (k:=2) rfl;have c3:=D.mz.cell (k:=3) rfl;have c4:=D.mz.cell (k:=4) rfl;have c5:=D.mz.cell (k:=5) rfl;have J:=zh (zg.ext a4.out U.out.2);have z0:=J.out.cell (k:=0) rfl;have z1:=J.out.cell (k:=1) rfl;have z2:=J.out.cell (k:=2) rfl;have z3:=J.out.cell (k:=3) rfl;have z4:=J.out.cell (k:=4) rfl;have z5:=J.out.cell (k:=5) rfl;have hfz:∀j,wR.frozen? ⟨g0,j,none⟩=false:=fun j=>J.out.frozen j
   have f0:=zh D;clear D hge;go_wp2;refine zX (P:=fun W=>bodyPost Tryz.prog Tryz.f33 _ Exit.ret _ W) (g2:=g0) ?_ J.out;intro WZ a0 I f6;have y0:=a0.cell (k:=0) rfl;have y1:=a0.cell (k:=1) rfl;have y2:=a0.cell (k:=2) rfl;have y3:=a0.cell (k:=3) rfl;have y4:=a0.cell (k:=4) rfl;have y5:=a0.cell (k:=5) rfl;refine FK (v:=.agg #[.int .i64 3,.int .i64 3,.int .i64 1,.slice Af l.length cf,.slice (some ⟨gu,0,none⟩) 9 9,.slice At l.length ct]) (by simp [results,Tryz.results33,go_sem,y0,y1,y2,y3,y4,y5]) rfl ?_;refine ⟨_,rfl,Below.trans (a1.out.trans U.out.2) (I.mono (by have:=e7.out;omega)),?_⟩;have g6:g0<B:=by rw [HB.out];exact zd a4.out
   have f3:w.heap.size<=B:=by rw [HB.out];exact a1.out.size
   exact (f0.out.maze.keep fun b hb a7=>f6 b a7 (by omega)).weaken fun b hb=>EP f3 hb
end
end Go.Proofs.YthbjngbhbbkkgaaGreat
