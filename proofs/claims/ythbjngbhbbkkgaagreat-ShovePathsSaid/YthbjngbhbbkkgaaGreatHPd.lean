import Derived.Test.YthbjngbhbbkkgaaGreatHPc
import Derived.KernelRfl
import Derived.Maps.AppendAt
set_option linter.unusedVariables false
set_option linter.unusedSimpArgs false
set_option maxRecDepth 100000
set_option maxHeartbeats 16000000
namespace Go.Proofs.YthbjngbhbbkkgaaGreat
variable {a b d n x z:Int} {fr:Int->Bool} {F:List (Int×Int)} {S acc l tg:List Int} {xs:List Value} {B b3 c gb gs k size:Nat} {ts u vc vp:Value} {w5:World}
section
open Go.RowKit Go.Shelf
attribute [local go_sem] Oper.semAt_some
attribute [local go_sem ↓] Go.wp_at_zero Go.wp_at_succ
def BY (m:MZ) (ps:List (List Int)) (us:List Int) (t:Nat):List Int:=
 match (if t+1=ps.length then (ps.getD t []).getLast? else none) with
 | some x=>[x]
 | none=>((m.tasks.getD t ([],[])).1).filter fun n=>!(!zl m t n || decide (n∈us))
theorem sameCell {w W:World} (D:Ao (fun b=>b<B) w W) {p:Addr} {v:Value} (o:w.cell? p=some v) (hp:p.block<B):W.cell? p=some v:=
 (Fc (w:=w) (D p.block hp (zp o))).trans o
theorem BB {ok:Nat->Prop} {v:Value} (w:World) (h:zi w ok v l) (O:l.length<=1000000000000):
  Calls Tryz.prog 46 #[v] w fun e w'=>∃v',e=.returned v'/\Mk w w' v' l:=by
 have H:=zh h;have G:=nilEq 23 3 Tryz.underlying23;obtain ⟨A,c,rfl,M,D⟩:=h;rcases A with _ | a
 ·have o:l=[]:=by
   rcases Fz l.length with h | h
   ·exact Fe h
   ·obtain ⟨b,off,e,_⟩:=D.2 h;cases e
  subst o;clear D
  go_enter Tryz.func46,Tryz.ntmps46
  go_wp2_with fail
  go_ret;exact ⟨_,rfl,Mk.nil _⟩
 ·clear D;have Q:=zb.refl w
  go_enter Tryz.func46,Tryz.ntmps46
  go_wp2_with (at_builtin;refine BV (ok:=ok) rfl _ _ _ rfl w.heap.size [] l _ _ rfl rfl (Dr w w.heap.size (EN _)) (H.out.below ((zb.refl w).alloc _)) ?d1 ?d2 ?_)
  case d1=>simp
  case d2=>simp;omega
  intro v' w1 I E _;have J:Hid (Mk w w1 v' l):=⟨I,Ae ((zb.refl w).alloc _) E (by simp) (fun k L=>slice_own L)⟩;clear I E
  go_wp2_with fail
  go_ret;exact ⟨_,rfl,J.out⟩
theorem left11_del {ok:Nat->Prop} {m:MZ} {ch us:List Int} {ps:List (List Int)} {g gu:Nat} {f:Value} {w wk w8:World} {v8:Value} (tn:Nat) (h:BM w ok g m ch ps us f u ts vc vp gu) (so:SOk m ch ps) (G:zb w wk)
  (o:Mk wk w8 v8 l) (E:wk.cell? ⟨gb,0,none⟩=some (.pointer (some ⟨g,0,none⟩))) (D:wk.cell? ⟨b3,0,none⟩=some (.int .i64 (tn:Int))) (U:tn<m.tasks.length) (O:l.length<=1000000000000) (T:∀x∈l,0<=x/\x<m.n):
  Calls Tryz.prog 130 #[v8,.func (.func 131) #[] #[.pointer (some ⟨gb,0,none⟩),.pointer (some ⟨b3,0,none⟩)]] w8 fun e w'=>∃v',e=.returned v'/\Mk wk w' v' (l.filter fun n=>!(!zl m tn n || decide (n∈us))):=by
 have L:tn<m.free.length:=by have:=so.good.fl;omega
 refine deleteFuncI_calls o (fun x=>0<=x/\x<m.n) T ⟨by omega,by have:=so.good.n1;unfold MZ.n;omega⟩ O _ _ (fun x=>!zl m tn x || decide (x∈us)) (Bi (P:=Tryz.prog) Tryz.func131 (by kernel_rfl) (by kernel_rfl)) ?_;intro x M W I;have h1:BM W (fun b=>ok b/\b<w.heap.size) g m ch ps us f u ts vc vp gu:=h.bound.keep (fun b J Q=>(I b (Fq J.2 G.size) (Fq J.2 (G.trans o.ext).size)).trans ((G.trans o.ext).block b J.2));exact left11_calls tn x W h1 so.good.fn L (sameCell I (o.ext.cell E) (zp E)) (sameCell I (o.ext.cell D) (zp D)) M.1 M.2
theorem left1_next {m:MZ} {ps:List (List Int)} {w W wr:World} {J:Nat->World->Prop} {tn t0:Nat} (G:Hid (tn=t0+k)) (U:k<=m.tasks.length+1 - ps.length) (M:tn<m.tasks.length) (T:m.tasks.length<=1000000) (O:ps.length=t0+1)
  (L:Hid (∀(k:Nat) (A B:World),J k A->Below W.heap.size A B->J k B)) (I:Hid (wr.cell? ⟨b3,0,none⟩=some (.int .i64 (tn:Int)))) (D:zb w w5) (E:Hid (J (k+1) w5)) (o:W.heap.size<=w5.heap.size):
  (∃k tn_1 b3,Value.pointer (some ⟨w5.heap.size,0,none⟩)=Value.pointer (some ⟨b3,0,none⟩)/\Hid (tn_1=t0+k)/\k<=m.tasks.length+1 - ps.length/\Hid (W.heap.size<=b3)/\
   Hid ((w5.alloc (Obj.cells #[Value.int IntKind.i64 (wrap64 ((tn:Int)+1))] 3)).cell? ⟨b3,0,none⟩=some (Value.int IntKind.i64 (tn_1:Int))/\(w5.alloc (Obj.cells #[Value.int IntKind.i64 (wrap64 ((tn:Int)+1))] 3)).frozen? ⟨b3,0,none⟩=false)/\
   Hid (zb w (w5.alloc (Obj.cells #[Value.int IntKind.i64 (wrap64 ((tn:Int)+1))] 3)))/\Hid (J k (w5.alloc (Obj.cells #[Value.int IntKind.i64 (wrap64 ((tn:Int)+1))] 3)))/\
   Hid (W.heap.size<=(w5.alloc (Obj.cells #[Value.int IntKind.i64 (wrap64 ((tn:Int)+1))] 3)).heap.size))/\
  (match Value.pointer (some ⟨w5.heap.size,0,none⟩) with
   | Value.pointer (some a)=>(match (w5.alloc (Obj.cells #[Value.int IntKind.i64 (wrap64 ((tn:Int)+1))] 3)).cell? a with | some (Value.int k i)=>m.tasks.length - i.toNat | x=>0)
   | x=>0)<
  (match Value.pointer (some ⟨b3,0,none⟩) with
   | Value.pointer (some a)=>(match wr.cell? a with | some (Value.int k i)=>m.tasks.length - i.toNat | x=>0)
   | x=>0):=by
 have h1:=G.out;have Q:wrap64 ((tn:Int)+1)=((tn+1:Nat):Int):=by rw [IntWalk.wrap64_in _ (by omega)];omega
 rw [Q];refine ⟨⟨k+1,tn+1,w5.heap.size,rfl,(by omega:tn+1=t0+(k+1)),by omega,o,⟨zr _ _ _ rfl,World.frozen?_alloc_at _ _ _ _ rfl⟩,D.alloc _,L.out _ _ _ E.out ((Below.refl _ w5).alloc o _),EP o (by simp)⟩,?_⟩;simp only [zr _ _ _ rfl,I.out];omega
theorem left1_gives {ok:Nat->Prop} {m:MZ} {ch us:List Int} {ps:List (List Int)} {g gu:Nat} {f:Value} (w:World) (h:BM w ok g m ch ps us f u ts vc vp gu) (so:SOk m ch ps) (hc:w.cell? ⟨gb,0,none⟩=some (.pointer (some ⟨g,0,none⟩))) (hp:cmpB m ps=false) (n:Nat) (hn:1<=n):
  GivesB n Tryz.prog 129 #[.pointer (some ⟨gb,0,none⟩)] (fun x:Int×Value=>#[.int .i64 x.1,x.2]) (fun k x W=>x.1=((ps.length - 1+k:Nat):Int)/\zi W (fun _=>True) x.2 (BY m ps us (ps.length - 1+k))) (m.tasks.length+1 - ps.length) w:=by
 intro l J Jx W hW i0 hl hJ i9 hY h0;have HS:=zh h.bound;clear h;have HY:=zh hY;clear hY;have HJ:=zh hJ;clear hJ;have o1:=zh i9;clear i9;have H0:=zh h0;clear h0;have n6:ps.length<=6:=EP so.pl so.good.tk;obtain ⟨r0,r1,r2,r3,r4,r5,r6,r7,r8⟩:=HS.out.rules;have rb:=zb.rule hc;have SO:=zh so
 have n5:0<ps.length:=by
  by_cases h0:m.tasks.length=0
  ·unfold cmpB at hp;rw [EQ h0] at hp;cases hp
  ·exact so.pn (by omega)
 have o9:=so.pl;have m4:=HS.out.maze;obtain ⟨fr',up',ts',c9,_,_,k8⟩:=m4;injection c9 with c9;injection c9 with c9;simp only [List.cons.injEq,and_true,true_and] at c9;obtain ⟨rfl,rfl,rfl⟩:=c9;have i3:=zh k8;obtain ⟨vst,⟨At,ct,rfl,o7,_⟩,_⟩:=k8;clear hc so;refine callsIn_of_wp Tryz.func129 rfl trivial ?_ rfl;simp only [Tryz.ntmps129,List.size_toArray,zai,zaj,Nat.reduceAdd,Nat.reduceSub,Array.replicate_succ,Array.replicate_zero,List.push_toArray,List.append_toArray,List.nil_append,List.cons_append]
 gi_wp2_with (refine ⟨trivial,?_⟩;gi_at_call 64;refine (callsIn_wide.2 (CL _ (HS.out.ext hW) SO.out)).mono ?_;rintro e wA ⟨rfl,j3⟩;rw [hp];have i1:zb W wA:=j3.below _;have hA:zb w wA:=hW.trans i1)
 refine ⟨trivial,?_⟩;refine (callsIn_wide.2 (Bv _ (HS.out.ext hA) (by omega))).mono ?_;rintro e wB ⟨he,l6⟩;subst l6;obtain ⟨t0,h8⟩:∃t0,ps.length=t0+1:=⟨ps.length - 1,by omega⟩;have j9:(ps.length:Int) - 1=(t0:Int):=by omega
 rw [j9] at he;subst he;clear j9 j3
 gi_wp2
 gi_loopw [3] (fun v wr=>∃k tn b3,v=.pointer (some ⟨b3,0,none⟩)/\Hid (tn=t0+k)/\k<=m.tasks.length+1 - ps.length/\Hid (W.heap.size<=b3)/\Hid (wr.cell? ⟨b3,0,none⟩=some (.int .i64 (tn:Int))/\wr.frozen? ⟨b3,0,none⟩=false)/\Hid (zb w wr)/\Hid (J k wr)/\Hid (W.heap.size<=wr.heap.size)) (fun v wr=>match v with | .pointer (some a)=>(match wr.cell? a with | some (.int _ i)=>m.tasks.length - i.toNat | _=>0) | _=>0)
 case atStart=>
  have hz:=i1.size;exact ⟨0,t0,wA.heap.size,rfl,rfl,by omega,hz,⟨zr _ _ _ rfl,World.frozen?_alloc_at _ _ _ _ rfl⟩,hA.alloc _,HJ.out _ _ _ H0.out ((i1).alloc _),EP hz (by simp)⟩
 case round=>
  obtain ⟨k,tn,b3,rfl,a6,hk,g8,j1,hE,i8,k6⟩:=hrel;have i7:=hE.out;obtain ⟨o,g0⟩:=j1.out;have d9:=zh o
  gi_wp2
  refine wpIn_wide.2 ?_;go_quiet (fail)
  generalize l0:wr.drewN nq=w2;have j2:zM wr w2:=⟨nq,l0.symm⟩;have d5:zb wr w2:=j2.below _;clear l0 j2;have c7:zb w w2:=i7.trans d5;have a4:=d5.cell o;have f5:w2.frozen? ⟨b3,0,none⟩=false:=(Below.frozen d5 (p:=⟨b3,0,none⟩) (zp o)).trans g0;have e6:=zh (HJ.out _ _ _ i8.out (d5.mono k6.out));have d6:W.heap.size<=w2.heap.size:=EP k6.out d5.size;clear o g0 j1 i8 hE i7 d5;by_cases h6:tn<m.tasks.length
  ·have b4:t0<ps.length:=by omega
   obtain ⟨vs,⟨Ap,cp,rfl,o6,k4⟩,j4⟩:=HS.out.ps;obtain ⟨b,off,up,rfl,_,f9,h9⟩:=zO k4 j4 b4 b4;have k2:=SO.out.pp _ (EO b4);have q0:=zb.rule f9;have p5:(t0:Int)<(ps.length:Int):=by omega
   have n8:(0:Int)<=(t0:Int):=by omega
   obtain ⟨p,h7⟩:=zak (ps[t0]);rw [<-h7] at h9 k2;have g5:=zh h7;clear h7;have i4:=zh h9;obtain ⟨Aq,cq,rfl,m1,m5⟩:=h9;clear k4 j4 f9 m5;have j8:(k=0)\/(k≠0):=by omega
   rcases j8 with hk0 | hk0
   ·have d4:Hid (tn=t0):=(by have:=a6.out;omega:tn=t0);have hd:((tn:Int)==(t0:Int))=true:=by rw [beq_iff_eq,d4.out]
    have k3:min (tn:Int) (t0:Int)=(t0:Int):=by rw [d4.out];omega
    clear hk0
    gi_wp2
    refine wpIn_wide.2 ?_;go_quiet ((go_at_call 103;refine (Bv _ (HS.out.ext (c7.drewN _)) (by omega)).mono ?_;rintro e w9 ⟨M,rfl⟩;rw [show (ps.length:Int) - 1=(t0:Int) from by omega] at M;exact ⟨M,⟨_,rfl⟩⟩))
    generalize f3:w2.drewN nq=w3;have e9:zM w2 w3:=⟨nq,f3.symm⟩;have T:zb w2 w3:=e9.below _;clear f3 e9;have a1:zb w w3:=c7.trans T;have o:=T.cell a4;have c0:w3.frozen? ⟨b3,0,none⟩=false:=(Below.frozen T (p:=⟨b3,0,none⟩) (zp a4)).trans f5;have b9:=zh (HJ.out _ _ _ e6.out (T.mono d6));have a3:W.heap.size<=w3.heap.size:=EP d6 T.size;clear a4 f5 e6 c7 T d6;rcases List.eq_nil_or_concat p with rfl | ⟨q,x,rfl⟩
    ·have g4:Hid (BY m ps us tn=((m.tasks.getD tn ([],[])).1).filter fun n=>!(!zl m tn n || decide (n∈us))):=by
      show BY m ps us tn=_;unfold BY;rw [if_pos (by have:=d4.out;omega),d4.out,EM,EL b4,Ft,<-g5.out];rfl
     gi_wp2
     refine wpIn_wide.2 ?_;go_quiet ((go_at_call 103;refine (Bv _ (HS.out.ext (a1.drewN _)) (by omega)).mono ?_;rintro e w9 ⟨M,rfl⟩;rw [show (ps.length:Int) - 1=(t0:Int) from by omega] at M;exact ⟨M,⟨_,rfl⟩⟩))
     gi_wp2
     refine wpIn_wide.2 ?_;generalize b6:w3.drewN nq=w6;have b2:zM w3 w6:=⟨nq,b6.symm⟩;have E:zb w3 w6:=b2.below _;have b7:=E;clear b6 b2;have I:zb w w6:=a1.trans E;have Z:=E.cell o;have e8:=zh (HJ.out _ _ _ b9.out (E.mono a3));have c6:W.heap.size<=w6.heap.size:=EP a3 E.size;clear b9 a1 E a3;have U:=zh Z;have e0:=zh ((Below.frozen b7 (p:=⟨b3,0,none⟩) (zp o)).trans c0);clear c0 o b7;have D:tn<m.tasks.length:=h6;obtain ⟨bt,offt,sn,u1,u2,rfl,_,f0,f1,h4,c4,g9⟩:=AO i3.out D;have h5:=(SO.out.lens.tl _ (EO D)).1;have a0:=SO.out.good.tn _ (EO D);have V:Hid (BY m ps us tn=((m.tasks[tn]).1).filter fun n=>!(!zl m tn n || decide (n∈us))):=g4.out.trans (by rw [EM,EL D,Ft]);obtain ⟨tk,f2⟩:=zak (m.tasks[tn]);rw [<-f2] at c4 h5 a0 V;clear f2 g9 f0 h4;have HF:=zh c4;obtain ⟨A5,c5,rfl,l9,_⟩:=c4;have g6:=zh a0;clear a0;have q1:=zb.rule f1;have rb3:=zb.rule Z;have G:=zb.refl w6;have m6:(tn:Int)<(m.tasks.length:Int):=by omega
     have k7:(0:Int)<=(tn:Int):=by omega
     have j6:tn<m.free.length:=by have:=SO.out.good.fl;omega
     clear f1 Z;have l8:(0:Int)<=0/\(0:Int)<m.n:=by have:=SO.out.good.n1;unfold MZ.n;omega
     have q3:=rb3
     go_region_held3 (fun W'=>zb w W'/\zb w6 W')
      (first | (exact ⟨I.drew,G.drew⟩) | (exact ⟨I.drew.trans Q.ext,G.drew.trans Q.ext⟩) | (exact ⟨I.drew.trans a5.ext,G.drew.trans a5.ext⟩) | assumption)
      (first | ((go_at_call 46;refine (BB _ (HF.out.below I.drew) (by omega)).mono ?_;rintro e w8 ⟨v8,rfl,a5⟩)) | ((go_at_call 130;refine (left11_del tn HS.out SO.out I.drew a5 (rb _ I.drew) (q3 _ G.drew) D (by omega) (fun x hx=>g6.out x (.inl hx))).mono ?_;rintro e w9 ⟨v9,rfl,Q⟩)))
     all_goals
      have c8:zb w w9:=I.drew.trans Q.ext;have L:zb w6 w9:=G.drew.trans Q.ext
      have e4:Hid (zi w9 (fun _=>True) v9 (BY m ps us tn)):=by
       have h1:=Q.ints;rw [<-V.out] at h1;exact h1.weaken fun _ _=>trivial
      have b1:=L.cell U.out;have j5:w9.frozen? ⟨b3,0,none⟩=false:=(Below.frozen L (p:=⟨b3,0,none⟩) (zp U.out)).trans e0.out;have e7:=zh (HJ.out _ _ _ e8.out (L.mono c6));have b8:W.heap.size<=w9.heap.size:=EP c6 L.size;have a7:=a6.out;clear Q a5 L q3 rb3 G q1 I e8 c6 U e0;obtain ⟨fn,tmps,assign,body,hy,hR⟩:=HY.out k ((tn:Int),v9) w9 (by omega) e7.out ⟨by simp;omega,by have:=e4.out;rwa [show ps.length - 1+k=tn from by omega]⟩;have HR:=zh hR;clear hR a7;dsimp only at hy
      gi_wp2
      refine HR.out.mono ?_;rintro e w5 (⟨rfl,a8,O⟩ | ⟨rfl,a9⟩)
      ·have b0:b3≠l:=by have:=g8.out;omega
       have e5:zb w w5:=Bj c8 O (EP hW.size b8) i0;have f7:w5.cell? ⟨b3,0,none⟩=some (.int .i64 (tn:Int)):=World.grownBy.cell O b1 (fun e=>b0 (by injection e));have f4:W.heap.size<=w5.heap.size:=EP b8 O.size;have e3:=zh a8;clear a8 O hy
       gi_wp2
       exact left1_next a6 hk D (by have:=SO.out.good.tk;omega) h8 HJ d9 e5 e3 f4
      ·gi_wp2
       refine FK (results_none rfl _ _ _) rfl ?_;exact ⟨⟨_,rfl⟩,.inr a9⟩
    ·rw [List.concat_eq_append] at*
     have V:Hid (BY m ps us tn=[x]):=by
      show BY m ps us tn=_;unfold BY;rw [if_pos (by have:=d4.out;omega),d4.out,EM,EL b4,Ft,<-g5.out];simp
     obtain ⟨N,hN⟩:=zak ((q++[x]).length);have o4:N=q.length+1:=by rw [hN];simp
     have k9:=i4.out;obtain ⟨A',c',g7,m0,k5⟩:=k9;obtain ⟨b5,o5,hA5,j0,f8⟩:=k5.2 (by simp);injection g7 with g7 i5 i6;subst g7 i6 hA5;have l1:w.cell? ⟨b5,o5+q.length,none⟩=some (.int .i64 x):=f8 q.length _ (by simp);have l4:=zh l1;have n4:b5<w.heap.size:=j0.2;clear f8 l1 k5 i5 m0 g5 i4 j0;rw [<-hN] at q0 m1 k2;have l7:(0:Int)<(N:Int):=by omega
     have o3:decide ((0:Int)<(N:Int))=true:=EQ l7;have p4:IntKind.i64.wrap ((N:Int) - 1)=(q.length:Int):=by rw [Fi];omega
     have n7:wrap64 ((N:Int) - 1)=(q.length:Int):=by rw [IntWalk.wrap64_in _ (by omega)];omega
     have p3:(0:Int)<=(q.length:Int)/\(q.length:Int)<=(N:Int):=by omega
     rw [<-hN];clear hN
     gi_wp2
     refine wpIn_wide.2 ?_;go_quiet ((go_at_call 103;refine (Bv _ (HS.out.ext (a1.drewN _)) (by omega)).mono ?_;rintro e w9 ⟨M,rfl⟩;rw [show (ps.length:Int) - 1=(t0:Int) from by omega] at M;exact ⟨M,⟨_,rfl⟩⟩))
     generalize b6:w3.drewN nq=w9;have b2:zM w3 w9:=⟨nq,b6.symm⟩;have E:zb w3 w9:=b2.below _;clear b6 b2;have c8:zb w w9:=a1.trans E;have b1:=E.cell o;have j5:w9.frozen? ⟨b3,0,none⟩=false:=(Below.frozen E (p:=⟨b3,0,none⟩) (zp o)).trans c0;have e7:=zh (HJ.out _ _ _ b9.out (E.mono a3));have b8:W.heap.size<=w9.heap.size:=EP a3 E.size;clear b9 a1 E a3 o c0;have D:tn<m.tasks.length:=h6;have a7:=a6.out
     have e4:Hid (zi w9 (fun _=>True) (.slice (some ⟨b5,o5+q.length,none⟩) 1 (cq - q.length)) (BY m ps us tn)):=by
      show zi w9 _ _ (BY m ps us tn);rw [V.out];refine ⟨_,_,rfl,by simp;omega,by simp,fun _=>⟨b5,o5+q.length,rfl,trivial,?_⟩⟩;intro i u hi
      match i,hi with
      | 0,hi=>
       injection hi with hi;rw [<-hi];exact c8.cell l4.out
     obtain ⟨fn,tmps,assign,body,hy,hR⟩:=HY.out k ((tn:Int),(.slice (some ⟨b5,o5+q.length,none⟩) 1 (cq - q.length))) w9 (by omega) e7.out ⟨by simp;omega,by have:=e4.out;rwa [show ps.length - 1+k=tn from by omega]⟩;have HR:=zh hR;clear hR a7;dsimp only at hy
     gi_wp2
     refine HR.out.mono ?_;rintro e w5 (⟨rfl,a8,O⟩ | ⟨rfl,a9⟩)
     ·have b0:b3≠l:=by have:=g8.out;omega
      have e5:zb w w5:=Bj c8 O (EP hW.size b8) i0;have f7:w5.cell? ⟨b3,0,none⟩=some (.int .i64 (tn:Int)):=World.grownBy.cell O b1 (fun e=>b0 (by injection e));have f4:W.heap.size<=w5.heap.size:=EP b8 O.size;have e3:=zh a8;clear a8 O hy
      gi_wp2
      exact left1_next a6 hk D (by have:=SO.out.good.tk;omega) h8 HJ d9 e5 e3 f4
     ·gi_wp2
      refine FK (results_none rfl _ _ _) rfl ?_;exact ⟨⟨_,rfl⟩,.inr a9⟩
   ·have n3:(t0:Int)<(tn:Int):=by have:=a6.out;omega
    have hd:((tn:Int)==(t0:Int))=false:=by rw [Fa];omega
    have k3:min (tn:Int) (t0:Int)=(t0:Int):=by omega
    clear hk0
    gi_wp2
    refine wpIn_wide.2 ?_;go_quiet ((go_at_call 103;refine (Bv _ (HS.out.ext (c7.drewN _)) (by omega)).mono ?_;rintro e w9 ⟨M,rfl⟩;rw [show (ps.length:Int) - 1=(t0:Int) from by omega] at M;exact ⟨M,⟨_,rfl⟩⟩))
    generalize f3:w2.drewN nq=w3;have e9:zM w2 w3:=⟨nq,f3.symm⟩;have T:zb w2 w3:=e9.below _;clear f3 e9;have a1:zb w w3:=c7.trans T;have o:=T.cell a4;have c0:w3.frozen? ⟨b3,0,none⟩=false:=(Below.frozen T (p:=⟨b3,0,none⟩) (zp a4)).trans f5;have b9:=zh (HJ.out _ _ _ e6.out (T.mono d6));have a3:W.heap.size<=w3.heap.size:=EP d6 T.size;clear a4 f5 e6 c7 T d6
    have g4:Hid (BY m ps us tn=((m.tasks.getD tn ([],[])).1).filter fun n=>!(!zl m tn n || decide (n∈us))):=by
     show BY m ps us tn=_;unfold BY;rw [if_neg (by omega)]
    gi_wp2
    refine wpIn_wide.2 ?_;go_quiet ((go_at_call 103;refine (Bv _ (HS.out.ext (a1.drewN _)) (by omega)).mono ?_;rintro e w9 ⟨M,rfl⟩;rw [show (ps.length:Int) - 1=(t0:Int) from by omega] at M;exact ⟨M,⟨_,rfl⟩⟩))
    gi_wp2
    refine wpIn_wide.2 ?_;generalize b6:w3.drewN nq=w6;have b2:zM w3 w6:=⟨nq,b6.symm⟩;have E:zb w3 w6:=b2.below _;have b7:=E;clear b6 b2;have I:zb w w6:=a1.trans E;have Z:=E.cell o;have e8:=zh (HJ.out _ _ _ b9.out (E.mono a3));have c6:W.heap.size<=w6.heap.size:=EP a3 E.size;clear b9 a1 E a3;have U:=zh Z;have e0:=zh ((Below.frozen b7 (p:=⟨b3,0,none⟩) (zp o)).trans c0);clear c0 o b7;have D:tn<m.tasks.length:=h6;obtain ⟨bt,offt,sn,u1,u2,rfl,_,f0,f1,h4,c4,g9⟩:=AO i3.out D;have h5:=(SO.out.lens.tl _ (EO D)).1;have a0:=SO.out.good.tn _ (EO D);have V:Hid (BY m ps us tn=((m.tasks[tn]).1).filter fun n=>!(!zl m tn n || decide (n∈us))):=g4.out.trans (by rw [EM,EL D,Ft]);obtain ⟨tk,f2⟩:=zak (m.tasks[tn]);rw [<-f2] at c4 h5 a0 V;clear f2 g9 f0 h4;have HF:=zh c4;obtain ⟨A5,c5,rfl,l9,_⟩:=c4;have g6:=zh a0;clear a0;have q1:=zb.rule f1;have rb3:=zb.rule Z;have G:=zb.refl w6;have m6:(tn:Int)<(m.tasks.length:Int):=by omega
    have k7:(0:Int)<=(tn:Int):=by omega
    have j6:tn<m.free.length:=by have:=SO.out.good.fl;omega
    clear f1 Z;have l8:(0:Int)<=0/\(0:Int)<m.n:=by have:=SO.out.good.n1;unfold MZ.n;omega
    have q3:=rb3
    go_region_held3 (fun W'=>zb w W'/\zb w6 W')
     (first | (exact ⟨I.drew,G.drew⟩) | (exact ⟨I.drew.trans Q.ext,G.drew.trans Q.ext⟩) | (exact ⟨I.drew.trans a5.ext,G.drew.trans a5.ext⟩) | assumption)
     (first | ((go_at_call 46;refine (BB _ (HF.out.below I.drew) (by omega)).mono ?_;rintro e w8 ⟨v8,rfl,a5⟩)) | ((go_at_call 130;refine (left11_del tn HS.out SO.out I.drew a5 (rb _ I.drew) (q3 _ G.drew) D (by omega) (fun x hx=>g6.out x (.inl hx))).mono ?_;rintro e w9 ⟨v9,rfl,Q⟩)))
    all_goals
     have c8:zb w w9:=I.drew.trans Q.ext;have L:zb w6 w9:=G.drew.trans Q.ext
     have e4:Hid (zi w9 (fun _=>True) v9 (BY m ps us tn)):=by
      have h1:=Q.ints;rw [<-V.out] at h1;exact h1.weaken fun _ _=>trivial
     have b1:=L.cell U.out;have j5:w9.frozen? ⟨b3,0,none⟩=false:=(Below.frozen L (p:=⟨b3,0,none⟩) (zp U.out)).trans e0.out;have e7:=zh (HJ.out _ _ _ e8.out (L.mono c6));have b8:W.heap.size<=w9.heap.size:=EP c6 L.size;have a7:=a6.out;clear Q a5 L q3 rb3 G q1 I e8 c6 U e0;obtain ⟨fn,tmps,assign,body,hy,hR⟩:=HY.out k ((tn:Int),v9) w9 (by omega) e7.out ⟨by simp;omega,by have:=e4.out;rwa [show ps.length - 1+k=tn from by omega]⟩;have HR:=zh hR;clear hR a7;dsimp only at hy
     gi_wp2
     refine HR.out.mono ?_;rintro e w5 (⟨rfl,a8,O⟩ | ⟨rfl,a9⟩)
     ·have b0:b3≠l:=by have:=g8.out;omega
      have e5:zb w w5:=Bj c8 O (EP hW.size b8) i0;have f7:w5.cell? ⟨b3,0,none⟩=some (.int .i64 (tn:Int)):=World.grownBy.cell O b1 (fun e=>b0 (by injection e));have f4:W.heap.size<=w5.heap.size:=EP b8 O.size;have e3:=zh a8;clear a8 O hy
      gi_wp2
      exact left1_next a6 hk D (by have:=SO.out.good.tk;omega) h8 HJ d9 e5 e3 f4
     ·gi_wp2
      refine FK (results_none rfl _ _ _) rfl ?_;exact ⟨⟨_,rfl⟩,.inr a9⟩
  ·gi_wp2
   go_end0
   have m3:k=m.tasks.length+1 - ps.length:=by have:=a6.out;omega
   exact ⟨⟨_,rfl⟩,.inl (by rw [<-m3];exact e6.out)⟩
noncomputable def openT (m:MZ) (ps:List (List Int)) (us:List Int) (t:Nat):Bool:=((m.tasks.getD t ([],[])).2).any fun x=>decide (x∈Cz m t (BY m ps us t) us)
def tasksN (m:MZ) (ps:List (List Int)):Nat:=if cmpB m ps=true then 0 else m.tasks.length+1 - ps.length
noncomputable def openB (m:MZ) (ps:List (List Int)) (us:List Int):Bool:=(List.range (tasksN m ps)).all fun k=>openT m ps us (ps.length - 1+k)
theorem left_calls (g:Nat) (w:World):Calls Tryz.prog 109 #[.pointer (some ⟨g,0,none⟩)] w fun e w'=>e=.returned (.func (.func 129) #[] #[.pointer (some ⟨w.heap.size,0,none⟩)])/\w'=w.alloc (.cells #[.pointer (some ⟨g,0,none⟩)] 97):=by
 go_enter Tryz.func109,Tryz.ntmps109
 go_wp2;go_ret;exact ⟨rfl,rfl⟩
theorem left1_none {ok:Nat->Prop} {m:MZ} {ch us:List Int} {ps:List (List Int)} {g gu:Nat} {f:Value} {G:Nat->Int×Value->World->Prop} (w:World) (h:BM w ok g m ch ps us f u ts vc vp gu) (so:SOk m ch ps) (M:w.cell? ⟨gb,0,none⟩=some (.pointer (some ⟨g,0,none⟩))) (hp:cmpB m ps=true) (n:Nat) (Z:1<=n):
  GivesB n Tryz.prog 129 #[.pointer (some ⟨gb,0,none⟩)] (fun x:Int×Value=>#[.int .i64 x.1,x.2]) G 0 w:=by
 intro l J Jx W hW U V L E T h0;have Q:=zh h;clear h;have O:=zh L;clear L E;have D:=zh h0;clear h0;have rb:=zb.rule M;have SO:=zh so;clear so M T;refine callsIn_of_wp Tryz.func129 rfl trivial ?_ rfl;simp only [Tryz.ntmps129,List.size_toArray,zai,zaj,Nat.reduceAdd,Nat.reduceSub,Array.replicate_succ,Array.replicate_zero,List.push_toArray,List.append_toArray,List.nil_append,List.cons_append]
 gi_wp2_with (refine ⟨trivial,?_⟩;gi_at_call 64;refine (callsIn_wide.2 (CL _ (Q.out.ext hW) SO.out)).mono ?_;rintro e wA ⟨rfl,I⟩;rw [hp];have o:zb W wA:=I.below _;have hA:zb w wA:=hW.trans o)
 refine FK (results_none rfl _ _ _) rfl ?_;exact ⟨⟨_,rfl⟩,.inl (O.out _ _ _ D.out o)⟩
theorem left1_gives' {ok:Nat->Prop} {m:MZ} {ch us:List Int} {ps:List (List Int)} {g gu:Nat} {f:Value} (w:World) (h:BM w ok g m ch ps us f u ts vc vp gu) (so:SOk m ch ps) (o:w.cell? ⟨gb,0,none⟩=some (.pointer (some ⟨g,0,none⟩))) (n:Nat) (D:1<=n):
  GivesB n Tryz.prog 129 #[.pointer (some ⟨gb,0,none⟩)] (fun x:Int×Value=>#[.int .i64 x.1,x.2]) (fun k x W=>x.1=((ps.length - 1+k:Nat):Int)/\zi W (fun _=>True) x.2 (BY m ps us (ps.length - 1+k))) (tasksN m ps) w:=by
 unfold tasksN;by_cases hp:cmpB m ps=true
 ·rw [if_pos hp];exact left1_none w h so o hp n D
 ·rw [if_neg hp];exact left1_gives w h so o (by simpa using hp) n D
theorem zN.apart {w:World} {ok:Nat->Prop} {n b:Nat} {A:Option Addr} {r:Loop} (h:zN w ok size A n xs) (I:0<size) (E:w.heap[b]?=some (.loop r)):zN w (fun k=>ok k/\k≠b) size A n xs:=by
 refine ⟨h.1,fun D=>?_⟩;obtain ⟨k,off,e,G,o⟩:=h.2 D;have h0:0<xs.length:=by rw [h.1];exact Nat.mul_pos D I
 refine ⟨k,off,e,⟨G,?_⟩,o⟩;rintro rfl;have h1:=o 0 _ (EL h0);unfold World.cell? at h1;simp only [E] at h1;cases h1
theorem zi.apart {w:World} {ok:Nat->Prop} {v:Value} {l:List Int} {b:Nat} {r:Loop} (h:zi w ok v l) (o:w.heap[b]?=some (.loop r)):zi w (fun k=>ok k/\k≠b) v l:=by
 obtain ⟨A,c,e,D,E⟩:=h;exact ⟨A,c,e,D,E.apart (by decide) o⟩
theorem zU:Tryz.prog.follows .mixedOrders=true:=by kernel_rfl
theorem results_bool {fn:Func} {p w2:Nat} {b:Bool} (h:fn.results=#[.cell p 4]) (tmps:Array Value) (w:World) (hp:tmps.getD p undef=.pointer (some ⟨w2,0,none⟩)) (D:w.cell? ⟨w2,0,none⟩=some (.bool b)):(results fn tmps).run Tryz.prog w=.ok (.bool b) w:=by
 have o:tmps[p]?.getD undef=.pointer (some ⟨w2,0,none⟩):=by simpa using hp
 simp [results,h,o,asAddr,go_sem,D]
theorem tasksN_lt {m:MZ} {ch:List Int} {ps:List (List Int)} {t:Nat} (so:SOk m ch ps) (o:k<tasksN m ps) (D:t=ps.length - 1+k):t<m.tasks.length:=by
 unfold tasksN at o
 split at o
 ·omega
 ·rename_i h
  have h0:0<m.tasks.length:=by
   rcases Fz m.tasks.length with h0 | h0
   ·exfalso;apply h;unfold cmpB;rw [EQ h0];rfl
   ·exact h0
  have:=so.pn h0;have:=so.pl;omega
theorem fromL_len {m:MZ} {ch us:List Int} {ps:List (List Int)} {t:Nat} (so:SOk m ch ps) (o:t<m.tasks.length):(BY m ps us t).length<=20000000000000:=by
 unfold BY
 split
 ·simp
 ·refine EP (Fr _ _) ?_;rw [EM,EL o,Ft];have:=(so.lens.tl _ (EO o)).1;omega
structure JO (W0:World) (g gu:Nat) (m:MZ) (frm us:List Int) (t:Nat) (x2 MV:Value) (e:Nat->Bool) (v:Nat->Value) (W:World):Prop where
 ext:zb W0 W
 v0:e 0=true->v 0=.pointer (some ⟨g,0,none⟩)
 v1:e 1=true->v 1=.pointer (some ⟨g,0,none⟩)
 v2:e 2=true->v 2=.pointer (some ⟨g,0,none⟩)
 v3:e 3=true->v 3=MV
 v4:e 4=true->v 4=.int .i64 (t:Int)
 v5:e 5=true->v 5=x2
 v6:e 6=true->v 6=.pointer (some ⟨g,0,none⟩)
 v7:e 7=true->v 7=.pointer (some ⟨g,0,none⟩)
 v8:e 8=true->v 8=.pointer (some ⟨g,8,none⟩)
 v9:e 9=true->v 9=.map (some gu)
 call:e 10=true->∃gs s,v 10=.map (some gs)/\W0.heap.size<=gs/\zD W gs s/\∀x,x∈s↔RP m t frm us x
 al:e 11=true->∃g5,v 11=.pointer (some ⟨g5,0,none⟩)/\W0.heap.size<=g5/\(e 12=false->zg W g5 79 #[.map none])/\(e 12=true->W.cell? ⟨g5,0,none⟩=some (v 10))
 d12:e 12=true->e 10=true/\e 11=true
section
variable {W0 W W':World} {g gu:Nat} {m:MZ} {frm us:List Int} {t:Nat} {x2 MV:Value} {e:Nat->Bool} {v:Nat->Value}
theorem JO.n12 (h:JO W0 g gu m frm us t x2 MV e v W) (o:e 10=false):e 12=false:=notT (fun a=>(h.d12 a).1) o
theorem JO.n12' (h:JO W0 g gu m frm us t x2 MV e v W) (o:e 11=false):e 12=false:=notT (fun a=>(h.d12 a).2) o
theorem JO.init (he:∀j∈[0,1,2,3,4,5,6,7,8,9,10,11,12],e j=false):JO W0 g gu m frm us t x2 MV e v { W0 with drawn:=W0.drawn+1 }:=
 ⟨DA,fun a=>ff (he 0 (by simp)) a,fun a=>ff (he 1 (by simp)) a,fun a=>ff (he 2 (by simp)) a,fun a=>ff (he 3 (by simp)) a,fun a=>ff (he 4 (by simp)) a,fun a=>ff (he 5 (by simp)) a,fun a=>ff (he 6 (by simp)) a,fun a=>ff (he 7 (by simp)) a,fun a=>ff (he 8 (by simp)) a,fun a=>ff (he 9 (by simp)) a,fun a=>ff (he 10 (by simp)) a,fun a=>ff (he 11 (by simp)) a,fun a=>ff (he 12 (by simp)) a⟩
theorem JO.s0 (h:JO W0 g gu m frm us t x2 MV e v W):JO W0 g gu m frm us t x2 MV (AI e 0 true) (AI v 0 (.pointer (some ⟨g,0,none⟩))) W:=
 ⟨h.ext,fun _=>rfl,h.v1,h.v2,h.v3,h.v4,h.v5,h.v6,h.v7,h.v8,h.v9,h.call,h.al,h.d12⟩
theorem JO.s1 (h:JO W0 g gu m frm us t x2 MV e v W):JO W0 g gu m frm us t x2 MV (AI e 1 true) (AI v 1 (.pointer (some ⟨g,0,none⟩))) W:=
 ⟨h.ext,h.v0,fun _=>rfl,h.v2,h.v3,h.v4,h.v5,h.v6,h.v7,h.v8,h.v9,h.call,h.al,h.d12⟩
theorem JO.s2 (h:JO W0 g gu m frm us t x2 MV e v W):JO W0 g gu m frm us t x2 MV (AI e 2 true) (AI v 2 (.pointer (some ⟨g,0,none⟩))) W:=
 ⟨h.ext,h.v0,h.v1,fun _=>rfl,h.v3,h.v4,h.v5,h.v6,h.v7,h.v8,h.v9,h.call,h.al,h.d12⟩
theorem JO.s3 (h:JO W0 g gu m frm us t x2 MV e v W):JO W0 g gu m frm us t x2 MV (AI e 3 true) (AI v 3 (MV)) W:=
 ⟨h.ext,h.v0,h.v1,h.v2,fun _=>rfl,h.v4,h.v5,h.v6,h.v7,h.v8,h.v9,h.call,h.al,h.d12⟩
theorem JO.s4 (h:JO W0 g gu m frm us t x2 MV e v W):JO W0 g gu m frm us t x2 MV (AI e 4 true) (AI v 4 (.int .i64 (t:Int))) W:=
 ⟨h.ext,h.v0,h.v1,h.v2,h.v3,fun _=>rfl,h.v5,h.v6,h.v7,h.v8,h.v9,h.call,h.al,h.d12⟩
theorem JO.s5 (h:JO W0 g gu m frm us t x2 MV e v W):JO W0 g gu m frm us t x2 MV (AI e 5 true) (AI v 5 (x2)) W:=
 ⟨h.ext,h.v0,h.v1,h.v2,h.v3,h.v4,fun _=>rfl,h.v6,h.v7,h.v8,h.v9,h.call,h.al,h.d12⟩
theorem JO.s6 (h:JO W0 g gu m frm us t x2 MV e v W):JO W0 g gu m frm us t x2 MV (AI e 6 true) (AI v 6 (.pointer (some ⟨g,0,none⟩))) W:=
 ⟨h.ext,h.v0,h.v1,h.v2,h.v3,h.v4,h.v5,fun _=>rfl,h.v7,h.v8,h.v9,h.call,h.al,h.d12⟩
theorem JO.s7 (h:JO W0 g gu m frm us t x2 MV e v W):JO W0 g gu m frm us t x2 MV (AI e 7 true) (AI v 7 (.pointer (some ⟨g,0,none⟩))) W:=
 ⟨h.ext,h.v0,h.v1,h.v2,h.v3,h.v4,h.v5,h.v6,fun _=>rfl,h.v8,h.v9,h.call,h.al,h.d12⟩
theorem JO.s8 (h:JO W0 g gu m frm us t x2 MV e v W):JO W0 g gu m frm us t x2 MV (AI e 8 true) (AI v 8 (.pointer (some ⟨g,8,none⟩))) W:=
 ⟨h.ext,h.v0,h.v1,h.v2,h.v3,h.v4,h.v5,h.v6,h.v7,fun _=>rfl,h.v9,h.call,h.al,h.d12⟩
theorem JO.s9 (h:JO W0 g gu m frm us t x2 MV e v W):JO W0 g gu m frm us t x2 MV (AI e 9 true) (AI v 9 (.map (some gu))) W:=
 ⟨h.ext,h.v0,h.v1,h.v2,h.v3,h.v4,h.v5,h.v6,h.v7,h.v8,fun _=>rfl,h.call,h.al,h.d12⟩
theorem JO.s10 {s:List Int} (h:JO W0 g gu m frm us t x2 MV e v W) (o:e 12=false) (E:zb W W') (G:W0.heap.size<=gs) (I:zD W' gs s) (D:∀x,x∈s↔RP m t frm us x):
  JO W0 g gu m frm us t x2 MV (AI e 10 true) (AI v 10 (.map (some gs))) W':=
 ⟨h.ext.trans E,h.v0,h.v1,h.v2,h.v3,h.v4,h.v5,h.v6,h.v7,h.v8,h.v9,fun _=>⟨gs,s,rfl,G,I,D⟩,fun a=>(by
  obtain ⟨g5,h1,h2,h3,_⟩:=h.al a;exact ⟨g5,h1,h2,fun _=>(h3 o).ext E,fun b=>ff (b:=e 12) o b⟩),fun a=>ff (b:=e 12) o a⟩
theorem JO.s11 (h:JO W0 g gu m frm us t x2 MV e v W) (o:e 12=false):
  JO W0 g gu m frm us t x2 MV (AI e 11 true) (AI v 11 (.pointer (some ⟨W.heap.size,0,none⟩))) (W.alloc (.cells #[.map none] 79)):=
 ⟨h.ext.alloc _,h.v0,h.v1,h.v2,h.v3,h.v4,h.v5,h.v6,h.v7,h.v8,h.v9,fun a=>(by
  obtain ⟨gs,s,h1,h2,h3,D⟩:=h.call a;exact ⟨gs,s,h1,h2,h3.below ((zb.refl _).alloc _),D⟩),fun _=>⟨_,rfl,h.ext.size,fun _=>zg.new _ _ _ rfl,fun b=>ff (b:=e 12) o b⟩,fun a=>ff (b:=e 12) o a⟩
theorem JO.s12 {g5:Nat} {x:Value} (h:JO W0 g gu m frm us t x2 MV e v W) (D:v 11=.pointer (some ⟨g5,0,none⟩)) (o:v 10=.map (some gs)) (L:W0.heap.size<=g5) (J:zg W g5 79 #[.map none]) (E:e 10=true) (G:e 11=true):
  JO W0 g gu m frm us t x2 MV (AI e 12 true) (AI v 12 x) (W.setCell ⟨g5,0,none⟩ (.map (some gs))):=
 ⟨h.ext.setCell (p:=⟨g5,0,none⟩) L _,h.v0,h.v1,h.v2,h.v3,h.v4,h.v5,h.v6,h.v7,h.v8,h.v9,fun a=>(by
  obtain ⟨gs',s,h1,h2,h3,M⟩:=h.call a;refine ⟨gs',s,h1,h2,?_,M⟩;have I:g5≠gs':=blk_set_ne J h3
  exact (EW W ⟨g5,0,none⟩ _ gs' (fun e=>I e.symm)).trans h3),fun _=>⟨g5,D,L,fun a=>(by cases a),fun _=>by
   show _=some (v 10);rw [o];exact (J.set (k:=0) _).cell (k:=0) rfl⟩,fun _=>⟨E,G⟩⟩
end
theorem open_calls {ok:Nat->Prop} {m:MZ} {ch us:List Int} {ps:List (List Int)} {g gu:Nat} {f:Value} (w:World) (h:BM w ok g m ch ps us f u ts vc vp gu) (so:SOk m ch ps):
  Calls Tryz.prog 86 #[.pointer (some ⟨g,0,none⟩)] w fun e w'=>e=.returned (.bool (openB m ps us))/\zb w w':=by
 refine (callsIn_wide (n:=6)).1 ?_;have HS:=zh h;have SO:=zh so;obtain ⟨r0,r1,r2,r3,r4,r5,r6,r7,r8⟩:=h.rules;clear h;refine callsIn_of_wp_marks Tryz.func86 rfl trivial ?_ rfl;simp only [Tryz.ntmps86,List.size_toArray,zai,zaj,Nat.reduceAdd,Nat.reduceSub,Array.replicate_succ,Array.replicate_zero,List.push_toArray,List.append_toArray,List.nil_append,List.cons_append]
 gi_wp2_with (refine ⟨trivial,?_⟩;gi_at_call 109;refine (callsIn_wide.2 (left_calls _ _)).mono ?_;rintro e w1 ⟨rfl,rfl⟩)
 obtain ⟨w1,a0⟩:=zak (((w.alloc (.cells #[.pointer (some ⟨g,0,none⟩)] 97)).alloc (.cells #[.bool false] 4)).alloc (.cells #[.pointer (some ⟨g,0,none⟩)] 97));rw [<-a0];have a4:zb w w1:=by rw [a0];exact (((zb.refl w).alloc _).alloc _).alloc _
 have j7:w1.heap.size=w.heap.size+3:=by rw [a0];simp
 have g6:w1.cell? ⟨w.heap.size,0,none⟩=some (.pointer (some ⟨g,0,none⟩)):=by
  rw [a0];exact zb.cell (zr w _ _ rfl) (((zb.refl _).alloc _).alloc _)
 have c6:w1.cell? ⟨w.heap.size+1,0,none⟩=some (.bool false)/\w1.frozen? ⟨w.heap.size+1,0,none⟩=false:=by
  rw [a0];constructor
  ·exact zb.cell (zr _ _ _ (by simp)) ((zb.refl _).alloc _)
  ·rw [World.frozen?_alloc_past _ _ _ (by simp)];exact World.frozen?_alloc_at _ _ _ _ (by simp)
 have b8:w1.cell? ⟨w.heap.size+1+1,0,none⟩=some (.pointer (some ⟨g,0,none⟩)):=by
  rw [a0];exact zr _ _ _ (by simp)
 clear a0;have rb:=zb.rule g6;obtain ⟨tn0,i5⟩:=zak (ps.length - 1);obtain ⟨w2,b5⟩:=zak (w.heap.size+1);rw [<-b5] at c6⊢;have U:w2<w1.heap.size:=by omega
 have e3:=zh b5;rw [<-b5] at b8;clear b5
 refine wpIn_loopB (gf:=129) (lb:=#[.pointer (some ⟨w2+1,0,none⟩)]) rfl (enters_of Tryz.func129 (by kernel_rfl) rfl) (left1_gives' w1 (HS.out.ext a4) SO.out b8 _ (by omega)) (zb.refl w1) (fun _=>rfl)
  (fun k W=>zb w1 W/\(∀j,j<k->openT m ps us (ps.length - 1+j)=true)/\W.frozen? ⟨w2,0,none⟩=false/\∃b,W.cell? ⟨w2,0,none⟩=some (.bool b))
  (fun c W=>c=.ret/\zb w W/\W.cell? ⟨w2,0,none⟩=some (.bool false)/\openB m ps us=false)
  ?hI ?hIx ?hG ⟨zb.refl w1,fun _ h=>absurd h (by omega),c6.2,_,c6.1⟩ (fun x=>{ tmps:=#[Value.pointer (some ⟨g,0,none⟩),Value.pointer (some ⟨w.heap.size,0,none⟩),Value.pointer (some ⟨w2,0,none⟩),.int .i64 x.1,x.2,undef,Value.pointer (some ⟨g,0,none⟩),
    Value.func (Fn.func 129) #[] #[Value.pointer (some ⟨w2+1,0,none⟩)],.int .i64 x.1,x.2,undef,undef,undef,undef,undef,undef,undef,undef,undef,undef,undef,undef,undef,undef,undef,undef,undef,undef,undef,undef,undef,undef,undef],defers:=[] }) ?assign ?body ?done ?stop
 case hI=>
  rintro k A B ⟨h1,h2,h3,b,h4⟩ a3;have T:=U;exact ⟨Below.trans h1 a3,h2,(a3.frozen (p:=⟨w2,0,none⟩) T).trans h3,b,(a3.cell (p:=⟨w2,0,none⟩) T).trans h4⟩
 case hIx=>
  rintro c A B ⟨h1,h2,h3,h4⟩ a3;have T:=U;exact ⟨h1,Below.trans h2 (a3.mono a4.size),(a3.cell (p:=⟨w2,0,none⟩) T).trans h3,h4⟩
 case hG=>
  rintro k x A l ⟨h1,h2⟩ j1 j2 ⟨r,hr⟩ o;exact ⟨h1,((h2.apart hr).keep fun b hb T=>World.putObj_heap_other hb.2).weaken fun _ h=>h.1⟩
 case assign=>
  intro l x W K G
  gi_wp2
  exact G
 case body=>
  rintro l k ⟨x1,x2⟩ W0 hk ⟨Q,a1,hfz,b,a6⟩ ⟨d6,b6⟩ j4;dsimp only at d6 b6⊢;obtain ⟨t,ht⟩:=zak (ps.length - 1+k);rw [<-ht] at d6 b6;subst d6;have M:zb w W0:=a4.trans Q;have HX:=zh b6;clear b6;obtain ⟨frm,b0⟩:=zak (BY m ps us t);rw [<-b0] at HX;have b7:=zh b0;clear b0;have b2:t<m.tasks.length:=tasksN_lt SO.out hk ht;have h8:t<m.free.length:=by rw [SO.out.good.fl];exact b2
  have j0:frm.length<=20000000000000:=by rw [b7.out];exact fromL_len SO.out b2
  have h5:=HS.out.maze;obtain ⟨fr',up',ts',a7,_,_,f3⟩:=h5;injection a7 with a7;injection a7 with a7;simp only [List.cons.injEq,and_true,true_and] at a7;obtain ⟨rfl,rfl,rfl⟩:=a7;have g0:=zh f3;obtain ⟨vst,⟨At,ct,rfl,i9,_⟩,_⟩:=f3;obtain ⟨bt,offt,sn,u1,u2,rfl,_,f1,g9,f2,g8,c8⟩:=AO g0.out b2;have b9:=(SO.out.lens.tl _ (EO b2)).2;obtain ⟨tl2,d5⟩:=zak ((m.tasks[t]).2);rw [<-d5] at c8 b9;have f9:=zh d5;clear d5 g8 f1 g9;have f7:=zh c8;obtain ⟨A5,c5,rfl,a5,_⟩:=c8;have q2:=zb.rule f2;clear f2;have j6:(t:Int)<(m.tasks.length:Int):=by omega
  have i4:(0:Int)<=(t:Int):=by omega
  have j5:=SO.out.good.tk;obtain ⟨MV,e7⟩:=zak (Value.agg #[.int .i64 m.w,.int .i64 m.h,.int .i64 m.l,f,u,.slice (some ⟨bt,offt,none⟩) m.tasks.length ct]);have HT:=zh ht;clear ht;have d8:=zh a1;clear a1;have e0:=zh hfz;clear hfz;have d9:=zh a6;clear a6
  gi_wp2
  refine wpIn_region_any zU ?_;simp only [List.size_toArray,zai,zaj,Nat.reduceAdd,Array.replicate_succ,Array.replicate_zero,List.push_toArray,List.nil_append,List.cons_append];refine wpAnyIn_by_invF _ _ (by kernel_rfl) [0,1,2,3,4,5,6,7,8,9,10,11,12] (fun e v W=>JO W0 g gu m frm us t x2 MV e v W) (F:=?F1) (by kernel_rfl) (by kernel_rfl) (by decide) (fun v=>?hF1) ?init1 (by kernel_rfl) ?steps1 ?fin1
  case hF1=>(simp only [zS,Co,List.getElem?_toArray,List.getElem?_cons_succ,List.getElem?_cons_zero,Option.bind,Act.put,List.setIfInBounds_toArray,List.set_cons_succ,List.set_cons_zero];rfl)
  case init1=>
   intro e v he;exact JO.init he
  case steps1=>
   refine zk.cons rfl (fun e v W K E hW he J G=>?_) ?_
   ·simp only [za] at J G⊢;have L:zb w W:=M.trans E.ext;have I:zb w1 W:=Q.trans E.ext;go_simp;exact G.out _ _ _ (by rfl) trivial E.s0
   refine zk.cons rfl (fun e v W K E hW he J G=>?_) ?_
   ·simp only [za] at J G⊢;have L:zb w W:=M.trans E.ext;have I:zb w1 W:=Q.trans E.ext;have v0:=E.v0 (zo J [0] (by kernel_rfl) 0 (by simp));go_simp;exact G.out _ _ _ (by simp [Act.put,v0]) trivial E.s1
   refine zk.cons rfl (fun e v W K E hW he J G=>?_) ?_
   ·simp only [za] at J G⊢;have L:zb w W:=M.trans E.ext;have I:zb w1 W:=Q.trans E.ext;have v1:=E.v1 (zo J [1] (by kernel_rfl) 1 (by simp));go_simp;exact G.out _ _ _ (by simp [Act.put,v1]) trivial E.s2
   refine zk.cons rfl (fun e v W K E hW he J G=>?_) ?_
   ·simp only [za] at J G⊢;have L:zb w W:=M.trans E.ext;have I:zb w1 W:=Q.trans E.ext;have v2:=E.v2 (zo J [2] (by kernel_rfl) 2 (by simp));go_simp;exact G.out _ _ _ (by simp [Act.put,v2,e7]) trivial E.s3
   refine zk.cons rfl (fun e v W K E hW he J G=>?_) ?_
   ·simp only [za] at J G⊢;have L:zb w W:=M.trans E.ext;have I:zb w1 W:=Q.trans E.ext;go_simp;exact G.out _ _ _ (by rfl) trivial E.s4
   refine zk.cons rfl (fun e v W K E hW he J G=>?_) ?_
   ·simp only [za] at J G⊢;have L:zb w W:=M.trans E.ext;have I:zb w1 W:=Q.trans E.ext;go_simp;exact G.out _ _ _ (by rfl) trivial E.s5
   refine zk.cons rfl (fun e v W K E hW he J G=>?_) ?_
   ·simp only [za] at J G⊢;have L:zb w W:=M.trans E.ext;have I:zb w1 W:=Q.trans E.ext;go_simp;exact G.out _ _ _ (by rfl) trivial E.s6
   refine zk.cons rfl (fun e v W K E hW he J G=>?_) ?_
   ·simp only [za] at J G⊢;have L:zb w W:=M.trans E.ext;have I:zb w1 W:=Q.trans E.ext;have v6:=E.v6 (zo J [6] (by kernel_rfl) 6 (by simp));go_simp;exact G.out _ _ _ (by simp [Act.put,v6]) trivial E.s7
   refine zk.cons rfl (fun e v W K E hW he J G=>?_) ?_
   ·simp only [za] at J G⊢;have L:zb w W:=M.trans E.ext;have I:zb w1 W:=Q.trans E.ext;have v7:=E.v7 (zo J [7] (by kernel_rfl) 7 (by simp));go_simp;exact G.out _ _ _ (by simp [Act.put,v7]) trivial E.s8
   refine zk.cons rfl (fun e v W K E hW he J G=>?_) ?_
   ·simp only [za] at J G⊢;have L:zb w W:=M.trans E.ext;have I:zb w1 W:=Q.trans E.ext;have v8:=E.v8 (zo J [8] (by kernel_rfl) 8 (by simp));go_simp;exact G.out _ _ _ (by simp [Act.put,v8]) trivial E.s9
   refine zk.cons rfl (fun e v W K E hW he J G=>?_) ?_
   ·simp only [za] at J G⊢;have L:zb w W:=M.trans E.ext;have I:zb w1 W:=Q.trans E.ext;have v3:=E.v3 (zo J [3,4,5,9] (by kernel_rfl) 3 (by simp));have v4:=E.v4 (zo J [3,4,5,9] (by kernel_rfl) 4 (by simp));have v5:=E.v5 (zo J [3,4,5,9] (by kernel_rfl) 5 (by simp));have v9:=E.v9 (zo J [3,4,5,9] (by kernel_rfl) 9 (by simp));have c4:e 12=false:=E.n12 he;go_simp;go_at_call 59;refine (reach_calls t W (HS.out.maze.below L) SO.out.good.dim h8 SO.out.good.fn (HX.out.below E.ext) (by omega) (HS.out.us.below L)).mono ?_;rintro e9 w9 ⟨s,rfl,g4,h7,b1⟩;go_simp;exact G.out _ _ _ (by simp [Act.put,v3,v4,v5,v9,e7]) trivial (E.s10 c4 g4 (by have:=E.ext.size;omega) h7 b1)
   refine zk.cons rfl (fun e v W K E hW he J G=>?_) ?_
   ·simp only [za] at J G⊢;have L:zb w W:=M.trans E.ext;have I:zb w1 W:=Q.trans E.ext;have c4:e 12=false:=E.n12' he;go_simp;exact G.out _ _ _ (by rfl) trivial (E.s11 c4)
   refine zk.cons rfl (fun e v W K E hW he J G=>?_) ?_
   ·simp only [za] at J G⊢;have L:zb w W:=M.trans E.ext;have I:zb w1 W:=Q.trans E.ext;have e4:e 10=true:=zo J [10,11] (by kernel_rfl) 10 (by simp);have e5:e 11=true:=zo J [10,11] (by kernel_rfl) 11 (by simp);obtain ⟨g5,Z,f0,a8,_⟩:=E.al e5;have a8:=a8 he;have hf:=fun k=>a8.frozen k
    have i8:=a8.cell (k:=0) rfl;obtain ⟨gs,s,V,g7,d4,b1⟩:=E.call e4;go_simp;exact G.out _ undef _ (by simp [Act.put,V,Z]) trivial (E.s12 Z V f0 a8 e4 e5)
   exact zk.nil
  case fin1=>
   intro v W5 E;have v10e:=E.call rfl;obtain ⟨gs,s,V,g7,d4,b1⟩:=v10e;obtain ⟨g5,Z,f0,_,a5⟩:=E.al rfl;have a5:=a5 rfl;rw [V] at a5;have b4:zb W0 W5:=E.ext;have L:zb w W5:=M.trans b4;have I:zb w1 W5:=Q.trans b4;have HJ:=zh E;clear E;have f8:=zh b1;clear b1;rw [Z];clear V Z
   have HC:=zh (Bh (l:=tl2) 110 #[.pointer (some ⟨g5,0,none⟩)] (fun x=>decide (x∈s)) W5 (f7.out.below L) (by omega) (Bi (P:=Tryz.prog) Tryz.func110 (by kernel_rfl) (by kernel_rfl))
    (fun x _ wa J=>by
     have e6:zb W5 wa:=J.below _;refine (open1_calls x wa (d4.below e6) (zb.cell a5 e6)).mono ?_;rintro e wb ⟨rfl,rfl⟩;exact ⟨rfl,zM.refl _⟩))
   have c0:Hid (openT m ps us t=tl2.any fun x=>decide (x∈s)):=by
    show openT m ps us t=_;unfold openT;rw [f9.out,EM,EL b2,Ft,<-b7.out];congr 1;funext x;rw [decide_eq_decide,Cw SO.out.good.dim];exact (f8.out x).symm
   generalize (tl2.any fun x=>decide (x∈s))=bb at HC c0;clear d4 a5
   cases bb with
   | true=>
    gi_wp2_with fail
    refine ⟨trivial,?_⟩;refine (CallsIn.inRound l (callsIn_wide.2 HC.out)).mono ?_;rintro e w6 ⟨rfl,a9⟩;have d7:zb W5 w6:=a9.below _;clear a9;have O:zb W0 w6:=b4.trans d7
    gi_wp2_with fail
    have T:=Fq U Q.size;refine ⟨O,Q.trans O,fun j hj=>?_,(Below.frozen O (p:=⟨w2,0,none⟩) T).trans e0.out,b,(Below.cell O (p:=⟨w2,0,none⟩) T).trans d9.out⟩;rcases Fk j k with h | h
    ·exact d8.out j h
    ·rw [show j=k from by omega,<-HT.out];exact c0.out
   | false=>
    gi_wp2_with fail
    refine ⟨trivial,?_⟩;refine (CallsIn.inRound l (callsIn_wide.2 HC.out)).mono ?_;rintro e w6 ⟨rfl,a9⟩;have d7:zb W5 w6:=a9.below _;clear a9;have O:zb W0 w6:=b4.trans d7;have T:=Fq U Q.size;have e8:w6.cell? ⟨w2,0,none⟩=some (.bool b):=(Below.cell O (p:=⟨w2,0,none⟩) T).trans d9.out;have i1:w6.frozen? ⟨w2,0,none⟩=false:=(Below.frozen O (p:=⟨w2,0,none⟩) T).trans e0.out;have c7:w.heap.size<=w2:=by have:=e3.out;omega
    gi_wp2_with fail
    refine ⟨fun k' h1 h2=>(EW w6 ⟨w2,0,none⟩ _ k' (by show k'≠w2;omega)).trans (O.block k' h2),rfl,(M.trans O).setCell (p:=⟨w2,0,none⟩) c7 _,World.cell?_setCell_same' _ _ _ (by rw [e8];rfl),?_⟩;unfold openB;rw [List.all_eq_false];exact ⟨k,zad.2 hk,by rw [<-HT.out,c0.out];simp⟩
 case done=>
  rintro D W hD ⟨Q,a1,hfz,b,a6⟩ G;have b9:w2<W.heap.size:=Fq U Q.size
  gi_wp2
  refine ⟨by simp,.inl ⟨_,_,rfl,run_takeDeferred ((EW W ⟨w2,0,none⟩ _ D (by show D≠w2;omega)).trans G),?_⟩⟩;have c9:w2≠D:=by omega
  refine ⟨_,results_bool (w2:=w2) (b:=true) rfl _ _ rfl ?_,zf ?_,?_⟩
  ·exact (Fc (World.putObj_heap_other c9)).trans (World.cell?_setCell_same' _ _ _ (by rw [a6];rfl))
  ·unfold openB;symm;rw [zag];exact fun j hj=>a1 j (zad.1 hj)
  ·have c7:w.heap.size<=w2:=by have:=e3.out;omega
   exact ((a4.trans Q).setCell (p:=⟨w2,0,none⟩) c7 _).trans (belowK_b (w:=w) (EN _) _ D _ _ (by have:=a4.size;omega) ((EW W ⟨w2,0,none⟩ _ D (by show D≠w2;omega)).trans G) rfl rfl)
 case stop=>
  rintro D c W hD ⟨rfl,Q,a6,h6⟩ G
  gi_wp2
  refine ⟨by simp,.inl ⟨_,_,rfl,run_takeDeferred G,?_⟩⟩;have c9:w2≠D:=by omega
  refine ⟨_,results_bool (w2:=w2) (b:=false) rfl _ _ rfl ?_,zf h6.symm,?_⟩
  ·exact (Fc (World.putObj_heap_other c9)).trans a6
  ·exact Below.trans Q (belowK_b (w:=w) (EN _) _ D _ _ (by have:=a4.size;omega) G rfl rfl)
end
section
open Go.RowKit
def zY (m:MZ) (ch:List Int):List (List Int):=ch.foldl (Ca m) (ps0 m)
def Bw (m:MZ) (ch:List Int):List Int:=CC m (zY m ch) ch
def AZ (m:MZ) (ch:List Int):Bool:=cmpB m (zY m ch)
noncomputable def Cj (m:MZ) (ch:List Int):Bool:=openB m (zY m ch) ch
theorem psOf_nil (m:MZ):zY m []=ps0 m:=rfl
theorem DX (m:MZ) (ch:List Int) (n:Int):zY m (ch++[n])=Ca m (zY m ch) n:=by simp [zY,List.foldl_append]
section
variable {m:MZ} {ps:List (List Int)} {us us':List Int}
theorem dec_congr (h:∀x,x∈us↔x∈us') (n:Int):decide (n∈us)=decide (n∈us'):=by rw [decide_eq_decide];exact h n
theorem candL_congr (h:∀x,x∈us↔x∈us'):CC m ps us=CC m ps us':=by
 unfold CC;simp only [zT,dec_congr h]
 have:(fun n=>zT m us (ps.length - 1) (ps.getD (ps.length - 1) []).dropLast (m.tasks.getD (ps.length - 1) ([],[])).1 n)=(fun n=>zT m us' (ps.length - 1) (ps.getD (ps.length - 1) []).dropLast (m.tasks.getD (ps.length - 1) ([],[])).1 n):=by
  funext n;simp only [zT,dec_congr h]
 have h2:zT m us (ps.length - 1) (ps.getD (ps.length - 1) []).dropLast (m.tasks.getD (ps.length - 1) ([],[])).1=zT m us' (ps.length - 1) (ps.getD (ps.length - 1) []).dropLast (m.tasks.getD (ps.length - 1) ([],[])).1:=this;rw [h2]
theorem fromL_congr (h:∀x,x∈us↔x∈us') (t:Nat):BY m ps us t=BY m ps us' t:=by
 unfold BY;simp only [dec_congr h]
theorem reachL_congr (h:∀x,x∈us↔x∈us') (t:Nat) (f:List Int):Cz m t f us=Cz m t f us':=by
 unfold Cz;apply List.filter_congr;intro x _;rw [decide_eq_decide];exact ⟨fun o=>o.congr (fun _=>Iff.rfl) h,fun o=>o.congr (fun _=>Iff.rfl) (fun x=>(h x).symm)⟩
theorem openB_congr (h:∀x,x∈us↔x∈us'):openB m ps us=openB m ps us':=by
 unfold openB openT;simp only [fromL_congr h,reachL_congr h]
end
inductive zC (m:MZ):List Int->Prop
 | nil:zC m []
 | snoc {ch:List Int} {n:Int}:zC m ch->n∈Bw m ch->zC m (ch++[n])
theorem CD {m:MZ} {ch:List Int} (h:n∈Bw m ch):AZ m ch=false:=by
 unfold Bw CC at h;unfold AZ
 cases o:cmpB m (zY m ch)
 ·rfl
 ·rw [if_pos o] at h;cases h
theorem Cx {m:MZ} {ps:List (List Int)} (h:cmpB m ps=false):0<m.tasks.length:=by
 rcases Fz m.tasks.length with h0 | h0
 ·unfold cmpB at h;rw [EQ h0] at h;cases h
 ·exact h0
structure PsOk (m:MZ) (ch:List Int) (ps:List (List Int)):Prop where
 pl:ps.length<=m.tasks.length
 pn:0<m.tasks.length->0<ps.length
 fl:ps.flatten=ch
theorem getD_mem {α:Type} {l:List (List α)} (h:k<l.length):l.getD k []∈l:=by
 rw [EM,EL h];exact EO h
theorem addN_eq {ps:List (List Int)} (hp:0<ps.length) (n:Int):∃qs p,ps=qs++[p]/\Ct ps n=qs++[p++[n]]:=by
 rcases List.eq_nil_or_concat ps with rfl | ⟨qs,p,rfl⟩
 ·simp at hp
 ·refine ⟨qs,p,by simp,?_⟩;unfold Ct;rw [List.concat_eq_append,EV,Fo,Nat.add_sub_cancel,List.set_append_right _ _ (EN _)];simp
theorem Du {ps:List (List Int)}:(Ct ps n).length=ps.length:=by unfold Ct;simp
theorem addN_flat {ps:List (List Int)} (hp:0<ps.length) (n:Int):(Ct ps n).flatten=ps.flatten++[n]:=by
 obtain ⟨qs,p,rfl,h⟩:=addN_eq hp n;rw [h];simp
theorem withPs_flat {m:MZ} {ps:List (List Int)} (hp:0<ps.length) (n:Int):(Ca m ps n).flatten=ps.flatten++[n]:=by
 unfold Ca
 split
 ·rw [List.flatten_append,addN_flat hp];simp
 ·exact addN_flat hp n
theorem PsOk.step {m:MZ} {ch:List Int} {ps:List (List Int)} (h:PsOk m ch ps) (o:0<m.tasks.length) (n:Int):PsOk m (ch++[n]) (Ca m ps n):=by
 have hp:=h.pn o;refine ⟨?_,fun _=>?_,?_⟩
 ·unfold Ca
  split
  ·rename_i h1
   simp only [EV,Du,Fo];omega
  ·rw [Du];exact h.pl
 ·unfold Ca
  split <;> simp [Du] <;> omega
 ·rw [withPs_flat hp,h.fl]
theorem psOk_nil (m:MZ):PsOk m [] (zY m []):=by
 rw [psOf_nil];unfold ps0
 split
 ·rename_i h;exact ⟨by simp,fun o=>by omega,rfl⟩
 ·rename_i h;exact ⟨by simp;omega,fun _=>by simp,rfl⟩
theorem zC.psOk {m:MZ} {ch:List Int} (h:zC m ch):PsOk m ch (zY m ch):=by
 induction h with
 | nil=>exact psOk_nil m
 | snoc h o ih=>rw [DX];exact ih.step (Cx (CD o)) _
theorem mem_flat_last {ps:List (List Int)} (D:(ps.getD k []).getLast?=some x):x∈ps.flatten:=by
 have h1:x∈ps.getD k []:=List.mem_of_getLast? D;by_cases o:k<ps.length
 ·exact List.mem_flatten.2 ⟨_,getD_mem o,h1⟩
 ·rw [EM,Fg (by omega)] at h1;cases h1
theorem cand_range {m:MZ} (g:zI m) {ch:List Int} (J:∀x∈ch,0<=x/\x<m.n) (I:(zY m ch).flatten=ch) (h:n∈Bw m ch):0<=n/\n<m.n/\n∉ch:=by
 have M:=Cx (CD h);have o:=CD h;unfold AZ at o;unfold Bw CC at h;rw [if_neg (by rw [o];simp)] at h
 split at h
 ·obtain ⟨h1,h2⟩:=zab.1 h;have h3:=mem_sortL.1 (Ey h1);simp only [EZ,Bool.not_eq_true',Fl] at h2;by_cases G:(zY m ch).length - 1<m.tasks.length
  ·rw [EM,EL G] at h3;have:=g.tn _ (EO G) n (.inl h3);exact ⟨this.1,this.2,h2.2⟩
  ·rw [EM,Fg (by omega)] at h3;cases h3
 ·rename_i x L
  obtain ⟨h1,h2⟩:=zab.1 h;have E:x∈ch:=by rw [<-I];exact mem_flat_last L
  have D:=J x E;have h3:=AG g.dim D.1 D.2 h1;unfold zT at h2;simp only [EZ,Bool.not_eq_true',Fl] at h2;exact ⟨h3.1,h3.2,h2.1.1.2⟩
theorem zC.range {m:MZ} (g:zI m) {ch:List Int} (h:zC m ch):(∀x∈ch,0<=x/\x<m.n)/\ch.Nodup:=by
 induction h with
 | nil=>exact ⟨fun x hx=>absurd hx zaa,List.nodup_nil⟩
 | snoc h G ih=>
  have o:=cand_range g ih.1 h.psOk.fl G;refine ⟨fun x hx=>?_,?_⟩
  ·rcases FE.1 hx with hx | hx
   ·exact ih.1 x hx
   ·rw [Fv] at hx;subst hx;exact ⟨o.1,o.2.1⟩
  ·rw [List.nodup_append];refine ⟨ih.2,by simp,fun a E b D=>?_⟩;rw [Fv] at D;subst D;rintro rfl;exact o.2.2 E
theorem zC.len {m:MZ} (g:zI m) {ch:List Int} (h:zC m ch):ch.length<=m.n.toNat:=Bz (h.range g).2 m.n (h.range g).1
theorem flat_le {ps:List (List Int)} {p:List Int} (h:p∈ps):p.length<=ps.flatten.length:=by
 induction ps with
 | nil=>cases h
 | cons q qs ih=>
  rw [List.flatten_cons,EV];rcases FD.1 h with rfl | h
  ·omega
  ·have:=ih h;omega
theorem sok_of {m:MZ} (g:zI m) (D:Lens m) {ch:List Int} {ps:List (List Int)} (h:PsOk m ch ps) (E:∀x∈ch,0<=x/\x<m.n) (o:ch.length<=1000):SOk m ch ps:=
 ⟨g,D,h.pl,h.pn,fun p hp=>by have:=flat_le hp;rw [h.fl] at this;omega,fun p hp x G=>E x (by rw [<-h.fl];exact List.mem_flatten.2 ⟨p,hp,G⟩),o⟩
theorem zC.len300 {m:MZ} (g:zI m) {ch:List Int} (h:zC m ch):ch.length<=300:=by
 have h1:=h.len g;have h2:=g.dim.n1;have h3:m.n=m.w*m.h*m.l:=rfl;omega
theorem zC.sok {m:MZ} (g:zI m) (o:Lens m) {ch:List Int} (h:zC m ch):SOk m ch (zY m ch):=
 sok_of g o h.psOk (h.range g).1 (by have:=h.len300 g;omega)
theorem zC.sok1 {m:MZ} (g:zI m) (D:Lens m) {ch:List Int} (h:zC m ch) (o:n∈Bw m ch):SOk m (ch++[n]) (Ct (zY m ch) n):=by
 have h1:=h.psOk;have E:=Cx (CD o);have h2:=zC.snoc h o;refine sok_of g D ⟨by rw [Du];exact h1.pl,fun h=>by rw [Du];exact h1.pn h,by rw [addN_flat (h1.pn E),h1.fl]⟩ (h2.range g).1 (by have:=h2.len300 g;omega)
theorem DO {m:MZ} (D:Lens m) (ch:List Int):(Bw m ch).length<=400000000000:=by
 unfold Bw CC
 split
 ·simp
 ·split
  ·refine EP (Fr _ _) (EP (compact_len _) ?_);unfold BJ;rw [List.length_mergeSort];by_cases o:(zY m ch).length - 1<m.tasks.length
   ·rw [EM,EL o];exact (D.tl _ (EO o)).1
   ·rw [EM,Fg (by omega)];simp
  ·refine EP (Fr _ _) ?_;have:=Ba m;exact EP (this _) (by omega)
noncomputable def aft (m:MZ) (ch:List Int) (last:Int):Option Int:=(Bw m ch).find? fun n=>decide (last<n) && Cj m (ch++[n])
noncomputable def backN (m:MZ) (ch:List Int):Nat->Option (List Int)
 | 0=>none
 | k+1=>match aft m (ch.take k) (ch.getD k 0) with
  | some n=>some (ch.take k++[n])
  | none=>backN m ch k
noncomputable def stepC (m:MZ) (ch:List Int):Option (List Int):=
 match aft m ch (-1) with
 | some n=>some (ch++[n])
 | none=>backN m ch ch.length
structure RS where
 ch:List Int
 done:Bool
 steps:Int
noncomputable def RS.one (m:MZ) (s:RS):RS:=match stepC m s.ch with
 | some c=>⟨c,AZ m c,s.steps+1⟩
 | none=>⟨[],true,s.steps+1⟩
noncomputable def RS.run (m:MZ):Nat->RS->RS
 | 0,s=>s
 | n+1,s=>if s.done=true then s else RS.run m n (s.one m)
theorem RS.run_done {m:MZ} {s:RS} (h:s.done=true):∀n,RS.run m n s=s
 | 0=>rfl
 | n+1=>by simp [RS.run,h]
theorem zC.take {m:MZ} {ch:List Int} (h:zC m ch) (k:Nat):zC m (ch.take k):=by
 induction h with
 | nil=>simpa using zC.nil
 | @snoc ch n h o ih=>
  rcases Fk ch.length k with hk | hk
  ·rw [List.take_of_length_le (by simp;omega)];exact .snoc h o
  ·rw [List.take_append_of_le_length hk];exact ih
theorem zC.at {m:MZ} {ch:List Int} (h:zC m ch) {k:Nat} (o:k<ch.length):ch[k]∈Bw m (ch.take k):=by
 induction h with
 | nil=>simp at o
 | @snoc ch n h D ih=>
  rcases Fk k ch.length with h1 | h1
  ·rw [List.getElem_append_left h1,List.take_append_of_le_length (by omega)];exact ih h1
  ·have h2:k=ch.length:=by simp at o;omega
   subst h2;rw [List.getElem_append_right (EN _),List.take_append_of_le_length (EN _),EY];simpa using D
theorem aft_some {m:MZ} {ch:List Int} {last:Int} (h:aft m ch last=some n):n∈Bw m ch/\last<n/\Cj m (ch++[n])=true:=by
 unfold aft at h;have h1:=List.find?_some h;simp only [EZ,EX] at h1;exact ⟨List.mem_of_find?_eq_some h,h1.1,h1.2⟩
theorem backN_some {m:MZ} {ch:List Int} (h:zC m ch):∀{k:Nat} {c:List Int},backN m ch k=some c->zC m c/\0<c.length/\Cj m c=true
 | 0,c,o=>by cases o
 | k+1,c,o=>by
  unfold backN at o
  split at o
  ·rename_i n D
   injection o with o;subst o;obtain ⟨h1,_,h2⟩:=aft_some D;exact ⟨.snoc (h.take k) h1,by simp,h2⟩
  ·exact backN_some h o
theorem stepC_some {m:MZ} {ch c:List Int} (h:zC m ch) (o:stepC m ch=some c):zC m c/\0<c.length/\Cj m c=true:=by
 unfold stepC at o
 split at o
 ·rename_i n D
  injection o with o;subst o;obtain ⟨h1,_,h2⟩:=aft_some D;exact ⟨.snoc h h1,by simp,h2⟩
 ·exact backN_some h o
def Cs (m:MZ) (t:Nat) (us acc:List Int) (z:Int):List Int:=if (zl m t z && !decide (z∈us) && !decide (z∈acc))=true then acc++[z] else acc
def growX (m:MZ) (t:Nat) (us S:List Int):List Int:=(S.flatMap (zm m)).foldl (Cs m t us) S
def growN (m:MZ) (t:Nat) (us:List Int):Nat->List Int->List Int
 | 0,S=>S
 | k+1,S=>growN m t us k (growX m t us S)
def start (m:MZ) (f:List Int):List Int:=f.foldl (fun acc x=>if (decide (0<=x) && decide (x<m.n) && !decide (x∈acc))=true then acc++[x] else acc) []
def reachX (m:MZ) (t:Nat) (f us:List Int):List Int:=growN m t us (m.n.toNat+1) (start m f)
section
variable {m:MZ} {t:Nat} {us f:List Int}
structure GK (m:MZ) (t:Nat) (f us S:List Int):Prop where
 nd:S.Nodup
 rg:∀x∈S,0<=x/\x<m.n
 rp:∀x∈S,RP m t f us x
theorem addIf_sub (acc:List Int) (z:Int):∀x∈acc,x∈Cs m t us acc z:=by
 intro x o;unfold Cs
 split
 ·exact List.mem_append_left _ o
 ·exact o
theorem addIf_len (acc:List Int) (z:Int):acc.length<=(Cs m t us acc z).length:=by
 unfold Cs
 split <;> simp
theorem addIf_gk (h:GK m t f us acc) (h0:0<=z/\z<m.n) (h1:zl m t z=true->z∉us->RP m t f us z):GK m t f us (Cs m t us acc z):=by
 unfold Cs
 split
 ·rename_i o
  simp only [EZ,Bool.not_eq_true',Fl] at o;refine ⟨?_,fun x hx=>?_,fun x hx=>?_⟩
  ·rw [List.nodup_append];refine ⟨h.nd,by simp,fun a E b D=>?_⟩;rw [Fv] at D;rintro rfl;subst D;exact o.2 E
  ·rcases FE.1 hx with hx | hx
   ·exact h.rg x hx
   ·rw [Fv] at hx;subst hx;exact h0
  ·rcases FE.1 hx with hx | hx
   ·exact h.rp x hx
   ·rw [Fv] at hx;subst hx;exact h1 o.1.1 o.1.2
 ·exact h
theorem fold_sub:∀(l acc:List Int),∀x∈acc,x∈l.foldl (Cs m t us) acc
 | [],acc,x,o=>o
 | z :: l,acc,x,o=>fold_sub l (Cs m t us acc z) x (addIf_sub acc z x o)
theorem fold_len:∀(l acc:List Int),acc.length<=(l.foldl (Cs m t us) acc).length
 | [],acc=>EN _
 | z :: l,acc=>EP (addIf_len acc z) (fold_len l _)
theorem fold_gk:∀(l acc:List Int),GK m t f us acc->(∀z∈l,(0<=z/\z<m.n)/\(zl m t z=true->z∉us->RP m t f us z))->GK m t f us (l.foldl (Cs m t us) acc)
 | [],acc,h,_=>h
 | z :: l,acc,h,o=>fold_gk l _ (addIf_gk h (o z (FA ..)).1 (o z (FA ..)).2) (fun x D=>o x (Fh _ D))
theorem grow_gk (d:EF m) (h:GK m t f us S):GK m t f us (growX m t us S):=by
 refine fold_gk _ _ h fun z G=>?_
 obtain ⟨y,E,D⟩:=List.mem_flatMap.1 G;have o:=h.rg y E;exact ⟨AG d o.1 o.2 D,fun h1 h2=>(h.rp y E).step D h1 h2⟩
def Closed (m:MZ) (t:Nat) (us S:List Int):Prop:=∀y∈S,∀z∈zm m y,zl m t z=true->z∉us->z∈S
theorem addIf_eq (h:zl m t z=true->z∉us->z∈acc):Cs m t us acc z=acc:=by
 unfold Cs;rw [if_neg];intro o;simp only [EZ,Bool.not_eq_true',Fl] at o;exact o.2 (h o.1.1 o.1.2)
theorem fold_eq:∀(l acc:List Int),(∀z∈l,zl m t z=true->z∉us->z∈acc)->l.foldl (Cs m t us) acc=acc
 | [],acc,_=>rfl
 | z :: l,acc,h=>by
  rw [List.foldl_cons,addIf_eq (h z (FA ..))];exact fold_eq l acc (fun x o=>h x (Fh _ o))
theorem grow_closed (h:Closed m t us S):growX m t us S=S:=
 fold_eq _ _ fun z E=>by
  obtain ⟨y,D,o⟩:=List.mem_flatMap.1 E;exact h y D z o
theorem fold_more:∀(l acc:List Int),(∃z∈l,zl m t z=true/\z∉us/\z∉acc)->acc.length<(l.foldl (Cs m t us) acc).length
 | z :: l,acc,⟨x,hx,h1,h2,h3⟩=>by
  rw [List.foldl_cons];rcases FD.1 hx with rfl | hx
  ·have:(Cs m t us acc x).length=acc.length+1:=by
    unfold Cs;rw [if_pos (by simp [h1,h2,h3])];simp
   have:=fold_len (m:=m) (t:=t) (us:=us) l (Cs m t us acc x);omega
  ·by_cases o:x∈Cs m t us acc z
   ·have D:acc.length<(Cs m t us acc z).length:=by
     unfold Cs at o⊢
     split
     ·simp
     ·rename_i E;rw [if_neg E] at o;exact absurd o h3
    exact Fq D (fold_len l _)
   ·exact Nat.lt_of_le_of_lt (addIf_len acc z) (fold_more l _ ⟨x,hx,h1,h2,o⟩)
theorem growN_gk (d:EF m):∀(k:Nat) {S:List Int},GK m t f us S->GK m t f us (growN m t us k S)
 | 0,S,h=>h
 | k+1,S,h=>growN_gk d k (grow_gk d h)
theorem growN_sub:∀(k:Nat) (S:List Int),∀x∈S,x∈growN m t us k S
 | 0,S,x,o=>o
 | k+1,S,x,o=>growN_sub k _ x (fold_sub _ _ x o)
theorem growN_closed {S:List Int} (h:Closed m t us S):∀k,growN m t us k S=S
 | 0=>rfl
 | k+1=>by unfold growN;rw [grow_closed h];exact growN_closed h k
theorem growN_or:∀(k:Nat) (S:List Int),Closed m t us (growN m t us k S)\/S.length+k<=(growN m t us k S).length
 | 0,S=>.inr (EN _)
 | k+1,S=>by
  by_cases h:Closed m t us S
  ·left
   rw [growN_closed h];exact h
  ·have h1:S.length<(growX m t us S).length:=by
    refine fold_more _ _ ?_;unfold Closed at h;simp only [Classical.not_forall] at h;obtain ⟨y,o,z,D,h1,h2,h3⟩:=h;exact ⟨z,List.mem_flatMap.2 ⟨y,o,D⟩,h1,h2,h3⟩
   rcases growN_or k (growX m t us S) with h2 | h2
   ·exact .inl h2
   ·right
    unfold growN;omega
theorem start_gk (m:MZ) (t:Nat) (us f:List Int):GK m t f us (start m f)/\∀x∈f,0<=x->x<m.n->x∈start m f:=by
 have key:∀(l acc:List Int),(∀x∈l,x∈f)->GK m t f us acc->GK m t f us (l.foldl (fun acc x=>if (decide (0<=x) && decide (x<m.n) && !decide (x∈acc))=true then acc++[x] else acc) acc)/\
   (∀x∈acc,x∈l.foldl (fun acc x=>if (decide (0<=x) && decide (x<m.n) && !decide (x∈acc))=true then acc++[x] else acc) acc)/\∀x∈l,0<=x->x<m.n->x∈l.foldl (fun acc x=>if (decide (0<=x) && decide (x<m.n) && !decide (x∈acc))=true then acc++[x] else acc) acc:=by
  intro l
  induction l with
  | nil=>intro acc _ h;exact ⟨h,fun x hx=>hx,fun x hx=>by cases hx⟩
  | cons z l ih=>
   intro acc D h;rw [List.foldl_cons];by_cases o:(decide (0<=z) && decide (z<m.n) && !decide (z∈acc))=true
   ·rw [if_pos o];simp only [EZ,Bool.not_eq_true',Fl,EX] at o
    obtain ⟨h1,h2,h3⟩:=ih (acc++[z]) (fun x hx=>D x (Fh _ hx)) ⟨by
     rw [List.nodup_append];refine ⟨h.nd,by simp,fun a G b E=>?_⟩;rw [Fv] at E;rintro rfl;subst E;exact o.2 G,fun x hx=>by
     rcases FE.1 hx with hx | hx
     ·exact h.rg x hx
     ·rw [Fv] at hx;subst hx;exact o.1,fun x hx=>by
     rcases FE.1 hx with hx | hx
     ·exact h.rp x hx
     ·rw [Fv] at hx;subst hx;exact RP.base (D x (FA ..)) o.1.1 o.1.2⟩
    refine ⟨h1,fun x hx=>h2 x (List.mem_append_left _ hx),fun x hx a b=>?_⟩;rcases FD.1 hx with rfl | hx
    ·exact h2 x (by simp)
    ·exact h3 x hx a b
   ·rw [if_neg o];obtain ⟨h1,h2,h3⟩:=ih acc (fun x hx=>D x (Fh _ hx)) h;refine ⟨h1,h2,fun x hx a b=>?_⟩;rcases FD.1 hx with rfl | hx
    ·refine h2 x ?_;simp only [EZ,Bool.not_eq_true',Fl,EX] at o;by_cases hm:x∈acc
     ·exact hm
     ·exact absurd ⟨⟨a,b⟩,hm⟩ o
    ·exact h3 x hx a b
 have h:=key f [] (fun _ h=>h) ⟨List.nodup_nil,fun x hx=>absurd hx zaa,fun x hx=>absurd hx zaa⟩;exact ⟨h.1,h.2.2⟩
theorem mem_reachX (d:EF m) (x:Int):x∈reachX m t f us↔RP m t f us x:=by
 have E:=start_gk m t us f;have o:=growN_gk (t:=t) (f:=f) (us:=us) d (m.n.toNat+1) E.1
 have G:Closed m t us (reachX m t f us):=by
  rcases growN_or (m:=m) (t:=t) (us:=us) (m.n.toNat+1) (start m f) with h | h
  ·exact h
  ·have:=Bz o.nd m.n o.rg;omega
 constructor
 ·exact fun h=>o.rp x h
 ·intro h;exact h (fun x=>x∈reachX m t f us) (fun y D h0 h1=>growN_sub _ _ y (E.2 y D h0 h1)) (fun y z D I h1 h2=>G y D z I h1 h2)
end
theorem reachL_x {m:MZ} (d:EF m) (t:Nat) (f us:List Int):Cz m t f us=((List.range m.n.toNat).map Int.ofNat).filter fun x=>decide (x∈reachX m t f us):=by
 rw [reachL_of (fun x=>mem_reachX d x)]
def openTX (m:MZ) (ps:List (List Int)) (us:List Int) (t:Nat):Bool:=((m.tasks.getD t ([],[])).2).any fun x=>decide (x∈reachX m t (BY m ps us t) us)
def openX (m:MZ) (ch:List Int):Bool:=(List.range (tasksN m (zY m ch))).all fun k=>openTX m (zY m ch) ch ((zY m ch).length - 1+k)
theorem openC_x {m:MZ} (d:EF m) (ch:List Int):Cj m ch=openX m ch:=by
 unfold Cj openX openB;congr 1;funext k;unfold openT openTX;congr 1;funext x;rw [decide_eq_decide,Cw d,mem_reachX d]
def aftX (m:MZ) (ch:List Int) (last:Int):Option Int:=(Bw m ch).find? fun n=>decide (last<n) && openX m (ch++[n])
theorem aft_x {m:MZ} (d:EF m) (ch:List Int) (last:Int):aft m ch last=aftX m ch last:=by
 unfold aft aftX;congr 1;funext n;rw [openC_x d]
def backX (m:MZ) (ch:List Int):Nat->Option (List Int)
 | 0=>none
 | k+1=>match aftX m (ch.take k) (ch.getD k 0) with
  | some n=>some (ch.take k++[n])
  | none=>backX m ch k
theorem back_x {m:MZ} (d:EF m) (ch:List Int):∀k,backN m ch k=backX m ch k
 | 0=>rfl
 | k+1=>by
  unfold backN backX;rw [aft_x d,back_x d ch k]
  all_goals rfl
def stepX (m:MZ) (ch:List Int):Option (List Int):=
 match aftX m ch (-1) with
 | some n=>some (ch++[n])
 | none=>backX m ch ch.length
theorem step_x {m:MZ} (d:EF m) (ch:List Int):stepC m ch=stepX m ch:=by
 unfold stepC stepX;rw [aft_x d,back_x d]
 all_goals rfl
def RS.oneX (m:MZ) (s:RS):RS:=match stepX m s.ch with
 | some c=>⟨c,AZ m c,s.steps+1⟩
 | none=>⟨[],true,s.steps+1⟩
def RS.runX (m:MZ):Nat->RS->RS
 | 0,s=>s
 | n+1,s=>if s.done=true then s else RS.runX m n (s.oneX m)
theorem run_x {m:MZ} (d:EF m):∀(n:Nat) (s:RS),RS.run m n s=RS.runX m n s
 | 0,s=>rfl
 | n+1,s=>by
  unfold RS.run RS.runX;rw [run_x d n];unfold RS.one RS.oneX;rw [step_x d]
  all_goals rfl
theorem emod_pred {m:Int} (hm:0<m) (h:0<a % m):(a - 1) % m=a % m - 1:=by
 have h1:=Int.emod_add_mul_ediv a m;have h2:=Int.emod_lt_of_pos a hm;have h3:a - 1=(a % m - 1)+m*(a / m):=by omega
 rw [h3,Int.add_mul_emod_self_left,Int.emod_eq_of_lt (by omega) (by omega)]
theorem emod_succ {m:Int} (hm:0<m) (h:a % m+1<m):(a+1) % m=a % m+1:=by
 have h1:=Int.emod_add_mul_ediv a m;have h2:=Int.emod_nonneg a (show m≠0 by omega);have h3:a+1=(a % m+1)+m*(a / m):=by omega
 rw [h3,Int.add_mul_emod_self_left,Int.emod_eq_of_lt (by omega) (by omega)]
theorem ediv_pred {m:Int} (hm:0<m):(a - m) / m=a / m - 1:=by
 have h:a - m=a+(-1)*m:=by omega
 rw [h,Int.add_mul_ediv_right _ _ (by omega)];omega
theorem ediv_succ {m:Int} (hm:0<m):(a+m) / m=a / m+1:=by
 have h:a+m=a+1*m:=by omega
 rw [h,Int.add_mul_ediv_right _ _ (by omega)]
theorem nextL_symm {m:MZ} (d:EF m) {k:Int} (h0:0<=k) (h1:k<m.n) (h:x∈zm m k):k∈zm m x:=by
 have D:=d.w1;have o:=d.h1;obtain ⟨l1,l2⟩:=d.layer;unfold MZ.n at h1;simp only [zm,mem_ap,EZ,EX,zaa,false_or] at h⊢;rcases h with ((((( ⟨⟨a,b⟩,rfl⟩) | ⟨a,rfl⟩) | ⟨a,rfl⟩) | ⟨a,rfl⟩) | ⟨a,rfl⟩) | ⟨⟨a,b⟩,rfl⟩
 ·refine .inr ⟨⟨by omega,b⟩,by omega⟩
 ·refine .inl (.inr ⟨?_,by omega⟩);rw [ediv_pred (by omega),emod_pred (by omega) a];have:=Int.emod_lt_of_pos (k / m.w) (show 0<m.h by omega);omega
 ·refine .inl (.inl (.inr ⟨?_,by omega⟩));rw [emod_pred (by omega) a];have:=Int.emod_lt_of_pos k (show 0<m.w by omega);omega
 ·refine .inl (.inl (.inl (.inr ⟨?_,by omega⟩)));rw [emod_succ (by omega) a];have:=Int.emod_nonneg k (show m.w≠0 by omega);omega
 ·refine .inl (.inl (.inl (.inl (.inr ⟨?_,by omega⟩))));rw [ediv_succ (by omega),emod_succ (by omega) a];have:=Int.emod_nonneg (k / m.w) (show m.h≠0 by omega);omega
 ·refine .inl (.inl (.inl (.inl (.inl ⟨⟨by omega,?_⟩,by omega⟩))));rw [show k+m.w*m.h - m.w*m.h=k from by omega];exact b
theorem reachL_pw (m:MZ) (t:Nat) (f us:List Int):(Cz m t f us).Pairwise (·<·):=by
 unfold Cz;apply List.Pairwise.filter;rw [List.pairwise_map];exact List.Pairwise.imp (fun h=>by simpa using h) List.pairwise_lt_range
theorem good_chk {m:MZ} (g:zI m):AY m=0:=by
 have d:=g.dim
 have G:[m.w,m.h,m.l].any side=false:=by
  have h1:=d.w1;have h2:=d.w2;have h3:=d.h1;have I:=d.h2;have J:=d.l1;have L:=d.l2;simp [side];omega
 unfold AY;rw [G,if_neg (by simp),if_neg (by have:=d.n1;have:=g.tk;unfold MZ.n;omega),if_neg,if_neg]
 ·intro h;obtain ⟨t,D,h1⟩:=zaf.1 h;rw [zae] at h1;rcases h1 with h1 | h1
  ·obtain ⟨x,o,h2⟩:=zaf.1 h1;have:=g.tn t D x (.inl o);simp [Ag] at h2;omega
  ·obtain ⟨x,o,h2⟩:=zaf.1 h1;have:=g.tn t D x (.inr o);simp [Ag] at h2;omega
 ·intro h;rcases h with h | h | h
  ·exact h g.fl
  ·exact h d.up
  ·obtain ⟨f,E,h2⟩:=zaf.1 h;have:=g.fn f E;simp at h2;exact h2 this
theorem mazeFree {W:World} {ok:Nat->Prop} {m:MZ} {vfr vup vts:Value} (h:zt W ok (.agg #[.int .i64 m.w,.int .i64 m.h,.int .i64 m.l,vfr,vup,vts]) m) (T:∀f∈m.free,(f.length:Int)=m.n) {t:Nat} (I:t<m.free.length) (h0:0<=n) (h1:n<m.n):
  ∃b off c b' off' l c',vfr=.slice (some ⟨b,off,none⟩) m.free.length c/\W.cell? ⟨b,off+t,none⟩=some (.slice (some ⟨b',off',none⟩) l c')/\n<(l:Int)/\l<=c'/\m.free.length<=c/\W.cell? ⟨b',off'+n.toNat,none⟩=some (.bool (zl m t n)):=by
 obtain ⟨fr',up',ts',he,D,_,_⟩:=h;injection he with he;injection he with he;simp only [List.cons.injEq,and_true,true_and] at he;obtain ⟨rfl,rfl,rfl⟩:=he;obtain ⟨vsf,⟨Af,cf,rfl,M,V⟩,O⟩:=D;obtain ⟨bf,off3,uf,rfl,_,G,J⟩:=zO V O I I;have Q:=T _ (EO I);obtain ⟨A4,c4,rfl,L,U⟩:=J;have E:n.toNat<(m.free[t]).length:=by omega
 obtain ⟨b4,off4,rfl,_,o⟩:=BR U E E;have D:(m.free[t])[n.toNat]=zl m t n:=by simp [zl,I,E]
 rw [D] at o;exact ⟨bf,off3,cf,b4,off4,_,c4,rfl,G,by omega,L,M,o⟩
def zw (fr:Int->Bool) (d:Int):List Int->List (Int×Int)->List (Int×Int)
 | [],F=>F
 | x :: l,F=>zw fr d l (if (F.lookup x).isNone && fr x then F++[(x,d)] else F)
def bfs (m:MZ) (fr:Int->Bool):Nat->Nat->List (Int×Int)->List (Int×Int)
 | 0,_,F=>F
 | f+1,k,F=>match F[k]? with
  | none=>F
  | some p=>bfs m fr f (k+1) (zw fr (p.2+1) (zm m p.1) F)
theorem Ex:F.lookup x=none↔∀p∈F,p.1≠x:=by
 induction F with
 | nil=>simp
 | cons a F ih=>
  obtain ⟨y,d⟩:=a;rw [List.lookup_cons];by_cases h:x=y
  ·subst h;simp
  ·have o:(x==y)=false:=by rw [Fa];exact h
   rw [o];simp only [ih,FD,forall_eq_or_imp];constructor
   ·intro h2;exact ⟨fun e=>h e.symm,h2⟩
   ·exact fun h2=>h2.2
theorem AE (h:F.lookup x=some d):(x,d)∈F:=by
 induction F with
 | nil=>cases h
 | cons a F ih=>
  obtain ⟨y,e⟩:=a;rw [List.lookup_cons] at h;by_cases h2:x=y
  ·subst h2;simp at h;subst h;exact FA ..
  ·have o:(x==y)=false:=by rw [Fa];exact h2
   rw [o] at h;exact Fh _ (ih h)
theorem Db (G:(F.map Prod.fst).Nodup) (h:(x,d)∈F):F.lookup x=some d:=by
 cases h2:F.lookup x with
 | none=>exact absurd rfl (Ex.1 h2 _ h)
 | some e=>
  have h3:=AE h2;congr 1;rw [List.nodup_iff_pairwise_ne,List.pairwise_map] at G;apply Decidable.byContradiction;intro o;obtain ⟨i,D,ei⟩:=Fu h;obtain ⟨j,E,ej⟩:=Fu h3;have hp:=List.pairwise_iff_getElem.1 G;rcases Nat.lt_trichotomy i j with h4 | h4 | h4
  ·exact hp i j D E h4 (by rw [ei,ej])
  ·subst h4;rw [ei] at ej;injection ej with _ e2;exact o e2.symm
  ·exact hp j i E D h4 (by rw [ei,ej])
structure DY (m:MZ) (fr:Int->Bool) (tg:List Int) (k:Nat) (F:List (Int×Int)):Prop where
 nd:(F.map Prod.fst).Nodup
 rg:∀p∈F,(0<=p.1/\p.1<m.n)/\fr p.1=true/\0<=p.2
 bk:∀p∈F,(p.2=0/\p.1∈tg)\/∃q∈F,p.1∈zm m q.1/\p.2=q.2+1
 mono:F.Pairwise (fun a b=>a.2<=b.2)
 near:∀i j:Nat,k<=i->∀p q,F[i]?=some p->F[j]?=some q->q.2<=p.2+1
 cl:∀i,i<k->∀p,F[i]?=some p->∀x∈zm m p.1,fr x=true->∃q∈F,q.1=x/\q.2<=p.2+1
 ini:∀x∈tg,fr x=true->(x,(0:Int))∈F
theorem zR (fr:Int->Bool) (d:Int):∀(l:List Int) (F:List (Int×Int)),∃G,zw fr d l F=F++G/\(∀p∈G,p.2=d/\p.1∈l/\fr p.1=true)/\((F.map Prod.fst).Nodup->((F++G).map Prod.fst).Nodup)/\∀x∈l,fr x=true->∃q∈F++G,q.1=x
 | [],F=>⟨[],by simp [zw],fun p hp=>(by cases hp),fun h=>(by simpa using h),fun x Q=>(by cases Q)⟩
 | x :: l,F=>by
  unfold zw;by_cases o:((F.lookup x).isNone && fr x)=true
  ·rw [if_pos o];rw [EZ,Option.isNone_iff_eq_none] at o;obtain ⟨G,h1,h2,h3,E⟩:=zR fr d l (F++[(x,d)]);refine ⟨(x,d) :: G,by rw [h1];simp,fun p hp=>?_,fun O=>?_,fun y hy D=>?_⟩
   ·rcases FD.1 hp with rfl | hp
    ·exact ⟨rfl,FA ..,o.2⟩
    ·obtain ⟨a,b,c⟩:=h2 p hp;exact ⟨a,Fh _ b,c⟩
   ·have:(F++(x,d) :: G)=(F++[(x,d)])++G:=by simp
    rw [this];apply h3;rw [FG,List.nodup_append];refine ⟨O,by simp,fun a M b J e=>?_⟩;subst e;simp at J;subst J;obtain ⟨p,hp,e⟩:=zac.1 M;exact Ex.1 o.1 p hp e
   ·have e:(F++(x,d) :: G)=(F++[(x,d)])++G:=by simp
    rcases FD.1 hy with rfl | hy
    ·exact ⟨(y,d),by simp,rfl⟩
    ·rw [e];exact E y hy D
  ·rw [if_neg o];obtain ⟨G,h1,h2,h3,E⟩:=zR fr d l F;refine ⟨G,h1,fun p hp=>?_,h3,fun y hy D=>?_⟩
   ·obtain ⟨a,b,c⟩:=h2 p hp;exact ⟨a,Fh _ b,c⟩
   ·rcases FD.1 hy with rfl | hy
    ·have L:F.lookup y≠none:=fun e=>o (by rw [e,D];rfl)
     cases I:F.lookup y with
     | none=>exact absurd I L
     | some e=>exact ⟨_,List.mem_append_left _ (AE I),rfl⟩
    ·exact E y hy D
theorem DY.start {m:MZ} (L:∀x∈tg,0<=x/\x<m.n):DY m fr tg 0 (zw fr 0 tg []):=by
 obtain ⟨G,h1,h2,h3,E⟩:=zR fr 0 tg [];rw [h1,List.nil_append];refine ⟨by simpa using h3 List.nodup_nil,fun p hp=>?_,fun p hp=>.inl ⟨(h2 p hp).1,(h2 p hp).2.1⟩,?_,fun i j _ p q hp o=>?_,fun i D=>by omega,fun x M I=>?_⟩
 ·obtain ⟨a,b,c⟩:=h2 p hp;exact ⟨L _ b,c,by omega⟩
 ·rw [List.pairwise_iff_getElem];intro i j D J _;have:=(h2 _ (EO D)).1;have:=(h2 _ (EO J)).1;omega
 ·have:=(h2 p (List.mem_of_getElem? hp)).1;have:=(h2 q (List.mem_of_getElem? o)).1;omega
 ·obtain ⟨q,o,e⟩:=E x M I;rw [List.nil_append] at o;have:=(h2 q o).1;obtain ⟨a,b⟩:=q;simp only at e this;subst e this;exact o
theorem DY.step {m:MZ} (d:EF m) (h:DY m fr tg k F) {p:Int×Int} (hp:F[k]?=some p):DY m fr tg (k+1) (zw fr (p.2+1) (zm m p.1) F):=by
 obtain ⟨G,h1,h2,h3,U⟩:=zR fr (p.2+1) (zm m p.1) F;rw [h1];have E:=List.mem_of_getElem? hp;have I:=h.rg p E
 have hk:k<F.length:=by
  rcases Fk k F.length with hk | hk
  ·exact hk
  ·rw [Fg hk] at hp;cases hp
 have D:∀q∈F++G,q.2<=p.2+1:=fun q hq=>by
  rcases FE.1 hq with hq | hq
  ·obtain ⟨j,Q⟩:=List.getElem?_of_mem hq;exact h.near k j (EN _) p q hp Q
  ·have:=(h2 q hq).1;omega
 refine ⟨h3 h.nd,fun q hq=>?_,fun q hq=>?_,?_,fun i j O a b o M=>?_,fun i O a o x L J=>?_,fun x L J=>List.mem_append_left _ (h.ini x L J)⟩
 ·rcases FE.1 hq with hq | hq
  ·exact h.rg q hq
  ·obtain ⟨a,b,c⟩:=h2 q hq;exact ⟨AG d I.1.1 I.1.2 b,c,by omega⟩
 ·rcases FE.1 hq with hq | hq
  ·rcases h.bk q hq with h5 | ⟨r,V,h5⟩
   ·exact .inl h5
   ·exact .inr ⟨r,List.mem_append_left _ V,h5⟩
  ·obtain ⟨a,b,c⟩:=h2 q hq;exact .inr ⟨p,List.mem_append_left _ E,b,a⟩
 ·rw [List.pairwise_append];refine ⟨h.mono,?_,fun a o b M=>?_⟩
  ·rw [List.pairwise_iff_getElem];intro i j O Q _;have:=(h2 _ (EO O)).1;have:=(h2 _ (EO Q)).1;omega
  ·have:=D a (List.mem_append_left _ o);have:=(h2 b M).1;omega
 ·-- behind k all distances are at least that of k
  have h5:p.2<=a.2:=by
   rcases Fk i F.length with h6 | h6
   ·rw [ES h6] at o;have T:=List.pairwise_iff_getElem.1 h.mono k i hk h6 (by omega);rw [EL hk] at hp;rw [EL h6] at o;injection hp with hp;injection o with o;rw [hp,o] at T;exact T
   ·rw [ET h6] at o;have:=(h2 a (List.mem_of_getElem? o)).1;omega
  have:=D b (List.mem_of_getElem? M);omega
 ·rcases Fk i k with h5 | h5
  ·rw [ES (by omega)] at o;obtain ⟨q,hq,h6⟩:=h.cl i h5 a o x L J;exact ⟨q,List.mem_append_left _ hq,h6⟩
  ·obtain rfl:i=k:=by omega
   rw [ES hk,hp] at o;injection o with o;subst o;obtain ⟨q,hq,h6⟩:=U x L J;exact ⟨q,hq,h6,D q hq⟩
theorem DY.len {m:MZ} (h:DY m fr tg k F):F.length<=m.n.toNat:=by
 have h1:=Bz h.nd m.n (fun x o=>by
  obtain ⟨p,hp,rfl⟩:=zac.1 o;exact (h.rg p hp).1)
 rw [Fy] at h1;omega
theorem bfs_fi {m:MZ} {fr:Int->Bool} {tg:List Int} (d:EF m):∀(f k:Nat) (F:List (Int×Int)),DY m fr tg k F->k<=F.length->m.n.toNat<f+k->∃j,DY m fr tg j (bfs m fr f k F)/\j=(bfs m fr f k F).length
 | 0,k,F,h,D,o=>by
  have:=h.len;omega
 | f+1,k,F,h,D,o=>by
  unfold bfs
  cases hp:F[k]? with
  | none=>
   have h1:F.length<=k:=List.getElem?_eq_none_iff.1 hp;exact ⟨k,h,by show k=F.length;omega⟩
  | some p=>
   have E:k<F.length:=by
    rcases Fk k F.length with h1 | h1
    ·exact h1
    ·rw [Fg h1] at hp;cases hp
   obtain ⟨G,h1,-⟩:=zR fr (p.2+1) (zm m p.1) F;exact bfs_fi d f (k+1) _ (h.step d hp) (by rw [h1];simp;omega) (by omega)
def BN (F:List (Int×Int)):List Int->Option Int->Option Int
 | [],b=>b
 | n :: l,b=>BN F l (match F.lookup n with
  | none=>b
  | some d=>match b with
   | none=>some n
   | some c=>if d<(F.lookup c).getD 0\/(d=(F.lookup c).getD 0/\n<c) then some n else some c)
def Dg (m:MZ) (F:List (Int×Int)) (b:Int):Int:=((zm m b).find? fun x=>decide (F.lookup x=some ((F.lookup b).getD 0 - 1))).getD b
def CH (m:MZ) (F:List (Int×Int)):Nat->Int->List Int
 | 0,b=>[b]
 | f+1,b=>b :: CH m F f (Dg m F b)
theorem bestL_none {F:List (Int×Int)}:∀{l:List Int} {b:Option Int},BN F l b=none->b=none/\∀n∈l,F.lookup n=none
 | [],b,h=>⟨h,fun n D=>(by cases D)⟩
 | n :: l,b,h=>by
  unfold BN at h;obtain ⟨h1,h2⟩:=bestL_none h
  cases o:F.lookup n with
  | none=>
   rw [o] at h1;refine ⟨h1,fun x hx=>?_⟩;rcases FD.1 hx with rfl | hx
   ·exact o
   ·exact h2 x hx
  | some d=>
   rw [o] at h1
   exfalso
   cases b with
   | none=>cases h1
   | some c=>
    simp only at h1
    split at h1 <;> cases h1
theorem CW {F:List (Int×Int)}:∀{l:List Int} {b:Option Int} {r:Int},(∀c,b=some c->∃d,F.lookup c=some d)->BN F l b=some r->∃d,F.lookup r=some d/\(b=some r\/r∈l)/\(∀c e,b=some c->F.lookup c=some e->d<e\/(d=e/\r<=c))/\∀n e,n∈l->F.lookup n=some e->d<e\/(d=e/\r<=n)
 | [],b,r,J,h=>by
  unfold BN at h;subst h;obtain ⟨d,L⟩:=J r rfl;exact ⟨d,L,.inl rfl,fun c e o he=>by injection o with o;subst o;rw [L] at he;injection he with he;exact .inr ⟨he,Int.le_refl _⟩,fun n e O=>(by cases O)⟩
 | n :: l,b,r,J,h=>by
  unfold BN at h
  cases G:F.lookup n with
  | none=>
   rw [G] at h;obtain ⟨d,h1,h2,h3,E⟩:=CW J h;refine ⟨d,h1,h2.imp id (Fh _),h3,fun x e hx he=>?_⟩;rcases FD.1 hx with rfl | hx
   ·rw [G] at he;cases he
   ·exact E x e hx he
  | some dn=>
   rw [G] at h
   cases b with
   | none=>
    simp only at h;obtain ⟨d,h1,h2,h3,E⟩:=CW (b:=some n) (fun c o=>by injection o with o;subst o;exact ⟨dn,G⟩) h;refine ⟨d,h1,.inr ?_,fun c e o=>(by cases o),fun x e hx he=>?_⟩
    ·rcases h2 with h2 | h2
     ·injection h2 with h2;subst h2;exact FA ..
     ·exact Fh _ h2
    ·rcases FD.1 hx with rfl | hx
     ·exact h3 x e rfl he
     ·exact E x e hx he
   | some c=>
    obtain ⟨dc,o⟩:=J c rfl;simp only [o,Ft] at h;by_cases I:dn<dc\/(dn=dc/\n<c)
    ·rw [if_pos I] at h;obtain ⟨d,h1,h2,h3,E⟩:=CW (b:=some n) (fun c o=>by injection o with o;subst o;exact ⟨dn,G⟩) h;have M:=h3 n dn rfl G;refine ⟨d,h1,.inr ?_,fun c' e D he=>?_,fun x e hx he=>?_⟩
     ·rcases h2 with h2 | h2
      ·injection h2 with h2;subst h2;exact FA ..
      ·exact Fh _ h2
     ·injection D with D;subst D;rw [o] at he;injection he with he;subst he;omega
     ·rcases FD.1 hx with rfl | hx
      ·exact h3 x e rfl he
      ·exact E x e hx he
    ·rw [if_neg I] at h;obtain ⟨d,h1,h2,h3,E⟩:=CW (b:=some c) (fun c' D=>by injection D with D;subst D;exact ⟨dc,o⟩) h;have M:=h3 c dc rfl o;refine ⟨d,h1,h2.imp id (Fh _),h3,fun x e hx he=>?_⟩;rcases FD.1 hx with rfl | hx
     ·rw [G] at he;injection he with he;subst he;omega
     ·exact E x e hx he
theorem downN_ok {m:MZ} (d:EF m) (h:DY m fr tg k F) {f:Nat} (G:F.lookup b=some ((f:Int)+1)):F.lookup (Dg m F b)=some (f:Int)/\Dg m F b∈zm m b:=by
 have h1:=AE G;rcases h.bk _ h1 with ⟨h2,-⟩ | ⟨q,I,h2,h3⟩
 ·simp only at h2;omega
 ·simp only at h2 h3;have D:=h.rg q I;have J:=nextL_symm d D.1.1 D.1.2 h2
  have L:F.lookup q.1=some (f:Int):=by
   refine Db h.nd ?_;have:q.2=(f:Int):=by omega
   rw [<-this];exact I
  unfold Dg;rw [G,Ft,Int.add_sub_cancel]
  cases o:(zm m b).find? (fun x=>decide (F.lookup x=some (f:Int))) with
  | none=>
   have:=List.find?_eq_none.1 o _ J;rw [L] at this;simp at this
  | some x=>
   have E:=List.find?_some o;rw [EX] at E;exact ⟨E,List.mem_of_find?_eq_some o⟩
theorem down_spec {m:MZ} {fr:Int->Bool} {tg:List Int} {k:Nat} {F:List (Int×Int)} (d:EF m) (h:DY m fr tg k F):∀(f:Nat) (b:Int),F.lookup b=some (f:Int)->(CH m F f b).length=f+1/\(CH m F f b)[0]?=some b/\(∀(i:Nat) x,(CH m F f b)[i]?=some x->i<=f/\F.lookup x=some ((f:Int) - i))/\∀(i:Nat) x y,(CH m F f b)[i]?=some x->(CH m F f b)[i+1]?=some y->y∈zm m x
 | 0,b,E=>by
  refine ⟨rfl,rfl,fun i x o=>?_,fun i x y o D=>?_⟩
  ·unfold CH at o
   cases i with
   | zero=>simp at o;subst o;exact ⟨EN _,by simpa using E⟩
   | succ i=>simp at o
  ·unfold CH at D;simp at D
 | f+1,b,E=>by
  obtain ⟨h1,h2⟩:=downN_ok d h (by exact_mod_cast E:F.lookup b=some ((f:Int)+1));obtain ⟨a1,a2,a3,a4⟩:=down_spec d h f _ h1;unfold CH;refine ⟨by simp [a1],rfl,fun i x o=>?_,fun i x y o D=>?_⟩
  ·cases i with
   | zero=>simp at o;subst o;exact ⟨Fb _,by simpa using E⟩
   | succ i=>
    rw [List.getElem?_cons_succ] at o;obtain ⟨h3,G⟩:=a3 i x o;refine ⟨by omega,?_⟩;rw [G];congr 1;omega
  ·rw [List.getElem?_cons_succ] at D
   cases i with
   | zero=>
    simp at o;subst o;rw [a2] at D;injection D with D;subst D;exact h2
   | succ i=>
    rw [List.getElem?_cons_succ] at o;exact a4 i x y o D
end
section
open Go.RowKit
attribute [local go_sem ↓] Go.wp_at_zero Go.wp_at_succ
def EJ (w:World) (ok:Nat->Prop) (p:Nat) (m:MZ) (ch:List Int):Prop:=
 ∃us f u t vc vp gu,(∀x,x∈us↔x∈ch)/\BM w ok p m ch (zY m ch) us f u t vc vp gu
section
variable {w w':World} {ok ok':Nat->Prop} {p:Nat} {m:MZ} {ch:List Int}
theorem EJ.keep (h:EJ w ok p m ch) (o:Ao ok w w'):EJ w' ok p m ch:=by
 obtain ⟨us,f,u,t,vc,vp,gu,h1,h2⟩:=h;exact ⟨us,f,u,t,vc,vp,gu,h1,h2.keep o⟩
theorem EJ.weaken (h:EJ w ok p m ch) (o:∀b,ok b->ok' b):EJ w ok' p m ch:=by
 obtain ⟨us,f,u,t,vc,vp,gu,h1,h2⟩:=h;exact ⟨us,f,u,t,vc,vp,gu,h1,h2.weaken o⟩
theorem EJ.bound (h:EJ w ok p m ch):EJ w (fun b=>ok b/\b<w.heap.size) p m ch:=by
 obtain ⟨us,f,u,t,vc,vp,gu,h1,h2⟩:=h;exact ⟨us,f,u,t,vc,vp,gu,h1,h2.bound⟩
theorem EJ.ext (h:EJ w ok p m ch) (o:zb w w'):EJ w' ok p m ch:=h.keep (Ao.of_below o)
end
theorem begin_c {ok:Nat->Prop} {v:Value} {m:MZ} (w:World) (hm:zt w ok v m) (o:m.tasks.length<=100000):
  Calls Tryz.prog 83 #[v] w fun e w'=>∃p,e=.returned (.pointer (some ⟨p,0,none⟩))/\zb w w'/\EJ w' (fun b=>ok b\/w.heap.size<=b) p m []:=by
 refine (begin_calls w hm o).mono ?_;rintro e w' ⟨v',rfl,D,g,f,u,t,vc,vp,gu,rfl,h⟩;exact ⟨g,rfl,D,[],f,u,t,vc,vp,gu,fun _=>Iff.rfl,h⟩
theorem Ed {ok:Nat->Prop} {m:MZ} {ch:List Int} {p:Nat} (w:World) (h:EJ w ok p m ch) (g:zI m) (D:Lens m) (o:zC m ch):
  Calls Tryz.prog 64 #[.pointer (some ⟨p,0,none⟩)] w fun e w'=>e=.returned (.bool (AZ m ch))/\zM w w':=by
 obtain ⟨us,f,u,t,vc,vp,gu,h1,h2⟩:=h;exact CL w h2 (o.sok g D)
theorem Dm {ok:Nat->Prop} {m:MZ} {ch:List Int} {p:Nat} (w:World) (h:EJ w ok p m ch) (g:zI m) (D:Lens m) (o:zC m ch):
  Calls Tryz.prog 84 #[.pointer (some ⟨p,0,none⟩)] w fun e w'=>∃v',e=.returned v'/\Mk w w' v' (Bw m ch):=by
 obtain ⟨us,f,u,t,vc,vp,gu,h1,h2⟩:=h;unfold Bw;rw [<-candL_congr h1];exact candidates_calls w h2 (o.sok g D)
theorem open_c {ok:Nat->Prop} {m:MZ} {ch:List Int} {p:Nat} (w:World) (h:EJ w ok p m ch) (g:zI m) (D:Lens m) (o:zC m ch):
  Calls Tryz.prog 86 #[.pointer (some ⟨p,0,none⟩)] w fun e w'=>e=.returned (.bool (Cj m ch))/\zb w w':=by
 obtain ⟨us,f,u,t,vc,vp,gu,h1,h2⟩:=h;unfold Cj;rw [<-openB_congr h1];exact open_calls w h2 (o.sok g D)
theorem with_c {ok:Nat->Prop} {m:MZ} {ch:List Int} {p:Nat} (w:World) (h:EJ w ok p m ch) (g:zI m) (D:Lens m) (o:zC m ch) (E:n∈Bw m ch):
  Calls Tryz.prog 85 #[.pointer (some ⟨p,0,none⟩),.int .i64 n] w fun e w'=>∃q,e=.returned (.pointer (some ⟨q,0,none⟩))/\zb w w'/\EJ w' (fun b=>(ok b/\b<w.heap.size)\/w.heap.size<=b) q m (ch++[n]):=by
 obtain ⟨us,f,u,t,vc,vp,gu,h1,h2⟩:=h;have hp:=o.psOk.pn (Cx (CD E));refine (with_calls n w h2.bound (o.sok g D) (o.sok1 g D E) hp).mono ?_;rintro e w' ⟨v',rfl,I,us',h3,q,f',u',t',vc',vp',gu',rfl,G⟩;refine ⟨q,rfl,I,us',f',u',t',vc',vp',gu',fun x=>?_,?_⟩
 ·rw [h3,h1,FE,Fv];exact Or.comm
 ·rw [DX];exact G
def okR (X Y:Nat->Prop) (g gr:Nat) (b:Nat):Prop:=(X b/\b≠g/\b≠gr)\/Y b
def ptrV (p:Nat):Value:=.pointer (some ⟨p,0,none⟩)
def RtRow (w:World) (X Y:Nat->Prop) (g gr cap:Nat) (m:MZ) (ch:List Int) (ptrs:List Nat):Prop:=
 w.ownsRow 0 97 1 (.slice (some ⟨gr,0,none⟩) ptrs.length cap) ptrs.length (ptrs.map ptrV)/\ptrs.length=ch.length+1/\∀(k p:Nat),ptrs[k]?=some p->EJ w (okR X Y g gr) p m (ch.take k)
structure Bg (w:World) (X Y:Nat->Prop) (g gr cap:Nat) (m:MZ) (s:RS) (ptrs:List Nat):Prop where
 blk:zg w g 96 #[.slice (some ⟨gr,0,none⟩) ptrs.length cap,.bool s.done,.int .i64 s.steps]
 xg:X g
 xr:X gr
 ne:g≠gr
 yg:¬ Y g
 yr:¬ Y gr
 row:RtRow w X Y g gr cap m s.ch ptrs
structure zu (X:Nat->Prop) (w w':World):Prop where
 os:w'.os=w.os
 tape:w'.tape=w.tape
 output:w'.output=w.output
 size:w.heap.size<=w'.heap.size
 block:∀b,b<w.heap.size->¬ X b->w'.heap[b]?=w.heap[b]?
theorem zu.refl (X:Nat->Prop) (w:World):zu X w w:=⟨rfl,rfl,rfl,EN _,fun _ _ _=>rfl⟩
theorem zu.of_ext {X:Nat->Prop} {w w':World} (h:zb w w'):zu X w w':=⟨h.os,h.tape,h.output,h.size,fun b o _=>h.block b o⟩
theorem zu.trans {X X':Nat->Prop} {a b c:World} (h:zu X a b) (o:zu X' b c) (I:∀k,k<a.heap.size->X' k->X k):zu X a c:=
 ⟨o.os.trans h.os,o.tape.trans h.tape,o.output.trans h.output,EP h.size o.size,fun k D G=>(o.block k (Fq D h.size) (fun E=>G (I k D E))).trans (h.block k D G)⟩
theorem zu.same {X ok:Nat->Prop} {w w':World} (h:zu X w w') (E:∀b,ok b->¬ X b):Ao ok w w':=fun b D o=>h.block b o (E b D)
theorem zu.below {X:Nat->Prop} {w w':World} (h:zu X w w') (E:B<=w.heap.size) (o:∀b,X b->B<=b):Below B w w':=
 ⟨h.os,h.tape,h.output,h.size,fun b G=>h.block b (by omega) (fun D=>by have:=o b D;omega)⟩
section
variable {w w':World} {X Y X' Y':Nat->Prop} {g gr cap:Nat} {m:MZ} {s:RS} {ptrs:List Nat} {ch:List Int}
theorem row_keep {n:Nat} {e:TypeId} (h:w.ownsRow B e size (.slice (some ⟨gr,0,none⟩) n c) n xs) (D:w'.heap[gr]?=w.heap[gr]?):w'.ownsRow B e size (.slice (some ⟨gr,0,none⟩) n c) n xs:=by
 obtain ⟨G,⟨h0,_⟩ | ⟨g',cap',cur,o,h1,h2,h3⟩⟩:=h
 ·cases h0
 ·have E:g'=gr:=by injection o with o;injection o with o;injection o with o;exact o.symm
  subst E;exact ⟨G,.inr ⟨g',cap',cur,o,h1,D.trans h2,h3⟩⟩
theorem row_shrink {n:Nat} {e:TypeId} (h:w.ownsRow B e 1 (.slice (some ⟨gr,0,none⟩) n c) n xs) (L:k<=n):w.ownsRow B e 1 (.slice (some ⟨gr,0,none⟩) k c) k (xs.take k):=by
 obtain ⟨J,⟨h0,_⟩ | ⟨g',cap',cur,o,h1,h2,h3,D,E,G⟩⟩:=h
 ·cases h0
 ·injection o with o M I;injection o with o;injection o with o;subst o I;refine ⟨by rw [FH,J];omega,.inr ⟨gr,c,cur,rfl,h1,h2,by omega,D,E,?_⟩⟩;rw [<-G,List.take_take];congr 1;omega
theorem RtRow.keep (h:RtRow w X Y g gr cap m ch ptrs) (I:∀b,b<w.heap.size->(X b/\b≠g)\/Y b->w'.heap[b]?=w.heap[b]?) (D:X gr) (G:g≠gr):RtRow w' X Y g gr cap m ch ptrs:=by
 obtain ⟨h1,h2,h3⟩:=h;have o:gr<w.heap.size:=(h1.lt gr rfl).2;refine ⟨row_keep h1 (I gr o (.inl ⟨D,Ne.symm G⟩)),h2,fun k p hp=>(h3 k p hp).keep fun b hb E=>I b E ?_⟩;rcases hb with hb | hb
 ·exact .inl ⟨hb.1,hb.2.1⟩
 ·exact .inr hb
theorem RtRow.last (h:RtRow w X Y g gr cap m ch ptrs):∃p,ptrs[ch.length]?=some p/\EJ w (okR X Y g gr) p m ch/\w.cell? ⟨gr,ch.length,none⟩=some (ptrV p):=by
 obtain ⟨h1,h2,h3⟩:=h;have o:ch.length<ptrs.length:=by omega
 refine ⟨ptrs[ch.length],EL o,by have:=h3 _ _ (EL o);rwa [EY] at this,?_⟩;rw [World.ownsRow.cellAt h1 _ (by omega),Fx,EL o];rfl
theorem Bg.same (h:Bg w X Y g gr cap m s ptrs) (o:∀b,b<w.heap.size->X b\/Y b->w'.heap[b]?=w.heap[b]?):Bg w' X Y g gr cap m s ptrs:=
 ⟨(o g (zd h.blk) (.inl h.xg)).trans h.blk,h.xg,h.xr,h.ne,h.yg,h.yr,h.row.keep (fun b D hx=>o b D (by rcases hx with hx | hx;exact .inl hx.1;exact .inr hx)) h.xr h.ne⟩
theorem Bg.ext (h:Bg w X Y g gr cap m s ptrs) (o:zb w w'):Bg w' X Y g gr cap m s ptrs:=h.same fun b D _=>o.block b D
end
theorem last_calls {g gr P cap n p:Nat} (w:World) (o:w.cell? ⟨g,0,none⟩=some (.slice (some ⟨gr,0,none⟩) P cap)) (D:w.cell? ⟨gr,n,none⟩=some (ptrV p)) (G:P=n+1) (E:P<=cap) (M:n<=1000):
  Calls Tryz.prog 63 #[.pointer (some ⟨g,0,none⟩)] w fun e w'=>e=.returned (ptrV p)/\zM w w':=by
 have r0:=zb.rule o;have r1:=zb.rule D;have I:(0:Int)<=(n:Int):=by omega
 have J:(n:Int)<(P:Int):=by omega
 have L:IntKind.i64.wrap ((P:Int) - 1)=(n:Int):=by rw [Fi];omega
 clear o D G;have O:=zb.refl w
 go_enter Tryz.func63,Tryz.ntmps63
 go_wp2_with fail
 go_quiet (fail)
 go_wp2;go_ret;exact ⟨rfl,(zM.refl w).more _⟩
theorem last_c {w w':World} {X Y:Nat->Prop} {g gr cap p:Nat} {m:MZ} {s:RS} {ptrs:List Nat} (h:Bg w X Y g gr cap m s ptrs) (hp:ptrs[s.ch.length]?=some p) (E:s.ch.length<=1000):
  Calls Tryz.prog 63 #[.pointer (some ⟨g,0,none⟩)] w fun e w'=>e=.returned (.pointer (some ⟨p,0,none⟩))/\zM w w':=by
 obtain ⟨p',o,_,D⟩:=h.row.last;rw [hp] at o;injection o with o;subst o;exact last_calls w (h.blk.cell (k:=0) rfl) D h.row.2.1 (BG h.row.1) E
end
section
open Go.RowKit
section
variable {w w' W:World} {X Y:Nat->Prop} {g gr cap:Nat} {m:MZ} {s:RS} {ptrs:List Nat} {ch:List Int}
theorem Bg.okR_ne (h:Bg w X Y g gr cap m s ptrs) {b:Nat} (o:okR X Y g gr b):b≠g/\b≠gr:=by
 rcases o with ⟨_,h1,h2⟩ | hy
 ·exact ⟨h1,h2⟩
 ·exact ⟨fun e=>h.yg (e ▸ hy),fun e=>h.yr (e ▸ hy)⟩
theorem Bg.setg (h:Bg w X Y g gr cap m s ptrs) (j:Nat) (v:Value) {s':RS} (o:s'.ch=s.ch) (D:(#[.slice (some ⟨gr,0,none⟩) ptrs.length cap,.bool s.done,.int .i64 s.steps]:Array Value).setIfInBounds j v=#[.slice (some ⟨gr,0,none⟩) ptrs.length cap,.bool s'.done,.int .i64 s'.steps]):
  Bg (w.setCell ⟨g,j,none⟩ v) X Y g gr cap m s' ptrs:=
 ⟨by have:=h.blk.set (k:=j) v;rwa [D] at this,h.xg,h.xr,h.ne,h.yg,h.yr,by
  rw [o]
  exact h.row.keep (fun b D hx=>EW w ⟨g,j,none⟩ v b (by
   show b≠g;rcases hx with hx | hx
   ·exact hx.2
   ·exact fun e=>h.yg (e ▸ hx))) h.xr h.ne⟩
theorem Bg.done (h:Bg w X Y g gr cap m s ptrs) (d:Bool):Bg (w.setCell ⟨g,1,none⟩ (.bool d)) X Y g gr cap m ⟨s.ch,d,s.steps⟩ ptrs:=h.setg 1 _ rfl rfl
theorem Bg.stepsTo (h:Bg w X Y g gr cap m s ptrs) (n:Int):Bg (w.setCell ⟨g,2,none⟩ (.int .i64 n)) X Y g gr cap m ⟨s.ch,s.done,n⟩ ptrs:=h.setg 2 _ rfl rfl
theorem Bg.widen {X':Nat->Prop} (h:Bg w X Y g gr cap m s ptrs) (o:∀b,X b->X' b):Bg w X' Y g gr cap m s ptrs:=
 ⟨h.blk,o _ h.xg,o _ h.xr,h.ne,h.yg,h.yr,h.row.1,h.row.2.1,fun k p hp=>(h.row.2.2 k p hp).weaken fun b hb=>by
  rcases hb with hb | hb
  ·exact .inl ⟨o _ hb.1,hb.2⟩
  ·exact .inr hb⟩
theorem chg_setg {X:Nat->Prop} (w:World) (D:X g) (j:Nat) (v:Value):zu X w (w.setCell ⟨g,j,none⟩ v):=
 ⟨rfl,rfl,rfl,by simp [World.setCell],fun b _ o=>EW w ⟨g,j,none⟩ v b (by rintro rfl;exact o D)⟩
theorem zu.tr {X:Nat->Prop} {a b c:World} (h:zu X a b) (o:zu X b c):zu X a c:=h.trans o (fun _ _ h=>h)
theorem zu.ext_r {X:Nat->Prop} {a b c:World} (h:zu X a b) (o:zb b c):zu X a c:=h.tr (zu.of_ext o)
theorem Bg.pop (h:Bg w X Y g gr cap m s ptrs) (J:k<=s.ch.length):Bg (w.setCell ⟨g,0,none⟩ (.slice (some ⟨gr,0,none⟩) (k+1) cap)) X Y g gr cap m ⟨s.ch.take k,s.done,s.steps⟩ (ptrs.take (k+1)):=by
 have E:=h.row.2.1;have D:(ptrs.take (k+1)).length=k+1:=by rw [FH];omega
 have o:∀b,(X b/\b≠g)\/Y b->(w.setCell ⟨g,0,none⟩ (.slice (some ⟨gr,0,none⟩) (k+1) cap)).heap[b]?=w.heap[b]?:=fun b hx=>EW w ⟨g,0,none⟩ _ b (by
  show b≠g;rcases hx with hx | hx
  ·exact hx.2
  ·exact fun e=>h.yg (e ▸ hx))
 have I:w.ownsRow 0 97 1 (.slice (some ⟨gr,0,none⟩) (k+1) cap) (k+1) ((ptrs.take (k+1)).map ptrV):=by
  rw [List.map_take];exact row_shrink h.row.1 (by omega)
 refine ⟨?_,h.xg,h.xr,h.ne,h.yg,h.yr,?_,?_,?_⟩
 ·have:=h.blk.set (k:=0) (.slice (some ⟨gr,0,none⟩) (k+1) cap);rw [D];exact this
 ·rw [D];exact row_keep I (o gr (.inl ⟨h.xr,Ne.symm h.ne⟩))
 ·simp only [FH];omega
 ·intro j p hp
  have G:j<k+1:=by
   rcases Fk j (k+1) with h1 | h1
   ·exact h1
   ·rw [Fg (by omega)] at hp;cases hp
  rw [List.getElem?_take_of_lt G] at hp;have:=h.row.2.2 j p hp;rw [List.take_take,Nat.min_eq_left (by omega)]
  exact this.keep fun b hb _=>o b (by
   rcases hb with hb | hb
   ·exact .inl ⟨hb.1,hb.2.1⟩
   ·exact .inr hb)
theorem Bg.push (h:Bg w X Y g gr cap m s ptrs) {q:Nat} {o:Obj} {v':Value} (a5:EJ w (okR X Y g gr) q m (s.ch++[n])) (U:∀b,w.heap.size<=b->X b) (V:∀b,Y b->b<w.heap.size)
  (M:w5.ownsRow 0 97 1 v' (ptrs.length+1) (ptrs.map ptrV++[ptrV q])) (Q:(w.alloc o).grownBy w5 (some gr)) (hv:v'.ownBlock=some gr\/v'.ownBlock=some (w.heap.size+1)):
  ∃gr' cap',v'=.slice (some ⟨gr',0,none⟩) (ptrs.length+1) cap'/\Bg (w5.setCell ⟨g,0,none⟩ v') X Y g gr' cap' m ⟨s.ch++[n],s.done,s.steps⟩ (ptrs++[q])/\zu X w (w5.setCell ⟨g,0,none⟩ v'):=by
 obtain ⟨gr',cap',rfl,_,a9⟩:=World.ownsRow.form M (by omega)
 have G:gr'=gr\/gr'=w.heap.size+1:=by
  rcases hv with hv | hv
  ·left;simpa [Value.ownBlock] using hv
  ·right;simpa [Value.ownBlock] using hv
 have a1:g<w.heap.size:=zd h.blk;have b1:gr<w.heap.size:=(h.row.1.lt gr rfl).2;have a6:w.heap.size<=w5.heap.size:=EP (by simp) Q.size
 have L:g≠gr':=by
  rcases G with rfl | rfl
  ·exact h.ne
  ·omega
 have I:∀b,b<w.heap.size->b≠gr->w5.heap[b]?=w.heap[b]?:=fun b D O=>(Q.block b (by simp;omega) (fun e=>O (by injection e))).trans (Ff _ _ _ D)
 have E:∀b,b<w.heap.size->b≠gr->b≠g->(w5.setCell ⟨g,0,none⟩ (.slice (some ⟨gr',0,none⟩) (ptrs.length+1) cap')).heap[b]?=w.heap[b]?:=fun b D O a0=>(EW w5 ⟨g,0,none⟩ _ b a0).trans (I b D O)
 have a4:∀b,okR X Y g gr b/\b<w.heap.size->okR X Y g gr' b:=by
  rintro b ⟨D,a8⟩;rcases D with ⟨h1,h2,h3⟩ | hy
  ·exact .inl ⟨h1,h2,by rcases G with rfl | rfl;exact h3;omega⟩
  ·exact .inr hy
 have J:∀(p:Nat) (c:List Int),EJ w (okR X Y g gr) p m c->EJ (w5.setCell ⟨g,0,none⟩ (.slice (some ⟨gr',0,none⟩) (ptrs.length+1) cap')) (okR X Y g gr') p m c:=fun p c hs=>
  (hs.bound.keep fun b D _=>E b D.2 (h.okR_ne D.1).2 (h.okR_ne D.1).1).weaken a4
 have T:=h.row.2.1;refine ⟨gr',cap',rfl,⟨?_,h.xg,?_,L,h.yg,?_,?_,?_,?_⟩,?_⟩
 ·have Z:zg w5 g 96 #[.slice (some ⟨gr,0,none⟩) ptrs.length cap,.bool s.done,.int .i64 s.steps]:=(I g a1 h.ne).trans h.blk;have:=Z.set (k:=0) (.slice (some ⟨gr',0,none⟩) (ptrs.length+1) cap');rw [EV,Fo];exact this
 ·rcases G with rfl | rfl
  ·exact h.xr
  ·exact U _ (by omega)
 ·rcases G with rfl | rfl
  ·exact h.yr
  ·intro hy;have:=V _ hy;omega
 ·rw [EV,Fo,FG];exact row_keep M (EW w5 ⟨g,0,none⟩ _ gr' (Ne.symm L))
 ·simp [T]
 ·intro k p hp;rcases Fk k ptrs.length with hk | hk
  ·rw [ES hk] at hp;rw [List.take_append_of_le_length (by omega)];exact J _ _ (h.row.2.2 k p hp)
  ·have a3:k=ptrs.length:=by
    rcases Fk k (ptrs++[q]).length with h1 | h1
    ·simp at h1;omega
    ·rw [Fg h1] at hp;cases hp
   subst a3;rw [ET (EN _)] at hp;have hq:q=p:=by simpa using hp
   subst hq;rw [List.take_of_length_le (by simp;omega)];exact J _ _ a5
 ·exact ⟨Q.os,Q.tape,Q.output,by simpa [World.setCell] using a6,fun b D hx=>E b D (fun e=>hx (e ▸ h.xr)) (fun e=>hx (e ▸ h.xg))⟩
end
noncomputable def srch (m:MZ) (ch:List Int) (k:Nat) (b:Int):Option (List Int):=
 match aft m (ch.take k) b with
 | some n=>some (ch.take k++[n])
 | none=>backN m ch k
theorem srch_top (m:MZ) (ch:List Int):srch m ch ch.length (-1)=stepC m ch:=by
 unfold srch stepC;rw [EY]
 all_goals (cases aft m ch (-1) <;> rfl)
theorem srch_back {m:MZ} {ch:List Int} (h:aft m (ch.take (k+1)) b=none):srch m ch (k+1) b=srch m ch k (ch.getD k 0):=by
 unfold srch;rw [h];rfl
theorem srch_zero {m:MZ} {ch:List Int} (h:aft m (ch.take 0) b=none):srch m ch 0 b=none:=by
 unfold srch;rw [h];rfl
theorem aft_none {m:MZ} {ch:List Int} (o:l=Bw m ch) (h:∀n∈l,¬ (b<n/\Cj m (ch++[n])=true)):aft m ch b=none:=by
 unfold aft;rw [List.find?_eq_none];intro n D;have:=h n (by rw [o];exact D);simp only [EZ,EX];exact this
theorem aft_at {m:MZ} {ch:List Int} {i:Nat} (D:i<(Bw m ch).length) (h:∀n∈(Bw m ch).take i,¬ (b<n/\Cj m (ch++[n])=true)) (h1:b<(Bw m ch)[i]) (h2:Cj m (ch++[(Bw m ch)[i]])=true):aft m ch b=some (Bw m ch)[i]:=by
 unfold aft;generalize Bw m ch=l at*;obtain ⟨x,o⟩:=zak (l[i]);rw [<-o] at h1 h2⊢
 have G:l=l.take i++x :: l.drop (i+1):=by
  rw [o,List.getElem_cons_drop D,List.take_append_drop]
 rw [G,List.find?_append,List.find?_eq_none.2 (fun n E=>by
  have:=h n E;simp only [EZ,EX];exact this)]
 simp [h1,h2]
end
end Go.Proofs.YthbjngbhbbkkgaaGreat
