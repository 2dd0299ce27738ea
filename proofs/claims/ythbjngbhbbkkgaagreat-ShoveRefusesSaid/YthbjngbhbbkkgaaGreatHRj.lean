import Derived.Test.YthbjngbhbbkkgaaGreatHRi
set_option linter.unusedVariables false
set_option linter.unusedSimpArgs false
set_option maxRecDepth 100000
set_option maxHeartbeats 16000000
namespace Go.Proofs.YthbjngbhbbkkgaaGreat
variable {ps:List (List Int)} {ch l:List Int} {b3 gb gs k:Nat} {ok:Nat->Prop} {f ts u vc vp:Value} {w:World}
section
open Go.RowKit Go.Shelf
attribute [local go_sem] Oper.semAt_some
attribute [local go_sem ↓] Go.wp_at_zero Go.wp_at_succ
def BE (m:MZ) (ps:List (List Int)) (us:List Int) (t:Nat):List Int:=
 match (if t+1=ps.length then (ps.getD t []).getLast? else none) with
 | some x=>[x]
 | none=>((m.tasks.getD t ([],[])).1).filter fun n=>!(!zi m t n || decide (n∈us))
theorem sameCell {B:Nat} {W:World} (z:zW (fun b=>b<B) w W) {p:Addr} {v:Value} (o:w.cell? p=some v) (hp:p.block<B):W.cell? p=some v:=
 (EV (w:=w) (z p.block hp (zo o))).trans o
theorem Bw {v:Value} (w:World) (h:zj w ok v l) (L:l.length<=1000000000000):
  Calls Tryz.prog 46 #[v] w fun e w'=>∃v',e=.returned v'/\Mk w w' v' l:=by
 have H:=zh h;have D:=nilEq 23 3 Tryz.underlying23;obtain ⟨A,c,rfl,J,z⟩:=h;rcases A with _ | a
 ·have o:l=[]:=by
   rcases Fs l.length with h | h
   ·exact EX h
   ·obtain ⟨b,off,e,_⟩:=z.2 h;cases e
  subst o;clear z
  go_enter Tryz.func46,Tryz.ntmps46
  go_wp2_with fail
  go_ret;exact ⟨_,rfl,Mk.nil _⟩
 ·clear z;have M:=zb.refl w
  go_enter Tryz.func46,Tryz.ntmps46
  go_wp2_with (at_builtin;refine BP (ok:=ok) rfl _ _ _ rfl w.heap.size [] l _ _ rfl rfl (Dg w w.heap.size (EG _)) (H.out.below ((zb.refl w).alloc _)) ?d1 ?d2 ?_)
  case d1=>simp
  case d2=>simp;omega
  intro v' w1 E B _;have G:Hid (Mk w w1 v' l):=⟨E,Ad ((zb.refl w).alloc _) B (by simp) (fun k I=>slice_own I)⟩;clear E B
  go_wp2_with fail
  go_ret;exact ⟨_,rfl,G.out⟩
theorem left11_del {m:MZ} {us:List Int} {g gu:Nat} {wk w8:World} {v8:Value} (tn:Nat) (h:BK w ok g m ch ps us f u ts vc vp gu) (so:SOk m ch ps) (D:zb w wk)
  (o:Mk wk w8 v8 l) (B:wk.cell? ⟨gb,0,none⟩=some (.pointer (some ⟨g,0,none⟩))) (z:wk.cell? ⟨b3,0,none⟩=some (.int .i64 (tn:Int))) (Q:tn<m.tasks.length) (L:l.length<=1000000000000) (O:∀x∈l,0<=x/\x<m.n):
  Calls Tryz.prog 130 #[v8,.func (.func 131) #[] #[.pointer (some ⟨gb,0,none⟩),.pointer (some ⟨b3,0,none⟩)]] w8 fun e w'=>∃v',e=.returned v'/\Mk wk w' v' (l.filter fun n=>!(!zi m tn n || decide (n∈us))):=by
 have I:tn<m.free.length:=by have:=so.good.fl;omega
 refine deleteFuncI_calls o (fun x=>0<=x/\x<m.n) O ⟨by omega,by have:=so.good.n1;unfold MZ.n;omega⟩ L _ _ (fun x=>!zi m tn x || decide (x∈us)) (Ar (P:=Tryz.prog) Tryz.func131 (by kernel_rfl) (by kernel_rfl)) ?_;intro x J W E;have h1:BK W (fun b=>ok b/\b<w.heap.size) g m ch ps us f u ts vc vp gu:=h.bound.keep (fun b G M=>(E b (Fh G.2 D.size) (Fh G.2 (D.trans o.ext).size)).trans ((D.trans o.ext).block b G.2));exact left11_calls tn x W h1 so.good.fn I (sameCell E (o.ext.cell B) (zo B)) (sameCell E (o.ext.cell z) (zo z)) J.1 J.2
theorem left1_next {m:MZ} {W wr w5:World} {J:Nat->World->Prop} {tn t0:Nat} (E:Hid (tn=t0+k)) (T:k<=m.tasks.length+1 - ps.length) (L:tn<m.tasks.length) (Q:m.tasks.length<=1000000) (M:ps.length=t0+1)
  (I:Hid (∀(k:Nat) (A B:World),J k A->Below W.heap.size A B->J k B)) (G:Hid (wr.cell? ⟨b3,0,none⟩=some (.int .i64 (tn:Int)))) (z:zb w w5) (D:Hid (J (k+1) w5)) (o:W.heap.size<=w5.heap.size):
  (∃k tn_1 b3,Value.pointer (some ⟨w5.heap.size,0,none⟩)=Value.pointer (some ⟨b3,0,none⟩)/\Hid (tn_1=t0+k)/\k<=m.tasks.length+1 - ps.length/\Hid (W.heap.size<=b3)/\
   Hid ((w5.alloc (Obj.cells #[Value.int IntKind.i64 (wrap64 ((tn:Int)+1))] 3)).cell? ⟨b3,0,none⟩=some (Value.int IntKind.i64 (tn_1:Int))/\(w5.alloc (Obj.cells #[Value.int IntKind.i64 (wrap64 ((tn:Int)+1))] 3)).frozen? ⟨b3,0,none⟩=false)/\
   Hid (zb w (w5.alloc (Obj.cells #[Value.int IntKind.i64 (wrap64 ((tn:Int)+1))] 3)))/\Hid (J k (w5.alloc (Obj.cells #[Value.int IntKind.i64 (wrap64 ((tn:Int)+1))] 3)))/\
   Hid (W.heap.size<=(w5.alloc (Obj.cells #[Value.int IntKind.i64 (wrap64 ((tn:Int)+1))] 3)).heap.size))/\
  (match Value.pointer (some ⟨w5.heap.size,0,none⟩) with
   | Value.pointer (some a)=>(match (w5.alloc (Obj.cells #[Value.int IntKind.i64 (wrap64 ((tn:Int)+1))] 3)).cell? a with | some (Value.int k i)=>m.tasks.length - i.toNat | x=>0)
   | x=>0)<
  (match Value.pointer (some ⟨b3,0,none⟩) with
   | Value.pointer (some a)=>(match wr.cell? a with | some (Value.int k i)=>m.tasks.length - i.toNat | x=>0)
   | x=>0):=by
 have h1:=E.out;have O:wrap64 ((tn:Int)+1)=((tn+1:Nat):Int):=by rw [IntWalk.wrap64_in _ (by omega)];omega
 rw [O];refine ⟨⟨k+1,tn+1,w5.heap.size,rfl,(by omega:tn+1=t0+(k+1)),by omega,o,⟨zr _ _ _ rfl,World.frozen?_alloc_at _ _ _ _ rfl⟩,z.alloc _,I.out _ _ _ D.out ((Below.refl _ w5).alloc o _),EI o (by simp)⟩,?_⟩;simp only [zr _ _ _ rfl,G.out];omega
theorem left1_gives {m:MZ} {us:List Int} {g gu:Nat} (w:World) (h:BK w ok g m ch ps us f u ts vc vp gu) (so:SOk m ch ps) (hc:w.cell? ⟨gb,0,none⟩=some (.pointer (some ⟨g,0,none⟩))) (hp:cmpB m ps=false) (n:Nat) (hn:1<=n):
  GivesB n Tryz.prog 129 #[.pointer (some ⟨gb,0,none⟩)] (fun x:Int×Value=>#[.int .i64 x.1,x.2]) (fun k x W=>x.1=((ps.length - 1+k:Nat):Int)/\zj W (fun _=>True) x.2 (BE m ps us (ps.length - 1+k))) (m.tasks.length+1 - ps.length) w:=by
 intro l J Jx W hW h8 hl hJ i7 hY h0;have HS:=zh h.bound;clear h;have HY:=zh hY;clear hY;have HJ:=zh hJ;clear hJ;have n8:=zh i7;clear i7;have H0:=zh h0;clear h0;have n3:ps.length<=6:=EI so.pl so.good.tk;obtain ⟨r0,r1,r2,r3,r4,r5,r6,r7,r8⟩:=HS.out.rules;have rb:=zb.rule hc;have SO:=zh so
 have n2:0<ps.length:=by
  by_cases h0:m.tasks.length=0
  ·unfold cmpB at hp;rw [EJ h0] at hp;cases hp
  ·exact so.pn (by omega)
 have o4:=so.pl;have m1:=HS.out.maze;obtain ⟨fr',up',ts',c7,_,_,k5⟩:=m1;injection c7 with c7;injection c7 with c7;simp only [List.cons.injEq,and_true,true_and] at c7;obtain ⟨rfl,rfl,rfl⟩:=c7;have i1:=zh k5;obtain ⟨vst,⟨At,ct,rfl,o2,_⟩,_⟩:=k5;clear hc so;refine callsIn_of_wp Tryz.func129 rfl trivial ?_ rfl;simp only [Tryz.ntmps129,List.size_toArray,zab,zac,Nat.reduceAdd,Nat.reduceSub,Array.replicate_succ,Array.replicate_zero,List.push_toArray,List.append_toArray,List.nil_append,List.cons_append]
 gi_wp2_with (refine ⟨trivial,?_⟩;gi_at_call 64;refine (callsIn_wide.2 (Cy _ (HS.out.ext hW) SO.out)).mono ?_;rintro e wA ⟨rfl,j1⟩;rw [hp];have h9:zb W wA:=j1.below _;have hA:zb w wA:=hW.trans h9)
 refine ⟨trivial,?_⟩;refine (callsIn_wide.2 (Bh _ (HS.out.ext hA) (by omega))).mono ?_;rintro e wB ⟨he,l3⟩;subst l3;obtain ⟨t0,h6⟩:∃t0,ps.length=t0+1:=⟨ps.length - 1,by omega⟩;have j7:(ps.length:Int) - 1=(t0:Int):=by omega
 rw [j7] at he;subst he;clear j7 j1
 gi_wp2
 gi_loopw [3] (fun v wr=>∃k tn b3,v=.pointer (some ⟨b3,0,none⟩)/\Hid (tn=t0+k)/\k<=m.tasks.length+1 - ps.length/\Hid (W.heap.size<=b3)/\Hid (wr.cell? ⟨b3,0,none⟩=some (.int .i64 (tn:Int))/\wr.frozen? ⟨b3,0,none⟩=false)/\Hid (zb w wr)/\Hid (J k wr)/\Hid (W.heap.size<=wr.heap.size)) (fun v wr=>match v with | .pointer (some a)=>(match wr.cell? a with | some (.int _ i)=>m.tasks.length - i.toNat | _=>0) | _=>0)
 case atStart=>
  have hz:=h9.size;exact ⟨0,t0,wA.heap.size,rfl,rfl,by omega,hz,⟨zr _ _ _ rfl,World.frozen?_alloc_at _ _ _ _ rfl⟩,hA.alloc _,HJ.out _ _ _ H0.out ((h9).alloc _),EI hz (by simp)⟩
 case round=>
  obtain ⟨k,tn,b3,rfl,a4,hk,g6,i9,hE,i6,k3⟩:=hrel;have i5:=hE.out;obtain ⟨o,f8⟩:=i9.out;have d7:=zh o
  gi_wp2
  refine wpIn_wide.2 ?_;go_quiet (fail)
  generalize k7:wr.drewN nq=w2;have j0:zK wr w2:=⟨nq,k7.symm⟩;have c9:zb wr w2:=j0.below _;clear k7 j0;have c4:zb w w2:=i5.trans c9;have a2:=c9.cell o;have f3:w2.frozen? ⟨b3,0,none⟩=false:=(Below.frozen c9 (p:=⟨b3,0,none⟩) (zo o)).trans f8;have e4:=zh (HJ.out _ _ _ i6.out (c9.mono k3.out));have d4:W.heap.size<=w2.heap.size:=EI k3.out c9.size;clear o f8 i9 i6 hE i5 c9;by_cases h4:tn<m.tasks.length
  ·have b1:t0<ps.length:=by omega
   obtain ⟨vs,⟨Ap,cp,rfl,o1,k1⟩,j2⟩:=HS.out.ps;obtain ⟨b,off,up,rfl,_,f7,h7⟩:=Ai k1 j2 b1 b1;have j8:=SO.out.pp _ (EH b1);have q0:=zb.rule f7;have o8:(t0:Int)<(ps.length:Int):=by omega
   have n5:(0:Int)<=(t0:Int):=by omega
   obtain ⟨p,h5⟩:=zad (ps[t0]);rw [<-h5] at h7 j8;have g3:=zh h5;clear h5;have i2:=zh h7;obtain ⟨Aq,cq,rfl,l8,m2⟩:=h7;clear k1 j2 f7 m2;have j6:(k=0)\/(k≠0):=by omega
   rcases j6 with hk0 | hk0
   ·have c8:Hid (tn=t0):=(by have:=a4.out;omega:tn=t0);have hd:((tn:Int)==(t0:Int))=true:=by rw [beq_iff_eq,c8.out]
    have j9:min (tn:Int) (t0:Int)=(t0:Int):=by rw [c8.out];omega
    clear hk0
    gi_wp2
    refine wpIn_wide.2 ?_;go_quiet ((go_at_call 103;refine (Bh _ (HS.out.ext (c4.drewN _)) (by omega)).mono ?_;rintro e w9 ⟨I,rfl⟩;rw [show (ps.length:Int) - 1=(t0:Int) from by omega] at I;exact ⟨I,⟨_,rfl⟩⟩))
    generalize f1:w2.drewN nq=w3;have e7:zK w2 w3:=⟨nq,f1.symm⟩;have O:zb w2 w3:=e7.below _;clear f1 e7;have a0:zb w w3:=c4.trans O;have o:=O.cell a2;have b8:w3.frozen? ⟨b3,0,none⟩=false:=(Below.frozen O (p:=⟨b3,0,none⟩) (zo a2)).trans f3;have b7:=zh (HJ.out _ _ _ e4.out (O.mono d4));have a1:W.heap.size<=w3.heap.size:=EI d4 O.size;clear a2 f3 e4 c4 O d4;rcases List.eq_nil_or_concat p with rfl | ⟨q,x,rfl⟩
    ·have g0:Hid (BE m ps us tn=((m.tasks.getD tn ([],[])).1).filter fun n=>!(!zi m tn n || decide (n∈us))):=by
      show BE m ps us tn=_;unfold BE;rw [if_pos (by have:=c8.out;omega),c8.out,EF,EE b1,Fl,<-g3.out];rfl
     gi_wp2
     refine wpIn_wide.2 ?_;go_quiet ((go_at_call 103;refine (Bh _ (HS.out.ext (a0.drewN _)) (by omega)).mono ?_;rintro e w9 ⟨I,rfl⟩;rw [show (ps.length:Int) - 1=(t0:Int) from by omega] at I;exact ⟨I,⟨_,rfl⟩⟩))
     gi_wp2
     refine wpIn_wide.2 ?_;generalize b2:w3.drewN nq=w6;have b0:zK w3 w6:=⟨nq,b2.symm⟩;have B:zb w3 w6:=b0.below _;have b4:=B;clear b2 b0;have E:zb w w6:=a0.trans B;have U:=B.cell o;have e6:=zh (HJ.out _ _ _ b7.out (B.mono a1));have c0:W.heap.size<=w6.heap.size:=EI a1 B.size;clear b7 a0 B a1;have Q:=zh U;have d8:=zh ((Below.frozen b4 (p:=⟨b3,0,none⟩) (zo o)).trans b8);clear b8 o b4;have z:tn<m.tasks.length:=h4;obtain ⟨bt,offt,sn,u1,u2,rfl,_,e8,e9,g8,b9,g7⟩:=AJ i1.out z;have g9:=(SO.out.lens.tl _ (EH z)).1;have V:=SO.out.good.tn _ (EH z);have T:Hid (BE m ps us tn=((m.tasks[tn]).1).filter fun n=>!(!zi m tn n || decide (n∈us))):=g0.out.trans (by rw [EF,EE z,Fl]);obtain ⟨tk,f0⟩:=zad (m.tasks[tn]);rw [<-f0] at b9 g9 V T;clear f0 g7 e8 g8;have HF:=zh b9;obtain ⟨A5,c5,rfl,l6,_⟩:=b9;have g4:=zh V;clear V;have q1:=zb.rule e9;have rb3:=zb.rule U;have D:=zb.refl w6;have m3:(tn:Int)<(m.tasks.length:Int):=by omega
     have k4:(0:Int)<=(tn:Int):=by omega
     have j4:tn<m.free.length:=by have:=SO.out.good.fl;omega
     clear e9 U;have l5:(0:Int)<=0/\(0:Int)<m.n:=by have:=SO.out.good.n1;unfold MZ.n;omega
     have q3:=rb3
     go_region_held3 (fun W'=>zb w W'/\zb w6 W')
      (first | (exact ⟨E.drew,D.drew⟩) | (exact ⟨E.drew.trans M.ext,D.drew.trans M.ext⟩) | (exact ⟨E.drew.trans a3.ext,D.drew.trans a3.ext⟩) | assumption)
      (first | ((go_at_call 46;refine (Bw _ (HF.out.below E.drew) (by omega)).mono ?_;rintro e w8 ⟨v8,rfl,a3⟩)) | ((go_at_call 130;refine (left11_del tn HS.out SO.out E.drew a3 (rb _ E.drew) (q3 _ D.drew) z (by omega) (fun x hx=>g4.out x (.inl hx))).mono ?_;rintro e w9 ⟨v9,rfl,M⟩)))
     all_goals
      have c6:zb w w9:=E.drew.trans M.ext;have G:zb w6 w9:=D.drew.trans M.ext
      have e0:Hid (zj w9 (fun _=>True) v9 (BE m ps us tn)):=by
       have h1:=M.ints;rw [<-T.out] at h1;exact h1.weaken fun _ _=>trivial
      have a9:=G.cell Q.out;have j3:w9.frozen? ⟨b3,0,none⟩=false:=(Below.frozen G (p:=⟨b3,0,none⟩) (zo Q.out)).trans d8.out;have e5:=zh (HJ.out _ _ _ e6.out (G.mono c0));have b6:W.heap.size<=w9.heap.size:=EI c0 G.size;have a5:=a4.out;clear M a3 G q3 rb3 D q1 E e6 c0 Q d8;obtain ⟨fn,tmps,assign,body,hy,hR⟩:=HY.out k ((tn:Int),v9) w9 (by omega) e5.out ⟨by simp;omega,by have:=e0.out;rwa [show ps.length - 1+k=tn from by omega]⟩;have HR:=zh hR;clear hR a5;dsimp only at hy
      gi_wp2
      refine HR.out.mono ?_;rintro e w5 (⟨rfl,a6,L⟩ | ⟨rfl,a7⟩)
      ·have a8:b3≠l:=by have:=g6.out;omega
       have e3:zb w w5:=Ba c6 L (EI hW.size b6) h8;have f5:w5.cell? ⟨b3,0,none⟩=some (.int .i64 (tn:Int)):=World.grownBy.cell L a9 (fun e=>a8 (by injection e));have f2:W.heap.size<=w5.heap.size:=EI b6 L.size;have d9:=zh a6;clear a6 L hy
       gi_wp2
       exact left1_next a4 hk z (by have:=SO.out.good.tk;omega) h6 HJ d7 e3 d9 f2
      ·gi_wp2
       refine FC (results_none rfl _ _ _) rfl ?_;exact ⟨⟨_,rfl⟩,.inr a7⟩
    ·rw [List.concat_eq_append] at*
     have T:Hid (BE m ps us tn=[x]):=by
      show BE m ps us tn=_;unfold BE;rw [if_pos (by have:=c8.out;omega),c8.out,EF,EE b1,Fl,<-g3.out];simp
     obtain ⟨N,hN⟩:=zad ((q++[x]).length);have o0:N=q.length+1:=by rw [hN];simp
     have k6:=i2.out;obtain ⟨A',c',g5,l7,k2⟩:=k6;obtain ⟨b5,o5,hA5,i8,f6⟩:=k2.2 (by simp);injection g5 with g5 i3 i4;subst g5 i4 hA5;have k8:w.cell? ⟨b5,o5+q.length,none⟩=some (.int .i64 x):=f6 q.length _ (by simp);have l1:=zh k8;have n0:b5<w.heap.size:=i8.2;clear f6 k8 k2 i3 l7 g3 i2 i8;rw [<-hN] at q0 l8 j8;have l4:(0:Int)<(N:Int):=by omega
     have n9:decide ((0:Int)<(N:Int))=true:=EJ l4;have o7:IntKind.i64.wrap ((N:Int) - 1)=(q.length:Int):=by rw [Fb];omega
     have n4:wrap64 ((N:Int) - 1)=(q.length:Int):=by rw [IntWalk.wrap64_in _ (by omega)];omega
     have o6:(0:Int)<=(q.length:Int)/\(q.length:Int)<=(N:Int):=by omega
     rw [<-hN];clear hN
     gi_wp2
     refine wpIn_wide.2 ?_;go_quiet ((go_at_call 103;refine (Bh _ (HS.out.ext (a0.drewN _)) (by omega)).mono ?_;rintro e w9 ⟨I,rfl⟩;rw [show (ps.length:Int) - 1=(t0:Int) from by omega] at I;exact ⟨I,⟨_,rfl⟩⟩))
     generalize b2:w3.drewN nq=w9;have b0:zK w3 w9:=⟨nq,b2.symm⟩;have B:zb w3 w9:=b0.below _;clear b2 b0;have c6:zb w w9:=a0.trans B;have a9:=B.cell o;have j3:w9.frozen? ⟨b3,0,none⟩=false:=(Below.frozen B (p:=⟨b3,0,none⟩) (zo o)).trans b8;have e5:=zh (HJ.out _ _ _ b7.out (B.mono a1));have b6:W.heap.size<=w9.heap.size:=EI a1 B.size;clear b7 a0 B a1 o b8;have z:tn<m.tasks.length:=h4;have a5:=a4.out
     have e0:Hid (zj w9 (fun _=>True) (.slice (some ⟨b5,o5+q.length,none⟩) 1 (cq - q.length)) (BE m ps us tn)):=by
      show zj w9 _ _ (BE m ps us tn);rw [T.out];refine ⟨_,_,rfl,by simp;omega,by simp,fun _=>⟨b5,o5+q.length,rfl,trivial,?_⟩⟩;intro i u hi
      match i,hi with
      | 0,hi=>
       injection hi with hi;rw [<-hi];exact c6.cell l1.out
     obtain ⟨fn,tmps,assign,body,hy,hR⟩:=HY.out k ((tn:Int),(.slice (some ⟨b5,o5+q.length,none⟩) 1 (cq - q.length))) w9 (by omega) e5.out ⟨by simp;omega,by have:=e0.out;rwa [show ps.length - 1+k=tn from by omega]⟩;have HR:=zh hR;clear hR a5;dsimp only at hy
     gi_wp2
     refine HR.out.mono ?_;rintro e w5 (⟨rfl,a6,L⟩ | ⟨rfl,a7⟩)
     ·have a8:b3≠l:=by have:=g6.out;omega
      have e3:zb w w5:=Ba c6 L (EI hW.size b6) h8;have f5:w5.cell? ⟨b3,0,none⟩=some (.int .i64 (tn:Int)):=World.grownBy.cell L a9 (fun e=>a8 (by injection e));have f2:W.heap.size<=w5.heap.size:=EI b6 L.size;have d9:=zh a6;clear a6 L hy
      gi_wp2
      exact left1_next a4 hk z (by have:=SO.out.good.tk;omega) h6 HJ d7 e3 d9 f2
     ·gi_wp2
      refine FC (results_none rfl _ _ _) rfl ?_;exact ⟨⟨_,rfl⟩,.inr a7⟩
   ·have m9:(t0:Int)<(tn:Int):=by have:=a4.out;omega
    have hd:((tn:Int)==(t0:Int))=false:=by rw [ET];omega
    have j9:min (tn:Int) (t0:Int)=(t0:Int):=by omega
    clear hk0
    gi_wp2
    refine wpIn_wide.2 ?_;go_quiet ((go_at_call 103;refine (Bh _ (HS.out.ext (c4.drewN _)) (by omega)).mono ?_;rintro e w9 ⟨I,rfl⟩;rw [show (ps.length:Int) - 1=(t0:Int) from by omega] at I;exact ⟨I,⟨_,rfl⟩⟩))
    generalize f1:w2.drewN nq=w3;have e7:zK w2 w3:=⟨nq,f1.symm⟩;have O:zb w2 w3:=e7.below _;clear f1 e7;have a0:zb w w3:=c4.trans O;have o:=O.cell a2;have b8:w3.frozen? ⟨b3,0,none⟩=false:=(Below.frozen O (p:=⟨b3,0,none⟩) (zo a2)).trans f3;have b7:=zh (HJ.out _ _ _ e4.out (O.mono d4));have a1:W.heap.size<=w3.heap.size:=EI d4 O.size;clear a2 f3 e4 c4 O d4
    have g0:Hid (BE m ps us tn=((m.tasks.getD tn ([],[])).1).filter fun n=>!(!zi m tn n || decide (n∈us))):=by
     show BE m ps us tn=_;unfold BE;rw [if_neg (by omega)]
    gi_wp2
    refine wpIn_wide.2 ?_;go_quiet ((go_at_call 103;refine (Bh _ (HS.out.ext (a0.drewN _)) (by omega)).mono ?_;rintro e w9 ⟨I,rfl⟩;rw [show (ps.length:Int) - 1=(t0:Int) from by omega] at I;exact ⟨I,⟨_,rfl⟩⟩))
    gi_wp2
    refine wpIn_wide.2 ?_;generalize b2:w3.drewN nq=w6;have b0:zK w3 w6:=⟨nq,b2.symm⟩;have B:zb w3 w6:=b0.below _;have b4:=B;clear b2 b0;have E:zb w w6:=a0.trans B;have U:=B.cell o;have e6:=zh (HJ.out _ _ _ b7.out (B.mono a1));have c0:W.heap.size<=w6.heap.size:=EI a1 B.size;clear b7 a0 B a1;have Q:=zh U;have d8:=zh ((Below.frozen b4 (p:=⟨b3,0,none⟩) (zo o)).trans b8);clear b8 o b4;have z:tn<m.tasks.length:=h4;obtain ⟨bt,offt,sn,u1,u2,rfl,_,e8,e9,g8,b9,g7⟩:=AJ i1.out z;have g9:=(SO.out.lens.tl _ (EH z)).1;have V:=SO.out.good.tn _ (EH z);have T:Hid (BE m ps us tn=((m.tasks[tn]).1).filter fun n=>!(!zi m tn n || decide (n∈us))):=g0.out.trans (by rw [EF,EE z,Fl]);obtain ⟨tk,f0⟩:=zad (m.tasks[tn]);rw [<-f0] at b9 g9 V T;clear f0 g7 e8 g8;have HF:=zh b9;obtain ⟨A5,c5,rfl,l6,_⟩:=b9;have g4:=zh V;clear V;have q1:=zb.rule e9;have rb3:=zb.rule U;have D:=zb.refl w6;have m3:(tn:Int)<(m.tasks.length:Int):=by omega
    have k4:(0:Int)<=(tn:Int):=by omega
    have j4:tn<m.free.length:=by have:=SO.out.good.fl;omega
    clear e9 U;have l5:(0:Int)<=0/\(0:Int)<m.n:=by have:=SO.out.good.n1;unfold MZ.n;omega
    have q3:=rb3
    go_region_held3 (fun W'=>zb w W'/\zb w6 W')
     (first | (exact ⟨E.drew,D.drew⟩) | (exact ⟨E.drew.trans M.ext,D.drew.trans M.ext⟩) | (exact ⟨E.drew.trans a3.ext,D.drew.trans a3.ext⟩) | assumption)
     (first | ((go_at_call 46;refine (Bw _ (HF.out.below E.drew) (by omega)).mono ?_;rintro e w8 ⟨v8,rfl,a3⟩)) | ((go_at_call 130;refine (left11_del tn HS.out SO.out E.drew a3 (rb _ E.drew) (q3 _ D.drew) z (by omega) (fun x hx=>g4.out x (.inl hx))).mono ?_;rintro e w9 ⟨v9,rfl,M⟩)))
    all_goals
     have c6:zb w w9:=E.drew.trans M.ext;have G:zb w6 w9:=D.drew.trans M.ext
     have e0:Hid (zj w9 (fun _=>True) v9 (BE m ps us tn)):=by
      have h1:=M.ints;rw [<-T.out] at h1;exact h1.weaken fun _ _=>trivial
     have a9:=G.cell Q.out;have j3:w9.frozen? ⟨b3,0,none⟩=false:=(Below.frozen G (p:=⟨b3,0,none⟩) (zo Q.out)).trans d8.out;have e5:=zh (HJ.out _ _ _ e6.out (G.mono c0));have b6:W.heap.size<=w9.heap.size:=EI c0 G.size;have a5:=a4.out;clear M a3 G q3 rb3 D q1 E e6 c0 Q d8;obtain ⟨fn,tmps,assign,body,hy,hR⟩:=HY.out k ((tn:Int),v9) w9 (by omega) e5.out ⟨by simp;omega,by have:=e0.out;rwa [show ps.length - 1+k=tn from by omega]⟩;have HR:=zh hR;clear hR a5;dsimp only at hy
     gi_wp2
     refine HR.out.mono ?_;rintro e w5 (⟨rfl,a6,L⟩ | ⟨rfl,a7⟩)
     ·have a8:b3≠l:=by have:=g6.out;omega
      have e3:zb w w5:=Ba c6 L (EI hW.size b6) h8;have f5:w5.cell? ⟨b3,0,none⟩=some (.int .i64 (tn:Int)):=World.grownBy.cell L a9 (fun e=>a8 (by injection e));have f2:W.heap.size<=w5.heap.size:=EI b6 L.size;have d9:=zh a6;clear a6 L hy
      gi_wp2
      exact left1_next a4 hk z (by have:=SO.out.good.tk;omega) h6 HJ d7 e3 d9 f2
     ·gi_wp2
      refine FC (results_none rfl _ _ _) rfl ?_;exact ⟨⟨_,rfl⟩,.inr a7⟩
  ·gi_wp2
   go_end0
   have m0:k=m.tasks.length+1 - ps.length:=by have:=a4.out;omega
   exact ⟨⟨_,rfl⟩,.inl (by rw [<-m0];exact e4.out)⟩
noncomputable def openT (m:MZ) (ps:List (List Int)) (us:List Int) (t:Nat):Bool:=((m.tasks.getD t ([],[])).2).any fun x=>decide (x∈Cg m t (BE m ps us t) us)
def tasksN (m:MZ) (ps:List (List Int)):Nat:=if cmpB m ps=true then 0 else m.tasks.length+1 - ps.length
noncomputable def openB (m:MZ) (ps:List (List Int)) (us:List Int):Bool:=(List.range (tasksN m ps)).all fun k=>openT m ps us (ps.length - 1+k)
theorem left_calls (g:Nat) (w:World):Calls Tryz.prog 109 #[.pointer (some ⟨g,0,none⟩)] w fun e w'=>e=.returned (.func (.func 129) #[] #[.pointer (some ⟨w.heap.size,0,none⟩)])/\w'=w.alloc (.cells #[.pointer (some ⟨g,0,none⟩)] 97):=by
 go_enter Tryz.func109,Tryz.ntmps109
 go_wp2;go_ret;exact ⟨rfl,rfl⟩
theorem left1_none {m:MZ} {us:List Int} {g gu:Nat} {G:Nat->Int×Value->World->Prop} (w:World) (h:BK w ok g m ch ps us f u ts vc vp gu) (so:SOk m ch ps) (I:w.cell? ⟨gb,0,none⟩=some (.pointer (some ⟨g,0,none⟩))) (hp:cmpB m ps=true) (n:Nat) (U:1<=n):
  GivesB n Tryz.prog 129 #[.pointer (some ⟨gb,0,none⟩)] (fun x:Int×Value=>#[.int .i64 x.1,x.2]) G 0 w:=by
 intro l J Jx W hW Q T E B O h0;have M:=zh h;clear h;have L:=zh E;clear E B;have z:=zh h0;clear h0;have rb:=zb.rule I;have SO:=zh so;clear so I O;refine callsIn_of_wp Tryz.func129 rfl trivial ?_ rfl;simp only [Tryz.ntmps129,List.size_toArray,zab,zac,Nat.reduceAdd,Nat.reduceSub,Array.replicate_succ,Array.replicate_zero,List.push_toArray,List.append_toArray,List.nil_append,List.cons_append]
 gi_wp2_with (refine ⟨trivial,?_⟩;gi_at_call 64;refine (callsIn_wide.2 (Cy _ (M.out.ext hW) SO.out)).mono ?_;rintro e wA ⟨rfl,D⟩;rw [hp];have o:zb W wA:=D.below _;have hA:zb w wA:=hW.trans o)
 refine FC (results_none rfl _ _ _) rfl ?_;exact ⟨⟨_,rfl⟩,.inl (L.out _ _ _ z.out o)⟩
theorem left1_gives' {m:MZ} {us:List Int} {g gu:Nat} (w:World) (h:BK w ok g m ch ps us f u ts vc vp gu) (so:SOk m ch ps) (o:w.cell? ⟨gb,0,none⟩=some (.pointer (some ⟨g,0,none⟩))) (n:Nat) (z:1<=n):
  GivesB n Tryz.prog 129 #[.pointer (some ⟨gb,0,none⟩)] (fun x:Int×Value=>#[.int .i64 x.1,x.2]) (fun k x W=>x.1=((ps.length - 1+k:Nat):Int)/\zj W (fun _=>True) x.2 (BE m ps us (ps.length - 1+k))) (tasksN m ps) w:=by
 unfold tasksN;by_cases hp:cmpB m ps=true
 ·rw [if_pos hp];exact left1_none w h so o hp n z
 ·rw [if_neg hp];exact left1_gives w h so o (by simpa using hp) n z
theorem Ae.apart {size n b:Nat} {A:Option Addr} {xs:List Value} {r:Loop} (h:Ae w ok size A n xs) (E:0<size) (B:w.heap[b]?=some (.loop r)):Ae w (fun k=>ok k/\k≠b) size A n xs:=by
 refine ⟨h.1,fun z=>?_⟩;obtain ⟨k,off,e,D,o⟩:=h.2 z;have h0:0<xs.length:=by rw [h.1];exact Nat.mul_pos z E
 refine ⟨k,off,e,⟨D,?_⟩,o⟩;rintro rfl;have h1:=o 0 _ (EE h0);unfold World.cell? at h1;simp only [B] at h1;cases h1
theorem zj.apart {w:World} {ok:Nat->Prop} {v:Value} {l:List Int} {b:Nat} {r:Loop} (h:zj w ok v l) (o:w.heap[b]?=some (.loop r)):zj w (fun k=>ok k/\k≠b) v l:=by
 obtain ⟨A,c,e,z,B⟩:=h;exact ⟨A,c,e,z,B.apart (by decide) o⟩
theorem Ag:Tryz.prog.follows .mixedOrders=true:=by kernel_rfl
theorem results_bool {fn:Func} {p w2:Nat} {b:Bool} (h:fn.results=#[.cell p 4]) (tmps:Array Value) (w:World) (hp:tmps.getD p undef=.pointer (some ⟨w2,0,none⟩)) (z:w.cell? ⟨w2,0,none⟩=some (.bool b)):(results fn tmps).run Tryz.prog w=.ok (.bool b) w:=by
 have o:tmps[p]?.getD undef=.pointer (some ⟨w2,0,none⟩):=by simpa using hp
 simp [results,h,o,asAddr,go_sem,z]
theorem tasksN_lt {m:MZ} {t:Nat} (so:SOk m ch ps) (o:k<tasksN m ps) (z:t=ps.length - 1+k):t<m.tasks.length:=by
 unfold tasksN at o
 split at o
 ·omega
 ·rename_i h
  have h0:0<m.tasks.length:=by
   rcases Fs m.tasks.length with h0 | h0
   ·exfalso;apply h;unfold cmpB;rw [EJ h0];rfl
   ·exact h0
  have:=so.pn h0;have:=so.pl;omega
theorem fromL_len {m:MZ} {us:List Int} {t:Nat} (so:SOk m ch ps) (o:t<m.tasks.length):(BE m ps us t).length<=20000000000000:=by
 unfold BE
 split
 ·simp
 ·refine EI (Fi _ _) ?_;rw [EF,EE o,Fl];have:=(so.lens.tl _ (EH o)).1;omega
structure JO (W0:World) (g gu:Nat) (m:MZ) (frm us:List Int) (t:Nat) (x2 MV:Value) (e:Nat->Bool) (v:Nat->Value) (W:World):Prop where
 ext:zb W0 W
 v0:e 0=true->v 0=.pointer (some ⟨g,0,none⟩)
 v1:e 1=true->v 1=.pointer (some ⟨g,0,none⟩)
 v2:e 2=true->v 2=.pointer (some ⟨g,0,none⟩)
 v3:e 3=true->v 3=MV
 v4:e 4=true->v 4=.int .i64 (t:Int)
 v5:e 5=true->v 5=x2
 v6:e 6=true->v 6=.pointer (some ⟨g,0,none⟩)
 v7:e 7=true->v 7=.pointer (some ⟨g,0,none⟩)
 v8:e 8=true->v 8=.pointer (some ⟨g,8,none⟩)
 v9:e 9=true->v 9=.map (some gu)
 call:e 10=true->∃gs s,v 10=.map (some gs)/\W0.heap.size<=gs/\zF W gs s/\∀x,x∈s↔RP m t frm us x
 al:e 11=true->∃g5,v 11=.pointer (some ⟨g5,0,none⟩)/\W0.heap.size<=g5/\(e 12=false->zk W g5 79 #[.map none])/\(e 12=true->W.cell? ⟨g5,0,none⟩=some (v 10))
 d12:e 12=true->e 10=true/\e 11=true
section
variable {W0 W W':World} {g gu:Nat} {m:MZ} {frm us:List Int} {t:Nat} {x2 MV:Value} {e:Nat->Bool} {v:Nat->Value}
theorem JO.n12 (h:JO W0 g gu m frm us t x2 MV e v W) (o:e 10=false):e 12=false:=notT (fun a=>(h.d12 a).1) o
theorem JO.n12' (h:JO W0 g gu m frm us t x2 MV e v W) (o:e 11=false):e 12=false:=notT (fun a=>(h.d12 a).2) o
theorem JO.init (he:∀j∈[0,1,2,3,4,5,6,7,8,9,10,11,12],e j=false):JO W0 g gu m frm us t x2 MV e v { W0 with drawn:=W0.drawn+1 }:=
 ⟨Ds,fun a=>ff (he 0 (by simp)) a,fun a=>ff (he 1 (by simp)) a,fun a=>ff (he 2 (by simp)) a,fun a=>ff (he 3 (by simp)) a,fun a=>ff (he 4 (by simp)) a,fun a=>ff (he 5 (by simp)) a,fun a=>ff (he 6 (by simp)) a,fun a=>ff (he 7 (by simp)) a,fun a=>ff (he 8 (by simp)) a,fun a=>ff (he 9 (by simp)) a,fun a=>ff (he 10 (by simp)) a,fun a=>ff (he 11 (by simp)) a,fun a=>ff (he 12 (by simp)) a⟩
theorem JO.s0 (h:JO W0 g gu m frm us t x2 MV e v W):JO W0 g gu m frm us t x2 MV (Ao e 0 true) (Ao v 0 (.pointer (some ⟨g,0,none⟩))) W:=
 ⟨h.ext,fun _=>rfl,h.v1,h.v2,h.v3,h.v4,h.v5,h.v6,h.v7,h.v8,h.v9,h.call,h.al,h.d12⟩
theorem JO.s1 (h:JO W0 g gu m frm us t x2 MV e v W):JO W0 g gu m frm us t x2 MV (Ao e 1 true) (Ao v 1 (.pointer (some ⟨g,0,none⟩))) W:=
 ⟨h.ext,h.v0,fun _=>rfl,h.v2,h.v3,h.v4,h.v5,h.v6,h.v7,h.v8,h.v9,h.call,h.al,h.d12⟩
theorem JO.s2 (h:JO W0 g gu m frm us t x2 MV e v W):JO W0 g gu m frm us t x2 MV (Ao e 2 true) (Ao v 2 (.pointer (some ⟨g,0,none⟩))) W:=
 ⟨h.ext,h.v0,h.v1,fun _=>rfl,h.v3,h.v4,h.v5,h.v6,h.v7,h.v8,h.v9,h.call,h.al,h.d12⟩
theorem JO.s3 (h:JO W0 g gu m frm us t x2 MV e v W):JO W0 g gu m frm us t x2 MV (Ao e 3 true) (Ao v 3 (MV)) W:=
 ⟨h.ext,h.v0,h.v1,h.v2,fun _=>rfl,h.v4,h.v5,h.v6,h.v7,h.v8,h.v9,h.call,h.al,h.d12⟩
theorem JO.s4 (h:JO W0 g gu m frm us t x2 MV e v W):JO W0 g gu m frm us t x2 MV (Ao e 4 true) (Ao v 4 (.int .i64 (t:Int))) W:=
 ⟨h.ext,h.v0,h.v1,h.v2,h.v3,fun _=>rfl,h.v5,h.v6,h.v7,h.v8,h.v9,h.call,h.al,h.d12⟩
theorem JO.s5 (h:JO W0 g gu m frm us t x2 MV e v W):JO W0 g gu m frm us t x2 MV (Ao e 5 true) (Ao v 5 (x2)) W:=
 ⟨h.ext,h.v0,h.v1,h.v2,h.v3,h.v4,fun _=>rfl,h.v6,h.v7,h.v8,h.v9,h.call,h.al,h.d12⟩
theorem JO.s6 (h:JO W0 g gu m frm us t x2 MV e v W):JO W0 g gu m frm us t x2 MV (Ao e 6 true) (Ao v 6 (.pointer (some ⟨g,0,none⟩))) W:=
 ⟨h.ext,h.v0,h.v1,h.v2,h.v3,h.v4,h.v5,fun _=>rfl,h.v7,h.v8,h.v9,h.call,h.al,h.d12⟩
theorem JO.s7 (h:JO W0 g gu m frm us t x2 MV e v W):JO W0 g gu m frm us t x2 MV (Ao e 7 true) (Ao v 7 (.pointer (some ⟨g,0,none⟩))) W:=
 ⟨h.ext,h.v0,h.v1,h.v2,h.v3,h.v4,h.v5,h.v6,fun _=>rfl,h.v8,h.v9,h.call,h.al,h.d12⟩
theorem JO.s8 (h:JO W0 g gu m frm us t x2 MV e v W):JO W0 g gu m frm us t x2 MV (Ao e 8 true) (Ao v 8 (.pointer (some ⟨g,8,none⟩))) W:=
 ⟨h.ext,h.v0,h.v1,h.v2,h.v3,h.v4,h.v5,h.v6,h.v7,fun _=>rfl,h.v9,h.call,h.al,h.d12⟩
theorem JO.s9 (h:JO W0 g gu m frm us t x2 MV e v W):JO W0 g gu m frm us t x2 MV (Ao e 9 true) (Ao v 9 (.map (some gu))) W:=
 ⟨h.ext,h.v0,h.v1,h.v2,h.v3,h.v4,h.v5,h.v6,h.v7,h.v8,fun _=>rfl,h.call,h.al,h.d12⟩
theorem JO.s10 {s:List Int} (h:JO W0 g gu m frm us t x2 MV e v W) (o:e 12=false) (B:zb W W') (D:W0.heap.size<=gs) (E:zF W' gs s) (z:∀x,x∈s↔RP m t frm us x):
  JO W0 g gu m frm us t x2 MV (Ao e 10 true) (Ao v 10 (.map (some gs))) W':=
 ⟨h.ext.trans B,h.v0,h.v1,h.v2,h.v3,h.v4,h.v5,h.v6,h.v7,h.v8,h.v9,fun _=>⟨gs,s,rfl,D,E,z⟩,fun a=>(by
  obtain ⟨g5,h1,h2,h3,_⟩:=h.al a;exact ⟨g5,h1,h2,fun _=>(h3 o).ext B,fun b=>ff (b:=e 12) o b⟩),fun a=>ff (b:=e 12) o a⟩
theorem JO.s11 (h:JO W0 g gu m frm us t x2 MV e v W) (o:e 12=false):
  JO W0 g gu m frm us t x2 MV (Ao e 11 true) (Ao v 11 (.pointer (some ⟨W.heap.size,0,none⟩))) (W.alloc (.cells #[.map none] 79)):=
 ⟨h.ext.alloc _,h.v0,h.v1,h.v2,h.v3,h.v4,h.v5,h.v6,h.v7,h.v8,h.v9,fun a=>(by
  obtain ⟨gs,s,h1,h2,h3,z⟩:=h.call a;exact ⟨gs,s,h1,h2,h3.below ((zb.refl _).alloc _),z⟩),fun _=>⟨_,rfl,h.ext.size,fun _=>zk.new _ _ _ rfl,fun b=>ff (b:=e 12) o b⟩,fun a=>ff (b:=e 12) o a⟩
theorem JO.s12 {g5:Nat} {x:Value} (h:JO W0 g gu m frm us t x2 MV e v W) (z:v 11=.pointer (some ⟨g5,0,none⟩)) (o:v 10=.map (some gs)) (I:W0.heap.size<=g5) (G:zk W g5 79 #[.map none]) (B:e 10=true) (D:e 11=true):
  JO W0 g gu m frm us t x2 MV (Ao e 12 true) (Ao v 12 x) (W.setCell ⟨g5,0,none⟩ (.map (some gs))):=
 ⟨h.ext.setCell (p:=⟨g5,0,none⟩) I _,h.v0,h.v1,h.v2,h.v3,h.v4,h.v5,h.v6,h.v7,h.v8,h.v9,fun a=>(by
  obtain ⟨gs',s,h1,h2,h3,J⟩:=h.call a;refine ⟨gs',s,h1,h2,?_,J⟩;have E:g5≠gs':=blk_set_ne G h3
  exact (EP W ⟨g5,0,none⟩ _ gs' (fun e=>E e.symm)).trans h3),fun _=>⟨g5,z,I,fun a=>(by cases a),fun _=>by
   show _=some (v 10);rw [o];exact (G.set (k:=0) _).cell (k:=0) rfl⟩,fun _=>⟨B,D⟩⟩
end
theorem open_calls {m:MZ} {us:List Int} {g gu:Nat} (w:World) (h:BK w ok g m ch ps us f u ts vc vp gu) (so:SOk m ch ps):
  Calls Tryz.prog 86 #[.pointer (some ⟨g,0,none⟩)] w fun e w'=>e=.returned (.bool (openB m ps us))/\zb w w':=by
 refine (callsIn_wide (n:=6)).1 ?_;have HS:=zh h;have SO:=zh so;obtain ⟨r0,r1,r2,r3,r4,r5,r6,r7,r8⟩:=h.rules;clear h;refine callsIn_of_wp_marks Tryz.func86 rfl trivial ?_ rfl;simp only [Tryz.ntmps86,List.size_toArray,zab,zac,Nat.reduceAdd,Nat.reduceSub,Array.replicate_succ,Array.replicate_zero,List.push_toArray,List.append_toArray,List.nil_append,List.cons_append]
 gi_wp2_with (refine ⟨trivial,?_⟩;gi_at_call 109;refine (callsIn_wide.2 (left_calls _ _)).mono ?_;rintro e w1 ⟨rfl,rfl⟩)
 obtain ⟨w1,a0⟩:=zad (((w.alloc (.cells #[.pointer (some ⟨g,0,none⟩)] 97)).alloc (.cells #[.bool false] 4)).alloc (.cells #[.pointer (some ⟨g,0,none⟩)] 97));rw [<-a0];have a3:zb w w1:=by rw [a0];exact (((zb.refl w).alloc _).alloc _).alloc _
 have j6:w1.heap.size=w.heap.size+3:=by rw [a0];simp
 have g4:w1.cell? ⟨w.heap.size,0,none⟩=some (.pointer (some ⟨g,0,none⟩)):=by
  rw [a0];exact zb.cell (zr w _ _ rfl) (((zb.refl _).alloc _).alloc _)
 have c4:w1.cell? ⟨w.heap.size+1,0,none⟩=some (.bool false)/\w1.frozen? ⟨w.heap.size+1,0,none⟩=false:=by
  rw [a0];constructor
  ·exact zb.cell (zr _ _ _ (by simp)) ((zb.refl _).alloc _)
  ·rw [World.frozen?_alloc_past _ _ _ (by simp)];exact World.frozen?_alloc_at _ _ _ _ (by simp)
 have b7:w1.cell? ⟨w.heap.size+1+1,0,none⟩=some (.pointer (some ⟨g,0,none⟩)):=by
  rw [a0];exact zr _ _ _ (by simp)
 clear a0;have rb:=zb.rule g4;obtain ⟨tn0,i4⟩:=zad (ps.length - 1);obtain ⟨w2,b4⟩:=zad (w.heap.size+1);rw [<-b4] at c4⊢;have T:w2<w1.heap.size:=by omega
 have e0:=zh b4;rw [<-b4] at b7;clear b4
 refine wpIn_loopB (gf:=129) (lb:=#[.pointer (some ⟨w2+1,0,none⟩)]) rfl (enters_of Tryz.func129 (by kernel_rfl) rfl) (left1_gives' w1 (HS.out.ext a3) SO.out b7 _ (by omega)) (zb.refl w1) (fun _=>rfl)
  (fun k W=>zb w1 W/\(∀j,j<k->openT m ps us (ps.length - 1+j)=true)/\W.frozen? ⟨w2,0,none⟩=false/\∃b,W.cell? ⟨w2,0,none⟩=some (.bool b))
  (fun c W=>c=.ret/\zb w W/\W.cell? ⟨w2,0,none⟩=some (.bool false)/\openB m ps us=false)
  ?hI ?hIx ?hG ⟨zb.refl w1,fun _ h=>absurd h (by omega),c4.2,_,c4.1⟩ (fun x=>{ tmps:=#[Value.pointer (some ⟨g,0,none⟩),Value.pointer (some ⟨w.heap.size,0,none⟩),Value.pointer (some ⟨w2,0,none⟩),.int .i64 x.1,x.2,undef,Value.pointer (some ⟨g,0,none⟩),
    Value.func (Fn.func 129) #[] #[Value.pointer (some ⟨w2+1,0,none⟩)],.int .i64 x.1,x.2,undef,undef,undef,undef,undef,undef,undef,undef,undef,undef,undef,undef,undef,undef,undef,undef,undef,undef,undef,undef,undef,undef,undef],defers:=[] }) ?assign ?body ?done ?stop
 case hI=>
  rintro k A B ⟨h1,h2,h3,b,h4⟩ a2;have Q:=T;exact ⟨Below.trans h1 a2,h2,(a2.frozen (p:=⟨w2,0,none⟩) Q).trans h3,b,(a2.cell (p:=⟨w2,0,none⟩) Q).trans h4⟩
 case hIx=>
  rintro c A B ⟨h1,h2,h3,h4⟩ a2;have Q:=T;exact ⟨h1,Below.trans h2 (a2.mono a3.size),(a2.cell (p:=⟨w2,0,none⟩) Q).trans h3,h4⟩
 case hG=>
  rintro k x A l ⟨h1,h2⟩ j0 j1 ⟨r,hr⟩ o;exact ⟨h1,((h2.apart hr).keep fun b hb Q=>World.putObj_heap_other hb.2).weaken fun _ h=>h.1⟩
 case assign=>
  intro l x W K E
  gi_wp2
  exact E
 case body=>
  rintro l k ⟨x1,x2⟩ W0 hk ⟨O,a1,hfz,b,a5⟩ ⟨d5,b5⟩ j3;dsimp only at d5 b5⊢;obtain ⟨t,ht⟩:=zad (ps.length - 1+k);rw [<-ht] at d5 b5;subst d5;have L:zb w W0:=a3.trans O;have HX:=zh b5;clear b5;obtain ⟨frm,a9⟩:=zad (BE m ps us t);rw [<-a9] at HX;have b6:=zh a9;clear a9;have b1:t<m.tasks.length:=tasksN_lt SO.out hk ht;have h7:t<m.free.length:=by rw [SO.out.good.fl];exact b1
  have i9:frm.length<=20000000000000:=by rw [b6.out];exact fromL_len SO.out b1
  have g9:=HS.out.maze;obtain ⟨fr',up',ts',a6,_,_,f2⟩:=g9;injection a6 with a6;injection a6 with a6;simp only [List.cons.injEq,and_true,true_and] at a6;obtain ⟨rfl,rfl,rfl⟩:=a6;have f9:=zh f2;obtain ⟨vst,⟨At,ct,rfl,i8,_⟩,_⟩:=f2;obtain ⟨bt,offt,sn,u1,u2,rfl,_,f0,g8,f1,g7,c7⟩:=AJ f9.out b1;have b8:=(SO.out.lens.tl _ (EH b1)).2;obtain ⟨tl2,d4⟩:=zad ((m.tasks[t]).2);rw [<-d4] at c7 b8;have f8:=zh d4;clear d4 g7 f0 g8;have f6:=zh c7;obtain ⟨A5,c5,rfl,a4,_⟩:=c7;have q2:=zb.rule f1;clear f1;have j5:(t:Int)<(m.tasks.length:Int):=by omega
  have i3:(0:Int)<=(t:Int):=by omega
  have j4:=SO.out.good.tk;obtain ⟨MV,e6⟩:=zad (Value.agg #[.int .i64 m.w,.int .i64 m.h,.int .i64 m.l,f,u,.slice (some ⟨bt,offt,none⟩) m.tasks.length ct]);have HT:=zh ht;clear ht;have d7:=zh a1;clear a1;have d9:=zh hfz;clear hfz;have d8:=zh a5;clear a5
  gi_wp2
  refine wpIn_region_any Ag ?_;simp only [List.size_toArray,zab,zac,Nat.reduceAdd,Array.replicate_succ,Array.replicate_zero,List.push_toArray,List.nil_append,List.cons_append];refine wpAnyIn_by_invF _ _ (by kernel_rfl) [0,1,2,3,4,5,6,7,8,9,10,11,12] (fun e v W=>JO W0 g gu m frm us t x2 MV e v W) (F:=?F1) (by kernel_rfl) (by kernel_rfl) (by decide) (fun v=>?hF1) ?init1 (by kernel_rfl) ?steps1 ?fin1
  case hF1=>(simp only [zM,Cc,List.getElem?_toArray,List.getElem?_cons_succ,List.getElem?_cons_zero,Option.bind,Act.put,List.setIfInBounds_toArray,List.set_cons_succ,List.set_cons_zero];rfl)
  case init1=>
   intro e v he;exact JO.init he
  case steps1=>
   refine zg.cons rfl (fun e v W K z hW he I E=>?_) ?_
   ·simp only [za] at I E⊢;have J:zb w W:=L.trans z.ext;have G:zb w1 W:=O.trans z.ext;go_simp;exact E.out _ _ _ (by rfl) trivial z.s0
   refine zg.cons rfl (fun e v W K z hW he I E=>?_) ?_
   ·simp only [za] at I E⊢;have J:zb w W:=L.trans z.ext;have G:zb w1 W:=O.trans z.ext;have v0:=z.v0 (zn I [0] (by kernel_rfl) 0 (by simp));go_simp;exact E.out _ _ _ (by simp [Act.put,v0]) trivial z.s1
   refine zg.cons rfl (fun e v W K z hW he I E=>?_) ?_
   ·simp only [za] at I E⊢;have J:zb w W:=L.trans z.ext;have G:zb w1 W:=O.trans z.ext;have v1:=z.v1 (zn I [1] (by kernel_rfl) 1 (by simp));go_simp;exact E.out _ _ _ (by simp [Act.put,v1]) trivial z.s2
   refine zg.cons rfl (fun e v W K z hW he I E=>?_) ?_
   ·simp only [za] at I E⊢;have J:zb w W:=L.trans z.ext;have G:zb w1 W:=O.trans z.ext;have v2:=z.v2 (zn I [2] (by kernel_rfl) 2 (by simp));go_simp;exact E.out _ _ _ (by simp [Act.put,v2,e6]) trivial z.s3
   refine zg.cons rfl (fun e v W K z hW he I E=>?_) ?_
   ·simp only [za] at I E⊢;have J:zb w W:=L.trans z.ext;have G:zb w1 W:=O.trans z.ext;go_simp;exact E.out _ _ _ (by rfl) trivial z.s4
   refine zg.cons rfl (fun e v W K z hW he I E=>?_) ?_
   ·simp only [za] at I E⊢;have J:zb w W:=L.trans z.ext;have G:zb w1 W:=O.trans z.ext;go_simp;exact E.out _ _ _ (by rfl) trivial z.s5
   refine zg.cons rfl (fun e v W K z hW he I E=>?_) ?_
   ·simp only [za] at I E⊢;have J:zb w W:=L.trans z.ext;have G:zb w1 W:=O.trans z.ext;go_simp;exact E.out _ _ _ (by rfl) trivial z.s6
   refine zg.cons rfl (fun e v W K z hW he I E=>?_) ?_
   ·simp only [za] at I E⊢;have J:zb w W:=L.trans z.ext;have G:zb w1 W:=O.trans z.ext;have v6:=z.v6 (zn I [6] (by kernel_rfl) 6 (by simp));go_simp;exact E.out _ _ _ (by simp [Act.put,v6]) trivial z.s7
   refine zg.cons rfl (fun e v W K z hW he I E=>?_) ?_
   ·simp only [za] at I E⊢;have J:zb w W:=L.trans z.ext;have G:zb w1 W:=O.trans z.ext;have v7:=z.v7 (zn I [7] (by kernel_rfl) 7 (by simp));go_simp;exact E.out _ _ _ (by simp [Act.put,v7]) trivial z.s8
   refine zg.cons rfl (fun e v W K z hW he I E=>?_) ?_
   ·simp only [za] at I E⊢;have J:zb w W:=L.trans z.ext;have G:zb w1 W:=O.trans z.ext;have v8:=z.v8 (zn I [8] (by kernel_rfl) 8 (by simp));go_simp;exact E.out _ _ _ (by simp [Act.put,v8]) trivial z.s9
   refine zg.cons rfl (fun e v W K z hW he I E=>?_) ?_
   ·simp only [za] at I E⊢;have J:zb w W:=L.trans z.ext;have G:zb w1 W:=O.trans z.ext;have v3:=z.v3 (zn I [3,4,5,9] (by kernel_rfl) 3 (by simp));have v4:=z.v4 (zn I [3,4,5,9] (by kernel_rfl) 4 (by simp));have v5:=z.v5 (zn I [3,4,5,9] (by kernel_rfl) 5 (by simp));have v9:=z.v9 (zn I [3,4,5,9] (by kernel_rfl) 9 (by simp));have c0:e 12=false:=z.n12 he;go_simp;go_at_call 59;refine (reach_calls t W (HS.out.maze.below J) SO.out.good.dim h7 SO.out.good.fn (HX.out.below z.ext) (by omega) (HS.out.us.below J)).mono ?_;rintro e9 w9 ⟨s,rfl,g3,h6,b0⟩;go_simp;exact E.out _ _ _ (by simp [Act.put,v3,v4,v5,v9,e6]) trivial (z.s10 c0 g3 (by have:=z.ext.size;omega) h6 b0)
   refine zg.cons rfl (fun e v W K z hW he I E=>?_) ?_
   ·simp only [za] at I E⊢;have J:zb w W:=L.trans z.ext;have G:zb w1 W:=O.trans z.ext;have c0:e 12=false:=z.n12' he;go_simp;exact E.out _ _ _ (by rfl) trivial (z.s11 c0)
   refine zg.cons rfl (fun e v W K z hW he I E=>?_) ?_
   ·simp only [za] at I E⊢;have J:zb w W:=L.trans z.ext;have G:zb w1 W:=O.trans z.ext;have e3:e 10=true:=zn I [10,11] (by kernel_rfl) 10 (by simp);have e4:e 11=true:=zn I [10,11] (by kernel_rfl) 11 (by simp);obtain ⟨g5,V,e8,a7,_⟩:=z.al e4;have a7:=a7 he;have hf:=fun k=>a7.frozen k
    have i7:=a7.cell (k:=0) rfl;obtain ⟨gs,s,U,g6,c9,b0⟩:=z.call e3;go_simp;exact E.out _ undef _ (by simp [Act.put,U,V]) trivial (z.s12 V U e8 a7 e3 e4)
   exact zg.nil
  case fin1=>
   intro v W5 z;have v10e:=z.call rfl;obtain ⟨gs,s,U,g6,c9,b0⟩:=v10e;obtain ⟨g5,V,e8,_,a4⟩:=z.al rfl;have a4:=a4 rfl;rw [U] at a4;have b2:zb W0 W5:=z.ext;have J:zb w W5:=L.trans b2;have G:zb w1 W5:=O.trans b2;have HJ:=zh z;clear z;have f7:=zh b0;clear b0;rw [V];clear U V
   have HC:=zh (Bz (l:=tl2) 110 #[.pointer (some ⟨g5,0,none⟩)] (fun x=>decide (x∈s)) W5 (f6.out.below J) (by omega) (Ar (P:=Tryz.prog) Tryz.func110 (by kernel_rfl) (by kernel_rfl))
    (fun x _ wa I=>by
     have e5:zb W5 wa:=I.below _;refine (open1_calls x wa (c9.below e5) (zb.cell a4 e5)).mono ?_;rintro e wb ⟨rfl,rfl⟩;exact ⟨rfl,zK.refl _⟩))
   have b9:Hid (openT m ps us t=tl2.any fun x=>decide (x∈s)):=by
    show openT m ps us t=_;unfold openT;rw [f8.out,EF,EE b1,Fl,<-b6.out];congr 1;funext x;rw [decide_eq_decide,BY SO.out.good.dim];exact (f7.out x).symm
   generalize (tl2.any fun x=>decide (x∈s))=bb at HC b9;clear c9 a4
   cases bb with
   | true=>
    gi_wp2_with fail
    refine ⟨trivial,?_⟩;refine (CallsIn.inRound l (callsIn_wide.2 HC.out)).mono ?_;rintro e w6 ⟨rfl,a8⟩;have d6:zb W5 w6:=a8.below _;clear a8;have M:zb W0 w6:=b2.trans d6
    gi_wp2_with fail
    have Q:=Fh T O.size;refine ⟨M,O.trans M,fun j hj=>?_,(Below.frozen M (p:=⟨w2,0,none⟩) Q).trans d9.out,b,(Below.cell M (p:=⟨w2,0,none⟩) Q).trans d8.out⟩;rcases Fc j k with h | h
    ·exact d7.out j h
    ·rw [show j=k from by omega,<-HT.out];exact b9.out
   | false=>
    gi_wp2_with fail
    refine ⟨trivial,?_⟩;refine (CallsIn.inRound l (callsIn_wide.2 HC.out)).mono ?_;rintro e w6 ⟨rfl,a8⟩;have d6:zb W5 w6:=a8.below _;clear a8;have M:zb W0 w6:=b2.trans d6;have Q:=Fh T O.size;have e7:w6.cell? ⟨w2,0,none⟩=some (.bool b):=(Below.cell M (p:=⟨w2,0,none⟩) Q).trans d8.out;have i0:w6.frozen? ⟨w2,0,none⟩=false:=(Below.frozen M (p:=⟨w2,0,none⟩) Q).trans d9.out;have c6:w.heap.size<=w2:=by have:=e0.out;omega
    gi_wp2_with fail
    refine ⟨fun k' h1 h2=>(EP w6 ⟨w2,0,none⟩ _ k' (by show k'≠w2;omega)).trans (M.block k' h2),rfl,(L.trans M).setCell (p:=⟨w2,0,none⟩) c6 _,World.cell?_setCell_same' _ _ _ (by rw [e7];rfl),?_⟩;unfold openB;rw [List.all_eq_false];exact ⟨k,FI.2 hk,by rw [<-HT.out,b9.out];simp⟩
 case done=>
  rintro D W hD ⟨O,a1,hfz,b,a5⟩ E;have b8:w2<W.heap.size:=Fh T O.size
  gi_wp2
  refine ⟨by simp,.inl ⟨_,_,rfl,run_takeDeferred ((EP W ⟨w2,0,none⟩ _ D (by show D≠w2;omega)).trans E),?_⟩⟩;have c8:w2≠D:=by omega
  refine ⟨_,results_bool (w2:=w2) (b:=true) rfl _ _ rfl ?_,ze ?_,?_⟩
  ·exact (EV (World.putObj_heap_other c8)).trans (World.cell?_setCell_same' _ _ _ (by rw [a5];rfl))
  ·unfold openB;symm;rw [FN];exact fun j hj=>a1 j (FI.1 hj)
  ·have c6:w.heap.size<=w2:=by have:=e0.out;omega
   exact ((a3.trans O).setCell (p:=⟨w2,0,none⟩) c6 _).trans (belowK_b (w:=w) (EG _) _ D _ _ (by have:=a3.size;omega) ((EP W ⟨w2,0,none⟩ _ D (by show D≠w2;omega)).trans E) rfl rfl)
 case stop=>
  rintro D c W hD ⟨rfl,O,a5,h5⟩ E
  gi_wp2
  refine ⟨by simp,.inl ⟨_,_,rfl,run_takeDeferred E,?_⟩⟩;have c8:w2≠D:=by omega
  refine ⟨_,results_bool (w2:=w2) (b:=false) rfl _ _ rfl ?_,ze h5.symm,?_⟩
  ·exact (EV (World.putObj_heap_other c8)).trans a5
  ·exact Below.trans O (belowK_b (w:=w) (EG _) _ D _ _ (by have:=a3.size;omega) E rfl rfl)
end
end Go.Proofs.YthbjngbhbbkkgaaGreat
