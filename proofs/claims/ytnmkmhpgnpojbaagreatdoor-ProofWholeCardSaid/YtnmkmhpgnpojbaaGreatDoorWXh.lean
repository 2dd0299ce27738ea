import Derived.Test.YtnmkmhpgnpojbaaGreatDoorWXg
set_option linter.unusedVariables false
set_option linter.unusedSimpArgs false
set_option maxRecDepth 100000
set_option maxHeartbeats 16000000
namespace Go.Proofs.YtnmkmhpgnpojbaaGreatDoor
variable {ps:List (List Int)} {ch l:List Int} {b3 gb gs k:Nat} {ok:Nat->Prop} {f ts u vc vp:Value} {w:World}
section
open Go.RowKit Go.Shelf
attribute [local go_sem] Oper.semAt_some
attribute [local go_sem ↓] Go.wp_at_zero Go.wp_at_succ
def AK (m:MZ) (ps:List (List Int)) (us:List Int) (t:Nat):List Int:=
 match (if t+1=ps.length then (ps.getD t []).getLast? else none) with
 | some x=>[x]
 | none=>((m.tasks.getD t ([],[])).1).filter fun n=>!(!zf m t n || decide (n∈us))
theorem sameCell {B:Nat} {W:World} (o:zN (fun b=>b<B) w W) {p:Addr} {v:Value} (d:w.cell? p=some v) (hp:p.block<B):W.cell? p=some v:=
 (DG (w:=w) (o p.block hp (zn d))).trans d
theorem Bc {v:Value} (w:World) (h:zk w ok v l) (J:l.length<=1000000000000):
  Calls Tryz.prog 97 #[v] w fun e w'=>∃v',e=.returned v'/\Mk w w' v' l:=by
 have H:=zh h;have B:=nilEq 23 3 Tryz.underlying23;obtain ⟨A,c,rfl,I,o⟩:=h;rcases A with _ | a
 ·have d:l=[]:=by
   rcases Ec l.length with h | h
   ·exact DJ h
   ·obtain ⟨b,off,e,_⟩:=o.2 h;cases e
  subst d;clear o
  go_enter Tryz.func97,Tryz.ntmps97
  go_wp2_with fail
  go_ret;exact ⟨_,rfl,Mk.nil _⟩
 ·clear o;have K:=zb.refl w
  go_enter Tryz.func97,Tryz.ntmps97
  go_wp2_with (at_builtin;refine Cn (ok:=ok) rfl _ _ _ rfl w.heap.size [] l _ _ rfl rfl (own_empty w w.heap.size (Dq _)) (H.out.below ((zb.refl w).alloc _)) ?d1 ?d2 ?_)
  case d1=>simp
  case d2=>simp;omega
  intro v' w1 D z _;have E:Hid (Mk w w1 v' l):=⟨D,Ab ((zb.refl w).alloc _) z (by simp) (fun k G=>slice_own G)⟩;clear D z
  go_wp2_with fail
  go_ret;exact ⟨_,rfl,E.out⟩
theorem left11_del {m:MZ} {us:List Int} {g gu:Nat} {wk w8:World} {v8:Value} (tn:Nat) (h:AJ w ok g m ch ps us f u ts vc vp gu) (so:SOk m ch ps) (B:zb w wk)
  (d:Mk wk w8 v8 l) (z:wk.cell? ⟨gb,0,none⟩=some (.pointer (some ⟨g,0,none⟩))) (o:wk.cell? ⟨b3,0,none⟩=some (.int .i64 (tn:Int))) (O:tn<m.tasks.length) (K:l.length<=1000000000000) (M:∀x∈l,0<=x/\x<m.n):
  Calls Tryz.prog 237 #[v8,.func (.func 238) #[] #[.pointer (some ⟨gb,0,none⟩),.pointer (some ⟨b3,0,none⟩)]] w8 fun e w'=>∃v',e=.returned v'/\Mk wk w' v' (l.filter fun n=>!(!zf m tn n || decide (n∈us))):=by
 have G:tn<m.free.length:=by have:=so.good.fl;omega
 refine deleteFuncI_calls d (fun x=>0<=x/\x<m.n) M ⟨by omega,by have:=so.good.n1;unfold MZ.n;omega⟩ K _ _ (fun x=>!zf m tn x || decide (x∈us)) (zX (P:=Tryz.prog) Tryz.func238 (by kernel_rfl) (by kernel_rfl)) ?_;intro x I W D;have J:AJ W (fun b=>ok b/\b<w.heap.size) g m ch ps us f u ts vc vp gu:=h.bound.keep (fun b E L=>(D b (DT E.2 B.size) (DT E.2 (B.trans d.ext).size)).trans ((B.trans d.ext).block b E.2));exact left11_calls tn x W J so.good.fn G (sameCell D (d.ext.cell z) (zn z)) (sameCell D (d.ext.cell o) (zn o)) I.1 I.2
theorem left1_next {m:MZ} {W wr w5:World} {J:Nat->World->Prop} {tn t0:Nat} (D:Hid (tn=t0+k)) (Q:k<=m.tasks.length+1 - ps.length) (I:tn<m.tasks.length) (O:m.tasks.length<=1000000) (K:ps.length=t0+1)
  (G:Hid (∀(k:Nat) (A B:World),J k A->Below W.heap.size A B->J k B)) (E:Hid (wr.cell? ⟨b3,0,none⟩=some (.int .i64 (tn:Int)))) (o:zb w w5) (z:Hid (J (k+1) w5)) (d:W.heap.size<=w5.heap.size):
  (∃k tn_1 b3,Value.pointer (some ⟨w5.heap.size,0,none⟩)=Value.pointer (some ⟨b3,0,none⟩)/\Hid (tn_1=t0+k)/\k<=m.tasks.length+1 - ps.length/\Hid (W.heap.size<=b3)/\
   Hid ((w5.alloc (Obj.cells #[Value.int IntKind.i64 (wrap64 ((tn:Int)+1))] 3)).cell? ⟨b3,0,none⟩=some (Value.int IntKind.i64 (tn_1:Int))/\(w5.alloc (Obj.cells #[Value.int IntKind.i64 (wrap64 ((tn:Int)+1))] 3)).frozen? ⟨b3,0,none⟩=false)/\
   Hid (zb w (w5.alloc (Obj.cells #[Value.int IntKind.i64 (wrap64 ((tn:Int)+1))] 3)))/\Hid (J k (w5.alloc (Obj.cells #[Value.int IntKind.i64 (wrap64 ((tn:Int)+1))] 3)))/\
   Hid (W.heap.size<=(w5.alloc (Obj.cells #[Value.int IntKind.i64 (wrap64 ((tn:Int)+1))] 3)).heap.size))/\
  (match Value.pointer (some ⟨w5.heap.size,0,none⟩) with
   | Value.pointer (some a)=>(match (w5.alloc (Obj.cells #[Value.int IntKind.i64 (wrap64 ((tn:Int)+1))] 3)).cell? a with | some (Value.int k i)=>m.tasks.length - i.toNat | x=>0)
   | x=>0)<
  (match Value.pointer (some ⟨b3,0,none⟩) with
   | Value.pointer (some a)=>(match wr.cell? a with | some (Value.int k i)=>m.tasks.length - i.toNat | x=>0)
   | x=>0):=by
 have M:=D.out;have L:wrap64 ((tn:Int)+1)=((tn+1:Nat):Int):=by rw [IntWalk.wrap64_in _ (by omega)];omega
 rw [L];refine ⟨⟨k+1,tn+1,w5.heap.size,rfl,(by omega:tn+1=t0+(k+1)),by omega,d,⟨zR _ _ _ rfl,World.frozen?_alloc_at _ _ _ _ rfl⟩,o.alloc _,G.out _ _ _ z.out ((Below.refl _ w5).alloc d _),Dt d (by simp)⟩,?_⟩;simp only [zR _ _ _ rfl,E.out];omega
theorem left1_gives {m:MZ} {us:List Int} {g gu:Nat} (w:World) (h:AJ w ok g m ch ps us f u ts vc vp gu) (so:SOk m ch ps) (hc:w.cell? ⟨gb,0,none⟩=some (.pointer (some ⟨g,0,none⟩))) (hp:cmpB m ps=false) (n:Nat) (hn:1<=n):
  GivesB n Tryz.prog 236 #[.pointer (some ⟨gb,0,none⟩)] (fun x:Int×Value=>#[.int .i64 x.1,x.2]) (fun k x W=>x.1=((ps.length - 1+k:Nat):Int)/\zk W (fun _=>True) x.2 (AK m ps us (ps.length - 1+k))) (m.tasks.length+1 - ps.length) w:=by
 intro l J Jx W hW h3 hl hJ i3 hY h0;have HS:=zh h.bound;clear h;have HY:=zh hY;clear hY;have HJ:=zh hJ;clear hJ;have n4:=zh i3;clear i3;have H0:=zh h0;clear h0;have m8:ps.length<=6:=Dt so.pl so.good.tk;obtain ⟨r0,r1,r2,r3,r4,r5,r6,r7,r8⟩:=HS.out.rules;have rb:=zb.rule hc;have SO:=zh so
 have m7:0<ps.length:=by
  by_cases h0:m.tasks.length=0
  ·unfold cmpB at hp;rw [Du h0] at hp;cases hp
  ·exact so.pn (by omega)
 have o0:=so.pl;have l7:=HS.out.maze;obtain ⟨fr',up',ts',c7,_,_,k1⟩:=l7;injection c7 with c7;injection c7 with c7;simp only [List.cons.injEq,and_true,true_and] at c7;obtain ⟨rfl,rfl,rfl⟩:=c7;have h6:=zh k1;obtain ⟨vst,⟨At,ct,rfl,n8,_⟩,_⟩:=k1;clear hc so;refine callsIn_of_wp Tryz.func236 rfl trivial ?_ rfl;simp only [Tryz.ntmps236,List.size_toArray,Ex,Ey,Nat.reduceAdd,Nat.reduceSub,Array.replicate_succ,Array.replicate_zero,List.push_toArray,List.append_toArray,List.nil_append,List.cons_append]
 gi_wp2_with (refine ⟨trivial,?_⟩;gi_at_call 96;refine (callsIn_wide.2 (BD _ (HS.out.ext hW) SO.out)).mono ?_;rintro e wA ⟨rfl,i7⟩;rw [hp];have h4:zb W wA:=i7.below _;have hA:zb w wA:=hW.trans h4)
 refine ⟨trivial,?_⟩;refine (callsIn_wide.2 (Ar _ (HS.out.ext hA) (by omega))).mono ?_;rintro e wB ⟨he,k9⟩;subst k9;obtain ⟨t0,g9⟩:∃t0,ps.length=t0+1:=⟨ps.length - 1,by omega⟩;have j3:(ps.length:Int) - 1=(t0:Int):=by omega
 rw [j3] at he;subst he;clear j3 i7
 gi_wp2
 gi_loopw [3] (fun v wr=>∃k tn b3,v=.pointer (some ⟨b3,0,none⟩)/\Hid (tn=t0+k)/\k<=m.tasks.length+1 - ps.length/\Hid (W.heap.size<=b3)/\Hid (wr.cell? ⟨b3,0,none⟩=some (.int .i64 (tn:Int))/\wr.frozen? ⟨b3,0,none⟩=false)/\Hid (zb w wr)/\Hid (J k wr)/\Hid (W.heap.size<=wr.heap.size)) (fun v wr=>match v with | .pointer (some a)=>(match wr.cell? a with | some (.int _ i)=>m.tasks.length - i.toNat | _=>0) | _=>0)
 case atStart=>
  have hz:=h4.size;exact ⟨0,t0,wA.heap.size,rfl,rfl,by omega,hz,⟨zR _ _ _ rfl,World.frozen?_alloc_at _ _ _ _ rfl⟩,hA.alloc _,HJ.out _ _ _ H0.out ((h4).alloc _),Dt hz (by simp)⟩
 case round=>
  obtain ⟨k,tn,b3,rfl,a3,hk,g3,i5,hE,i2,j8⟩:=hrel;have i1:=hE.out;obtain ⟨d,f6⟩:=i5.out;have d7:=zh d
  gi_wp2
  refine wpIn_wide.2 ?_;go_quiet (fail)
  generalize k3:wr.drewN nq=w2;have i6:zB wr w2:=⟨nq,k3.symm⟩;have c9:zb wr w2:=i6.below _;clear k3 i6;have c0:zb w w2:=i1.trans c9;have a1:=c9.cell d;have f1:w2.frozen? ⟨b3,0,none⟩=false:=(Below.frozen c9 (p:=⟨b3,0,none⟩) (zn d)).trans f6;have e2:=zh (HJ.out _ _ _ i2.out (c9.mono j8.out));have d4:W.heap.size<=w2.heap.size:=Dt j8.out c9.size;clear d f6 i5 i2 hE i1 c9;by_cases g7:tn<m.tasks.length
  ·have b0:t0<ps.length:=by omega
   obtain ⟨vs,⟨Ap,cp,rfl,n7,j6⟩,i8⟩:=HS.out.ps;obtain ⟨b,off,up,rfl,_,f5,h2⟩:=BU j6 i8 b0 b0;have j4:=SO.out.pp _ (Dr b0);have q0:=zb.rule f5;have o3:(t0:Int)<(ps.length:Int):=by omega
   have n0:(0:Int)<=(t0:Int):=by omega
   obtain ⟨p,g8⟩:=Ez (ps[t0]);rw [<-g8] at h2 j4;have f9:=zh g8;clear g8;have h7:=zh h2;obtain ⟨Aq,cq,rfl,l4,l8⟩:=h2;clear j6 i8 f5 l8;have j2:(k=0)\/(k≠0):=by omega
   rcases j2 with hk0 | hk0
   ·have c8:Hid (tn=t0):=(by have:=a3.out;omega:tn=t0);have hd:((tn:Int)==(t0:Int))=true:=by rw [beq_iff_eq,c8.out]
    have j5:min (tn:Int) (t0:Int)=(t0:Int):=by rw [c8.out];omega
    clear hk0
    gi_wp2
    refine wpIn_wide.2 ?_;go_quiet ((go_at_call 211;refine (Ar _ (HS.out.ext (c0.drewN _)) (by omega)).mono ?_;rintro e w9 ⟨G,rfl⟩;rw [show (ps.length:Int) - 1=(t0:Int) from by omega] at G;exact ⟨G,⟨_,rfl⟩⟩))
    generalize e9:w2.drewN nq=w3;have e5:zB w2 w3:=⟨nq,e9.symm⟩;have L:zb w2 w3:=e5.below _;clear e9 e5;have V:zb w w3:=c0.trans L;have d:=L.cell a1;have b7:w3.frozen? ⟨b3,0,none⟩=false:=(Below.frozen L (p:=⟨b3,0,none⟩) (zn a1)).trans f1;have b6:=zh (HJ.out _ _ _ e2.out (L.mono d4));have a0:W.heap.size<=w3.heap.size:=Dt d4 L.size;clear a1 f1 e2 c0 L d4;rcases List.eq_nil_or_concat p with rfl | ⟨q,x,rfl⟩
    ·have f8:Hid (AK m ps us tn=((m.tasks.getD tn ([],[])).1).filter fun n=>!(!zf m tn n || decide (n∈us))):=by
      show AK m ps us tn=_;unfold AK;rw [if_pos (by have:=c8.out;omega),c8.out,Dp,Do b0,DW,<-f9.out];rfl
     gi_wp2
     refine wpIn_wide.2 ?_;go_quiet ((go_at_call 211;refine (Ar _ (HS.out.ext (V.drewN _)) (by omega)).mono ?_;rintro e w9 ⟨G,rfl⟩;rw [show (ps.length:Int) - 1=(t0:Int) from by omega] at G;exact ⟨G,⟨_,rfl⟩⟩))
     gi_wp2
     refine wpIn_wide.2 ?_;generalize b1:w3.drewN nq=w6;have a9:zB w3 w6:=⟨nq,b1.symm⟩;have z:zb w3 w6:=a9.below _;have b2:=z;clear b1 a9;have D:zb w w6:=V.trans z;have Q:=z.cell d;have e4:=zh (HJ.out _ _ _ b6.out (z.mono a0));have b9:W.heap.size<=w6.heap.size:=Dt a0 z.size;clear b6 V z a0;have M:=zh Q;have d8:=zh ((Below.frozen b2 (p:=⟨b3,0,none⟩) (zn d)).trans b7);clear b7 d b2;have o:tn<m.tasks.length:=g7;obtain ⟨bt,offt,sn,u1,u2,rfl,_,e6,e7,g5,b8,g4⟩:=BR h6.out o;have g6:=(SO.out.lens.tl _ (Dr o)).1;have U:=SO.out.good.tn _ (Dr o);have O:Hid (AK m ps us tn=((m.tasks[tn]).1).filter fun n=>!(!zf m tn n || decide (n∈us))):=f8.out.trans (by rw [Dp,Do o,DW]);obtain ⟨tk,e8⟩:=Ez (m.tasks[tn]);rw [<-e8] at b8 g6 U O;clear e8 g4 e6 g5;have HF:=zh b8;obtain ⟨A5,c5,rfl,l2,_⟩:=b8;have g0:=zh U;clear U;have q1:=zb.rule e7;have rb3:=zb.rule Q;have B:=zb.refl w6;have l9:(tn:Int)<(m.tasks.length:Int):=by omega
     have j9:(0:Int)<=(tn:Int):=by omega
     have j0:tn<m.free.length:=by have:=SO.out.good.fl;omega
     clear e7 Q;have l1:(0:Int)<=0/\(0:Int)<m.n:=by have:=SO.out.good.n1;unfold MZ.n;omega
     have q3:=rb3
     go_region_held3 (fun W'=>zb w W'/\zb w6 W')
      (first | (exact ⟨D.drew,B.drew⟩) | (exact ⟨D.drew.trans K.ext,B.drew.trans K.ext⟩) | (exact ⟨D.drew.trans a2.ext,B.drew.trans a2.ext⟩) | assumption)
      (first | ((go_at_call 97;refine (Bc _ (HF.out.below D.drew) (by omega)).mono ?_;rintro e w8 ⟨v8,rfl,a2⟩)) | ((go_at_call 237;refine (left11_del tn HS.out SO.out D.drew a2 (rb _ D.drew) (q3 _ B.drew) o (by omega) (fun x hx=>g0.out x (.inl hx))).mono ?_;rintro e w9 ⟨v9,rfl,K⟩)))
     all_goals
      have c6:zb w w9:=D.drew.trans K.ext;have E:zb w6 w9:=B.drew.trans K.ext
      have e0:Hid (zk w9 (fun _=>True) v9 (AK m ps us tn)):=by
       have h1:=K.ints;rw [<-O.out] at h1;exact h1.weaken fun _ _=>trivial
      have a8:=E.cell M.out;have i9:w9.frozen? ⟨b3,0,none⟩=false:=(Below.frozen E (p:=⟨b3,0,none⟩) (zn M.out)).trans d8.out;have e3:=zh (HJ.out _ _ _ e4.out (E.mono b9));have b4:W.heap.size<=w9.heap.size:=Dt b9 E.size;have a4:=a3.out;clear K a2 E q3 rb3 B q1 D e4 b9 M d8;obtain ⟨fn,tmps,assign,body,hy,hR⟩:=HY.out k ((tn:Int),v9) w9 (by omega) e3.out ⟨by simp;omega,by have:=e0.out;rwa [show ps.length - 1+k=tn from by omega]⟩;have HR:=zh hR;clear hR a4;dsimp only at hy
      gi_wp2
      refine HR.out.mono ?_;rintro e w5 (⟨rfl,a5,I⟩ | ⟨rfl,a6⟩)
      ·have a7:b3≠l:=by have:=g3.out;omega
       have e1:zb w w5:=Am c6 I (Dt hW.size b4) h3;have f3:w5.cell? ⟨b3,0,none⟩=some (.int .i64 (tn:Int)):=World.grownBy.cell I a8 (fun e=>a7 (by injection e));have f0:W.heap.size<=w5.heap.size:=Dt b4 I.size;have d9:=zh a5;clear a5 I hy
       gi_wp2
       exact left1_next a3 hk o (by have:=SO.out.good.tk;omega) g9 HJ d7 e1 d9 f0
      ·gi_wp2
       refine El (results_none rfl _ _ _) rfl ?_;exact ⟨⟨_,rfl⟩,.inr a6⟩
    ·rw [List.concat_eq_append] at*
     have O:Hid (AK m ps us tn=[x]):=by
      show AK m ps us tn=_;unfold AK;rw [if_pos (by have:=c8.out;omega),c8.out,Dp,Do b0,DW,<-f9.out];simp
     obtain ⟨N,hN⟩:=Ez ((q++[x]).length);have n6:N=q.length+1:=by rw [hN];simp
     have k2:=h7.out;obtain ⟨A',c',g1,l3,j7⟩:=k2;obtain ⟨b5,o5,hA5,i4,f4⟩:=j7.2 (by simp);injection g1 with g1 h9 i0;subst g1 i0 hA5;have k4:w.cell? ⟨b5,o5+q.length,none⟩=some (.int .i64 x):=f4 q.length _ (by simp);have k7:=zh k4;have m6:b5<w.heap.size:=i4.2;clear f4 k4 j7 h9 l3 f9 h7 i4;rw [<-hN] at q0 l4 j4;have l0:(0:Int)<(N:Int):=by omega
     have n5:decide ((0:Int)<(N:Int))=true:=Du l0;have o2:IntKind.i64.wrap ((N:Int) - 1)=(q.length:Int):=by rw [DN];omega
     have m9:wrap64 ((N:Int) - 1)=(q.length:Int):=by rw [IntWalk.wrap64_in _ (by omega)];omega
     have o1:(0:Int)<=(q.length:Int)/\(q.length:Int)<=(N:Int):=by omega
     rw [<-hN];clear hN
     gi_wp2
     refine wpIn_wide.2 ?_;go_quiet ((go_at_call 211;refine (Ar _ (HS.out.ext (V.drewN _)) (by omega)).mono ?_;rintro e w9 ⟨G,rfl⟩;rw [show (ps.length:Int) - 1=(t0:Int) from by omega] at G;exact ⟨G,⟨_,rfl⟩⟩))
     generalize b1:w3.drewN nq=w9;have a9:zB w3 w9:=⟨nq,b1.symm⟩;have z:zb w3 w9:=a9.below _;clear b1 a9;have c6:zb w w9:=V.trans z;have a8:=z.cell d;have i9:w9.frozen? ⟨b3,0,none⟩=false:=(Below.frozen z (p:=⟨b3,0,none⟩) (zn d)).trans b7;have e3:=zh (HJ.out _ _ _ b6.out (z.mono a0));have b4:W.heap.size<=w9.heap.size:=Dt a0 z.size;clear b6 V z a0 d b7;have o:tn<m.tasks.length:=g7;have a4:=a3.out
     have e0:Hid (zk w9 (fun _=>True) (.slice (some ⟨b5,o5+q.length,none⟩) 1 (cq - q.length)) (AK m ps us tn)):=by
      show zk w9 _ _ (AK m ps us tn);rw [O.out];refine ⟨_,_,rfl,by simp;omega,by simp,fun _=>⟨b5,o5+q.length,rfl,trivial,?_⟩⟩;intro i u hi
      match i,hi with
      | 0,hi=>
       injection hi with hi;rw [<-hi];exact c6.cell k7.out
     obtain ⟨fn,tmps,assign,body,hy,hR⟩:=HY.out k ((tn:Int),(.slice (some ⟨b5,o5+q.length,none⟩) 1 (cq - q.length))) w9 (by omega) e3.out ⟨by simp;omega,by have:=e0.out;rwa [show ps.length - 1+k=tn from by omega]⟩;have HR:=zh hR;clear hR a4;dsimp only at hy
     gi_wp2
     refine HR.out.mono ?_;rintro e w5 (⟨rfl,a5,I⟩ | ⟨rfl,a6⟩)
     ·have a7:b3≠l:=by have:=g3.out;omega
      have e1:zb w w5:=Am c6 I (Dt hW.size b4) h3;have f3:w5.cell? ⟨b3,0,none⟩=some (.int .i64 (tn:Int)):=World.grownBy.cell I a8 (fun e=>a7 (by injection e));have f0:W.heap.size<=w5.heap.size:=Dt b4 I.size;have d9:=zh a5;clear a5 I hy
      gi_wp2
      exact left1_next a3 hk o (by have:=SO.out.good.tk;omega) g9 HJ d7 e1 d9 f0
     ·gi_wp2
      refine El (results_none rfl _ _ _) rfl ?_;exact ⟨⟨_,rfl⟩,.inr a6⟩
   ·have m5:(t0:Int)<(tn:Int):=by have:=a3.out;omega
    have hd:((tn:Int)==(t0:Int))=false:=by rw [DE];omega
    have j5:min (tn:Int) (t0:Int)=(t0:Int):=by omega
    clear hk0
    gi_wp2
    refine wpIn_wide.2 ?_;go_quiet ((go_at_call 211;refine (Ar _ (HS.out.ext (c0.drewN _)) (by omega)).mono ?_;rintro e w9 ⟨G,rfl⟩;rw [show (ps.length:Int) - 1=(t0:Int) from by omega] at G;exact ⟨G,⟨_,rfl⟩⟩))
    generalize e9:w2.drewN nq=w3;have e5:zB w2 w3:=⟨nq,e9.symm⟩;have L:zb w2 w3:=e5.below _;clear e9 e5;have V:zb w w3:=c0.trans L;have d:=L.cell a1;have b7:w3.frozen? ⟨b3,0,none⟩=false:=(Below.frozen L (p:=⟨b3,0,none⟩) (zn a1)).trans f1;have b6:=zh (HJ.out _ _ _ e2.out (L.mono d4));have a0:W.heap.size<=w3.heap.size:=Dt d4 L.size;clear a1 f1 e2 c0 L d4
    have f8:Hid (AK m ps us tn=((m.tasks.getD tn ([],[])).1).filter fun n=>!(!zf m tn n || decide (n∈us))):=by
     show AK m ps us tn=_;unfold AK;rw [if_neg (by omega)]
    gi_wp2
    refine wpIn_wide.2 ?_;go_quiet ((go_at_call 211;refine (Ar _ (HS.out.ext (V.drewN _)) (by omega)).mono ?_;rintro e w9 ⟨G,rfl⟩;rw [show (ps.length:Int) - 1=(t0:Int) from by omega] at G;exact ⟨G,⟨_,rfl⟩⟩))
    gi_wp2
    refine wpIn_wide.2 ?_;generalize b1:w3.drewN nq=w6;have a9:zB w3 w6:=⟨nq,b1.symm⟩;have z:zb w3 w6:=a9.below _;have b2:=z;clear b1 a9;have D:zb w w6:=V.trans z;have Q:=z.cell d;have e4:=zh (HJ.out _ _ _ b6.out (z.mono a0));have b9:W.heap.size<=w6.heap.size:=Dt a0 z.size;clear b6 V z a0;have M:=zh Q;have d8:=zh ((Below.frozen b2 (p:=⟨b3,0,none⟩) (zn d)).trans b7);clear b7 d b2;have o:tn<m.tasks.length:=g7;obtain ⟨bt,offt,sn,u1,u2,rfl,_,e6,e7,g5,b8,g4⟩:=BR h6.out o;have g6:=(SO.out.lens.tl _ (Dr o)).1;have U:=SO.out.good.tn _ (Dr o);have O:Hid (AK m ps us tn=((m.tasks[tn]).1).filter fun n=>!(!zf m tn n || decide (n∈us))):=f8.out.trans (by rw [Dp,Do o,DW]);obtain ⟨tk,e8⟩:=Ez (m.tasks[tn]);rw [<-e8] at b8 g6 U O;clear e8 g4 e6 g5;have HF:=zh b8;obtain ⟨A5,c5,rfl,l2,_⟩:=b8;have g0:=zh U;clear U;have q1:=zb.rule e7;have rb3:=zb.rule Q;have B:=zb.refl w6;have l9:(tn:Int)<(m.tasks.length:Int):=by omega
    have j9:(0:Int)<=(tn:Int):=by omega
    have j0:tn<m.free.length:=by have:=SO.out.good.fl;omega
    clear e7 Q;have l1:(0:Int)<=0/\(0:Int)<m.n:=by have:=SO.out.good.n1;unfold MZ.n;omega
    have q3:=rb3
    go_region_held3 (fun W'=>zb w W'/\zb w6 W')
     (first | (exact ⟨D.drew,B.drew⟩) | (exact ⟨D.drew.trans K.ext,B.drew.trans K.ext⟩) | (exact ⟨D.drew.trans a2.ext,B.drew.trans a2.ext⟩) | assumption)
     (first | ((go_at_call 97;refine (Bc _ (HF.out.below D.drew) (by omega)).mono ?_;rintro e w8 ⟨v8,rfl,a2⟩)) | ((go_at_call 237;refine (left11_del tn HS.out SO.out D.drew a2 (rb _ D.drew) (q3 _ B.drew) o (by omega) (fun x hx=>g0.out x (.inl hx))).mono ?_;rintro e w9 ⟨v9,rfl,K⟩)))
    all_goals
     have c6:zb w w9:=D.drew.trans K.ext;have E:zb w6 w9:=B.drew.trans K.ext
     have e0:Hid (zk w9 (fun _=>True) v9 (AK m ps us tn)):=by
      have h1:=K.ints;rw [<-O.out] at h1;exact h1.weaken fun _ _=>trivial
     have a8:=E.cell M.out;have i9:w9.frozen? ⟨b3,0,none⟩=false:=(Below.frozen E (p:=⟨b3,0,none⟩) (zn M.out)).trans d8.out;have e3:=zh (HJ.out _ _ _ e4.out (E.mono b9));have b4:W.heap.size<=w9.heap.size:=Dt b9 E.size;have a4:=a3.out;clear K a2 E q3 rb3 B q1 D e4 b9 M d8;obtain ⟨fn,tmps,assign,body,hy,hR⟩:=HY.out k ((tn:Int),v9) w9 (by omega) e3.out ⟨by simp;omega,by have:=e0.out;rwa [show ps.length - 1+k=tn from by omega]⟩;have HR:=zh hR;clear hR a4;dsimp only at hy
     gi_wp2
     refine HR.out.mono ?_;rintro e w5 (⟨rfl,a5,I⟩ | ⟨rfl,a6⟩)
     ·have a7:b3≠l:=by have:=g3.out;omega
      have e1:zb w w5:=Am c6 I (Dt hW.size b4) h3;have f3:w5.cell? ⟨b3,0,none⟩=some (.int .i64 (tn:Int)):=World.grownBy.cell I a8 (fun e=>a7 (by injection e));have f0:W.heap.size<=w5.heap.size:=Dt b4 I.size;have d9:=zh a5;clear a5 I hy
      gi_wp2
      exact left1_next a3 hk o (by have:=SO.out.good.tk;omega) g9 HJ d7 e1 d9 f0
     ·gi_wp2
      refine El (results_none rfl _ _ _) rfl ?_;exact ⟨⟨_,rfl⟩,.inr a6⟩
  ·gi_wp2
   go_end0
   have l6:k=m.tasks.length+1 - ps.length:=by have:=a3.out;omega
   exact ⟨⟨_,rfl⟩,.inl (by rw [<-l6];exact e2.out)⟩
noncomputable def openT (m:MZ) (ps:List (List Int)) (us:List Int) (t:Nat):Bool:=((m.tasks.getD t ([],[])).2).any fun x=>decide (x∈Bh m t (AK m ps us t) us)
def tasksN (m:MZ) (ps:List (List Int)):Nat:=if cmpB m ps=true then 0 else m.tasks.length+1 - ps.length
noncomputable def openB (m:MZ) (ps:List (List Int)) (us:List Int):Bool:=(List.range (tasksN m ps)).all fun k=>openT m ps us (ps.length - 1+k)
theorem left_calls (g:Nat) (w:World):Calls Tryz.prog 216 #[.pointer (some ⟨g,0,none⟩)] w fun e w'=>e=.returned (.func (.func 236) #[] #[.pointer (some ⟨w.heap.size,0,none⟩)])/\w'=w.alloc (.cells #[.pointer (some ⟨g,0,none⟩)] 149):=by
 go_enter Tryz.func216,Tryz.ntmps216
 go_wp2;go_ret;exact ⟨rfl,rfl⟩
theorem left1_none {m:MZ} {us:List Int} {g gu:Nat} {G:Nat->Int×Value->World->Prop} (w:World) (h:AJ w ok g m ch ps us f u ts vc vp gu) (so:SOk m ch ps) (E:w.cell? ⟨gb,0,none⟩=some (.pointer (some ⟨g,0,none⟩))) (hp:cmpB m ps=true) (n:Nat) (Q:1<=n):
  GivesB n Tryz.prog 236 #[.pointer (some ⟨gb,0,none⟩)] (fun x:Int×Value=>#[.int .i64 x.1,x.2]) G 0 w:=by
 intro l J Jx W hW M O D z L h0;have K:=zh h;clear h;have I:=zh D;clear D z;have o:=zh h0;clear h0;have rb:=zb.rule E;have SO:=zh so;clear so E L;refine callsIn_of_wp Tryz.func236 rfl trivial ?_ rfl;simp only [Tryz.ntmps236,List.size_toArray,Ex,Ey,Nat.reduceAdd,Nat.reduceSub,Array.replicate_succ,Array.replicate_zero,List.push_toArray,List.append_toArray,List.nil_append,List.cons_append]
 gi_wp2_with (refine ⟨trivial,?_⟩;gi_at_call 96;refine (callsIn_wide.2 (BD _ (K.out.ext hW) SO.out)).mono ?_;rintro e wA ⟨rfl,B⟩;rw [hp];have d:zb W wA:=B.below _;have hA:zb w wA:=hW.trans d)
 refine El (results_none rfl _ _ _) rfl ?_;exact ⟨⟨_,rfl⟩,.inl (I.out _ _ _ o.out d)⟩
theorem left1_gives' {m:MZ} {us:List Int} {g gu:Nat} (w:World) (h:AJ w ok g m ch ps us f u ts vc vp gu) (so:SOk m ch ps) (d:w.cell? ⟨gb,0,none⟩=some (.pointer (some ⟨g,0,none⟩))) (n:Nat) (o:1<=n):
  GivesB n Tryz.prog 236 #[.pointer (some ⟨gb,0,none⟩)] (fun x:Int×Value=>#[.int .i64 x.1,x.2]) (fun k x W=>x.1=((ps.length - 1+k:Nat):Int)/\zk W (fun _=>True) x.2 (AK m ps us (ps.length - 1+k))) (tasksN m ps) w:=by
 unfold tasksN;by_cases hp:cmpB m ps=true
 ·rw [if_pos hp];exact left1_none w h so d hp n o
 ·rw [if_neg hp];exact left1_gives w h so d (by simpa using hp) n o
theorem AI.apart {size n b:Nat} {A:Option Addr} {xs:List Value} {r:Loop} (h:AI w ok size A n xs) (E:0<size) (B:w.heap[b]?=some (.loop r)):AI w (fun k=>ok k/\k≠b) size A n xs:=by
 refine ⟨h.1,fun z=>?_⟩;obtain ⟨k,off,e,D,o⟩:=h.2 z;have h0:0<xs.length:=by rw [h.1];exact Nat.mul_pos z E
 refine ⟨k,off,e,⟨D,?_⟩,o⟩;rintro rfl;have d:=o 0 _ (Do h0);unfold World.cell? at d;simp only [B] at d;cases d
theorem zk.apart {w:World} {ok:Nat->Prop} {v:Value} {l:List Int} {b:Nat} {r:Loop} (h:zk w ok v l) (d:w.heap[b]?=some (.loop r)):zk w (fun k=>ok k/\k≠b) v l:=by
 obtain ⟨A,c,e,o,z⟩:=h;exact ⟨A,c,e,o,z.apart (by decide) d⟩
theorem AB:Tryz.prog.follows .mixedOrders=true:=by kernel_rfl
theorem results_bool {fn:Func} {p w2:Nat} {b:Bool} (h:fn.results=#[.cell p 4]) (tmps:Array Value) (w:World) (hp:tmps.getD p undef=.pointer (some ⟨w2,0,none⟩)) (o:w.cell? ⟨w2,0,none⟩=some (.bool b)):(results fn tmps).run Tryz.prog w=.ok (.bool b) w:=by
 have d:tmps[p]?.getD undef=.pointer (some ⟨w2,0,none⟩):=by simpa using hp
 simp [results,h,d,asAddr,go_sem,o]
theorem tasksN_lt {m:MZ} {t:Nat} (so:SOk m ch ps) (d:k<tasksN m ps) (ht:t=ps.length - 1+k):t<m.tasks.length:=by
 unfold tasksN at d
 split at d
 ·omega
 ·rename_i h
  have h0:0<m.tasks.length:=by
   rcases Ec m.tasks.length with h0 | h0
   ·exfalso;apply h;unfold cmpB;rw [Du h0];rfl
   ·exact h0
  have:=so.pn h0;have:=so.pl;omega
theorem fromL_len {m:MZ} {us:List Int} {t:Nat} (so:SOk m ch ps) (ht:t<m.tasks.length):(AK m ps us t).length<=20000000000000:=by
 unfold AK
 split
 ·simp
 ·refine Dt (DU _ _) ?_;rw [Dp,Do ht,DW];have:=(so.lens.tl _ (Dr ht)).1;omega
structure JO (W0:World) (g gu:Nat) (m:MZ) (frm us:List Int) (t:Nat) (x2 MV:Value) (e:Nat->Bool) (v:Nat->Value) (W:World):Prop where
 ext:zb W0 W
 v0:e 0=true->v 0=.pointer (some ⟨g,0,none⟩)
 v1:e 1=true->v 1=.pointer (some ⟨g,0,none⟩)
 v2:e 2=true->v 2=.pointer (some ⟨g,0,none⟩)
 v3:e 3=true->v 3=MV
 v4:e 4=true->v 4=.int .i64 (t:Int)
 v5:e 5=true->v 5=x2
 v6:e 6=true->v 6=.pointer (some ⟨g,0,none⟩)
 v7:e 7=true->v 7=.pointer (some ⟨g,0,none⟩)
 v8:e 8=true->v 8=.pointer (some ⟨g,8,none⟩)
 v9:e 9=true->v 9=.map (some gu)
 call:e 10=true->∃gs s,v 10=.map (some gs)/\W0.heap.size<=gs/\zu W gs s/\∀x,x∈s↔RP m t frm us x
 al:e 11=true->∃g5,v 11=.pointer (some ⟨g5,0,none⟩)/\W0.heap.size<=g5/\(e 12=false->ze W g5 152 #[.map none])/\(e 12=true->W.cell? ⟨g5,0,none⟩=some (v 10))
 d12:e 12=true->e 10=true/\e 11=true
section
variable {W0 W W':World} {g gu:Nat} {m:MZ} {frm us:List Int} {t:Nat} {x2 MV:Value} {e:Nat->Bool} {v:Nat->Value}
theorem JO.n12 (h:JO W0 g gu m frm us t x2 MV e v W) (d:e 10=false):e 12=false:=notT (fun a=>(h.d12 a).1) d
theorem JO.n12' (h:JO W0 g gu m frm us t x2 MV e v W) (d:e 11=false):e 12=false:=notT (fun a=>(h.d12 a).2) d
theorem JO.init (he:∀j∈[0,1,2,3,4,5,6,7,8,9,10,11,12],e j=false):JO W0 g gu m frm us t x2 MV e v { W0 with drawn:=W0.drawn+1 }:=
 ⟨Ch,fun a=>ff (he 0 (by simp)) a,fun a=>ff (he 1 (by simp)) a,fun a=>ff (he 2 (by simp)) a,fun a=>ff (he 3 (by simp)) a,fun a=>ff (he 4 (by simp)) a,fun a=>ff (he 5 (by simp)) a,fun a=>ff (he 6 (by simp)) a,fun a=>ff (he 7 (by simp)) a,fun a=>ff (he 8 (by simp)) a,fun a=>ff (he 9 (by simp)) a,fun a=>ff (he 10 (by simp)) a,fun a=>ff (he 11 (by simp)) a,fun a=>ff (he 12 (by simp)) a⟩
theorem JO.s0 (h:JO W0 g gu m frm us t x2 MV e v W):JO W0 g gu m frm us t x2 MV (zT e 0 true) (zT v 0 (.pointer (some ⟨g,0,none⟩))) W:=
 ⟨h.ext,fun _=>rfl,h.v1,h.v2,h.v3,h.v4,h.v5,h.v6,h.v7,h.v8,h.v9,h.call,h.al,h.d12⟩
theorem JO.s1 (h:JO W0 g gu m frm us t x2 MV e v W):JO W0 g gu m frm us t x2 MV (zT e 1 true) (zT v 1 (.pointer (some ⟨g,0,none⟩))) W:=
 ⟨h.ext,h.v0,fun _=>rfl,h.v2,h.v3,h.v4,h.v5,h.v6,h.v7,h.v8,h.v9,h.call,h.al,h.d12⟩
theorem JO.s2 (h:JO W0 g gu m frm us t x2 MV e v W):JO W0 g gu m frm us t x2 MV (zT e 2 true) (zT v 2 (.pointer (some ⟨g,0,none⟩))) W:=
 ⟨h.ext,h.v0,h.v1,fun _=>rfl,h.v3,h.v4,h.v5,h.v6,h.v7,h.v8,h.v9,h.call,h.al,h.d12⟩
theorem JO.s3 (h:JO W0 g gu m frm us t x2 MV e v W):JO W0 g gu m frm us t x2 MV (zT e 3 true) (zT v 3 (MV)) W:=
 ⟨h.ext,h.v0,h.v1,h.v2,fun _=>rfl,h.v4,h.v5,h.v6,h.v7,h.v8,h.v9,h.call,h.al,h.d12⟩
theorem JO.s4 (h:JO W0 g gu m frm us t x2 MV e v W):JO W0 g gu m frm us t x2 MV (zT e 4 true) (zT v 4 (.int .i64 (t:Int))) W:=
 ⟨h.ext,h.v0,h.v1,h.v2,h.v3,fun _=>rfl,h.v5,h.v6,h.v7,h.v8,h.v9,h.call,h.al,h.d12⟩
theorem JO.s5 (h:JO W0 g gu m frm us t x2 MV e v W):JO W0 g gu m frm us t x2 MV (zT e 5 true) (zT v 5 (x2)) W:=
 ⟨h.ext,h.v0,h.v1,h.v2,h.v3,h.v4,fun _=>rfl,h.v6,h.v7,h.v8,h.v9,h.call,h.al,h.d12⟩
theorem JO.s6 (h:JO W0 g gu m frm us t x2 MV e v W):JO W0 g gu m frm us t x2 MV (zT e 6 true) (zT v 6 (.pointer (some ⟨g,0,none⟩))) W:=
 ⟨h.ext,h.v0,h.v1,h.v2,h.v3,h.v4,h.v5,fun _=>rfl,h.v7,h.v8,h.v9,h.call,h.al,h.d12⟩
theorem JO.s7 (h:JO W0 g gu m frm us t x2 MV e v W):JO W0 g gu m frm us t x2 MV (zT e 7 true) (zT v 7 (.pointer (some ⟨g,0,none⟩))) W:=
 ⟨h.ext,h.v0,h.v1,h.v2,h.v3,h.v4,h.v5,h.v6,fun _=>rfl,h.v8,h.v9,h.call,h.al,h.d12⟩
theorem JO.s8 (h:JO W0 g gu m frm us t x2 MV e v W):JO W0 g gu m frm us t x2 MV (zT e 8 true) (zT v 8 (.pointer (some ⟨g,8,none⟩))) W:=
 ⟨h.ext,h.v0,h.v1,h.v2,h.v3,h.v4,h.v5,h.v6,h.v7,fun _=>rfl,h.v9,h.call,h.al,h.d12⟩
theorem JO.s9 (h:JO W0 g gu m frm us t x2 MV e v W):JO W0 g gu m frm us t x2 MV (zT e 9 true) (zT v 9 (.map (some gu))) W:=
 ⟨h.ext,h.v0,h.v1,h.v2,h.v3,h.v4,h.v5,h.v6,h.v7,h.v8,fun _=>rfl,h.call,h.al,h.d12⟩
theorem JO.s10 {s:List Int} (h:JO W0 g gu m frm us t x2 MV e v W) (d:e 12=false) (z:zb W W') (G:W0.heap.size<=gs) (I:zu W' gs s) (o:∀x,x∈s↔RP m t frm us x):
  JO W0 g gu m frm us t x2 MV (zT e 10 true) (zT v 10 (.map (some gs))) W':=
 ⟨h.ext.trans z,h.v0,h.v1,h.v2,h.v3,h.v4,h.v5,h.v6,h.v7,h.v8,h.v9,fun _=>⟨gs,s,rfl,G,I,o⟩,fun a=>(by
  obtain ⟨g5,B,D,E,_⟩:=h.al a;exact ⟨g5,B,D,fun _=>(E d).ext z,fun b=>ff (b:=e 12) d b⟩),fun a=>ff (b:=e 12) d a⟩
theorem JO.s11 (h:JO W0 g gu m frm us t x2 MV e v W) (d:e 12=false):
  JO W0 g gu m frm us t x2 MV (zT e 11 true) (zT v 11 (.pointer (some ⟨W.heap.size,0,none⟩))) (W.alloc (.cells #[.map none] 152)):=
 ⟨h.ext.alloc _,h.v0,h.v1,h.v2,h.v3,h.v4,h.v5,h.v6,h.v7,h.v8,h.v9,fun a=>(by
  obtain ⟨gs,s,o,z,B,D⟩:=h.call a;exact ⟨gs,s,o,z,B.below ((zb.refl _).alloc _),D⟩),fun _=>⟨_,rfl,h.ext.size,fun _=>ze.new _ _ _ rfl,fun b=>ff (b:=e 12) d b⟩,fun a=>ff (b:=e 12) d a⟩
theorem JO.s12 {g5:Nat} {x:Value} (h:JO W0 g gu m frm us t x2 MV e v W) (o:v 11=.pointer (some ⟨g5,0,none⟩)) (d:v 10=.map (some gs)) (I:W0.heap.size<=g5) (G:ze W g5 152 #[.map none]) (z:e 10=true) (B:e 11=true):
  JO W0 g gu m frm us t x2 MV (zT e 12 true) (zT v 12 x) (W.setCell ⟨g5,0,none⟩ (.map (some gs))):=
 ⟨h.ext.setCell (p:=⟨g5,0,none⟩) I _,h.v0,h.v1,h.v2,h.v3,h.v4,h.v5,h.v6,h.v7,h.v8,h.v9,fun a=>(by
  obtain ⟨gs',s,J,K,E,L⟩:=h.call a;refine ⟨gs',s,J,K,?_,L⟩;have D:g5≠gs':=blk_set_ne G E
  exact (DA W ⟨g5,0,none⟩ _ gs' (fun e=>D e.symm)).trans E),fun _=>⟨g5,o,I,fun a=>(by cases a),fun _=>by
   show _=some (v 10);rw [d];exact (G.set (k:=0) _).cell (k:=0) rfl⟩,fun _=>⟨z,B⟩⟩
end
theorem open_calls {m:MZ} {us:List Int} {g gu:Nat} (w:World) (h:AJ w ok g m ch ps us f u ts vc vp gu) (so:SOk m ch ps):
  Calls Tryz.prog 163 #[.pointer (some ⟨g,0,none⟩)] w fun e w'=>e=.returned (.bool (openB m ps us))/\zb w w':=by
 refine (callsIn_wide (n:=6)).1 ?_;have HS:=zh h;have SO:=zh so;obtain ⟨r0,r1,r2,r3,r4,r5,r6,r7,r8⟩:=h.rules;clear h;refine callsIn_of_wp_marks Tryz.func163 rfl trivial ?_ rfl;simp only [Tryz.ntmps163,List.size_toArray,Ex,Ey,Nat.reduceAdd,Nat.reduceSub,Array.replicate_succ,Array.replicate_zero,List.push_toArray,List.append_toArray,List.nil_append,List.cons_append]
 gi_wp2_with (refine ⟨trivial,?_⟩;gi_at_call 216;refine (callsIn_wide.2 (left_calls _ _)).mono ?_;rintro e w1 ⟨rfl,rfl⟩)
 obtain ⟨w1,a0⟩:=Ez (((w.alloc (.cells #[.pointer (some ⟨g,0,none⟩)] 149)).alloc (.cells #[.bool false] 4)).alloc (.cells #[.pointer (some ⟨g,0,none⟩)] 149));rw [<-a0];have a3:zb w w1:=by rw [a0];exact (((zb.refl w).alloc _).alloc _).alloc _
 have j6:w1.heap.size=w.heap.size+3:=by rw [a0];simp
 have g4:w1.cell? ⟨w.heap.size,0,none⟩=some (.pointer (some ⟨g,0,none⟩)):=by
  rw [a0];exact zb.cell (zR w _ _ rfl) (((zb.refl _).alloc _).alloc _)
 have c7:w1.cell? ⟨w.heap.size+1,0,none⟩=some (.bool false)/\w1.frozen? ⟨w.heap.size+1,0,none⟩=false:=by
  rw [a0];constructor
  ·exact zb.cell (zR _ _ _ (by simp)) ((zb.refl _).alloc _)
  ·rw [World.frozen?_alloc_past _ _ _ (by simp)];exact World.frozen?_alloc_at _ _ _ _ (by simp)
 have b7:w1.cell? ⟨w.heap.size+1+1,0,none⟩=some (.pointer (some ⟨g,0,none⟩)):=by
  rw [a0];exact zR _ _ _ (by simp)
 clear a0;have rb:=zb.rule g4;obtain ⟨tn0,i4⟩:=Ez (ps.length - 1);obtain ⟨w2,b4⟩:=Ez (w.heap.size+1);rw [<-b4] at c7⊢;have Q:w2<w1.heap.size:=by omega
 have e3:=zh b4;rw [<-b4] at b7;clear b4
 refine wpIn_loopB (gf:=236) (lb:=#[.pointer (some ⟨w2+1,0,none⟩)]) rfl (enters_of Tryz.func236 (by kernel_rfl) rfl) (left1_gives' w1 (HS.out.ext a3) SO.out b7 _ (by omega)) (zb.refl w1) (fun _=>rfl)
  (fun k W=>zb w1 W/\(∀j,j<k->openT m ps us (ps.length - 1+j)=true)/\W.frozen? ⟨w2,0,none⟩=false/\∃b,W.cell? ⟨w2,0,none⟩=some (.bool b))
  (fun c W=>c=.ret/\zb w W/\W.cell? ⟨w2,0,none⟩=some (.bool false)/\openB m ps us=false)
  ?hI ?hIx ?hG ⟨zb.refl w1,fun _ h=>absurd h (by omega),c7.2,_,c7.1⟩ (fun x=>{ tmps:=#[Value.pointer (some ⟨g,0,none⟩),Value.pointer (some ⟨w.heap.size,0,none⟩),Value.pointer (some ⟨w2,0,none⟩),.int .i64 x.1,x.2,undef,Value.pointer (some ⟨g,0,none⟩),
    Value.func (Fn.func 236) #[] #[Value.pointer (some ⟨w2+1,0,none⟩)],.int .i64 x.1,x.2,undef,undef,undef,undef,undef,undef,undef,undef,undef,undef,undef,undef,undef,undef,undef,undef,undef,undef,undef,undef,undef,undef,undef],defers:=[] }) ?assign ?body ?done ?stop
 case hI=>
  rintro k A B ⟨h1,h2,h3,b,h4⟩ a2;have O:=Q;exact ⟨Below.trans h1 a2,h2,(a2.frozen (p:=⟨w2,0,none⟩) O).trans h3,b,(a2.cell (p:=⟨w2,0,none⟩) O).trans h4⟩
 case hIx=>
  rintro c A B ⟨h1,h2,h3,h4⟩ a2;have O:=Q;exact ⟨h1,Below.trans h2 (a2.mono a3.size),(a2.cell (p:=⟨w2,0,none⟩) O).trans h3,h4⟩
 case hG=>
  rintro k x A l ⟨h1,h2⟩ j0 j1 ⟨r,hr⟩ o;exact ⟨h1,((h2.apart hr).keep fun b hb O=>World.putObj_heap_other hb.2).weaken fun _ h=>h.1⟩
 case assign=>
  intro l x W K z
  gi_wp2
  exact z
 case body=>
  rintro l k ⟨x1,x2⟩ W0 hk ⟨M,a1,hfz,b,a5⟩ ⟨d7,b5⟩ j3;dsimp only at d7 b5⊢;obtain ⟨t,ht⟩:=Ez (ps.length - 1+k);rw [<-ht] at d7 b5;subst d7;have J:zb w W0:=a3.trans M;have HX:=zh b5;clear b5;obtain ⟨frm,a9⟩:=Ez (AK m ps us t);rw [<-a9] at HX;have b6:=zh a9;clear a9;have b1:t<m.tasks.length:=tasksN_lt SO.out hk ht;have h7:t<m.free.length:=by rw [SO.out.good.fl];exact b1
  have i9:frm.length<=20000000000000:=by rw [b6.out];exact fromL_len SO.out b1
  have g9:=HS.out.maze;obtain ⟨fr',up',ts',a6,_,_,f3⟩:=g9;injection a6 with a6;injection a6 with a6;simp only [List.cons.injEq,and_true,true_and] at a6;obtain ⟨rfl,rfl,rfl⟩:=a6;have f9:=zh f3;obtain ⟨vst,⟨At,ct,rfl,i8,_⟩,_⟩:=f3;obtain ⟨bt,offt,sn,u1,u2,rfl,_,f1,g8,f2,g7,c9⟩:=BR f9.out b1;have b8:=(SO.out.lens.tl _ (Dr b1)).2;obtain ⟨tl2,d6⟩:=Ez ((m.tasks[t]).2);rw [<-d6] at c9 b8;have f8:=zh d6;clear d6 g7 f1 g8;have f6:=zh c9;obtain ⟨A5,c5,rfl,a4,_⟩:=c9;have q2:=zb.rule f2;clear f2;have j5:(t:Int)<(m.tasks.length:Int):=by omega
  have i3:(0:Int)<=(t:Int):=by omega
  have j4:=SO.out.good.tk;obtain ⟨MV,e7⟩:=Ez (Value.agg #[.int .i64 m.w,.int .i64 m.h,.int .i64 m.l,f,u,.slice (some ⟨bt,offt,none⟩) m.tasks.length ct]);have HT:=zh ht;clear ht;have e0:=zh a1;clear a1;have e2:=zh hfz;clear hfz;have e1:=zh a5;clear a5
  gi_wp2
  refine wpIn_region_any AB ?_;simp only [List.size_toArray,Ex,Ey,Nat.reduceAdd,Array.replicate_succ,Array.replicate_zero,List.push_toArray,List.nil_append,List.cons_append];refine wpAnyIn_by_invF _ _ (by kernel_rfl) [0,1,2,3,4,5,6,7,8,9,10,11,12] (fun e v W=>JO W0 g gu m frm us t x2 MV e v W) (F:=?F1) (by kernel_rfl) (by kernel_rfl) (by decide) (fun v=>?hF1) ?init1 (by kernel_rfl) ?steps1 ?fin1
  case hF1=>(simp only [zA,Bw,List.getElem?_toArray,List.getElem?_cons_succ,List.getElem?_cons_zero,Option.bind,Act.put,List.setIfInBounds_toArray,List.set_cons_succ,List.set_cons_zero];rfl)
  case init1=>
   intro e v he;exact JO.init he
  case steps1=>
   refine zj.cons rfl (fun e v W K d hW he G z=>?_) ?_
   ·simp only [zc] at G z⊢;have I:zb w W:=J.trans d.ext;have E:zb w1 W:=M.trans d.ext;go_simp;exact z.out _ _ _ (by rfl) trivial d.s0
   refine zj.cons rfl (fun e v W K d hW he G z=>?_) ?_
   ·simp only [zc] at G z⊢;have I:zb w W:=J.trans d.ext;have E:zb w1 W:=M.trans d.ext;have v0:=d.v0 (zq G [0] (by kernel_rfl) 0 (by simp));go_simp;exact z.out _ _ _ (by simp [Act.put,v0]) trivial d.s1
   refine zj.cons rfl (fun e v W K d hW he G z=>?_) ?_
   ·simp only [zc] at G z⊢;have I:zb w W:=J.trans d.ext;have E:zb w1 W:=M.trans d.ext;have v1:=d.v1 (zq G [1] (by kernel_rfl) 1 (by simp));go_simp;exact z.out _ _ _ (by simp [Act.put,v1]) trivial d.s2
   refine zj.cons rfl (fun e v W K d hW he G z=>?_) ?_
   ·simp only [zc] at G z⊢;have I:zb w W:=J.trans d.ext;have E:zb w1 W:=M.trans d.ext;have v2:=d.v2 (zq G [2] (by kernel_rfl) 2 (by simp));go_simp;exact z.out _ _ _ (by simp [Act.put,v2,e7]) trivial d.s3
   refine zj.cons rfl (fun e v W K d hW he G z=>?_) ?_
   ·simp only [zc] at G z⊢;have I:zb w W:=J.trans d.ext;have E:zb w1 W:=M.trans d.ext;go_simp;exact z.out _ _ _ (by rfl) trivial d.s4
   refine zj.cons rfl (fun e v W K d hW he G z=>?_) ?_
   ·simp only [zc] at G z⊢;have I:zb w W:=J.trans d.ext;have E:zb w1 W:=M.trans d.ext;go_simp;exact z.out _ _ _ (by rfl) trivial d.s5
   refine zj.cons rfl (fun e v W K d hW he G z=>?_) ?_
   ·simp only [zc] at G z⊢;have I:zb w W:=J.trans d.ext;have E:zb w1 W:=M.trans d.ext;go_simp;exact z.out _ _ _ (by rfl) trivial d.s6
   refine zj.cons rfl (fun e v W K d hW he G z=>?_) ?_
   ·simp only [zc] at G z⊢;have I:zb w W:=J.trans d.ext;have E:zb w1 W:=M.trans d.ext;have v6:=d.v6 (zq G [6] (by kernel_rfl) 6 (by simp));go_simp;exact z.out _ _ _ (by simp [Act.put,v6]) trivial d.s7
   refine zj.cons rfl (fun e v W K d hW he G z=>?_) ?_
   ·simp only [zc] at G z⊢;have I:zb w W:=J.trans d.ext;have E:zb w1 W:=M.trans d.ext;have v7:=d.v7 (zq G [7] (by kernel_rfl) 7 (by simp));go_simp;exact z.out _ _ _ (by simp [Act.put,v7]) trivial d.s8
   refine zj.cons rfl (fun e v W K d hW he G z=>?_) ?_
   ·simp only [zc] at G z⊢;have I:zb w W:=J.trans d.ext;have E:zb w1 W:=M.trans d.ext;have v8:=d.v8 (zq G [8] (by kernel_rfl) 8 (by simp));go_simp;exact z.out _ _ _ (by simp [Act.put,v8]) trivial d.s9
   refine zj.cons rfl (fun e v W K d hW he G z=>?_) ?_
   ·simp only [zc] at G z⊢;have I:zb w W:=J.trans d.ext;have E:zb w1 W:=M.trans d.ext;have v3:=d.v3 (zq G [3,4,5,9] (by kernel_rfl) 3 (by simp));have v4:=d.v4 (zq G [3,4,5,9] (by kernel_rfl) 4 (by simp));have v5:=d.v5 (zq G [3,4,5,9] (by kernel_rfl) 5 (by simp));have v9:=d.v9 (zq G [3,4,5,9] (by kernel_rfl) 9 (by simp));have c0:e 12=false:=d.n12 he;go_simp;go_at_call 209;refine (reach_calls t W (HS.out.maze.below I) SO.out.good.dim h7 SO.out.good.fn (HX.out.below d.ext) (by omega) (HS.out.us.below I)).mono ?_;rintro e9 w9 ⟨s,rfl,g3,h6,b0⟩;go_simp;exact z.out _ _ _ (by simp [Act.put,v3,v4,v5,v9,e7]) trivial (d.s10 c0 g3 (by have:=d.ext.size;omega) h6 b0)
   refine zj.cons rfl (fun e v W K d hW he G z=>?_) ?_
   ·simp only [zc] at G z⊢;have I:zb w W:=J.trans d.ext;have E:zb w1 W:=M.trans d.ext;have c0:e 12=false:=d.n12' he;go_simp;exact z.out _ _ _ (by rfl) trivial (d.s11 c0)
   refine zj.cons rfl (fun e v W K d hW he G z=>?_) ?_
   ·simp only [zc] at G z⊢;have I:zb w W:=J.trans d.ext;have E:zb w1 W:=M.trans d.ext;have e4:e 10=true:=zq G [10,11] (by kernel_rfl) 10 (by simp);have e5:e 11=true:=zq G [10,11] (by kernel_rfl) 11 (by simp);obtain ⟨g5,V,f0,a7,_⟩:=d.al e5;have a7:=a7 he;have hf:=fun k=>a7.frozen k
    have i7:=a7.cell (k:=0) rfl;obtain ⟨gs,s,U,g6,d5,b0⟩:=d.call e4;go_simp;exact z.out _ undef _ (by simp [Act.put,U,V]) trivial (d.s12 V U f0 a7 e4 e5)
   exact zj.nil
  case fin1=>
   intro v W5 d;have v10e:=d.call rfl;obtain ⟨gs,s,U,g6,d5,b0⟩:=v10e;obtain ⟨g5,V,f0,_,a4⟩:=d.al rfl;have a4:=a4 rfl;rw [U] at a4;have b2:zb W0 W5:=d.ext;have I:zb w W5:=J.trans b2;have E:zb w1 W5:=M.trans b2;have HJ:=zh d;clear d;have f7:=zh b0;clear b0;rw [V];clear U V
   have HC:=zh (AC (l:=tl2) 217 #[.pointer (some ⟨g5,0,none⟩)] (fun x=>decide (x∈s)) W5 (f6.out.below I) (by omega) (zX (P:=Tryz.prog) Tryz.func217 (by kernel_rfl) (by kernel_rfl))
    (fun x _ wa G=>by
     have e6:zb W5 wa:=G.below _;refine (open1_calls x wa (d5.below e6) (zb.cell a4 e6)).mono ?_;rintro e wb ⟨rfl,rfl⟩;exact ⟨rfl,zB.refl _⟩))
   have b9:Hid (openT m ps us t=tl2.any fun x=>decide (x∈s)):=by
    show openT m ps us t=_;unfold openT;rw [f8.out,Dp,Do b1,DW,<-b6.out];congr 1;funext x;rw [decide_eq_decide,Bp SO.out.good.dim];exact (f7.out x).symm
   generalize (tl2.any fun x=>decide (x∈s))=bb at HC b9;clear d5 a4
   cases bb with
   | true=>
    gi_wp2_with fail
    refine ⟨trivial,?_⟩;refine (CallsIn.inRound l (callsIn_wide.2 HC.out)).mono ?_;rintro e w6 ⟨rfl,a8⟩;have d8:zb W5 w6:=a8.below _;clear a8;have L:zb W0 w6:=b2.trans d8
    gi_wp2_with fail
    have O:=DT Q M.size;refine ⟨L,M.trans L,fun j hj=>?_,(Below.frozen L (p:=⟨w2,0,none⟩) O).trans e2.out,b,(Below.cell L (p:=⟨w2,0,none⟩) O).trans e1.out⟩;rcases DO j k with h | h
    ·exact e0.out j h
    ·rw [show j=k from by omega,<-HT.out];exact b9.out
   | false=>
    gi_wp2_with fail
    refine ⟨trivial,?_⟩;refine (CallsIn.inRound l (callsIn_wide.2 HC.out)).mono ?_;rintro e w6 ⟨rfl,a8⟩;have d8:zb W5 w6:=a8.below _;clear a8;have L:zb W0 w6:=b2.trans d8;have O:=DT Q M.size;have e8:w6.cell? ⟨w2,0,none⟩=some (.bool b):=(Below.cell L (p:=⟨w2,0,none⟩) O).trans e1.out;have i0:w6.frozen? ⟨w2,0,none⟩=false:=(Below.frozen L (p:=⟨w2,0,none⟩) O).trans e2.out;have c8:w.heap.size<=w2:=by have:=e3.out;omega
    gi_wp2_with fail
    refine ⟨fun k' h1 h2=>(DA w6 ⟨w2,0,none⟩ _ k' (by show k'≠w2;omega)).trans (L.block k' h2),rfl,(J.trans L).setCell (p:=⟨w2,0,none⟩) c8 _,World.cell?_setCell_same' _ _ _ (by rw [e8];rfl),?_⟩;unfold openB;rw [List.all_eq_false];exact ⟨k,Es.2 hk,by rw [<-HT.out,b9.out];simp⟩
 case done=>
  rintro D W hD ⟨M,a1,hfz,b,a5⟩ z;have b8:w2<W.heap.size:=DT Q M.size
  gi_wp2
  refine ⟨by simp,.inl ⟨_,_,rfl,run_takeDeferred ((DA W ⟨w2,0,none⟩ _ D (by show D≠w2;omega)).trans z),?_⟩⟩;have d4:w2≠D:=by omega
  refine ⟨_,results_bool (w2:=w2) (b:=true) rfl _ _ rfl ?_,zl ?_,?_⟩
  ·exact (DG (World.putObj_heap_other d4)).trans (World.cell?_setCell_same' _ _ _ (by rw [a5];rfl))
  ·unfold openB;symm;rw [Ev];exact fun j hj=>a1 j (Es.1 hj)
  ·have c8:w.heap.size<=w2:=by have:=e3.out;omega
   exact ((a3.trans M).setCell (p:=⟨w2,0,none⟩) c8 _).trans (belowK_b (w:=w) (Dq _) _ D _ _ (by have:=a3.size;omega) ((DA W ⟨w2,0,none⟩ _ D (by show D≠w2;omega)).trans z) rfl rfl)
 case stop=>
  rintro D c W hD ⟨rfl,M,a5,h5⟩ z
  gi_wp2
  refine ⟨by simp,.inl ⟨_,_,rfl,run_takeDeferred z,?_⟩⟩;have d4:w2≠D:=by omega
  refine ⟨_,results_bool (w2:=w2) (b:=false) rfl _ _ rfl ?_,zl h5.symm,?_⟩
  ·exact (DG (World.putObj_heap_other d4)).trans a5
  ·exact Below.trans M (belowK_b (w:=w) (Dq _) _ D _ _ (by have:=a3.size;omega) z rfl rfl)
end
end Go.Proofs.YtnmkmhpgnpojbaaGreatDoor
