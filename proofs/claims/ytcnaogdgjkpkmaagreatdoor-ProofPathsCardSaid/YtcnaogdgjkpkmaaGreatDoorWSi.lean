import Derived.Test.YtcnaogdgjkpkmaaGreatDoorWSh
set_option linter.unusedVariables false
set_option linter.unusedSimpArgs false
set_option maxRecDepth 100000
set_option maxHeartbeats 16000000
namespace Go.Proofs.YtcnaogdgjkpkmaaGreatDoor
variable {ps:List (List Int)} {ch l us:List Int} {m:MZ} {b3 g gb gu:Nat} {ok:Nat->Prop} {f ts u v vc vp:Value} {W w:World}
section
open Go.RowKit Go.Shelf
attribute [local go_sem] Oper.semAt_some
attribute [local go_sem ↓] Go.wp_at_zero Go.wp_at_succ
def Bb (m:MZ) (ps:List (List Int)) (us:List Int) (t:Nat):List Int:=
 match (if t+1=ps.length then (ps.getD t []).getLast? else none) with
 | some x=>[x]
 | none=>((m.tasks.getD t ([],[])).1).filter fun n=>!(!zl m t n || decide (n∈us))
theorem sameCell {B:Nat} (o:zW (fun b=>b<B) w W) {p:Addr} (d:w.cell? p=some v) (hp:p.block<B):W.cell? p=some v:=
 (DS (w:=w) (o p.block hp (zp d))).trans d
theorem BD (w:World) (h:zn w ok v l) (J:l.length<=1000000000000):
  Calls Tryz.prog 55 #[v] w fun e w'=>∃v',e=.returned v'/\Mk w w' v' l:=by
 have H:=zh h;have B:=nilEq 24 3 Tryz.underlying24;obtain ⟨A,c,rfl,I,o⟩:=h;rcases A with _ | a
 ·have d:l=[]:=by
   rcases Em l.length with h | h
   ·exact DU h
   ·obtain ⟨b,off,e,_⟩:=o.2 h;cases e
  subst d;clear o
  go_enter Tryz.func55,Tryz.ntmps55
  go_wp2_with fail
  go_ret;exact ⟨_,rfl,Mk.nil _⟩
 ·clear o;have K:=zc.refl w
  go_enter Tryz.func55,Tryz.ntmps55
  go_wp2_with (at_builtin;refine Cz (ok:=ok) rfl _ _ _ rfl w.heap.size [] l _ _ rfl rfl (own_empty w w.heap.size (DC _)) (H.out.below ((zc.refl w).alloc _)) ?d1 ?d2 ?_)
  case d1=>simp
  case d2=>simp;omega
  intro v' w1 D r _;have E:Hid (Mk w w1 v' l):=⟨D,AX ((zc.refl w).alloc _) r (by simp) (fun k G=>slice_own G)⟩;clear D r
  go_wp2_with fail
  go_ret;exact ⟨_,rfl,E.out⟩
theorem left11_del {wk w8:World} {v8:Value} (tn:Nat) (h:AQ w ok g m ch ps us f u ts vc vp gu) (so:SOk m ch ps) (B:zc w wk)
  (d:Mk wk w8 v8 l) (r:wk.cell? ⟨gb,0,none⟩=some (.pointer (some ⟨g,0,none⟩))) (o:wk.cell? ⟨b3,0,none⟩=some (.int .i64 (tn:Int))) (M:tn<m.tasks.length) (J:l.length<=1000000000000) (L:∀x∈l,0<=x/\x<m.n):
  Calls Tryz.prog 144 #[v8,.func (.func 145) #[] #[.pointer (some ⟨gb,0,none⟩),.pointer (some ⟨b3,0,none⟩)]] w8 fun e w'=>∃v',e=.returned v'/\Mk wk w' v' (l.filter fun n=>!(!zl m tn n || decide (n∈us))):=by
 have G:tn<m.free.length:=by have:=so.good.fl;omega
 refine deleteFuncI_calls d (fun x=>0<=x/\x<m.n) L ⟨by omega,by have:=so.good.n1;unfold MZ.n;omega⟩ J _ _ (fun x=>!zl m tn x || decide (x∈us)) (Ah (P:=Tryz.prog) Tryz.func145 (by kernel_rfl) (by kernel_rfl)) ?_;intro x I W D;have h1:AQ W (fun b=>ok b/\b<w.heap.size) g m ch ps us f u ts vc vp gu:=h.bound.keep (fun b E K=>(D b (Ee E.2 B.size) (Ee E.2 (B.trans d.ext).size)).trans ((B.trans d.ext).block b E.2));exact left11_calls tn x W h1 so.good.fn G (sameCell D (d.ext.cell r) (zp r)) (sameCell D (d.ext.cell o) (zp o)) I.1 I.2
theorem left1_next {wr w5:World} {J:Nat->World->Prop} {k tn t0:Nat} (D:Hid (tn=t0+k)) (O:k<=m.tasks.length+1 - ps.length) (I:tn<m.tasks.length) (M:m.tasks.length<=1000000) (K:ps.length=t0+1)
  (G:Hid (∀(k:Nat) (A B:World),J k A->Below W.heap.size A B->J k B)) (E:Hid (wr.cell? ⟨b3,0,none⟩=some (.int .i64 (tn:Int)))) (o:zc w w5) (r:Hid (J (k+1) w5)) (d:W.heap.size<=w5.heap.size):
  (∃k tn_1 b3,Value.pointer (some ⟨w5.heap.size,0,none⟩)=Value.pointer (some ⟨b3,0,none⟩)/\Hid (tn_1=t0+k)/\k<=m.tasks.length+1 - ps.length/\Hid (W.heap.size<=b3)/\
   Hid ((w5.alloc (Obj.cells #[Value.int IntKind.i64 (wrap64 ((tn:Int)+1))] 3)).cell? ⟨b3,0,none⟩=some (Value.int IntKind.i64 (tn_1:Int))/\(w5.alloc (Obj.cells #[Value.int IntKind.i64 (wrap64 ((tn:Int)+1))] 3)).frozen? ⟨b3,0,none⟩=false)/\
   Hid (zc w (w5.alloc (Obj.cells #[Value.int IntKind.i64 (wrap64 ((tn:Int)+1))] 3)))/\Hid (J k (w5.alloc (Obj.cells #[Value.int IntKind.i64 (wrap64 ((tn:Int)+1))] 3)))/\
   Hid (W.heap.size<=(w5.alloc (Obj.cells #[Value.int IntKind.i64 (wrap64 ((tn:Int)+1))] 3)).heap.size))/\
  (match Value.pointer (some ⟨w5.heap.size,0,none⟩) with
   | Value.pointer (some a)=>(match (w5.alloc (Obj.cells #[Value.int IntKind.i64 (wrap64 ((tn:Int)+1))] 3)).cell? a with | some (Value.int k i)=>m.tasks.length - i.toNat | x=>0)
   | x=>0)<
  (match Value.pointer (some ⟨b3,0,none⟩) with
   | Value.pointer (some a)=>(match wr.cell? a with | some (Value.int k i)=>m.tasks.length - i.toNat | x=>0)
   | x=>0):=by
 have h1:=D.out;have L:wrap64 ((tn:Int)+1)=((tn+1:Nat):Int):=by rw [IntWalk.wrap64_in _ (by omega)];omega
 rw [L];refine ⟨⟨k+1,tn+1,w5.heap.size,rfl,(by omega:tn+1=t0+(k+1)),by omega,d,⟨zQ _ _ _ rfl,World.frozen?_alloc_at _ _ _ _ rfl⟩,o.alloc _,G.out _ _ _ r.out ((Below.refl _ w5).alloc d _),DE d (by simp)⟩,?_⟩;simp only [zQ _ _ _ rfl,E.out];omega
theorem left1_gives (w:World) (h:AQ w ok g m ch ps us f u ts vc vp gu) (so:SOk m ch ps) (hc:w.cell? ⟨gb,0,none⟩=some (.pointer (some ⟨g,0,none⟩))) (hp:cmpB m ps=false) (n:Nat) (hn:1<=n):
  GivesB n Tryz.prog 143 #[.pointer (some ⟨gb,0,none⟩)] (fun x:Int×Value=>#[.int .i64 x.1,x.2]) (fun k x W=>x.1=((ps.length - 1+k:Nat):Int)/\zn W (fun _=>True) x.2 (Bb m ps us (ps.length - 1+k))) (m.tasks.length+1 - ps.length) w:=by
 intro l J Jx W hW h4 hl hJ i3 hY h0;have HS:=zh h.bound;clear h;have HY:=zh hY;clear hY;have HJ:=zh hJ;clear hJ;have n6:=zh i3;clear i3;have H0:=zh h0;clear h0;have n0:ps.length<=6:=DE so.pl so.good.tk;obtain ⟨r0,r1,r2,r3,r4,r5,r6,r7,r8⟩:=HS.out.rules;have rb:=zc.rule hc;have SO:=zh so
 have m9:0<ps.length:=by
  by_cases h0:m.tasks.length=0
  ·unfold cmpB at hp;rw [DF h0] at hp;cases hp
  ·exact so.pn (by omega)
 have o2:=so.pl;have l9:=HS.out.maze;obtain ⟨fr',up',ts',c7,_,_,k3⟩:=l9;injection c7 with c7;injection c7 with c7;simp only [List.cons.injEq,and_true,true_and] at c7;obtain ⟨rfl,rfl,rfl⟩:=c7;have h7:=zh k3;obtain ⟨vst,⟨At,ct,rfl,o0,_⟩,_⟩:=k3;clear hc so;refine callsIn_of_wp Tryz.func143 rfl trivial ?_ rfl;simp only [Tryz.ntmps143,List.size_toArray,EF,EG,Nat.reduceAdd,Nat.reduceSub,Array.replicate_succ,Array.replicate_zero,List.push_toArray,List.append_toArray,List.nil_append,List.cons_append]
 gi_wp2_with (refine ⟨trivial,?_⟩;gi_at_call 54;refine (callsIn_wide.2 (BE _ (HS.out.ext hW) SO.out)).mono ?_;rintro e wA ⟨rfl,i7⟩;rw [hp];have h5:zc W wA:=i7.below _;have hA:zc w wA:=hW.trans h5)
 refine ⟨trivial,?_⟩;refine (callsIn_wide.2 (AE _ (HS.out.ext hA) (by omega))).mono ?_;rintro e wB ⟨he,l1⟩;subst l1;obtain ⟨t0,g9⟩:∃t0,ps.length=t0+1:=⟨ps.length - 1,by omega⟩;have j3:(ps.length:Int) - 1=(t0:Int):=by omega
 rw [j3] at he;subst he;clear j3 i7
 gi_wp2
 gi_loopw [3] (fun v wr=>∃k tn b3,v=.pointer (some ⟨b3,0,none⟩)/\Hid (tn=t0+k)/\k<=m.tasks.length+1 - ps.length/\Hid (W.heap.size<=b3)/\Hid (wr.cell? ⟨b3,0,none⟩=some (.int .i64 (tn:Int))/\wr.frozen? ⟨b3,0,none⟩=false)/\Hid (zc w wr)/\Hid (J k wr)/\Hid (W.heap.size<=wr.heap.size)) (fun v wr=>match v with | .pointer (some a)=>(match wr.cell? a with | some (.int _ i)=>m.tasks.length - i.toNat | _=>0) | _=>0)
 case atStart=>
  have hz:=h5.size;exact ⟨0,t0,wA.heap.size,rfl,rfl,by omega,hz,⟨zQ _ _ _ rfl,World.frozen?_alloc_at _ _ _ _ rfl⟩,hA.alloc _,HJ.out _ _ _ H0.out ((h5).alloc _),DE hz (by simp)⟩
 case round=>
  obtain ⟨k,tn,b3,rfl,a3,hk,g3,i5,hE,i2,j8⟩:=hrel;have i1:=hE.out;obtain ⟨d,f6⟩:=i5.out;have d7:=zh d
  gi_wp2
  refine wpIn_wide.2 ?_;go_quiet (fail)
  generalize k5:wr.drewN nq=w2;have i6:zG wr w2:=⟨nq,k5.symm⟩;have c9:zc wr w2:=i6.below _;clear k5 i6;have c0:zc w w2:=i1.trans c9;have a1:=c9.cell d;have f1:w2.frozen? ⟨b3,0,none⟩=false:=(Below.frozen c9 (p:=⟨b3,0,none⟩) (zp d)).trans f6;have e2:=zh (HJ.out _ _ _ i2.out (c9.mono j8.out));have d4:W.heap.size<=w2.heap.size:=DE j8.out c9.size;clear d f6 i5 i2 hE i1 c9;by_cases g7:tn<m.tasks.length
  ·have b0:t0<ps.length:=by omega
   obtain ⟨vs,⟨Ap,cp,rfl,n9,j6⟩,i8⟩:=HS.out.ps;obtain ⟨b,off,up,rfl,_,f5,h3⟩:=BG j6 i8 b0 b0;have j4:=SO.out.pp _ (DD b0);have q0:=zc.rule f5;have o6:(t0:Int)<(ps.length:Int):=by omega
   have n3:(0:Int)<=(t0:Int):=by omega
   obtain ⟨p,g8⟩:=EH (ps[t0]);rw [<-g8] at h3 j4;have f9:=zh g8;clear g8;have h8:=zh h3;obtain ⟨Aq,cq,rfl,l6,m0⟩:=h3;clear j6 i8 f5 m0;have j2:(k=0)\/(k≠0):=by omega
   rcases j2 with hk0 | hk0
   ·have c8:Hid (tn=t0):=(by have:=a3.out;omega:tn=t0);have hd:((tn:Int)==(t0:Int))=true:=by rw [beq_iff_eq,c8.out]
    have j5:min (tn:Int) (t0:Int)=(t0:Int):=by rw [c8.out];omega
    clear hk0
    gi_wp2
    refine wpIn_wide.2 ?_;go_quiet ((go_at_call 126;refine (AE _ (HS.out.ext (c0.drewN _)) (by omega)).mono ?_;rintro e w9 ⟨G,rfl⟩;rw [show (ps.length:Int) - 1=(t0:Int) from by omega] at G;exact ⟨G,⟨_,rfl⟩⟩))
    generalize e9:w2.drewN nq=w3;have e5:zG w2 w3:=⟨nq,e9.symm⟩;have L:zc w2 w3:=e5.below _;clear e9 e5;have V:zc w w3:=c0.trans L;have d:=L.cell a1;have b7:w3.frozen? ⟨b3,0,none⟩=false:=(Below.frozen L (p:=⟨b3,0,none⟩) (zp a1)).trans f1;have b6:=zh (HJ.out _ _ _ e2.out (L.mono d4));have a0:W.heap.size<=w3.heap.size:=DE d4 L.size;clear a1 f1 e2 c0 L d4;rcases List.eq_nil_or_concat p with rfl | ⟨q,x,rfl⟩
    ·have f8:Hid (Bb m ps us tn=((m.tasks.getD tn ([],[])).1).filter fun n=>!(!zl m tn n || decide (n∈us))):=by
      show Bb m ps us tn=_;unfold Bb;rw [if_pos (by have:=c8.out;omega),c8.out,DB,DA b0,Eh,<-f9.out];rfl
     gi_wp2
     refine wpIn_wide.2 ?_;go_quiet ((go_at_call 126;refine (AE _ (HS.out.ext (V.drewN _)) (by omega)).mono ?_;rintro e w9 ⟨G,rfl⟩;rw [show (ps.length:Int) - 1=(t0:Int) from by omega] at G;exact ⟨G,⟨_,rfl⟩⟩))
     gi_wp2
     refine wpIn_wide.2 ?_;generalize b1:w3.drewN nq=w6;have a9:zG w3 w6:=⟨nq,b1.symm⟩;have r:zc w3 w6:=a9.below _;have b2:=r;clear b1 a9;have D:zc w w6:=V.trans r;have Q:=r.cell d;have e4:=zh (HJ.out _ _ _ b6.out (r.mono a0));have b9:W.heap.size<=w6.heap.size:=DE a0 r.size;clear b6 V r a0;have M:=zh Q;have d8:=zh ((Below.frozen b2 (p:=⟨b3,0,none⟩) (zp d)).trans b7);clear b7 d b2;have o:tn<m.tasks.length:=g7;obtain ⟨bt,offt,sn,u1,u2,rfl,_,e6,e7,g5,b8,g4⟩:=BK h7.out o;have g6:=(SO.out.lens.tl _ (DD o)).1;have U:=SO.out.good.tn _ (DD o);have O:Hid (Bb m ps us tn=((m.tasks[tn]).1).filter fun n=>!(!zl m tn n || decide (n∈us))):=f8.out.trans (by rw [DB,DA o,Eh]);obtain ⟨tk,e8⟩:=EH (m.tasks[tn]);rw [<-e8] at b8 g6 U O;clear e8 g4 e6 g5;have HF:=zh b8;obtain ⟨A5,c5,rfl,l4,_⟩:=b8;have g0:=zh U;clear U;have q1:=zc.rule e7;have rb3:=zc.rule Q;have B:=zc.refl w6;have m1:(tn:Int)<(m.tasks.length:Int):=by omega
     have j9:(0:Int)<=(tn:Int):=by omega
     have j0:tn<m.free.length:=by have:=SO.out.good.fl;omega
     clear e7 Q;have l3:(0:Int)<=0/\(0:Int)<m.n:=by have:=SO.out.good.n1;unfold MZ.n;omega
     have q3:=rb3
     go_region_held3 (fun W'=>zc w W'/\zc w6 W')
      (first | (exact ⟨D.drew,B.drew⟩) | (exact ⟨D.drew.trans K.ext,B.drew.trans K.ext⟩) | (exact ⟨D.drew.trans a2.ext,B.drew.trans a2.ext⟩) | assumption)
      (first | ((go_at_call 55;refine (BD _ (HF.out.below D.drew) (by omega)).mono ?_;rintro e w8 ⟨v8,rfl,a2⟩)) | ((go_at_call 144;refine (left11_del tn HS.out SO.out D.drew a2 (rb _ D.drew) (q3 _ B.drew) o (by omega) (fun x hx=>g0.out x (.inl hx))).mono ?_;rintro e w9 ⟨v9,rfl,K⟩)))
     all_goals
      have c6:zc w w9:=D.drew.trans K.ext;have E:zc w6 w9:=B.drew.trans K.ext
      have e0:Hid (zn w9 (fun _=>True) v9 (Bb m ps us tn)):=by
       have h1:=K.ints;rw [<-O.out] at h1;exact h1.weaken fun _ _=>trivial
      have a8:=E.cell M.out;have i9:w9.frozen? ⟨b3,0,none⟩=false:=(Below.frozen E (p:=⟨b3,0,none⟩) (zp M.out)).trans d8.out;have e3:=zh (HJ.out _ _ _ e4.out (E.mono b9));have b4:W.heap.size<=w9.heap.size:=DE b9 E.size;have a4:=a3.out;clear K a2 E q3 rb3 B q1 D e4 b9 M d8;obtain ⟨fn,tmps,assign,body,hy,hR⟩:=HY.out k ((tn:Int),v9) w9 (by omega) e3.out ⟨by simp;omega,by have:=e0.out;rwa [show ps.length - 1+k=tn from by omega]⟩;have HR:=zh hR;clear hR a4;dsimp only at hy
      gi_wp2
      refine HR.out.mono ?_;rintro e w5 (⟨rfl,a5,I⟩ | ⟨rfl,a6⟩)
      ·have a7:b3≠l:=by have:=g3.out;omega
       have e1:zc w w5:=AB c6 I (DE hW.size b4) h4;have f3:w5.cell? ⟨b3,0,none⟩=some (.int .i64 (tn:Int)):=World.grownBy.cell I a8 (fun e=>a7 (by injection e));have f0:W.heap.size<=w5.heap.size:=DE b4 I.size;have d9:=zh a5;clear a5 I hy
       gi_wp2
       exact left1_next a3 hk o (by have:=SO.out.good.tk;omega) g9 HJ d7 e1 d9 f0
      ·gi_wp2
       refine Eu (results_none rfl _ _ _) rfl ?_;exact ⟨⟨_,rfl⟩,.inr a6⟩
    ·rw [List.concat_eq_append] at*
     have O:Hid (Bb m ps us tn=[x]):=by
      show Bb m ps us tn=_;unfold Bb;rw [if_pos (by have:=c8.out;omega),c8.out,DB,DA b0,Eh,<-f9.out];simp
     obtain ⟨N,hN⟩:=EH ((q++[x]).length);have n8:N=q.length+1:=by rw [hN];simp
     have k4:=h8.out;obtain ⟨A',c',g1,l5,j7⟩:=k4;obtain ⟨b5,o5,hA5,i4,f4⟩:=j7.2 (by simp);injection g1 with g1 h9 i0;subst g1 i0 hA5;have k6:w.cell? ⟨b5,o5+q.length,none⟩=some (.int .i64 x):=f4 q.length _ (by simp);have k9:=zh k6;have m8:b5<w.heap.size:=i4.2;clear f4 k6 j7 h9 l5 f9 h8 i4;rw [<-hN] at q0 l6 j4;have l2:(0:Int)<(N:Int):=by omega
     have n7:decide ((0:Int)<(N:Int))=true:=DF l2;have o4:IntKind.i64.wrap ((N:Int) - 1)=(q.length:Int):=by rw [DY];omega
     have n2:wrap64 ((N:Int) - 1)=(q.length:Int):=by rw [IntWalk.wrap64_in _ (by omega)];omega
     have o3:(0:Int)<=(q.length:Int)/\(q.length:Int)<=(N:Int):=by omega
     rw [<-hN];clear hN
     gi_wp2
     refine wpIn_wide.2 ?_;go_quiet ((go_at_call 126;refine (AE _ (HS.out.ext (V.drewN _)) (by omega)).mono ?_;rintro e w9 ⟨G,rfl⟩;rw [show (ps.length:Int) - 1=(t0:Int) from by omega] at G;exact ⟨G,⟨_,rfl⟩⟩))
     generalize b1:w3.drewN nq=w9;have a9:zG w3 w9:=⟨nq,b1.symm⟩;have r:zc w3 w9:=a9.below _;clear b1 a9;have c6:zc w w9:=V.trans r;have a8:=r.cell d;have i9:w9.frozen? ⟨b3,0,none⟩=false:=(Below.frozen r (p:=⟨b3,0,none⟩) (zp d)).trans b7;have e3:=zh (HJ.out _ _ _ b6.out (r.mono a0));have b4:W.heap.size<=w9.heap.size:=DE a0 r.size;clear b6 V r a0 d b7;have o:tn<m.tasks.length:=g7;have a4:=a3.out
     have e0:Hid (zn w9 (fun _=>True) (.slice (some ⟨b5,o5+q.length,none⟩) 1 (cq - q.length)) (Bb m ps us tn)):=by
      show zn w9 _ _ (Bb m ps us tn);rw [O.out];refine ⟨_,_,rfl,by simp;omega,by simp,fun _=>⟨b5,o5+q.length,rfl,trivial,?_⟩⟩;intro i u hi
      match i,hi with
      | 0,hi=>
       injection hi with hi;rw [<-hi];exact c6.cell k9.out
     obtain ⟨fn,tmps,assign,body,hy,hR⟩:=HY.out k ((tn:Int),(.slice (some ⟨b5,o5+q.length,none⟩) 1 (cq - q.length))) w9 (by omega) e3.out ⟨by simp;omega,by have:=e0.out;rwa [show ps.length - 1+k=tn from by omega]⟩;have HR:=zh hR;clear hR a4;dsimp only at hy
     gi_wp2
     refine HR.out.mono ?_;rintro e w5 (⟨rfl,a5,I⟩ | ⟨rfl,a6⟩)
     ·have a7:b3≠l:=by have:=g3.out;omega
      have e1:zc w w5:=AB c6 I (DE hW.size b4) h4;have f3:w5.cell? ⟨b3,0,none⟩=some (.int .i64 (tn:Int)):=World.grownBy.cell I a8 (fun e=>a7 (by injection e));have f0:W.heap.size<=w5.heap.size:=DE b4 I.size;have d9:=zh a5;clear a5 I hy
      gi_wp2
      exact left1_next a3 hk o (by have:=SO.out.good.tk;omega) g9 HJ d7 e1 d9 f0
     ·gi_wp2
      refine Eu (results_none rfl _ _ _) rfl ?_;exact ⟨⟨_,rfl⟩,.inr a6⟩
   ·have m7:(t0:Int)<(tn:Int):=by have:=a3.out;omega
    have hd:((tn:Int)==(t0:Int))=false:=by rw [DP];omega
    have j5:min (tn:Int) (t0:Int)=(t0:Int):=by omega
    clear hk0
    gi_wp2
    refine wpIn_wide.2 ?_;go_quiet ((go_at_call 126;refine (AE _ (HS.out.ext (c0.drewN _)) (by omega)).mono ?_;rintro e w9 ⟨G,rfl⟩;rw [show (ps.length:Int) - 1=(t0:Int) from by omega] at G;exact ⟨G,⟨_,rfl⟩⟩))
    generalize e9:w2.drewN nq=w3;have e5:zG w2 w3:=⟨nq,e9.symm⟩;have L:zc w2 w3:=e5.below _;clear e9 e5;have V:zc w w3:=c0.trans L;have d:=L.cell a1;have b7:w3.frozen? ⟨b3,0,none⟩=false:=(Below.frozen L (p:=⟨b3,0,none⟩) (zp a1)).trans f1;have b6:=zh (HJ.out _ _ _ e2.out (L.mono d4));have a0:W.heap.size<=w3.heap.size:=DE d4 L.size;clear a1 f1 e2 c0 L d4
    have f8:Hid (Bb m ps us tn=((m.tasks.getD tn ([],[])).1).filter fun n=>!(!zl m tn n || decide (n∈us))):=by
     show Bb m ps us tn=_;unfold Bb;rw [if_neg (by omega)]
    gi_wp2
    refine wpIn_wide.2 ?_;go_quiet ((go_at_call 126;refine (AE _ (HS.out.ext (V.drewN _)) (by omega)).mono ?_;rintro e w9 ⟨G,rfl⟩;rw [show (ps.length:Int) - 1=(t0:Int) from by omega] at G;exact ⟨G,⟨_,rfl⟩⟩))
    gi_wp2
    refine wpIn_wide.2 ?_;generalize b1:w3.drewN nq=w6;have a9:zG w3 w6:=⟨nq,b1.symm⟩;have r:zc w3 w6:=a9.below _;have b2:=r;clear b1 a9;have D:zc w w6:=V.trans r;have Q:=r.cell d;have e4:=zh (HJ.out _ _ _ b6.out (r.mono a0));have b9:W.heap.size<=w6.heap.size:=DE a0 r.size;clear b6 V r a0;have M:=zh Q;have d8:=zh ((Below.frozen b2 (p:=⟨b3,0,none⟩) (zp d)).trans b7);clear b7 d b2;have o:tn<m.tasks.length:=g7;obtain ⟨bt,offt,sn,u1,u2,rfl,_,e6,e7,g5,b8,g4⟩:=BK h7.out o;have g6:=(SO.out.lens.tl _ (DD o)).1;have U:=SO.out.good.tn _ (DD o);have O:Hid (Bb m ps us tn=((m.tasks[tn]).1).filter fun n=>!(!zl m tn n || decide (n∈us))):=f8.out.trans (by rw [DB,DA o,Eh]);obtain ⟨tk,e8⟩:=EH (m.tasks[tn]);rw [<-e8] at b8 g6 U O;clear e8 g4 e6 g5;have HF:=zh b8;obtain ⟨A5,c5,rfl,l4,_⟩:=b8;have g0:=zh U;clear U;have q1:=zc.rule e7;have rb3:=zc.rule Q;have B:=zc.refl w6;have m1:(tn:Int)<(m.tasks.length:Int):=by omega
    have j9:(0:Int)<=(tn:Int):=by omega
    have j0:tn<m.free.length:=by have:=SO.out.good.fl;omega
    clear e7 Q;have l3:(0:Int)<=0/\(0:Int)<m.n:=by have:=SO.out.good.n1;unfold MZ.n;omega
    have q3:=rb3
    go_region_held3 (fun W'=>zc w W'/\zc w6 W')
     (first | (exact ⟨D.drew,B.drew⟩) | (exact ⟨D.drew.trans K.ext,B.drew.trans K.ext⟩) | (exact ⟨D.drew.trans a2.ext,B.drew.trans a2.ext⟩) | assumption)
     (first | ((go_at_call 55;refine (BD _ (HF.out.below D.drew) (by omega)).mono ?_;rintro e w8 ⟨v8,rfl,a2⟩)) | ((go_at_call 144;refine (left11_del tn HS.out SO.out D.drew a2 (rb _ D.drew) (q3 _ B.drew) o (by omega) (fun x hx=>g0.out x (.inl hx))).mono ?_;rintro e w9 ⟨v9,rfl,K⟩)))
    all_goals
     have c6:zc w w9:=D.drew.trans K.ext;have E:zc w6 w9:=B.drew.trans K.ext
     have e0:Hid (zn w9 (fun _=>True) v9 (Bb m ps us tn)):=by
      have h1:=K.ints;rw [<-O.out] at h1;exact h1.weaken fun _ _=>trivial
     have a8:=E.cell M.out;have i9:w9.frozen? ⟨b3,0,none⟩=false:=(Below.frozen E (p:=⟨b3,0,none⟩) (zp M.out)).trans d8.out;have e3:=zh (HJ.out _ _ _ e4.out (E.mono b9));have b4:W.heap.size<=w9.heap.size:=DE b9 E.size;have a4:=a3.out;clear K a2 E q3 rb3 B q1 D e4 b9 M d8;obtain ⟨fn,tmps,assign,body,hy,hR⟩:=HY.out k ((tn:Int),v9) w9 (by omega) e3.out ⟨by simp;omega,by have:=e0.out;rwa [show ps.length - 1+k=tn from by omega]⟩;have HR:=zh hR;clear hR a4;dsimp only at hy
     gi_wp2
     refine HR.out.mono ?_;rintro e w5 (⟨rfl,a5,I⟩ | ⟨rfl,a6⟩)
     ·have a7:b3≠l:=by have:=g3.out;omega
      have e1:zc w w5:=AB c6 I (DE hW.size b4) h4;have f3:w5.cell? ⟨b3,0,none⟩=some (.int .i64 (tn:Int)):=World.grownBy.cell I a8 (fun e=>a7 (by injection e));have f0:W.heap.size<=w5.heap.size:=DE b4 I.size;have d9:=zh a5;clear a5 I hy
      gi_wp2
      exact left1_next a3 hk o (by have:=SO.out.good.tk;omega) g9 HJ d7 e1 d9 f0
     ·gi_wp2
      refine Eu (results_none rfl _ _ _) rfl ?_;exact ⟨⟨_,rfl⟩,.inr a6⟩
  ·gi_wp2
   go_end0
   have l8:k=m.tasks.length+1 - ps.length:=by have:=a3.out;omega
   exact ⟨⟨_,rfl⟩,.inl (by rw [<-l8];exact e2.out)⟩
end
end Go.Proofs.YtcnaogdgjkpkmaaGreatDoor
