import Derived.Test.YtnmkmhpgnpojbaaGreatDoorWXz
import Derived.Scope
import Derived.LoopIn
import Derived.ProofKit
import Derived.OpenShut
set_option linter.unusedVariables false
set_option linter.unusedSimpArgs false
set_option maxRecDepth 100000
set_option maxHeartbeats 16000000
namespace Go.Proofs.YtnmkmhpgnpojbaaGreatDoor
variable {a:Addr} {ps:List (List Int)} {c ch s:List Int} {m:MZ} {f k n t:Nat} {p:PT} {v:Value}
section
open Go.RowKit
attribute [local go_sem ↓] Go.wp_at_zero Go.wp_at_succ
theorem ymk1:(zJ (exM 6 8)).1=51:=by rw [make_x (zE.of (by decide +kernel)).dim];exact ym1
theorem ymk2:zJ (exM 4 8)=(0,yP):=by rw [make_x (zE.of (by decide +kernel)).dim];exact ym2
theorem ymk3:zJ (exM 1 7)=(0,BW):=by rw [make_x (zE.of (by decide +kernel)).dim];exact ym3
theorem ysanity_calls (w:World) (hv:zM w):Calls Tryz.prog 24 #[] w fun e w'=>e=.returned (.bool true)/\zb w w':=by
 have HV:=zh hv;clear hv
 go_enter Tryz.func24,Tryz.ntmps24
 go_wp2_with fail
 refine (Av 6 8 w).mono ?_;rintro e w1 ⟨v1,rfl,g3,h4⟩;have D:=Cp w1 h4 (CN 6 8);rw [ymk1] at D;have L:=zh D;have d8:=zh g3;clear D h4 g3
 go_wp2_with fail
 refine L.out.mono ?_;rintro e w2 ⟨v2,rfl,g4,d6⟩;generalize (zJ (exM 6 8)).2=pz at d6;obtain ⟨As,cs,Ak,ck,rfl,-⟩:=d6.form;have d9:Hid (zb w w2):=d8.out.trans g4;clear g4 d6 L d8;go_upto_region 2 with fail;obtain ⟨E,-,-,-⟩:=box3 w2 (.int .i64 pz.task) (.slice As pz.side.length cs) (.slice Ak pz.kids.length ck);generalize w2.alloc _=w3 at E⊢;have e0:Hid (zb w w3):=d9.out.trans E;clear E d9
 go_wp2_with fail
 refine (Av 4 8 w3).mono ?_;rintro e w4 ⟨v4,rfl,g5,h5⟩;have D:=Cp w4 h5 (CN 4 8);rw [ymk2] at D;have L:=zh D;have e1:Hid (zb w w4):=e0.out.trans g5;clear D h5 g5 e0
 go_wp2_with fail
 refine L.out.mono ?_;rintro e w5 ⟨v5,rfl,g6,h7⟩;obtain ⟨p,hp⟩:=Ez yP;have b0:Bn w5 (fun b=>w4.heap.size<=b) v5 p:=by rw [hp];exact h7
 have HP:=zh hp;obtain ⟨As,cs,Ak,ck,rfl,-⟩:=b0.form;have e2:Hid (zb w w5):=e1.out.trans g6;have f2:=zh b0;clear g6 h7 b0 L e1 hp;go_upto_region 3 with fail;obtain ⟨E,p0,p1,p2⟩:=box3 w5 (.int .i64 p.task) (.slice As p.side.length cs) (.slice Ak p.kids.length ck);generalize w5.alloc _=w6 at E p0 p1 p2⊢;obtain ⟨gp,i0⟩:∃g,g=w5.heap.size:=⟨_,rfl⟩;rw [<-i0] at p0 p1 p2⊢;have e3:Hid (zb w w6):=e2.out.trans E;have f3:=zh (f2.out.ext E);clear E e2 i0 f2
 go_wp2_with fail
 refine (Av 1 7 w6).mono ?_;rintro e w7 ⟨v7,rfl,g7,h6⟩;have D:=Cp w7 h6 (CN 1 7);rw [ymk3] at D;have L:=zh D;have e4:=zh g7;clear D h6 g7
 go_wp2_with fail
 refine L.out.mono ?_;rintro e w8 ⟨v8,rfl,g8,h8⟩;obtain ⟨q,hq⟩:=Ez BW;have b1:Bn w8 (fun b=>w7.heap.size<=b) v8 q:=by rw [hq];exact h8
 have M:=zh hq;obtain ⟨Bs,ds,Bk,dk,rfl,-⟩:=b1.form;have e5:Hid (zb w6 w8):=e4.out.trans g8;have f5:=zh b1;clear g8 h8 b1 L e4 hq;go_upto_region 4 with fail;obtain ⟨E,q0,q1,q2⟩:=box3 w8 (.int .i64 q.task) (.slice Bs q.side.length ds) (.slice Bk q.kids.length dk);generalize w8.alloc _=w9 at E q0 q1 q2⊢;obtain ⟨gq,i1⟩:∃g,g=w8.heap.size:=⟨_,rfl⟩;rw [<-i1] at q0 q1 q2⊢;have G:=zh (e5.out.trans E);have e6:Hid (zb w w9):=e3.out.trans G.out;have a6:=zh (f3.out.ext G.out);have f6:=zh (f5.out.ext E);have p0:=fun W h=>p0 W (G.out.trans h)
 have p1:=fun W h=>p1 W (G.out.trans h)
 have p2:=fun W h=>p2 W (G.out.trans h)
 clear E G e3 e5 f3 f5 i1
 have b8:=zh (show ∀W,zb w9 W->Calls Tryz.prog 32 #[.agg #[.int .i64 p.task,.slice As p.side.length cs,.slice Ak p.kids.length ck],.agg #[.int .i64 1,.slice none 0 0,.slice none 0 0]] W fun e w'=>e=.returned (.bool true)/\zb W w' from fun W hW=>by
  have h:=Cr 1000 W (a6.out.ext hW) (Bn.leaf W (fun _=>True) 1) (by rw [HP.out];decide) (by rw [HP.out];exact yl0) yl0;rw [HP.out,show BL yP (.node 1 [] [])=true from ysp] at h;rw [HP.out];exact h)
 have I:=zh (show ∀W (ok:Nat->Prop) v,zb w9 W->zF W ok v (exM 4 8)->Calls Tryz.prog 29 #[v,.agg #[.int .i64 p.task,.slice As p.side.length cs,.slice Ak p.kids.length ck]] W fun e w'=>e=.returned (.bool true)/\zb W w' from fun W ok v hW hM=>by
  have h:=BG W hM (CN 4 8) (a6.out.ext hW) (by rw [HP.out];exact yl0) (by rw [HP.out];decide);rw [show Az (exM 4 8) p=true by rw [HP.out];exact yk1] at h;exact h)
 have J:=zh (show ∀W (ok:Nat->Prop) v,zb w9 W->zF W ok v (exM 6 8)->Calls Tryz.prog 29 #[v,.agg #[.int .i64 p.task,.slice As p.side.length cs,.slice Ak p.kids.length ck]] W fun e w'=>e=.returned (.bool false)/\zb W w' from fun W ok v hW hM=>by
  have h:=BG W hM (CN 6 8) (a6.out.ext hW) (by rw [HP.out];exact yl0) (by rw [HP.out];decide);rw [show Az (exM 6 8) p=false by rw [HP.out];exact yk2] at h;exact h)
 have b5:zb w9 w9:=zb.refl w9;refine DH (S:=(fun W=>zb w9 W)) AB (b5.drew) fun zH=>?_;have a2:zb w9 w9.drew:=zH;generalize w9.drew=wd at zH a2⊢;refine zo 0 zH ?_;refine zo 1 zH ?_;simp only [zc,Dn];refine zo 2 zH ?_;refine zo 3 zH ?_;simp only [zc,Dn];refine zo 4 zH ?_;refine zo 5 zH ?_;simp only [zc,Dn];refine zo 6 zH ?_;refine zo 7 zH ?_;simp only [zc,Dn];refine zo 8 zH ?_;simp only [zc,Dn];refine zK 9 fun K o=>?_;go_simp;go_at_call 32;refine (b8.out _ zH).mono ?_;rintro e wa ⟨rfl,Q⟩;go_simp;refine EA o (zH.trans Q) fun zH=>?_;clear o K;try simp only [zc,Dn]
 refine zo 10 zH ?_;refine zo 11 zH ?_;simp only [zc,Dn];refine zo 13 zH ?_;simp only [zc,Dn];refine zK 12 fun K o=>?_;go_simp;go_at_call 74;refine (Av 4 8 _).mono ?_;rintro e wb ⟨vb,rfl,U,a8⟩;go_simp;refine EA o (zH.trans U) fun zH=>?_;clear o K;try simp only [zc,Dn]
 refine zK 14 fun K o=>?_;go_simp;go_at_call 29;refine (I.out _ _ _ zH a8).mono ?_;rintro e wc ⟨rfl,V⟩;go_simp;refine EA o (zH.trans V) fun zH=>?_;clear o K;try simp only [zc,Dn]
 refine zo 15 zH ?_;refine zo 16 zH ?_;simp only [zc,Dn];refine zo 18 zH ?_;simp only [zc,Dn];refine zK 17 fun K o=>?_;go_simp;go_at_call 74;refine (Av 6 8 _).mono ?_;rintro e wd' ⟨vd,rfl,a0,a9⟩;go_simp;refine EA o (zH.trans a0) fun zH=>?_;clear o K;try simp only [zc,Dn]
 refine zK 19 fun K o=>?_;go_simp;go_at_call 29;refine (J.out _ _ _ zH a9).mono ?_;rintro e we ⟨rfl,a1⟩;go_simp;refine EA o (zH.trans a1) fun zH=>?_;clear o K;try simp only [zc,Dn]
 refine zo 20 zH ?_;refine zo 21 zH ?_;simp only [zc,Dn];refine zo 22 zH ?_;simp only [zc,Dn];refine DV (by kernel_rfl) ?_ _;have d:zb w9 we:=((((a2.trans Q).trans U).trans V).trans a0).trans a1;have p0:=fun W h=>p0 W (d.trans h)
 have p1:=fun W h=>p1 W (d.trans h)
 have p2:=fun W h=>p2 W (d.trans h)
 have q0:=fun W h=>q0 W (d.trans h)
 have q1:=fun W h=>q1 W (d.trans h)
 have q2:=fun W h=>q2 W (d.trans h)
 have a5:Hid (zb w we):=e6.out.trans d;have f4:=zh (a6.out.ext d);have c7:=zh (f6.out.ext d);clear b8 I J d a2 Q U a8 V a0 a9 a1 b5 a6 f6 e6;go_upto_region 7 with fail;refine fin_wp we [_,_,_,_,_,_,_] fun wf B hB=>?_
 have HW:Hid (Bn wf (fun b=>we.heap.size<=b) (.agg #[.int .i64 0,.slice none 0 0,.slice (some ⟨we.heap.size+5,0,none⟩) 1 1]) BW):=ywant_mem (hB 0 _ rfl) (hB 1 _ rfl) (hB 2 _ rfl) (hB 4 _ rfl) (hB 5 _ rfl);have b2:ze wf (we.heap.size+6) 41 #[.int .i64 0,.slice none 0 0,.slice (some ⟨we.heap.size+5,0,none⟩) 1 1]:=hB 6 _ rfl;obtain ⟨gw,i2⟩:∃g,g=we.heap.size+6:=⟨_,rfl⟩;have c6:we.heap.size+1+1+1+1+1+1=gw:=by omega
 rw [c6];rw [<-i2] at b2;have z0:=zb.rule (b2.cell (k:=0) rfl);have z1:=zb.rule (b2.cell (k:=1) rfl);have z2:=zb.rule (b2.cell (k:=2) rfl);obtain ⟨gy,i3⟩:∃g,g=we.heap.size+5:=⟨_,rfl⟩;rw [<-i3] at HW z1 z2 z0;clear b2 hB i2 c6 i3;have b6:Hid (zb w wf):=a5.out.trans B;have j5:zb wf wf:=zb.refl wf;have c0:=enc_calls 1000 wf (HV.out.ext b6.out) (c7.out.ext B) (by rw [M.out];decide) (by rw [M.out];exact yok) (by rw [M.out];have:=yel;omega)
 go_wp2_with fail
 refine c0.mono ?_;rintro e wg ⟨rfl,c9⟩;obtain ⟨str,b4⟩:=Ez (encP q);rw [<-b4];have a7:=zh b4;have e7:Hid (zb w wg):=b6.out.trans c9;have O:=dec_calls (l:=str) wg (HV.out.ext e7.out);rw [show decR str=(0,q) by rw [a7.out,M.out];exact yd1] at O;have a4:=zh O;have e8:Hid (zb wf wg):=c9;clear c0 c9 b4 O j5
 go_wp2_with fail
 refine a4.out.mono ?_;rintro e wh ⟨vg,rfl,g9,hG⟩;have hG:Bn wh (fun b=>wg.heap.size<=b) vg q:=hG;obtain ⟨Gs,fs,Gk,fk,rfl,-⟩:=hG.form;have e9:Hid (zb wf wh):=e8.out.trans g9;have f0:=zh hG;clear g9 hG a4;go_upto_region 9 with fail;obtain ⟨E,g0,g1,g2⟩:=box3 wh (.int .i64 q.task) (.slice Gs q.side.length fs) (.slice Gk q.kids.length fk);generalize wh.alloc _=wi at E g0 g1 g2⊢;obtain ⟨gg,h9⟩:∃g,g=wh.heap.size:=⟨_,rfl⟩;rw [<-h9] at g0 g1 g2⊢;have z:zb wf wi:=e9.out.trans E;have p0:=fun W h=>p0 W ((B.trans z).trans h)
 have p1:=fun W h=>p1 W ((B.trans z).trans h)
 have p2:=fun W h=>p2 W ((B.trans z).trans h)
 have q0:=fun W h=>q0 W ((B.trans z).trans h)
 have q1:=fun W h=>q1 W ((B.trans z).trans h)
 have q2:=fun W h=>q2 W ((B.trans z).trans h)
 have z0:=fun W h=>z0 W (z.trans h)
 have z1:=fun W h=>z1 W (z.trans h)
 have z2:=fun W h=>z2 W (z.trans h)
 have i5:Hid (zb w wi):=b6.out.trans z;have j0:=zh (f4.out.ext (B.trans z));have b7:=zh (c7.out.ext (B.trans z));have j3:=zh (HW.out.ext z);have i8:=zh (f0.out.ext E);clear z E B e9 e8 b6 a5 e7 f4 c7 HW f0 h9
 have f8:=zh (show ∀W,zb wi W->Calls Tryz.prog 32 #[.agg #[.int .i64 q.task,.slice Bs q.side.length ds,.slice Bk q.kids.length dk],.agg #[.int .i64 0,.slice none 0 0,.slice (some ⟨gy,0,none⟩) 1 1]] W fun e w'=>e=.returned (.bool true)/\zb W w' from fun W hW=>by
  have h:=Cr 1000 W (b7.out.ext hW) (j3.out.ext hW) (by rw [M.out];decide) (by rw [M.out];exact yl1) yl1;rw [show BL q BW=true by rw [M.out];exact CS _] at h;exact h)
 have f7:=zh (show ∀W,zb wi W->Calls Tryz.prog 32 #[.agg #[.int .i64 q.task,.slice Gs q.side.length fs,.slice Gk q.kids.length fk],.agg #[.int .i64 q.task,.slice Bs q.side.length ds,.slice Bk q.kids.length dk]] W fun e w'=>e=.returned (.bool true)/\zb W w' from fun W hW=>by
  have h:=Cr 1000 W (i8.out.ext hW) (b7.out.ext hW) (by rw [M.out];decide) (by rw [M.out];exact yl1) (by rw [M.out];exact yl1);rw [CS] at h;exact h)
 have I:=zh (show ∀W (ok:Nat->Prop) v,zb wi W->zF W ok v (exM 1 7)->Calls Tryz.prog 29 #[v,.agg #[.int .i64 q.task,.slice Bs q.side.length ds,.slice Bk q.kids.length dk]] W fun e w'=>e=.returned (.bool true)/\zb W w' from fun W ok v hW hM=>by
  have h:=BG W hM (CN 1 7) (b7.out.ext hW) (by rw [M.out];exact yl1) (by rw [M.out];decide);rw [show Az (exM 1 7) q=true by rw [M.out];exact yk3] at h;exact h)
 have J:=zh (show ∀W (ok:Nat->Prop) v,zb wi W->zF W ok v (exM 1 7)->Calls Tryz.prog 29 #[v,.agg #[.int .i64 p.task,.slice As p.side.length cs,.slice Ak p.kids.length ck]] W fun e w'=>e=.returned (.bool false)/\zb W w' from fun W ok v hW hM=>by
  have h:=BG W hM (CN 1 7) (j0.out.ext hW) (by rw [HP.out];exact yl0) (by rw [HP.out];decide);rw [show Az (exM 1 7) p=false by rw [HP.out];exact yk4] at h;exact h)
 have f9:=zh (show ∀W,zb wi W->Calls Tryz.prog 36 #[.agg #[.int .i64 q.task,.slice Bs q.side.length ds,.slice Bk q.kids.length dk]] W fun e w'=>e=.returned (.int .i64 6)/\zb W w' from fun W hW=>by
  have h:=Cs W (b7.out.ext hW) (by rw [M.out];decide);rw [show q.size=6 by rw [M.out];exact yz] at h;exact h)
 have b5:zb wi wi:=zb.refl wi;refine DH (S:=(fun W=>zb wi W)) AB (b5.drew) fun zH=>?_;have a2:zb wi wi.drew:=zH;generalize wi.drew=wd at zH a2⊢;refine zo 0 zH ?_;refine zo 1 zH ?_;simp only [zc,Dn];refine zo 2 zH ?_;refine zo 3 zH ?_;simp only [zc,Dn];refine zo 4 zH ?_;simp only [zc,Dn];refine zK 5 fun K o=>?_;go_simp;go_at_call 32;refine (f8.out _ zH).mono ?_;rintro e wa ⟨rfl,Q⟩;go_simp;refine EA o (zH.trans Q) fun zH=>?_;clear o K;try simp only [zc,Dn]
 refine zo 6 zH ?_;refine zo 7 zH ?_;simp only [zc,Dn];refine zo 9 zH ?_;simp only [zc,Dn];refine zK 8 fun K o=>?_;go_simp;go_at_call 74;refine (Av 1 7 _).mono ?_;rintro e wb ⟨vb,rfl,U,a8⟩;go_simp;refine EA o (zH.trans U) fun zH=>?_;clear o K;try simp only [zc,Dn]
 refine zK 10 fun K o=>?_;go_simp;go_at_call 29;refine (I.out _ _ _ zH a8).mono ?_;rintro e wc ⟨rfl,V⟩;go_simp;refine EA o (zH.trans V) fun zH=>?_;clear o K;try simp only [zc,Dn]
 refine zo 11 zH ?_;refine zo 12 zH ?_;simp only [zc,Dn];refine zo 14 zH ?_;simp only [zc,Dn];refine zK 13 fun K o=>?_;go_simp;go_at_call 74;refine (Av 1 7 _).mono ?_;rintro e wd' ⟨vd,rfl,a0,a9⟩;go_simp;refine EA o (zH.trans a0) fun zH=>?_;clear o K;try simp only [zc,Dn]
 refine zK 15 fun K o=>?_;go_simp;go_at_call 29;refine (J.out _ _ _ zH a9).mono ?_;rintro e we ⟨rfl,a1⟩;go_simp;refine EA o (zH.trans a1) fun zH=>?_;clear o K;try simp only [zc,Dn]
 refine zo 16 zH ?_;refine zo 17 zH ?_;simp only [zc,Dn];refine zo 18 zH ?_;refine zo 19 zH ?_;simp only [zc,Dn];refine zK 20 fun K o=>?_;go_simp;go_at_call 36;refine (f9.out _ zH).mono ?_;rintro e wo ⟨rfl,d4⟩;go_simp;refine EA o (zH.trans d4) fun zH=>?_;clear o K;try simp only [zc,Dn]
 refine zo 21 zH ?_;refine zo 22 zH ?_;simp only [zc,Dn];refine zo 23 zH ?_;simp only [zc,Dn];refine DV (by kernel_rfl) ?_ _;have d:zb wi wo:=(((((a2.trans Q).trans U).trans V).trans a0).trans a1).trans d4;have g0:=fun W h=>g0 W (d.trans h)
 have g1:=fun W h=>g1 W (d.trans h)
 have g2:=fun W h=>g2 W (d.trans h)
 have q0:=fun W h=>q0 W (d.trans h)
 have q1:=fun W h=>q1 W (d.trans h)
 have q2:=fun W h=>q2 W (d.trans h)
 have a5:Hid (zb w wo):=i5.out.trans d;have i9:=zh d;clear f8 I J f9 a2 Q U a8 V a0 a9 a1 d4 b5 p0 p1 p2 z0 z1 z2;obtain ⟨st2,b3⟩:=Ez (str++[120])
 have ha:∀w,(Op.stringOp .add ⟨str.toArray⟩ ⟨#[120]⟩).run Tryz.prog w=.ok (.string ⟨st2.toArray⟩) w:=fun w=>by
  rw [b3];exact add_str (y:=[120]) (by have h1:=yel;rw [<-M.out,<-a7.out] at h1;simp;omega)
 have O:=dec_calls (l:=st2) wo (HV.out.ext a5.out);rw [show (decR st2).1=4 by rw [b3,a7.out,M.out];exact yd2] at O;generalize (decR st2).2=pd at O;have a4:=zh O;have j6:zb wo wo:=zb.refl wo;clear O b3
 go_wp2_with fail
 refine a4.out.mono ?_;rintro e wp ⟨vp,rfl,h2,hp⟩;obtain ⟨Ds,es,Dk,ek,rfl,-⟩:=hp.form;have f1:=zh h2;clear h2 hp a4 ha j6;go_upto_region 11 with fail;obtain ⟨E,-,-,-⟩:=box3 wp (.int .i64 pd.task) (.slice Ds pd.side.length es) (.slice Dk pd.kids.length ek);generalize wp.alloc _=wq at E⊢;have d7:zb wo wq:=f1.out.trans E;have i6:Hid (zb w wq):=a5.out.trans d7;have i4:=f7.out wq (i9.out.trans d7);have b9:=zh i4;clear i4 f7 E f1
 go_wp2_with fail
 refine b9.out.mono ?_;rintro e wr ⟨rfl,h3⟩;have i7:Hid (zb w wr):=i6.out.trans h3;clear h3 d7 b9
 go_wp2_with fail
 go_ret;exact ⟨rfl,i7.out⟩
end
section
open Go.RowKit
theorem psOf_more {m:MZ}:∀(r ch:List Int) (qs:List (List Int)) (a:List Int),zC m ch=qs++[a]->∃x more,zC m (ch++r)=qs++(a++x) :: more
 | [],ch,qs,a,h=>⟨[],[],by simpa using h⟩
 | n :: r,ch,qs,a,h=>by
  have e:zC m (ch++[n])=qs++[a++[n]]\/zC m (ch++[n])=(qs++[a++[n]])++[[]]:=by
   rw [CC,h];unfold AW;rw [addN_snoc]
   split
   ·exact .inr rfl
   ·exact .inl rfl
  have e2:ch++n :: r=(ch++[n])++r:=by simp
  rw [e2];rcases e with e | e
  ·obtain ⟨x,more,d⟩:=psOf_more r _ _ _ e;exact ⟨n :: x,more,by rw [d];simp⟩
  ·obtain ⟨x,more,d⟩:=psOf_more r _ _ _ e;exact ⟨[n],x :: more,by rw [d];simp⟩
theorem incB_range {N:Int}:∀{l:List Int} {b:Int},incB N b l=true->∀x∈l,b<x/\x<N
 | [],_,_,x,hx=>by cases hx
 | y :: l,b,h,x,hx=>by
  unfold incB at h;rw [DD,DD,DB,DB] at h;rcases Ef.1 hx with rfl | hx
  ·exact ⟨h.1,h.2.1⟩
  ·have:=incB_range h.2.2 x hx;exact ⟨by omega,this.2⟩
theorem walk_in {m:MZ} {t:Nat} {s ch p:List Int} (o:PathR m t p) (G:∀n∈s,∀k∈zg m n,zf m t k=true->k∉ch->k∈s) {i:Nat} {x:Int} (I:p[i]?=some x) (E:x∈s) (D:∀l y,i<l->p[l]?=some y->y∉ch):∀(j:Nat) (y:Int),p[i+j]?=some y->y∈s
 | 0,y,d=>by
  rw [Nat.add_zero,I] at d;injection d with d;subst d;exact E
 | j+1,y,d=>by
  cases B:p[i+j]? with
  | none=>
   rw [List.getElem?_eq_none_iff] at B;rw [DL (by omega)] at d;cases d
  | some z=>
   have J:=walk_in o G I E D j z B;exact G z J y (o.nb _ _ _ B d) (o.fr y (List.mem_of_getElem? d)) (D _ y (by omega) d)
theorem walk_end {p:List Int} (E:PathR m t p) (hF:FinP m t p) (J:∀n∈s,∀k∈zg m n,zf m t k=true->k∉ch->k∈s) (d:∀n∈s,n∉(m.tasks.getD t ([],[])).2) {i:Nat} {x:Int} (B:p[i]?=some x) (I:x∈s) (G:∀l y,i<l->p[l]?=some y->y∉ch):False:=by
 obtain ⟨z,D,o⟩:=hF;have K:i<p.length:=(Em.1 B).1;rw [List.getLast?_eq_getElem?] at D;have:=walk_in E J B I G (p.length - 1 - i) z (by rw [show i+(p.length - 1 - i)=p.length - 1 by omega];exact D);exact d z this o
theorem cut_sound {r:List Int} {t:Int} {nk:Nat} (hc:AS m=0) (hi:zr m ch) (h:cutB m ch t s nk=true) (K:zr m (ch++r)) (a5:zL m (ch++r)=true):False:=by
 have g:=zE.of hc;unfold cutB at h
 split at h
 ·cases h
 ·rename_i G
  have a6:¬ t<zO m ch:=fun h=>G (.inl h)
  have c0:¬ (m.tasks.length:Int)<=t:=fun h=>G (.inr (.inl h))
  clear G;rcases cur_of hc hi with ⟨-,h4⟩ | ⟨-,qs,a,O⟩
  ·omega
  ·rw [O.cur] at a6;obtain ⟨k,rfl⟩:∃k:Nat,t=(k:Int):=⟨t.toNat,by omega⟩;rw [Eh] at h;simp only [DD,Bool.not_eq_true',Ev,List.any_eq_false,DB] at h;obtain ⟨a0,a9,J,M⟩:=h;obtain ⟨x,more,e⟩:=psOf_more r ch qs a O.ps;obtain ⟨hl,Q⟩:=K.all a5;have hnd:=(K.range g).2;have U:=K.psOk.fl;have V:=hi.psOk.fl;rw [O.ps] at V;rw [e] at U
   have hr:x++more.flatten=r:=by
    have o:ch++(x++more.flatten)=ch++r:=by
     rw [<-U,<-V];simp
    exact List.append_cancel_left o
   have d:∀y∈r,y∉ch:=fun y hy b2=>(List.nodup_append.1 hnd).2.2 y b2 y hy rfl
   have hw:∀n∈s,∀j∈zg m n,zf m k j=true->j∉ch->j∈s:=fun n G j hj hf hu=>by
    unfold wallB at M;rw [Ev] at M;have o:=M n G;rw [Ev] at o;have a8:=incB_range a0 n G;have h2:=o j (by unfold BK;rw [if_pos ⟨hc,by omega,a8.2⟩];exact hj);rw [hf,Dv hu] at h2;simpa using h2
   have B:∀n∈s,n∉(m.tasks.getD k ([],[])).2:=fun n G=>a9 n G
   have L:k<(zC m (ch++r)).length:=by omega
   obtain ⟨D,hF⟩:=Q k _ (Do L);by_cases hk:k=qs.length
   ·subst hk
    have ep:(zC m (ch++r))[qs.length]=a++x:=by
     have:(zC m (ch++r))[qs.length]?=some (a++x):=by rw [e,Dx (Dq _),Nat.sub_self];rfl
     rw [Do L] at this;injection this
    rw [ep] at D hF;by_cases ha:a=[]
    ·subst ha;rw [List.nil_append] at D hF;have a7:=ne_of_fin hF
     cases x with
     | nil=>exact a7 rfl
     | cons y x=>
      have hy:y∈r:=by rw [<-hr];simp
      have o:y∈zZ m ch qs.length:=by
       unfold zZ;rw [O.pp,if_pos rfl,if_neg (by omega),Ep,D.fr y (Ed ..),Dv (d y hy)];exact ⟨D.hd y rfl,rfl⟩
      exact walk_end D hF hw B (i:=0) rfl (J y o) (fun l z _ I=>d z (by rw [<-hr];exact List.mem_append_left _ (List.mem_of_getElem? I)))
    ·cases E:a.getLast? with
     | none=>exact absurd (List.getLast?_eq_none_iff.1 E) ha
     | some y=>
      have o:y∈zZ m ch qs.length:=by
       unfold zZ;rw [O.pp,if_neg ha,if_pos (by simp),Dp,Dx (Dq _)];simp [E]
      have b5:=List.length_pos_iff.2 ha;rw [List.getLast?_eq_getElem?] at E;refine walk_end D hF hw B (i:=a.length - 1) (x:=y) (by rw [Dw (by omega)];exact E) (J y o) fun l z b9 I=>?_;rw [Dx (by omega)] at I;exact d z (by rw [<-hr];exact List.mem_append_left _ (List.mem_of_getElem? I))
   ·have b8:qs.length<k:=by omega
    have hm:(zC m (ch++r))[k]∈more:=by
     have o:(zC m (ch++r))[k]?=more[k - qs.length - 1]?:=by
      rw [e,Dx (by omega),show k - qs.length=(k - qs.length - 1)+1 by omega,List.getElem?_cons_succ];rfl
     rw [Do L] at o;exact List.mem_of_getElem? o.symm
    generalize (zC m (ch++r))[k]=p at D hF hm;have a1:∀z∈p,z∈r:=fun z I=>by rw [<-hr];exact List.mem_append_right _ (List.mem_flatten.2 ⟨p,hm,I⟩)
    cases p with
    | nil=>exact ne_of_fin hF rfl
    | cons y p=>
     have o:y∈zZ m ch k:=by
      unfold zZ;rw [O.pp,if_neg (by split <;> simp <;> omega),Ep,D.fr y (Ed ..),Dv (d y (a1 y (Ed ..)))];exact ⟨D.hd y rfl,rfl⟩
     exact walk_end D hF hw B (i:=0) rfl (J y o) (fun l z _ I=>d z (a1 z (List.mem_of_getElem? I)))
mutual
theorem holdsT_sound {m:MZ} (z:AS m=0):∀(p:PT) (ch r:List Int),zr m ch->AE m p ch=true->zr m (ch++r)->zL m (ch++r)=true->False
 | .node t s ks,ch,r,B,h,o,d=>by
  unfold AE at h
  split at h
  ·cases h
  ·rename_i I
   split at h
   ·exact cut_sound z B h o d
   ·cases r with
    | nil=>
     rw [List.append_nil] at d;rcases cur_of z B with ⟨-,E⟩ | ⟨E,-⟩
     ·omega
     ·rw [E] at d;cases d
    | cons n r=>
     have G:n∈cand m ch:=by
      have D:=o.at (k:=ch.length) (by simp);rw [List.getElem_append_right (Dq _),List.take_append_of_le_length (Dq _),DC] at D;simpa using D
     have e:zQ m ch=cand m ch:=by unfold zQ;rw [if_pos (okC_of z B)]
     rw [e] at h;have e2:ch++n :: r=(ch++[n])++r:=by simp
     rw [e2] at o d;exact holdsL_sound z ks ch (cand m ch) n r h G (.snoc B G) o d
theorem holdsL_sound {m:MZ} (z:AS m=0):∀(ks:List PT) (ch l:List Int) (n:Int) (r:List Int),AA m ks ch l=true->n∈l->zr m (ch++[n])->zr m ((ch++[n])++r)->zL m ((ch++[n])++r)=true->False
 | [],ch,l,n,r,h,hn,_,_,_=>by
  cases l with
  | nil=>cases hn
  | cons x l=>unfold AA at h;cases h
 | k :: ks,ch,l,n,r,h,hn,B,o,d=>by
  cases l with
  | nil=>cases hn
  | cons x l=>
   unfold AA at h;rw [Bool.and_eq_true] at h;rcases List.mem_cons.1 hn with rfl | hn
   ·exact holdsT_sound z k (ch++[n]) r B h.1 o d
   ·exact holdsL_sound z ks ch l n r h.2 hn B o d
end
theorem checkP_sound (h:Az m p=true) (o:zr m c):zL m c=false:=by
 unfold Az at h;rw [DD,DD,DD,DB] at h
 cases d:zL m c with
 | false=>rfl
 | true=>exact (holdsT_sound h.1 p [] c .nil h.2.2.2 (by simpa using o) (by simpa using d)).elim
theorem makeP_found (z:AS m=0) (ht:0<m.tasks.length) (B:zr m c) (d:zL m c=true):((zJ m).1=51\/(zJ m).1=53):=by
 have e:(zJ m).1=(zm m (m.n.toNat+2) [] 0).1:=by unfold zJ;rw [if_pos z]
 rcases Cq (m:=m) (m.n.toNat+2) [] 0 with h | h | h
 ·have o:=checkP_sound (makeP_ok ht (e.trans h)) B;rw [o] at d;cases d
 ·exact .inl (e.trans h)
 ·exact .inr (e.trans h)
end
section
open Go.RowKit
attribute [local go_sem ↓] Go.wp_at_zero Go.wp_at_succ
attribute [local go_sem] Oper.semAt_some
structure RB (W:World) (g:Nat) (a b c0 c1 c2 d:Value):Prop where
 p:ze W (g+3) 22 #[a]
 m:ze W (g+4) 23 #[b]
 y:ze W (g+5) 41 #[c0,c1,c2]
 e:ze W (g+6) 42 #[d]
theorem RB.ext {W W':World} {g:Nat} {a b c0 c1 c2 d:Value} (h:RB W g a b c0 c1 c2 d) (o:zb W W'):RB W' g a b c0 c1 c2 d:=⟨h.p.ext o,h.m.ext o,h.y.ext o,h.e.ext o⟩
theorem laid_lens (h:laidB m ps=true):∀x∈ps,x.length<=300:=by
 obtain ⟨h0,J,D,E⟩:=AU.1 h;intro x I;obtain ⟨k,z,rfl⟩:=DX I;have d:ps.getD k []=ps[k]:=zgd z
 by_cases B:ps[k]=[]
 ·rw [B];simp
 ·have hp:=D k z (by rw [d];exact B);rw [d] at hp
  have o:(ps[k]).Nodup:=by
   have:=E.1 k
   rwa [d] at this
  have G:=Bx o m.n hp.rg;have K:=(zE.of h0).dim.n1;unfold MZ.n at G;omega
structure AddX (w:World) (g L:Nat) (m:MZ) (ps:List (List Int)) (t:Nat) (W:World):Prop where
 ext:zb w W
 res:∃vo vs o s,addP m ps t=⟨o,s,.zero,0⟩/\RB W g vo vs (.int .i64 0) (.slice none 0 0) (.slice none 0 0) (.int .i64 0)/\zU W (fun b=>w.heap.size<=b/\b≠L) vo o/\zk W (fun b=>w.heap.size<=b/\b≠L) vs s
theorem AddX.grown {w A B:World} {g L:Nat} {m:MZ} {ps:List (List Int)} {t:Nat} (h:AddX w g L m ps t A) (G:A.grownBy B (some L)) (hL:w.heap.size<=L) (O:g+6<L):AddX w g L m ps t B:=by
 obtain ⟨I,vo,vs,o,s,J,z,K,M⟩:=h;have D:∀b,b≠L->b<A.heap.size->B.heap[b]?=A.heap[b]?:=fun b E d=>G.block b d (fun e=>E (Option.some.inj e))
 refine ⟨((zi.of_ext (X:=fun k=>k=L) I).grown G (fun k Q _=>(Option.some.inj Q).symm)).below (Dq _) (fun b E=>by omega),vo,vs,o,s,J,⟨?_,?_,?_,?_⟩,K.keep fun b E d=>D b E.2 d,M.keep fun b E d=>D b E.2 d⟩
 ·exact (D _ (by omega) (za z.p)).trans z.p
 ·exact (D _ (by omega) (za z.m)).trans z.m
 ·exact (D _ (by omega) (za z.y)).trans z.y
 ·exact (D _ (by omega) (za z.e)).trans z.e
end
section
open Go.RowKit
theorem lensL_all:∀{ks:List PT},(∀k∈ks,k.Lens)->PT.LensL ks
 | [],_=>by unfold PT.LensL;exact True.intro
 | k :: ks,h=>by
  unfold PT.LensL;exact ⟨h k (Ed ..),lensL_all fun x d=>h x (DM _ d)⟩
theorem CE:PT.zero.Lens:=by
 unfold PT.zero PT.Lens;exact ⟨by simp,by simp,lensL_all fun k d=>absurd d (Eo)⟩
theorem kidsR_lens {f:Int->Nat->Int×PT×Nat}:∀(l:List Int) (k:Nat) (acc:List PT),(∀n k,(f n k).2.1.Lens)->(∀p∈acc,p.Lens)->(∀p∈(zI f l k acc).2.1,p.Lens)/\(zI f l k acc).2.1.length<=acc.length+l.length
 | [],k,acc,_,d=>by unfold zI;exact ⟨d,Nat.le_add_right ..⟩
 | n :: l,k,acc,hf,d=>by
  unfold zI;by_cases h0:(f n k).1=0
  ·rw [if_pos h0]
   obtain ⟨o,z⟩:=kidsR_lens l (f n k).2.2 (acc++[(f n k).2.1]) hf (fun p hp=>by
    rcases Eg.1 hp with hp | hp
    ·exact d p hp
    ·rw [DY.1 hp];exact hf n k)
   refine ⟨o,?_⟩;simp only [Dz,Ex,Ey] at z⊢;omega
  ·rw [if_neg h0];exact ⟨fun p hp=>absurd hp (Eo),by simp⟩
theorem sideP_len (m:MZ) (ch:List Int) (t:Nat):(By m ch t).length<=1000:=by
 unfold By reachO
 split
 ·rename_i h
  unfold Bh;refine Dt (DU _ _) ?_;have d:=(zE.of h.1).dim.n1;have o:m.n=m.w*m.h*m.l:=rfl;simp;omega
 ·simp
theorem candO_len (d:Lens m) (ch:List Int):(zQ m ch).length<=400000000000:=by
 unfold zQ
 split
 ·exact Cy d ch
 ·simp
theorem proveP_lens {m:MZ} (d:Lens m):∀(f:Nat) (ch:List Int) (k:Nat),(zm m f ch k).2.1.Lens
 | 0,ch,k=>by unfold zm;exact CE
 | f+1,ch,k=>by
  unfold zm
  split
  ·exact CE
  ·split
   ·exact CE
   ·split
    ·rename_i t _
     show PT.Lens (.node t (By m ch t) []);unfold PT.Lens;have:=sideP_len m ch t;exact ⟨by omega,by simp,lensL_all fun k B=>absurd B (Eo)⟩
    ·obtain ⟨o,z⟩:=kidsR_lens (f:=fun n k=>zm m f (ch++[n]) k) (zQ m ch) (k+1) [] (fun n k=>proveP_lens d f _ k) (fun p hp=>absurd hp (Eo));have D:=candO_len d ch;simp only
     split
     ·show PT.Lens (.node _ [] _);unfold PT.Lens;refine ⟨by simp,?_,lensL_all o⟩;simp only [Ey] at z;omega
     ·exact CE
theorem makeP_lens (d:Lens m):(zJ m).2.Lens:=by
 unfold zJ
 split
 ·exact proveP_lens d _ _ _
 ·exact CE
theorem checkP_size (h:Az m p=true):p.size<=3000:=by
 unfold Az at h;simp only [DD,DB] at h;exact h.2.2.1
theorem laid_nil (z:AS m=0):laidB m (List.replicate m.tasks.length [])=true:=by
 have d:∀i,(List.replicate m.tasks.length ([]:List Int)).getD i []=[]:=fun i=>by
  rw [Dp,List.getElem?_replicate]
  split <;> rfl
 refine AU.2 ⟨z,List.length_replicate ..,fun k _ h=>absurd (d k) h,fun i=>by rw [d i];exact List.nodup_nil,fun i j x o=>?_⟩;rw [d i] at o;exact absurd o (Eo)
theorem laid_all (h:laidB m ps=true) (B:∀k,k<ps.length->ps.getD k []≠[]):rightB m ps=true:=by
 obtain ⟨h0,d,o,z⟩:=AU.1 h;exact BP.2 ⟨h0,d,fun t ht=>o t ht (B t ht),z⟩
def cov (n f k j:Nat):Prop:=∃i,i<k/\(i+f) % n=j
theorem cov_no (z:k<n):¬ cov n f k ((k+f) % n):=by
 rintro ⟨i,o,h⟩;have d:=Nat.sub_mod_eq_zero_of_mod_eq h.symm;rw [show k+f - (i+f)=k - i by omega,Nat.mod_eq_of_lt (by omega)] at d;omega
theorem cov_all {j:Nat} (o:j<n):cov n f n j:=by
 have d:0<n:=by omega
 have hm:=Nat.mod_lt f d;refine ⟨(j+(n - f % n)) % n,Nat.mod_lt _ d,?_⟩;rw [Nat.mod_add_mod];have h:=Nat.div_add_mod f n;have e:j+(n - f % n)+f=j+n*(1+f / n):=by rw [Nat.mul_add,Nat.mul_one];omega
 rw [e,Nat.add_mul_mod_self_left,Nat.mod_eq_of_lt o]
structure AllR (m:MZ) (f k:Nat) (ps:List (List Int)):Prop where
 laid:laidB m ps=true
 ne:∀j,j<m.tasks.length->(ps.getD j []≠[]↔cov m.tasks.length f k j)
theorem AllR.zero (d:AS m=0):AllR m f 0 (List.replicate m.tasks.length []):=by
 refine ⟨laid_nil d,fun j B=>?_⟩
 have o:(List.replicate m.tasks.length ([]:List Int)).getD j []=[]:=by
  rw [Dp,List.getElem?_replicate]
  split <;> rfl
 rw [o];exact ⟨fun h=>absurd rfl h,fun ⟨i,z,_⟩=>absurd z (Nat.not_lt_zero _)⟩
theorem AllR.len (h:AllR m f k ps):ps.length=m.tasks.length:=(AU.1 h.laid).2.1
theorem AllR.empty (h:AllR m f k ps) (o:k<m.tasks.length):ps.getD ((k+f) % m.tasks.length) []=[]:=by
 refine Classical.byContradiction fun d=>cov_no o ((h.ne _ (Nat.mod_lt _ (by omega))).1 d)
theorem AllR.next {qs:List (List Int)} {mv:List Int} (h:AllR m f k ps) (D:k<m.tasks.length) (K:Kept m ps ((k+f) % m.tasks.length) qs mv):AllR m f (k+1) qs:=by
 refine ⟨K.laid,fun j z=>?_⟩;rw [K.ne j (by rw [h.len];exact z),keepB_iff,h.ne j z];constructor
 ·rintro (d | ⟨i,B,d⟩)
  ·exact ⟨k,Nat.lt_succ_self k,d.symm⟩
  ·exact ⟨i,by omega,d⟩
 ·rintro ⟨i,B,d⟩;by_cases o:i=k
  ·subst o;exact .inl d.symm
  ·exact .inr ⟨i,by omega,d⟩
theorem AllR.done (h:AllR m f m.tasks.length ps):rightB m ps=true:=
 laid_all h.laid fun k d=>(h.ne k (by rw [<-h.len];exact d)).2 (cov_all (by rw [<-h.len];exact d))
theorem AllR.round (h:AllR m f k ps) (B:k<m.tasks.length) (ht:t=(k+f) % m.tasks.length):
  (addP m ps (t:Int)).err=54\/(addP m ps (t:Int)).err=53\/((addP m ps (t:Int)).err=0/\AllR m f (k+1) (addP m ps (t:Int)).ps/\1<=((addP m ps (t:Int)).ps.getD t []).length/\((addP m ps (t:Int)).ps.getD t []).length<=300):=by
 have o:t<m.tasks.length:=by rw [ht];exact Nat.mod_lt _ (by omega)
 have h0:=h.empty B;rw [<-ht] at h0;have z:knownB m (t:Int)=true:=knownB_iff.2 ⟨(AU.1 h.laid).1,by omega,by omega⟩;rcases addP_errs (t:=(t:Int)) h.laid z (by rw [Eh];exact h0) with h1 | ⟨h1 | h1,-⟩
 ·exact .inl h1
 ·have K:=(addP_kept h1).2;rw [Eh] at K;have D:=h.next B (by rw [<-ht];exact K);refine .inr (.inr ⟨h1,D,?_,?_⟩)
  ·have:=(K.ne t (by rw [h.len];exact o)).2 (keepB_iff.2 (.inl rfl));exact List.length_pos_iff.2 this
  ·have d:t<(addP m ps (t:Int)).ps.length:=by rw [D.len];exact o
   rw [Dp,Do d];exact laid_lens K.laid _ (Dr d)
 ·exact .inr (.inl h1)
end
section
open Go.ChangeShapes Go.WideShapes Go.ChangeAt Go.RowKit
def U8s (w:World) (ok:Nat->Prop) (v:Value) (l:List Int):Prop:=Aw w ok 1 v l.length (l.map (Value.int .u8))/\∀x∈l,0<=x/\x<=255
theorem U8s.below {w w':World} {ok:Nat->Prop} {v:Value} {l:List Int} (h:U8s w ok v l) (d:Below w.heap.size w w'):U8s w' ok v l:=⟨Aw.below h.1 d,h.2⟩
theorem spot_none {w:World} (h:w.cell? a=some v):a.spot=none:=by
 unfold World.cell? at h
 split at h
 ·split at h
  ·cases h
  ·rename_i d
   cases o:a.spot
   ·rfl
   ·rw [o] at d;simp at d
 ·cases h
theorem addr_at (h:a.spot=none) (n:Nat):a.add n=⟨a.block,a.off+n,none⟩:=by
 obtain ⟨b,o,s⟩:=a;simp only at h;subst h;unfold Addr.add
 split
 ·rename_i h0;subst h0;rfl
 ·rfl
theorem chooseList {β:Type} {p:Nat->β->Prop}:∀(n:Nat),(∀i,i<n->∃b,p i b)->∃l:List β,l.length=n/\∀i b,l[i]?=some b->p i b
 | 0,_=>⟨[],rfl,fun i b h=>by simp at h⟩
 | n+1,h=>by
  obtain ⟨l,z,B⟩:=chooseList n (fun i hi=>h i (by omega));obtain ⟨b,D⟩:=h n (by omega);refine ⟨l++[b],by simp [z],fun i x d=>?_⟩;rcases DO i l.length with hi | hi
  ·rw [Dw hi] at d;exact B i x d
  ·have o:i=l.length:=by
    rcases DO i (l++[b]).length with h2 | h2
    ·simp at h2;omega
    ·rw [DL h2] at d;cases d
   subst o;rw [Dx (Dq _),Nat.sub_self] at d;have:b=x:=by simpa using d
   subst this;rw [z];exact D
section
variable {H:Type} {enc:TypeId×Value->H} {w:World} {base:Nat} {held:Bool} {fuel:Nat} {cs:List Value} {x:DataW H×List MemPlace}
theorem sliceOpen {t e:TypeId} {sz:Nat} (ht:Tryz.prog.underlying t=some (.slice e)) (L:Tryz.prog.cellsOf e=sz) (h0:0<sz) (h:DataW.trod enc Tryz.prog w base (fun _=>true) held fuel t cs=some x):
  ∃A len c,cs=[.slice A len c]/\len<=c/\len<=9223372036854775807/\(0<len->∃b off,A=some ⟨b,off,none⟩/\∀i,i<len->∃(cl:List Value) (n:Nat) (y:DataW H×List MemPlace),cl.length=sz/\(∀j,j<sz->w.cell? ⟨b,off+(i*sz+j),none⟩=cl[j]?)/\DataW.trod enc Tryz.prog w base (fun _=>true) held n e cl=some y):=by
 rcases DataW.trod_slice ht h with ⟨rfl,_⟩ | ⟨a,len,cap,elems,rest,n,_,rfl,_,hb,V,hm,Q,I,_,_⟩
 ·exact ⟨none,0,0,rfl,Dq _,by decide,fun h=>by omega⟩
 ·refine ⟨some a,len,cap,rfl,V,by unfold maxLen at hm;omega,fun B=>?_⟩
  have each:∀i,i<len->∃(cl:List Value) (y:DataW H×List MemPlace),w.cells? base (a.add (i*sz)) sz=some cl/\DataW.trod enc Tryz.prog w base (fun _=>true) held n e cl=some y:=fun i J=>by
   have M:=I i J;rw [L,Do (by omega)] at M;obtain ⟨cl,d,D⟩:=Option.bind_eq_some_iff.1 M;exact ⟨cl,_,d,D⟩
  have K:a.spot=none:=by
   obtain ⟨cl,y,d,_⟩:=each 0 B;obtain ⟨_,O,E⟩:=World.cells?_some d;have z:=E 0 h0;rw [Do (by omega)] at z;have G:=spot_none z;rw [Nat.zero_mul] at G;unfold Addr.add at G
   rwa [if_pos rfl,if_pos rfl] at G
  refine ⟨a.block,a.off,?_,fun i J=>?_⟩
  ·obtain ⟨b,o,s⟩:=a;simp only at K;subst K;rfl
  ·obtain ⟨cl,y,d,D⟩:=each i J;obtain ⟨_,O,E⟩:=World.cells?_some d;refine ⟨cl,n,y,O,fun j U=>?_,D⟩;have z:=E j U;rw [addr_at K,addr_at rfl] at z;rw [<-Nat.add_assoc];exact z
theorem eachOpen {α:Type} {R:Value->α->Prop} {t e:TypeId} (ht:Tryz.prog.underlying t=some (.slice e)) (K:Tryz.prog.cellsOf e=1)
  (Q:∀n cl y,DataW.trod enc Tryz.prog w base (fun _=>true) held n e cl=some y->∃v a,cl=[v]/\R v a) (h:DataW.trod enc Tryz.prog w base (fun _=>true) held fuel t cs=some x):
  ∃v l,cs=[v]/\Each R w (fun _=>True) v l/\l.length<=9223372036854775807/\∀a∈l,∃u,R u a:=by
 obtain ⟨A,len,c,rfl,z,J,d⟩:=sliceOpen ht K (by omega) h;rcases Ec len with rfl | hpos
 ·exact ⟨_,[],rfl,⟨[],⟨A,c,rfl,z,AI.nil _ _ _ _⟩,fun i y B=>by simp at B⟩,by simp,fun a D=>by cases D⟩
 ·obtain ⟨b,off,rfl,E⟩:=d hpos;clear d
  obtain ⟨l,I,hp⟩:=chooseList (β:=Value×α) (p:=fun i va=>w.cell? ⟨b,off+i,none⟩=some va.1/\R va.1 va.2) len (fun i G=>by
   obtain ⟨cl,n,y,o,M,O⟩:=E i G;obtain ⟨v,a,rfl,U⟩:=Q n cl y O;have:=M 0 (by omega);rw [Nat.mul_one,Nat.add_zero] at this;exact ⟨(v,a),this,U⟩)
  refine ⟨_,l.map (·.2),rfl,⟨l.map (·.1),⟨_,c,by rw [Eb,I],by rw [Eb,I];exact z,by simp,fun _=>⟨b,off,rfl,trivial,fun j u L=>?_⟩⟩,fun i y B=>?_⟩,by rw [Eb,I];exact J,fun a D=>?_⟩
  ·rw [Ea] at L;obtain ⟨va,o,rfl⟩:=Option.map_eq_some_iff.1 L;exact (hp j va o).1
  ·rw [Ea] at B;obtain ⟨va,o,rfl⟩:=Option.map_eq_some_iff.1 B;exact ⟨va.1,by rw [Ea,o];rfl,(hp i va o).2⟩
  ·obtain ⟨va,o,rfl⟩:=Er.1 D;obtain ⟨i,G,rfl⟩:=DX o;exact ⟨_,(hp i _ (Do G)).2⟩
theorem row_of_each {α:Type} {f:α->Value} {l:List α} (h:Each (fun u a=>u=f a) w (fun _=>True) v l):Aw w (fun _=>True) 1 v l.length (l.map f):=by
 obtain ⟨vs,o,he⟩:=h
 have:vs=l.map f:=by
  have d:=o;obtain ⟨A,c,_,_,hA⟩:=d;have B:vs.length=l.length:=by have:=hA.1;omega
  refine List.ext_getElem? fun i=>?_
  rcases DO i l.length with hi | hi
  ·obtain ⟨u,z,o⟩:=he i _ (Do hi);rw [z,Ea,Do hi,o];rfl
  ·rw [DL (by omega),DL (by simp;omega)]
 rw [<-this];exact o
theorem intsOpen (h:DataW.trod enc Tryz.prog w base (fun _=>true) held fuel 23 cs=some x):∃v l,cs=[v]/\zk w (fun _=>True) v l/\l.length<=9223372036854775807:=by
 obtain ⟨v,l,rfl,he,d,_⟩:=eachOpen (R:=fun u a=>u=Value.int .i64 a) Tryz.underlying23 (by kernel_rfl) (fun n cl y o=>by
  obtain ⟨k,rfl,_,_⟩:=DataW.trod_int Tryz.underlying3 o;exact ⟨_,k,rfl,rfl⟩) h
 exact ⟨v,l,rfl,row_of_each he,d⟩
theorem intssOpen (h:DataW.trod enc Tryz.prog w base (fun _=>true) held fuel 22 cs=some x):∃v l,cs=[v]/\zU w (fun _=>True) v l/\l.length<=9223372036854775807/\∀a∈l,a.length<=9223372036854775807:=by
 obtain ⟨v,l,rfl,he,G,B⟩:=eachOpen (R:=fun u a=>zk w (fun _=>True) u a/\a.length<=9223372036854775807) Tryz.underlying22 (by kernel_rfl) (fun n cl y D=>by
  obtain ⟨v,l,rfl,d,o⟩:=intsOpen D;exact ⟨v,l,rfl,d,o⟩) h
 obtain ⟨vs,I,z⟩:=he
 exact ⟨v,l,rfl,⟨vs,I,fun i y D=>by
  obtain ⟨u,d,o,_⟩:=z i y D;exact ⟨u,d,o⟩⟩,G,fun a E=>by obtain ⟨u,h⟩:=B a E;exact h.2⟩
end
end
section
open Go.ChangeShapes Go.WideShapes Go.ChangeAt Go.RowKit
attribute [local go_sem ↓] Go.wp_at_zero Go.wp_at_succ
theorem makeP_zero (h:(zJ m).1≠0):(zJ m).2=.zero:=by
 unfold zJ at h⊢
 split
 ·rename_i d
  rw [if_pos d] at h;exact proveP_zero _ _ _ h
 ·rfl
theorem makeP_errs (d:AS m=0):(zJ m).1=0\/(zJ m).1=51\/(zJ m).1=53:=by
 have e:(zJ m).1=(zm m (m.n.toNat+2) [] 0).1:=by unfold zJ;rw [if_pos d]
 rw [e];exact Cq _ _ _
theorem whole_facts (z:AS m=0) (ht:0<m.tasks.length):
  (zJ m).1=53\/(((zJ m).1=0\/(zJ m).1=51)/\((endR m).done=false\/((endR m).done=true/\zL m (endR m).ch=true/\(zJ m).1=51/\(zJ m).2=.zero)\/((endR m).done=true/\zL m (endR m).ch=false/\(zJ m).1=0/\Az m (zJ m).2=true))):=by
 by_cases d:(zJ m).1=53
 ·exact .inl d
 ·refine .inr ⟨?_,?_⟩
  ·rcases makeP_errs z with h | h | h
   ·exact .inl h
   ·exact .inr h
   ·exact absurd h d
  ·cases B:(endR m).done with
   | false=>exact .inl rfl
   | true=>
    right
    cases hf:zL m (endR m).ch with
    | true=>
     have o:(zJ m).1=51:=(makeP_found z ht (run_isCh 20000 (s:=⟨[],zL m [],0⟩) .nil) hf).resolve_right d;exact .inl ⟨rfl,rfl,o,makeP_zero (by rw [o];decide)⟩
    | false=>
     have h0:(zJ m).1=0:=(makeP_search z B hf).resolve_right d;exact .inr ⟨rfl,rfl,h0,makeP_ok ht h0⟩
theorem ywhole_calls {ok:Nat->Prop} {ls:List (List Int)} (w:World) (hv:zM w) (hm:zU w ok v ls) (c6:ls.length<=9223372036854775807) (c7:∀x∈ls,x.length<=9223372036854775807):
  Calls Tryz.prog 7 #[v] w fun e w'=>e=.returned (.bool true)/\zb w w':=by
 have HV:=zh hv;have HM:=zh hm;have b2:=zh c7;have b1:=zh c6;clear hv hm c7 c6
 go_enter Tryz.func7,Tryz.ntmps7
 go_wp2_with fail
 refine (ysanity_calls w HV.out).mono ?_;rintro e w1 ⟨rfl,b5⟩;have V:=zh b5;clear b5
 go_wp2_with fail
 refine (ymade_calls w1 (HM.out.below V.out) b1.out b2.out).mono ?_;rintro e w2 ⟨v',z,rfl,b6,hz,a6⟩;obtain ⟨Af,cf,Au,cu,At,ct,rfl,-,-,-⟩:=hz.parts;have a8:Hid (zb w w2):=V.out.trans b6;have HZ:=zh hz;have G:=zh a6;have HC:Hid (AS z=0):=good_chk a6.good;clear b6 hz a6 V HM b2 b1 HV;go_upto_region 3 with fail;obtain ⟨L,q0,q1,q2,q3,q4,q5⟩:=box6 w2 (.int .i64 z.w) (.int .i64 z.h) (.int .i64 z.l) (.slice Af z.free.length cf) (.slice Au z.up.length cu) (.slice At z.tasks.length ct);generalize w2.alloc _=w3 at L q0 q1 q2 q3 q4 q5⊢;obtain ⟨gm,b9⟩:∃g,g=w2.heap.size:=⟨_,rfl⟩;rw [<-b9] at q0 q1 q2 q3 q4 q5⊢;have a9:Hid (zb w w3):=a8.out.trans L;have a2:=zh (HZ.out.below L);clear L b9 a8 HZ;have O:=Cp w3 a2.out G.out.lens;have Q:=whole_facts HC.out (by have:=G.out.tk;omega);have K:=makeP_lens G.out.lens;generalize zJ z=mp at O Q K;obtain ⟨er,pz⟩:=mp;dsimp only at O Q K;have J:=zh Q;have c9:=zh K;have d5:zb w3 w3:=zb.refl w3;clear Q K
 go_wp2_with fail
 refine O.mono ?_;rintro e w4 ⟨v4,rfl,b7,a7⟩;obtain ⟨As,cs,Ak,ck,rfl,-⟩:=a7.form;have b3:=zh a7;have U:=zh b7;clear O a7 b7 d5;go_upto_region 4 with fail;obtain ⟨L,p0,p1,p2⟩:=box3 w4 (.int .i64 pz.task) (.slice As pz.side.length cs) (.slice Ak pz.kids.length ck);generalize w4.alloc _=w5 at L p0 p1 p2⊢;obtain ⟨gp,c0⟩:∃g,g=w4.heap.size:=⟨_,rfl⟩;rw [<-c0] at p0 p1 p2⊢;have o:zb w3 w5:=U.out.trans L;have b0:Hid (zb w w5):=a9.out.trans o;have a3:=zh (a2.out.below o);have b4:=zh (b3.out.ext L);have q0:=fun W h=>q0 W (o.trans h)
 have q1:=fun W h=>q1 W (o.trans h)
 have q2:=fun W h=>q2 W (o.trans h)
 have q3:=fun W h=>q3 W (o.trans h)
 have q4:=fun W h=>q4 W (o.trans h)
 have q5:=fun W h=>q5 W (o.trans h)
 clear L c0 U b3 a2 a9 o;have M:=yfound_calls w5 a3.out G.out.lens HC.out;generalize zL z (endR z).ch=bo at M J;generalize (endR z).done=bd at M J;have d6:zb w5 w5:=zb.refl w5
 go_wp2_with fail
 refine M.mono ?_;rintro e w6 ⟨rfl,d⟩;have E:=zh (b0.out.trans d);have d4:=zh (a3.out.below d);have a1:=zh (b4.out.ext d);have q0:=fun W h=>q0 W (d.trans h)
 have q1:=fun W h=>q1 W (d.trans h)
 have q2:=fun W h=>q2 W (d.trans h)
 have q3:=fun W h=>q3 W (d.trans h)
 have q4:=fun W h=>q4 W (d.trans h)
 have q5:=fun W h=>q5 W (d.trans h)
 have p0:=fun W h=>p0 W (d.trans h)
 have p1:=fun W h=>p1 W (d.trans h)
 have p2:=fun W h=>p2 W (d.trans h)
 clear M d b0 a3 b4 d6;have e4:zb w6 w6:=zb.refl w6;rcases J.out with rfl | ⟨h0,h1⟩
 ·clear J
  go_wp2_with fail
  go_ret;exact ⟨rfl,E.out⟩
 ·clear J;rcases h1 with rfl | ⟨rfl,rfl,rfl,rfl⟩ | ⟨rfl,rfl,rfl,a5⟩
  ·rcases h0 with rfl | rfl
   ·go_wp2_with fail
    go_ret;exact ⟨rfl,E.out⟩
   ·go_wp2_with fail
    go_ret;exact ⟨rfl,E.out⟩
  ·clear h0;have D:=Cs w6 a1.out (by decide);rw [show ((PT.zero).size:Nat)=1 from rfl] at D
   go_wp2_with fail
   refine D.mono ?_;rintro e w7 ⟨rfl,B⟩;have a0:=zh (E.out.trans B);clear D B
   go_wp2_with fail
   go_ret;exact ⟨rfl,a0.out⟩
  ·clear h0;have I:=zh (checkP_size a5);have a4:=BG w6 d4.out G.out.lens a1.out c9.out (by have:=I.out;omega);rw [a5] at a4;clear a5
   go_wp2_with fail
   refine a4.mono ?_;rintro e w7 ⟨rfl,B⟩;have a0:=zh (E.out.trans B);have D:=Cs w7 (a1.out.ext B) (by have:=I.out;omega);have K:(pz.size:Int)<=3000:=by have:=I.out;omega
   clear a4
   go_wp2_with fail
   refine D.mono ?_;rintro e w8 ⟨rfl,b8⟩;have c8:=zh (a0.out.trans b8);clear D b8 B
   go_wp2_with fail
   go_ret;exact ⟨rfl,c8.out⟩
end
end Go.Proofs.YtnmkmhpgnpojbaaGreatDoor
