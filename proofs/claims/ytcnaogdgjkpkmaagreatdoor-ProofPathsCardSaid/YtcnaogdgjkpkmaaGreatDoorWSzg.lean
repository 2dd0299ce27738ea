import Derived.Test.YtcnaogdgjkpkmaaGreatDoorWSzf
import Derived.ProofKit
import Derived.OpenShut
import Derived.Stop.LaidErr
import Derived.Lib.LaidTab
set_option linter.unusedVariables false
set_option linter.unusedSimpArgs false
set_option maxRecDepth 100000
set_option maxHeartbeats 16000000
namespace Go.Proofs.YtcnaogdgjkpkmaaGreatDoor
variable {a:Addr} {ch s:List Int} {m:MZ} {v:Value} {W:World}
section
open Go.RowKit
attribute [local go_sem ↓] Go.wp_at_zero Go.wp_at_succ
theorem ymk1:(Bf (exM 6 8)).1=51:=by rw [make_x (Am.of (by decide +kernel)).dim];exact ym1
theorem ymk2:Bf (exM 4 8)=(0,yP):=by rw [make_x (Am.of (by decide +kernel)).dim];exact ym2
theorem ymk3:Bf (exM 1 7)=(0,Ch):=by rw [make_x (Am.of (by decide +kernel)).dim];exact ym3
theorem ysanity_calls (w:World) (hv:zJ w):Calls Tryz.prog 7 #[] w fun e w'=>e=.returned (.bool true)/\zc w w':=by
 have HV:=zh hv;clear hv
 go_enter Tryz.func7,Tryz.ntmps7
 go_wp2_with fail
 refine (AF 6 8 w).mono ?_;rintro e w1 ⟨v1,rfl,g3,h5⟩;have D:=By w1 h5 (CZ 6 8);rw [ymk1] at D;have L:=zh D;have d8:=zh g3;clear D h5 g3
 go_wp2_with fail
 refine L.out.mono ?_;rintro e w2 ⟨v2,rfl,g4,d6⟩;generalize (Bf (exM 6 8)).2=pz at d6;obtain ⟨As,cs,Ak,ck,rfl,-⟩:=d6.form;have d9:Hid (zc w w2):=d8.out.trans g4;clear g4 d6 L d8;go_upto_region 2 with fail;obtain ⟨E,-,-,-⟩:=box3 w2 (.int .i64 pz.task) (.slice As pz.side.length cs) (.slice Ak pz.kids.length ck);generalize w2.alloc _=w3 at E⊢;have e0:Hid (zc w w3):=d9.out.trans E;clear E d9
 go_wp2_with fail
 refine (AF 4 8 w3).mono ?_;rintro e w4 ⟨v4,rfl,g5,h6⟩;have D:=By w4 h6 (CZ 4 8);rw [ymk2] at D;have L:=zh D;have e1:Hid (zc w w4):=e0.out.trans g5;clear D h6 g5 e0
 go_wp2_with fail
 refine L.out.mono ?_;rintro e w5 ⟨v5,rfl,g6,h8⟩;obtain ⟨p,hp⟩:=EH yP;have b0:Ay w5 (fun b=>w4.heap.size<=b) v5 p:=by rw [hp];exact h8
 have HP:=zh hp;obtain ⟨As,cs,Ak,ck,rfl,-⟩:=b0.form;have e2:Hid (zc w w5):=e1.out.trans g6;have f2:=zh b0;clear g6 h8 b0 L e1 hp;go_upto_region 3 with fail;obtain ⟨E,p0,p1,p2⟩:=box3 w5 (.int .i64 p.task) (.slice As p.side.length cs) (.slice Ak p.kids.length ck);generalize w5.alloc _=w6 at E p0 p1 p2⊢;obtain ⟨gp,i1⟩:∃g,g=w5.heap.size:=⟨_,rfl⟩;rw [<-i1] at p0 p1 p2⊢;have e3:Hid (zc w w6):=e2.out.trans E;have f3:=zh (f2.out.ext E);clear E e2 i1 f2
 go_wp2_with fail
 refine (AF 1 7 w6).mono ?_;rintro e w7 ⟨v7,rfl,g7,h7⟩;have D:=By w7 h7 (CZ 1 7);rw [ymk3] at D;have L:=zh D;have e4:=zh g7;clear D h7 g7
 go_wp2_with fail
 refine L.out.mono ?_;rintro e w8 ⟨v8,rfl,g8,h9⟩;obtain ⟨q,hq⟩:=EH Ch;have b1:Ay w8 (fun b=>w7.heap.size<=b) v8 q:=by rw [hq];exact h9
 have M:=zh hq;obtain ⟨Bs,ds,Bk,dk,rfl,-⟩:=b1.form;have e5:Hid (zc w6 w8):=e4.out.trans g8;have f5:=zh b1;clear g8 h9 b1 L e4 hq;go_upto_region 4 with fail;obtain ⟨E,q0,q1,q2⟩:=box3 w8 (.int .i64 q.task) (.slice Bs q.side.length ds) (.slice Bk q.kids.length dk);generalize w8.alloc _=w9 at E q0 q1 q2⊢;obtain ⟨gq,i2⟩:∃g,g=w8.heap.size:=⟨_,rfl⟩;rw [<-i2] at q0 q1 q2⊢;have G:=zh (e5.out.trans E);have e6:Hid (zc w w9):=e3.out.trans G.out;have a6:=zh (f3.out.ext G.out);have f6:=zh (f5.out.ext E);have p0:=fun W h=>p0 W (G.out.trans h)
 have p1:=fun W h=>p1 W (G.out.trans h)
 have p2:=fun W h=>p2 W (G.out.trans h)
 clear E G e3 e5 f3 f5 i2
 have b8:=zh (show ∀W,zc w9 W->Calls Tryz.prog 17 #[.agg #[.int .i64 p.task,.slice As p.side.length cs,.slice Ak p.kids.length ck],.agg #[.int .i64 1,.slice none 0 0,.slice none 0 0]] W fun e w'=>e=.returned (.bool true)/\zc W w' from fun W hW=>by
  have h:=CE 1000 W (a6.out.ext hW) (Ay.leaf W (fun _=>True) 1) (by rw [HP.out];decide) (by rw [HP.out];exact yl0) yl0;rw [HP.out,show BO yP (.node 1 [] [])=true from ysp] at h;rw [HP.out];exact h)
 have I:=zh (show ∀W (ok:Nat->Prop) v,zc w9 W->zM W ok v (exM 4 8)->Calls Tryz.prog 12 #[v,.agg #[.int .i64 p.task,.slice As p.side.length cs,.slice Ak p.kids.length ck]] W fun e w'=>e=.returned (.bool true)/\zc W w' from fun W ok v hW hM=>by
  have h:=Bl W hM (CZ 4 8) (a6.out.ext hW) (by rw [HP.out];exact yl0) (by rw [HP.out];decide);rw [show Ar (exM 4 8) p=true by rw [HP.out];exact yk1] at h;exact h)
 have J:=zh (show ∀W (ok:Nat->Prop) v,zc w9 W->zM W ok v (exM 6 8)->Calls Tryz.prog 12 #[v,.agg #[.int .i64 p.task,.slice As p.side.length cs,.slice Ak p.kids.length ck]] W fun e w'=>e=.returned (.bool false)/\zc W w' from fun W ok v hW hM=>by
  have h:=Bl W hM (CZ 6 8) (a6.out.ext hW) (by rw [HP.out];exact yl0) (by rw [HP.out];decide);rw [show Ar (exM 6 8) p=false by rw [HP.out];exact yk2] at h;exact h)
 have b5:zc w9 w9:=zc.refl w9;refine DT (S:=(fun W=>zc w9 W)) zN (b5.drew) fun zH=>?_;have a2:zc w9 w9.drew:=zH;generalize w9.drew=wd at zH a2⊢;refine ze 0 zH ?_;refine ze 1 zH ?_;simp only [za,Dz];refine ze 2 zH ?_;refine ze 3 zH ?_;simp only [za,Dz];refine ze 4 zH ?_;refine ze 5 zH ?_;simp only [za,Dz];refine ze 6 zH ?_;refine ze 7 zH ?_;simp only [za,Dz];refine ze 8 zH ?_;simp only [za,Dz];refine zC 9 fun K o=>?_;go_simp;go_at_call 17;refine (b8.out _ zH).mono ?_;rintro e wa ⟨rfl,Q⟩;go_simp;refine EI o (zH.trans Q) fun zH=>?_;clear o K;try simp only [za,Dz]
 refine ze 10 zH ?_;refine ze 11 zH ?_;simp only [za,Dz];refine ze 13 zH ?_;simp only [za,Dz];refine zC 12 fun K o=>?_;go_simp;go_at_call 26;refine (AF 4 8 _).mono ?_;rintro e wb ⟨vb,rfl,U,a8⟩;go_simp;refine EI o (zH.trans U) fun zH=>?_;clear o K;try simp only [za,Dz]
 refine zC 14 fun K o=>?_;go_simp;go_at_call 12;refine (I.out _ _ _ zH a8).mono ?_;rintro e wc ⟨rfl,V⟩;go_simp;refine EI o (zH.trans V) fun zH=>?_;clear o K;try simp only [za,Dz]
 refine ze 15 zH ?_;refine ze 16 zH ?_;simp only [za,Dz];refine ze 18 zH ?_;simp only [za,Dz];refine zC 17 fun K o=>?_;go_simp;go_at_call 26;refine (AF 6 8 _).mono ?_;rintro e wd' ⟨vd,rfl,a0,a9⟩;go_simp;refine EI o (zH.trans a0) fun zH=>?_;clear o K;try simp only [za,Dz]
 refine zC 19 fun K o=>?_;go_simp;go_at_call 12;refine (J.out _ _ _ zH a9).mono ?_;rintro e we ⟨rfl,a1⟩;go_simp;refine EI o (zH.trans a1) fun zH=>?_;clear o K;try simp only [za,Dz]
 refine ze 20 zH ?_;refine ze 21 zH ?_;simp only [za,Dz];refine ze 22 zH ?_;simp only [za,Dz];refine Eg (by kernel_rfl) ?_ _;have d:zc w9 we:=((((a2.trans Q).trans U).trans V).trans a0).trans a1;have p0:=fun W h=>p0 W (d.trans h)
 have p1:=fun W h=>p1 W (d.trans h)
 have p2:=fun W h=>p2 W (d.trans h)
 have q0:=fun W h=>q0 W (d.trans h)
 have q1:=fun W h=>q1 W (d.trans h)
 have q2:=fun W h=>q2 W (d.trans h)
 have a5:Hid (zc w we):=e6.out.trans d;have f4:=zh (a6.out.ext d);have c7:=zh (f6.out.ext d);clear b8 I J d a2 Q U a8 V a0 a9 a1 b5 a6 f6 e6;go_upto_region 7 with fail;refine fin_wp we [_,_,_,_,_,_,_] fun wf B hB=>?_
 have HW:Hid (Ay wf (fun b=>we.heap.size<=b) (.agg #[.int .i64 0,.slice none 0 0,.slice (some ⟨we.heap.size+5,0,none⟩) 1 1]) Ch):=ywant_mem (hB 0 _ rfl) (hB 1 _ rfl) (hB 2 _ rfl) (hB 4 _ rfl) (hB 5 _ rfl);have b2:zj wf (we.heap.size+6) 27 #[.int .i64 0,.slice none 0 0,.slice (some ⟨we.heap.size+5,0,none⟩) 1 1]:=hB 6 _ rfl;obtain ⟨gw,i3⟩:∃g,g=we.heap.size+6:=⟨_,rfl⟩;have c6:we.heap.size+1+1+1+1+1+1=gw:=by omega
 rw [c6];rw [<-i3] at b2;have z0:=zc.rule (b2.cell (k:=0) rfl);have z1:=zc.rule (b2.cell (k:=1) rfl);have z2:=zc.rule (b2.cell (k:=2) rfl);obtain ⟨gy,i4⟩:∃g,g=we.heap.size+5:=⟨_,rfl⟩;rw [<-i4] at HW z1 z2 z0;clear b2 hB i3 c6 i4;have b6:Hid (zc w wf):=a5.out.trans B;have j6:zc wf wf:=zc.refl wf;have c0:=enc_calls 1000 wf (HV.out.ext b6.out) (c7.out.ext B) (by rw [M.out];decide) (by rw [M.out];exact yok) (by rw [M.out];have:=yel;omega)
 go_wp2_with fail
 refine c0.mono ?_;rintro e wg ⟨rfl,c9⟩;obtain ⟨str,b4⟩:=EH (encP q);rw [<-b4];have a7:=zh b4;have e7:Hid (zc w wg):=b6.out.trans c9;have O:=dec_calls (l:=str) wg (HV.out.ext e7.out);rw [show decR str=(0,q) by rw [a7.out,M.out];exact yd1] at O;have a4:=zh O;have e8:Hid (zc wf wg):=c9;clear c0 c9 b4 O j6
 go_wp2_with fail
 refine a4.out.mono ?_;rintro e wh ⟨vg,rfl,g9,hG⟩;have hG:Ay wh (fun b=>wg.heap.size<=b) vg q:=hG;obtain ⟨Gs,fs,Gk,fk,rfl,-⟩:=hG.form;have e9:Hid (zc wf wh):=e8.out.trans g9;have f0:=zh hG;clear g9 hG a4;go_upto_region 9 with fail;obtain ⟨E,g0,g1,g2⟩:=box3 wh (.int .i64 q.task) (.slice Gs q.side.length fs) (.slice Gk q.kids.length fk);generalize wh.alloc _=wi at E g0 g1 g2⊢;obtain ⟨gg,i0⟩:∃g,g=wh.heap.size:=⟨_,rfl⟩;rw [<-i0] at g0 g1 g2⊢;have r:zc wf wi:=e9.out.trans E;have p0:=fun W h=>p0 W ((B.trans r).trans h)
 have p1:=fun W h=>p1 W ((B.trans r).trans h)
 have p2:=fun W h=>p2 W ((B.trans r).trans h)
 have q0:=fun W h=>q0 W ((B.trans r).trans h)
 have q1:=fun W h=>q1 W ((B.trans r).trans h)
 have q2:=fun W h=>q2 W ((B.trans r).trans h)
 have z0:=fun W h=>z0 W (r.trans h)
 have z1:=fun W h=>z1 W (r.trans h)
 have z2:=fun W h=>z2 W (r.trans h)
 have i6:Hid (zc w wi):=b6.out.trans r;have j1:=zh (f4.out.ext (B.trans r));have b7:=zh (c7.out.ext (B.trans r));have j4:=zh (HW.out.ext r);have i9:=zh (f0.out.ext E);clear r E B e9 e8 b6 a5 e7 f4 c7 HW f0 i0
 have f8:=zh (show ∀W,zc wi W->Calls Tryz.prog 17 #[.agg #[.int .i64 q.task,.slice Bs q.side.length ds,.slice Bk q.kids.length dk],.agg #[.int .i64 0,.slice none 0 0,.slice (some ⟨gy,0,none⟩) 1 1]] W fun e w'=>e=.returned (.bool true)/\zc W w' from fun W hW=>by
  have h:=CE 1000 W (b7.out.ext hW) (j4.out.ext hW) (by rw [M.out];decide) (by rw [M.out];exact yl1) yl1;rw [show BO q Ch=true by rw [M.out];exact Dc _] at h;exact h)
 have f7:=zh (show ∀W,zc wi W->Calls Tryz.prog 17 #[.agg #[.int .i64 q.task,.slice Gs q.side.length fs,.slice Gk q.kids.length fk],.agg #[.int .i64 q.task,.slice Bs q.side.length ds,.slice Bk q.kids.length dk]] W fun e w'=>e=.returned (.bool true)/\zc W w' from fun W hW=>by
  have h:=CE 1000 W (i9.out.ext hW) (b7.out.ext hW) (by rw [M.out];decide) (by rw [M.out];exact yl1) (by rw [M.out];exact yl1);rw [Dc] at h;exact h)
 have I:=zh (show ∀W (ok:Nat->Prop) v,zc wi W->zM W ok v (exM 1 7)->Calls Tryz.prog 12 #[v,.agg #[.int .i64 q.task,.slice Bs q.side.length ds,.slice Bk q.kids.length dk]] W fun e w'=>e=.returned (.bool true)/\zc W w' from fun W ok v hW hM=>by
  have h:=Bl W hM (CZ 1 7) (b7.out.ext hW) (by rw [M.out];exact yl1) (by rw [M.out];decide);rw [show Ar (exM 1 7) q=true by rw [M.out];exact yk3] at h;exact h)
 have J:=zh (show ∀W (ok:Nat->Prop) v,zc wi W->zM W ok v (exM 1 7)->Calls Tryz.prog 12 #[v,.agg #[.int .i64 p.task,.slice As p.side.length cs,.slice Ak p.kids.length ck]] W fun e w'=>e=.returned (.bool false)/\zc W w' from fun W ok v hW hM=>by
  have h:=Bl W hM (CZ 1 7) (j1.out.ext hW) (by rw [HP.out];exact yl0) (by rw [HP.out];decide);rw [show Ar (exM 1 7) p=false by rw [HP.out];exact yk4] at h;exact h)
 have f9:=zh (show ∀W,zc wi W->Calls Tryz.prog 27 #[.agg #[.int .i64 q.task,.slice Bs q.side.length ds,.slice Bk q.kids.length dk]] W fun e w'=>e=.returned (.int .i64 6)/\zc W w' from fun W hW=>by
  have h:=psize_calls W (b7.out.ext hW) (by rw [M.out];decide);rw [show q.size=6 by rw [M.out];exact yz] at h;exact h)
 have b5:zc wi wi:=zc.refl wi;refine DT (S:=(fun W=>zc wi W)) zN (b5.drew) fun zH=>?_;have a2:zc wi wi.drew:=zH;generalize wi.drew=wd at zH a2⊢;refine ze 0 zH ?_;refine ze 1 zH ?_;simp only [za,Dz];refine ze 2 zH ?_;refine ze 3 zH ?_;simp only [za,Dz];refine ze 4 zH ?_;simp only [za,Dz];refine zC 5 fun K o=>?_;go_simp;go_at_call 17;refine (f8.out _ zH).mono ?_;rintro e wa ⟨rfl,Q⟩;go_simp;refine EI o (zH.trans Q) fun zH=>?_;clear o K;try simp only [za,Dz]
 refine ze 6 zH ?_;refine ze 7 zH ?_;simp only [za,Dz];refine ze 9 zH ?_;simp only [za,Dz];refine zC 8 fun K o=>?_;go_simp;go_at_call 26;refine (AF 1 7 _).mono ?_;rintro e wb ⟨vb,rfl,U,a8⟩;go_simp;refine EI o (zH.trans U) fun zH=>?_;clear o K;try simp only [za,Dz]
 refine zC 10 fun K o=>?_;go_simp;go_at_call 12;refine (I.out _ _ _ zH a8).mono ?_;rintro e wc ⟨rfl,V⟩;go_simp;refine EI o (zH.trans V) fun zH=>?_;clear o K;try simp only [za,Dz]
 refine ze 11 zH ?_;refine ze 12 zH ?_;simp only [za,Dz];refine ze 14 zH ?_;simp only [za,Dz];refine zC 13 fun K o=>?_;go_simp;go_at_call 26;refine (AF 1 7 _).mono ?_;rintro e wd' ⟨vd,rfl,a0,a9⟩;go_simp;refine EI o (zH.trans a0) fun zH=>?_;clear o K;try simp only [za,Dz]
 refine zC 15 fun K o=>?_;go_simp;go_at_call 12;refine (J.out _ _ _ zH a9).mono ?_;rintro e we ⟨rfl,a1⟩;go_simp;refine EI o (zH.trans a1) fun zH=>?_;clear o K;try simp only [za,Dz]
 refine ze 16 zH ?_;refine ze 17 zH ?_;simp only [za,Dz];refine ze 18 zH ?_;refine ze 19 zH ?_;simp only [za,Dz];refine zC 20 fun K o=>?_;go_simp;go_at_call 27;refine (f9.out _ zH).mono ?_;rintro e wo ⟨rfl,d4⟩;go_simp;refine EI o (zH.trans d4) fun zH=>?_;clear o K;try simp only [za,Dz]
 refine ze 21 zH ?_;refine ze 22 zH ?_;simp only [za,Dz];refine ze 23 zH ?_;simp only [za,Dz];refine Eg (by kernel_rfl) ?_ _;have d:zc wi wo:=(((((a2.trans Q).trans U).trans V).trans a0).trans a1).trans d4;have g0:=fun W h=>g0 W (d.trans h)
 have g1:=fun W h=>g1 W (d.trans h)
 have g2:=fun W h=>g2 W (d.trans h)
 have q0:=fun W h=>q0 W (d.trans h)
 have q1:=fun W h=>q1 W (d.trans h)
 have q2:=fun W h=>q2 W (d.trans h)
 have a5:Hid (zc w wo):=i6.out.trans d;have j0:=zh d;clear f8 I J f9 a2 Q U a8 V a0 a9 a1 d4 b5 p0 p1 p2 z0 z1 z2;obtain ⟨st2,b3⟩:=EH (str++[120])
 have ha:∀w,(Op.stringOp .add ⟨str.toArray⟩ ⟨#[120]⟩).run Tryz.prog w=.ok (.string ⟨st2.toArray⟩) w:=fun w=>by
  rw [b3];exact add_str (y:=[120]) (by have h1:=yel;rw [<-M.out,<-a7.out] at h1;simp;omega)
 have O:=dec_calls (l:=st2) wo (HV.out.ext a5.out);rw [show (decR st2).1=4 by rw [b3,a7.out,M.out];exact yd2] at O;generalize (decR st2).2=pd at O;have a4:=zh O;have j7:zc wo wo:=zc.refl wo;clear O b3
 go_wp2_with fail
 refine a4.out.mono ?_;rintro e wp ⟨vp,rfl,h3,hp⟩;obtain ⟨Ds,es,Dk,ek,rfl,-⟩:=hp.form;have f1:=zh h3;clear h3 hp a4 ha j7;go_upto_region 11 with fail;obtain ⟨E,-,-,-⟩:=box3 wp (.int .i64 pd.task) (.slice Ds pd.side.length es) (.slice Dk pd.kids.length ek);generalize wp.alloc _=wq at E⊢;have d7:zc wo wq:=f1.out.trans E;have i7:Hid (zc w wq):=a5.out.trans d7;have i5:=f7.out wq (j0.out.trans d7);have b9:=zh i5;clear i5 f7 E f1
 go_wp2_with fail
 refine b9.out.mono ?_;rintro e wr ⟨rfl,h4⟩;have i8:Hid (zc w wr):=i7.out.trans h4;clear h4 d7 b9
 go_wp2_with fail
 go_ret;exact ⟨rfl,i8.out⟩
end
section
open Go.RowKit
theorem psOf_more {m:MZ}:∀(r ch:List Int) (qs:List (List Int)) (a:List Int),Ad m ch=qs++[a]->∃x more,Ad m (ch++r)=qs++(a++x) :: more
 | [],ch,qs,a,h=>⟨[],[],by simpa using h⟩
 | n :: r,ch,qs,a,h=>by
  have e:Ad m (ch++[n])=qs++[a++[n]]\/Ad m (ch++[n])=(qs++[a++[n]])++[[]]:=by
   rw [CR,h];unfold AY;rw [addN_snoc]
   split
   ·exact .inr rfl
   ·exact .inl rfl
  have e2:ch++n :: r=(ch++[n])++r:=by simp
  rw [e2];rcases e with e | e
  ·obtain ⟨x,more,h1⟩:=psOf_more r _ _ _ e;exact ⟨n :: x,more,by rw [h1];simp⟩
  ·obtain ⟨x,more,h1⟩:=psOf_more r _ _ _ e;exact ⟨[n],x :: more,by rw [h1];simp⟩
theorem incB_range {N:Int}:∀{l:List Int} {b:Int},incB N b l=true->∀x∈l,b<x/\x<N
 | [],_,_,x,hx=>by cases hx
 | y :: l,b,h,x,hx=>by
  unfold incB at h;rw [DO,DO,DM,DM] at h;rcases Ep.1 hx with rfl | hx
  ·exact ⟨h.1,h.2.1⟩
  ·have:=incB_range h.2.2 x hx;exact ⟨by omega,this.2⟩
theorem walk_in {m:MZ} {t:Nat} {s ch p:List Int} (o:PathR m t p) (E:∀n∈s,∀k∈zu m n,zl m t k=true->k∉ch->k∈s) {i:Nat} {x:Int} (G:p[i]?=some x) (D:x∈s) (B:∀l y,i<l->p[l]?=some y->y∉ch):∀(j:Nat) (y:Int),p[i+j]?=some y->y∈s
 | 0,y,d=>by
  rw [Nat.add_zero,G] at d;injection d with d;subst d;exact D
 | j+1,y,d=>by
  cases r:p[i+j]? with
  | none=>
   rw [List.getElem?_eq_none_iff] at r;rw [DW (by omega)] at d;cases d
  | some z=>
   have h1:=walk_in o E G D B j z r;exact E z h1 y (o.nb _ _ _ r d) (o.fr y (List.mem_of_getElem? d)) (B _ y (by omega) d)
theorem walk_end {t:Nat} {p:List Int} (D:PathR m t p) (hF:FinP m t p) (I:∀n∈s,∀k∈zu m n,zl m t k=true->k∉ch->k∈s) (d:∀n∈s,n∉(m.tasks.getD t ([],[])).2) {i:Nat} {x:Int} (r:p[i]?=some x) (G:x∈s) (E:∀l y,i<l->p[l]?=some y->y∉ch):False:=by
 obtain ⟨z,B,o⟩:=hF;have J:i<p.length:=(List.getElem?_eq_some_iff.1 r).1;rw [List.getLast?_eq_getElem?] at B;have:=walk_in D I r G E (p.length - 1 - i) z (by rw [show i+(p.length - 1 - i)=p.length - 1 by omega];exact B);exact d z this o
theorem cut_sound {r:List Int} {t:Int} {nk:Nat} (hc:Br m=0) (hi:zw m ch) (h:cutB m ch t s nk=true) (J:zw m (ch++r)) (a4:AR m (ch++r)=true):False:=by
 have g:=Am.of hc;unfold cutB at h
 split at h
 ·cases h
 ·rename_i E
  have a5:¬ t<zS m ch:=fun h=>E (.inl h)
  have b8:¬ (m.tasks.length:Int)<=t:=fun h=>E (.inr (.inl h))
  clear E;rcases cur_of hc hi with ⟨-,h4⟩ | ⟨-,qs,a,M⟩
  ·omega
  ·rw [M.cur] at a5;obtain ⟨k,rfl⟩:∃k:Nat,t=(k:Int):=⟨t.toNat,by omega⟩;rw [Int.toNat_natCast] at h;simp only [DO,Bool.not_eq_true',ED,List.any_eq_false,DM] at h;obtain ⟨V,a8,I,L⟩:=h;obtain ⟨x,more,e⟩:=psOf_more r ch qs a M.ps;obtain ⟨hl,O⟩:=J.all a4;have hnd:=(J.range g).2;have Q:=J.psOk.fl;have U:=hi.psOk.fl;rw [M.ps] at U;rw [e] at Q
   have hr:x++more.flatten=r:=by
    have h1:ch++(x++more.flatten)=ch++r:=by
     rw [<-Q,<-U];simp
    exact List.append_cancel_left h1
   have d:∀y∈r,y∉ch:=fun y hy b1=>(List.nodup_append.1 hnd).2.2 y b1 y hy rfl
   have hw:∀n∈s,∀j∈zu m n,zl m k j=true->j∉ch->j∈s:=fun n E j hj hf hu=>by
    unfold wallB at L;rw [ED] at L;have h1:=L n E;rw [ED] at h1;have a7:=incB_range V n E;have h2:=h1 j (by unfold BN;rw [if_pos ⟨hc,by omega,a7.2⟩];exact hj);rw [hf,DG hu] at h2;simpa using h2
   have o:∀n∈s,n∉(m.tasks.getD k ([],[])).2:=fun n E=>a8 n E
   have K:k<(Ad m (ch++r)).length:=by omega
   obtain ⟨B,hF⟩:=O k _ (DA K);by_cases hk:k=qs.length
   ·subst hk
    have ep:(Ad m (ch++r))[qs.length]=a++x:=by
     have:(Ad m (ch++r))[qs.length]?=some (a++x):=by rw [e,DI (DC _),Nat.sub_self];rfl
     rw [DA K] at this;injection this
    rw [ep] at B hF;by_cases ha:a=[]
    ·subst ha;rw [List.nil_append] at B hF;have a6:=ne_of_fin hF
     cases x with
     | nil=>exact a6 rfl
     | cons y x=>
      have hy:y∈r:=by rw [<-hr];simp
      have h1:y∈AH m ch qs.length:=by
       unfold AH;rw [M.pp,if_pos rfl,if_neg (by omega),Ex,B.fr y (En ..),DG (d y hy)];exact ⟨B.hd y rfl,rfl⟩
      exact walk_end B hF hw o (i:=0) rfl (I y h1) (fun l z _ G=>d z (by rw [<-hr];exact List.mem_append_left _ (List.mem_of_getElem? G)))
    ·cases D:a.getLast? with
     | none=>exact absurd (List.getLast?_eq_none_iff.1 D) ha
     | some y=>
      have h1:y∈AH m ch qs.length:=by
       unfold AH;rw [M.pp,if_neg ha,if_pos (by simp),DB,DI (DC _)];simp [D]
      have b3:=List.length_pos_iff.2 ha;rw [List.getLast?_eq_getElem?] at D;refine walk_end B hF hw o (i:=a.length - 1) (x:=y) (by rw [DH (by omega)];exact D) (I y h1) fun l z b7 G=>?_;rw [DI (by omega)] at G;exact d z (by rw [<-hr];exact List.mem_append_left _ (List.mem_of_getElem? G))
   ·have b6:qs.length<k:=by omega
    have hm:(Ad m (ch++r))[k]∈more:=by
     have h1:(Ad m (ch++r))[k]?=more[k - qs.length - 1]?:=by
      rw [e,DI (by omega),show k - qs.length=(k - qs.length - 1)+1 by omega,List.getElem?_cons_succ];rfl
     rw [DA K] at h1;exact List.mem_of_getElem? h1.symm
    generalize (Ad m (ch++r))[k]=p at B hF hm;have a0:∀z∈p,z∈r:=fun z G=>by rw [<-hr];exact List.mem_append_right _ (List.mem_flatten.2 ⟨p,hm,G⟩)
    cases p with
    | nil=>exact ne_of_fin hF rfl
    | cons y p=>
     have h1:y∈AH m ch k:=by
      unfold AH;rw [M.pp,if_neg (by split <;> simp <;> omega),Ex,B.fr y (En ..),DG (d y (a0 y (En ..)))];exact ⟨B.hd y rfl,rfl⟩
     exact walk_end B hF hw o (i:=0) rfl (I y h1) (fun l z _ G=>d z (a0 z (List.mem_of_getElem? G)))
mutual
theorem holdsT_sound {m:MZ} (B:Br m=0):∀(p:PT) (ch r:List Int),zw m ch->AP m p ch=true->zw m (ch++r)->AR m (ch++r)=true->False
 | .node t s ks,ch,r,D,h,o,d=>by
  unfold AP at h
  split at h
  ·cases h
  ·rename_i h1
   split at h
   ·exact cut_sound B D h o d
   ·cases r with
    | nil=>
     rw [List.append_nil] at d;rcases cur_of B D with ⟨-,E⟩ | ⟨E,-⟩
     ·omega
     ·rw [E] at d;cases d
    | cons n r=>
     have G:n∈Bc m ch:=by
      have h2:=o.at (k:=ch.length) (by simp);rw [List.getElem_append_right (DC _),List.take_append_of_le_length (DC _),DN] at h2;simpa using h2
     have e:zT m ch=Bc m ch:=by unfold zT;rw [if_pos (okC_of B D)]
     rw [e] at h;have e2:ch++n :: r=(ch++[n])++r:=by simp
     rw [e2] at o d;exact holdsL_sound B ks ch (Bc m ch) n r h G (.snoc D G) o d
theorem holdsL_sound {m:MZ} (B:Br m=0):∀(ks:List PT) (ch l:List Int) (n:Int) (r:List Int),AI m ks ch l=true->n∈l->zw m (ch++[n])->zw m ((ch++[n])++r)->AR m ((ch++[n])++r)=true->False
 | [],ch,l,n,r,h,hn,_,_,_=>by
  cases l with
  | nil=>cases hn
  | cons x l=>unfold AI at h;cases h
 | k :: ks,ch,l,n,r,h,hn,D,o,d=>by
  cases l with
  | nil=>cases hn
  | cons x l=>
   unfold AI at h;rw [DO] at h;rcases Ep.1 hn with rfl | hn
   ·exact holdsT_sound B k (ch++[n]) r D h.1 o d
   ·exact holdsL_sound B ks ch l n r h.2 hn D o d
end
theorem checkP_sound {p:PT} {c:List Int} (h:Ar m p=true) (o:zw m c):AR m c=false:=by
 unfold Ar at h;rw [DO,DO,DO,DM] at h
 cases d:AR m c with
 | false=>rfl
 | true=>exact (holdsT_sound h.1 p [] c .nil h.2.2.2 (by simpa using o) (by simpa using d)).elim
end
section
open Go.ChangeShapes Go.WideShapes Go.ChangeAt Go.RowKit
theorem spot_none {w:World} (h:w.cell? a=some v):a.spot=none:=by
 unfold World.cell? at h
 split at h
 ·split at h
  ·cases h
  ·rename_i h1
   cases d:a.spot
   ·rfl
   ·rw [d] at h1;simp at h1
 ·cases h
theorem addr_at (h:a.spot=none) (n:Nat):a.add n=⟨a.block,a.off+n,none⟩:=by
 obtain ⟨b,o,s⟩:=a;simp only at h;subst h;unfold Addr.add
 split
 ·rename_i h0;subst h0;rfl
 ·rfl
theorem chooseList {β:Type} {p:Nat->β->Prop}:∀(n:Nat),(∀i,i<n->∃b,p i b)->∃l:List β,l.length=n/\∀i b,l[i]?=some b->p i b
 | 0,_=>⟨[],rfl,fun i b h=>by simp at h⟩
 | n+1,h=>by
  obtain ⟨l,r,h1⟩:=chooseList n (fun i hi=>h i (by omega));obtain ⟨b,B⟩:=h n (by omega);refine ⟨l++[b],by simp [r],fun i x d=>?_⟩;rcases DZ i l.length with hi | hi
  ·rw [DH hi] at d;exact h1 i x d
  ·have o:i=l.length:=by
    rcases DZ i (l++[b]).length with h2 | h2
    ·simp at h2;omega
    ·rw [DW h2] at d;cases d
   subst o;rw [DI (DC _),Nat.sub_self] at d;have:b=x:=by simpa using d
   subst this;rw [r];exact B
section
variable {H:Type} {enc:TypeId×Value->H} {w:World} {base:Nat} {held:Bool} {fuel:Nat} {cs:List Value} {x:DataW H×List MemPlace}
theorem sliceOpen {t e:TypeId} {sz:Nat} (ht:Tryz.prog.underlying t=some (.slice e)) (K:Tryz.prog.cellsOf e=sz) (h0:0<sz) (h:DataW.trod enc Tryz.prog w base (fun _=>true) held fuel t cs=some x):
  ∃A len c,cs=[.slice A len c]/\len<=c/\len<=9223372036854775807/\(0<len->∃b off,A=some ⟨b,off,none⟩/\∀i,i<len->∃(cl:List Value) (n:Nat) (y:DataW H×List MemPlace),cl.length=sz/\(∀j,j<sz->w.cell? ⟨b,off+(i*sz+j),none⟩=cl[j]?)/\DataW.trod enc Tryz.prog w base (fun _=>true) held n e cl=some y):=by
 rcases DataW.trod_slice ht h with ⟨rfl,_⟩ | ⟨a,len,cap,elems,rest,n,_,rfl,_,U,Q,hm,M,G,_,_⟩
 ·exact ⟨none,0,0,rfl,DC _,by decide,fun h=>by omega⟩
 ·refine ⟨some a,len,cap,rfl,Q,by unfold maxLen at hm;omega,fun r=>?_⟩
  have each:∀i,i<len->∃(cl:List Value) (y:DataW H×List MemPlace),w.cells? base (a.add (i*sz)) sz=some cl/\DataW.trod enc Tryz.prog w base (fun _=>true) held n e cl=some y:=fun i I=>by
   have h1:=G i I;rw [K,DA (by omega)] at h1;obtain ⟨cl,h2,B⟩:=Option.bind_eq_some_iff.1 h1;exact ⟨cl,_,h2,B⟩
  have J:a.spot=none:=by
   obtain ⟨cl,y,h2,_⟩:=each 0 r;obtain ⟨_,L,D⟩:=World.cells?_some h2;have d:=D 0 h0;rw [DA (by omega)] at d;have E:=spot_none d;rw [Nat.zero_mul] at E;unfold Addr.add at E
   rwa [if_pos rfl,if_pos rfl] at E
  refine ⟨a.block,a.off,?_,fun i I=>?_⟩
  ·obtain ⟨b,o,s⟩:=a;simp only at J;subst J;rfl
  ·obtain ⟨cl,y,h2,B⟩:=each i I;obtain ⟨_,L,D⟩:=World.cells?_some h2;refine ⟨cl,n,y,L,fun j O=>?_,B⟩;have d:=D j O;rw [addr_at J,addr_at rfl] at d;rw [<-Nat.add_assoc];exact d
theorem eachOpen {α:Type} {R:Value->α->Prop} {t e:TypeId} (ht:Tryz.prog.underlying t=some (.slice e)) (J:Tryz.prog.cellsOf e=1)
  (M:∀n cl y,DataW.trod enc Tryz.prog w base (fun _=>true) held n e cl=some y->∃v a,cl=[v]/\R v a) (h:DataW.trod enc Tryz.prog w base (fun _=>true) held fuel t cs=some x):
  ∃v l,cs=[v]/\Each R w (fun _=>True) v l/\l.length<=9223372036854775807/\∀a∈l,∃u,R u a:=by
 obtain ⟨A,len,c,rfl,o,I,d⟩:=sliceOpen ht J (by omega) h;rcases Em len with rfl | hpos
 ·exact ⟨_,[],rfl,⟨[],⟨A,c,rfl,o,AG.nil _ _ _ _⟩,fun i y r=>by simp at r⟩,by simp,fun a B=>by cases B⟩
 ·obtain ⟨b,off,rfl,D⟩:=d hpos;clear d
  obtain ⟨l,G,hp⟩:=chooseList (β:=Value×α) (p:=fun i va=>w.cell? ⟨b,off+i,none⟩=some va.1/\R va.1 va.2) len (fun i E=>by
   obtain ⟨cl,n,y,h1,h2,L⟩:=D i E;obtain ⟨v,a,rfl,O⟩:=M n cl y L;have:=h2 0 (by omega);rw [Nat.mul_one,Nat.add_zero] at this;exact ⟨(v,a),this,O⟩)
  refine ⟨_,l.map (·.2),rfl,⟨l.map (·.1),⟨_,c,by rw [El,G],by rw [El,G];exact o,by simp,fun _=>⟨b,off,rfl,trivial,fun j u K=>?_⟩⟩,fun i y r=>?_⟩,by rw [El,G];exact I,fun a B=>?_⟩
  ·rw [Ek] at K;obtain ⟨va,h1,rfl⟩:=Option.map_eq_some_iff.1 K;exact (hp j va h1).1
  ·rw [Ek] at r;obtain ⟨va,h1,rfl⟩:=Option.map_eq_some_iff.1 r;exact ⟨va.1,by rw [Ek,h1];rfl,(hp i va h1).2⟩
  ·obtain ⟨va,h1,rfl⟩:=Ey.1 B;obtain ⟨i,E,rfl⟩:=Ei h1;exact ⟨_,(hp i _ (DA E)).2⟩
theorem row_of_each {α:Type} {f:α->Value} {l:List α} (h:Each (fun u a=>u=f a) w (fun _=>True) v l):An w (fun _=>True) 1 v l.length (l.map f):=by
 obtain ⟨vs,o,he⟩:=h
 have:vs=l.map f:=by
  have d:=o;obtain ⟨A,c,_,_,hA⟩:=d;have B:vs.length=l.length:=by have:=hA.1;omega
  refine List.ext_getElem? fun i=>?_
  rcases DZ i l.length with hi | hi
  ·obtain ⟨u,r,o⟩:=he i _ (DA hi);rw [r,Ek,DA hi,o];rfl
  ·rw [DW (by omega),DW (by simp;omega)]
 rw [<-this];exact o
theorem intsOpen (h:DataW.trod enc Tryz.prog w base (fun _=>true) held fuel 24 cs=some x):∃v l,cs=[v]/\zn w (fun _=>True) v l/\l.length<=9223372036854775807:=by
 obtain ⟨v,l,rfl,he,d,_⟩:=eachOpen (R:=fun u a=>u=Value.int .i64 a) Tryz.underlying24 (by kernel_rfl) (fun n cl y o=>by
  obtain ⟨k,rfl,_,_⟩:=DataW.trod_int Tryz.underlying3 o;exact ⟨_,k,rfl,rfl⟩) h
 exact ⟨v,l,rfl,row_of_each he,d⟩
theorem intssOpen (h:DataW.trod enc Tryz.prog w base (fun _=>true) held fuel 22 cs=some x):∃v l,cs=[v]/\Ai w (fun _=>True) v l/\l.length<=9223372036854775807/\∀a∈l,a.length<=9223372036854775807:=by
 obtain ⟨v,l,rfl,he,D,o⟩:=eachOpen (R:=fun u a=>zn w (fun _=>True) u a/\a.length<=9223372036854775807) Tryz.underlying22 (by kernel_rfl) (fun n cl y r=>by
  obtain ⟨v,l,rfl,h1,h2⟩:=intsOpen r;exact ⟨v,l,rfl,h1,h2⟩) h
 obtain ⟨vs,E,d⟩:=he
 exact ⟨v,l,rfl,⟨vs,E,fun i y r=>by
  obtain ⟨u,h1,h2,_⟩:=d i y r;exact ⟨u,h1,h2⟩⟩,D,fun a B=>by obtain ⟨u,h⟩:=o a B;exact h.2⟩
theorem intOpen (h:DataW.trod enc Tryz.prog w base (fun _=>true) held fuel 3 cs=some x):∃n,cs=[.int .i64 n]/\-9223372036854775808<=n/\n<=9223372036854775807:=by
 obtain ⟨k,rfl,_,d⟩:=DataW.trod_int Tryz.underlying3 h;refine ⟨k,rfl,?_⟩;have this:=d;simp only [Lit.wf,IntKind.has,DO,DM] at this;have e1:IntKind.i64.min=-9223372036854775808:=rfl;have e2:IntKind.i64.max=9223372036854775807:=rfl;omega
theorem cellsT3:Tryz.prog.cellsOf 3=1:=by kernel_rfl
theorem agg_of {l:List Value} (h:v.cells.toList=l) (h2:∃cs,v=.agg cs):v=.agg l.toArray:=by
 obtain ⟨cs,rfl⟩:=h2;subst h;rfl
end
end
section
open Go.ChangeShapes Go.WideShapes Go.ChangeAt Go.RowKit
attribute [local go_sem ↓] Go.wp_at_zero Go.wp_at_succ
theorem makeP_zero (h:(Bf m).1≠0):(Bf m).2=.zero:=by
 unfold Bf at h⊢
 split
 ·rename_i d
  rw [if_pos d] at h;exact proveP_zero _ _ _ h
 ·rfl
end
section
open Go.RowKit
mutual
theorem Cm {c:Nat} (d:c<=20000000000000):∀(p:PT),p.LenN c->p.Lens
 | .node _ s ks,h=>by
  unfold PT.LenN at h;unfold PT.Lens;exact ⟨by omega,by omega,lenNL_lens d ks h.2.2⟩
theorem lenNL_lens {c:Nat} (d:c<=20000000000000):∀(ks:List PT),PT.LenNL c ks->PT.LensL ks
 | [],_=>by unfold PT.LensL;exact True.intro
 | k :: ks,h=>by
  unfold PT.LenNL at h;unfold PT.LensL;exact ⟨Cm d k h.1,lenNL_lens d ks h.2⟩
end
theorem CT (c:Nat):PT.zero.LenN c:=by
 unfold PT.zero PT.LenN;exact ⟨by simp,by simp,BS fun k d=>absurd d (Ew)⟩
theorem kidsR_lenN {c:Nat} {f:Int->Nat->Int×PT×Nat}:∀(l:List Int) (k:Nat) (acc:List PT),(∀n k,(f n k).2.1.LenN c)->(∀p∈acc,p.LenN c)->(∀p∈(zO f l k acc).2.1,p.LenN c)/\(zO f l k acc).2.1.length<=acc.length+l.length
 | [],k,acc,_,d=>by unfold zO;exact ⟨d,Nat.le_add_right ..⟩
 | n :: l,k,acc,hf,d=>by
  unfold zO;by_cases h0:(f n k).1=0
  ·rw [if_pos h0]
   obtain ⟨h1,h2⟩:=kidsR_lenN l (f n k).2.2 (acc++[(f n k).2.1]) hf (fun p hp=>by
    rcases Er.1 hp with hp | hp
    ·exact d p hp
    ·rw [Ej.1 hp];exact hf n k)
   refine ⟨h1,?_⟩;simp only [DK,EF,EG] at h2⊢;omega
  ·rw [if_neg h0];exact ⟨fun p hp=>absurd hp (Ew),by simp⟩
theorem proveP_lenN {m:MZ} (d:Lens m):∀(f:Nat) (ch:List Int) (k:Nat),(zr m f ch k).2.1.LenN 400000000000
 | 0,ch,k=>by unfold zr;exact CT _
 | f+1,ch,k=>by
  unfold zr
  split
  ·exact CT _
  ·split
   ·exact CT _
   ·split
    ·rename_i t _
     show PT.LenN _ (.node t (BJ m ch t) []);unfold PT.LenN;have:=sideP_len m ch t;exact ⟨by omega,by simp,BS fun k o=>absurd o (Ew)⟩
    ·obtain ⟨h1,h2⟩:=kidsR_lenN (f:=fun n k=>zr m f (ch++[n]) k) (zT m ch) (k+1) [] (fun n k=>proveP_lenN d f _ k) (fun p hp=>absurd hp (Ew));have r:=candO_len d ch;simp only
     split
     ·show PT.LenN _ (.node _ [] _);unfold PT.LenN;refine ⟨by simp,?_,BS h1⟩;simp only [EG] at h2;omega
     ·exact CT _
theorem makeP_lenN (d:Lens m):(Bf m).2.LenN 400000000000:=by
 unfold Bf
 split
 ·exact proveP_lenN d _ _ _
 ·exact CT _
theorem makeP_size:(Bf m).2.size<=3000:=by
 by_cases h:(Bf m).1=0
 ·unfold Bf at h⊢;by_cases d:Br m=0
  ·rw [if_pos d] at h⊢;obtain ⟨-,h1,h2⟩:=Cp d _ [] 0 .nil (by omega) h;show (zr m (m.n.toNat+2) [] 0).2.1.size<=3000;omega
  ·rw [if_neg d];show PT.zero.size<=3000;decide
 ·rw [makeP_zero h];decide
end
section
open Go.ChangeShapes Go.WideShapes Go.ChangeAt Go.RowKit
theorem vTab : Tryz.prog.globalNamed "internal/strconv.uint64pow10" = some 0 := by kernel_rfl
theorem vSyn : Tryz.prog.globalNamed "strconv.ErrSyntax" = some 2 := by kernel_rfl
theorem vRng : Tryz.prog.globalNamed "strconv.ErrRange" = some 3 := by kernel_rfl
theorem vtTab:(Tryz.prog.globals[0]?).map (·.type)=some 190:=by kernel_rfl
theorem vtSyn:(Tryz.prog.globals[2]?).map (·.type)=some 149:=by kernel_rfl
theorem vtRng:(Tryz.prog.globals[3]?).map (·.type)=some 149:=by kernel_rfl
theorem star4 : "*" ++ "errors.errorString" = "*errors.errorString" := by decide
theorem row314 (u : TypeId) (h : Tryz.prog.typeName? 3 u = some "*errors.errorString") : u = 227 :=
 typeName_ptr_named (nm := "errors.errorString") (by rw [star4]; kernel_rfl) (by kernel_rfl) (by decide) u (by rw [star4]; exact h)
theorem laid_tab:(Rows.laid_internal_strconv_uint64pow10:DataW Unit)=Lib.tabData .u64 Lib.pow10Tab:=by kernel_rfl
theorem varsOk_laid {a b: String × DataW Unit} (h : laidMet Tryz.prog [a, b, ("internal/strconv.uint64pow10", Rows.laid_internal_strconv_uint64pow10), ("strconv.ErrRange", Rows.laid_strconv_ErrRange), ("strconv.ErrSyntax", Rows.laid_strconv_ErrSyntax)] W) : zJ W := by
 have h2:=h.tail.tail;obtain ⟨a0,s0,hv0,-,-,-⟩:=laid_sentinel h2.tail vRng vtRng Tryz.underlying149 row314 Tryz.underlying227 Tryz.underlying229 rfl rfl Tryz.underlying9 (by kernel_rfl) (by kernel_rfl);obtain ⟨a1,s1,hv1,-,-,-⟩:=laid_sentinel h2.tail.tail vSyn vtSyn Tryz.underlying149 row314 Tryz.underlying227 Tryz.underlying229 rfl rfl Tryz.underlying9 (by kernel_rfl) (by kernel_rfl);rw [laid_tab] at h2;exact ⟨Lib.tabIs_of_head vTab vtTab Tryz.underlying190 Tryz.underlying177 (by kernel_rfl) (by kernel_rfl) h2,⟨_,_,hv1⟩,⟨_,_,hv0⟩⟩
theorem intssArg {H:Type} {enc:TypeId×Value->H} {base:Nat} {v0:Value} {d0:DataW H} {p0:List MemPlace} (d:Value.okWide Tryz.prog W .any base 22 v0) (h0:DataW.Trod enc Tryz.prog W 0 (fun _=>true) true 22 v0 d0 p0):∃l,Ai W (fun _=>True) v0 l/\l.length<=9223372036854775807/\∀a∈l,a.length<=9223372036854775807:=by
 obtain ⟨A,n,c,rfl⟩:=okWide_slice Tryz.underlying22 d;obtain ⟨fuel,h0⟩:=h0;obtain ⟨v,l,e0,h⟩:=intssOpen h0;have e1:Value.slice A n c=v:=by injection e0
 subst e1;exact ⟨l,h⟩
end
end Go.Proofs.YtcnaogdgjkpkmaaGreatDoor
