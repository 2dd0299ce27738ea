import Derived.Test.YtcnaogdgjkpkmaaGreatDoorWSzc
set_option linter.unusedVariables false
set_option linter.unusedSimpArgs false
set_option maxRecDepth 100000
set_option maxHeartbeats 16000000
namespace Go.Proofs.YtcnaogdgjkpkmaaGreatDoor
variable {a:Act} {n t:Int} {ch s:List Int} {m:MZ} {g g2 go gp tk:Nat} {ok okp:Nat->Prop} {b c f ts u v vc vp vs x y z:Value} {W w:World}
section
open Go.RowKit Go.Shelf
attribute [local go_sem ↓] Go.wp_at_zero Go.wp_at_succ
mutual
def PT.wt:PT->Nat
 | .node _ s ks=>1+s.length+PT.wtL ks
def PT.wtL:List PT->Nat
 | []=>0
 | k :: ks=>k.wt+PT.wtL ks
end
theorem wtL_app:∀(a b:List PT),PT.wtL (a++b)=PT.wtL a+PT.wtL b
 | [],b=>by simp [PT.wtL]
 | k :: a,b=>by rw [List.cons_append];simp only [PT.wtL,wtL_app a b];omega
theorem intF_lv (s:Rd):lv (zU s).2<=lv s - 1:=by
 cases d:s.2 with
 | true=>rw [intF_bad d];simp [lv]
 | false=>have:=lv_dec (Cw s).2 d;omega
theorem elsF_lv:∀(f:Nat) (s:Rd) (l:List Int),(Bz f s l).1.length+lv (Bz f s l).2<=l.length+lv s/\((∀x∈l,I64 x)->∀x∈(Bz f s l).1,I64 x)
 | 0,s,l=>⟨DC _,fun h=>h⟩
 | f+1,s,l=>by
  unfold Bz
  split
  ·exact ⟨DC _,fun h=>h⟩
  ·rename_i d
   have o:s.2=false:=by
    cases h:s.2 with
    | false=>rfl
    | true=>exact absurd (.inl (by unfold Aw;rw [h];rfl)) d
   obtain ⟨h1,h2⟩:=elsF_lv f (zU s).2 (l++[(zU s).1]);have r:=intF_lv s;have B:=lv_ok o;refine ⟨by rw [DK,Ec] at h1;omega,fun h=>h2 fun x hx=>?_⟩;rcases Er.1 hx with hx | hx
   ·exact h x hx
   ·rw [Ej.1 hx];exact intF_bound s
theorem intsF_lv (s:Rd):(Aj s).1.length+lv (Aj s).2<=lv s/\∀x∈(Aj s).1,I64 x:=by
 unfold Aj
 split
 ·exact ⟨by simp [lv],fun x d=>by cases d⟩
 ·rename_i B
  have D:s.2=false:=by
   cases h:s.2 with
   | false=>rfl
   | true=>exact absurd (.inl (by unfold Aw;rw [h];rfl)) B
  obtain ⟨h1,h2⟩:=elsF_lv s.1.tail.length (s.1.tail,false) [];have h0:lv (s.1.tail,false)<=lv s:=by rw [lv_ok D];simp [lv]
  unfold intsE
  split
  ·exact ⟨by simp [lv],fun x d=>by cases d⟩
  ·rename_i r
   have o:(Bz s.1.tail.length (s.1.tail,false) []).2.2=false:=by
    cases h:(Bz s.1.tail.length (s.1.tail,false) []).2.2 with
    | false=>rfl
    | true=>exact absurd (by unfold Aw;rw [h];rfl) r
   have E:lv ((Bz s.1.tail.length (s.1.tail,false) []).2.1.tail,false)<=lv (Bz s.1.tail.length (s.1.tail,false) []).2:=by rw [lv_ok o];simp [lv]
   refine ⟨?_,h2 fun x d=>by cases d⟩;simp only [EG,Nat.zero_add] at h1;show (Bz s.1.tail.length (s.1.tail,false) []).1.length+lv ((Bz s.1.tail.length (s.1.tail,false) []).2.1.tail,false)<=_;omega
theorem okL_of:∀{ks:List PT},(∀k∈ks,k.Ok)->PT.OkL ks
 | [],_=>by unfold PT.OkL;exact True.intro
 | k :: ks,h=>by
  unfold PT.OkL;exact ⟨h k (En ..),okL_of fun x d=>h x (DX _ d)⟩
theorem kidsF_wt {g:Rd->PT×Rd} (D:∀s,s.2=false->(g s).1.wt+lv (g s).2<=lv s/\(s.1.length<=1000000000->(g s).1.Ok)/\((g s).2.2=false->(g s).2.1.length<=s.1.length)):∀(n:Nat) (s:Rd) (ks:List PT),PT.wtL (AU g n s ks).1+lv (AU g n s ks).2<=PT.wtL ks+lv s/\ks.length+(AU g n s ks).1.length<=ks.length+ks.length+lv s/\(s.1.length<=1000000000->(∀k∈ks,k.Ok)->∀k∈(AU g n s ks).1,k.Ok)
 | 0,s,ks=>⟨DC _,by simp [AU],fun _ h=>h⟩
 | n+1,s,ks=>by
  unfold AU
  split
  ·exact ⟨DC _,by show ks.length+ks.length<=_;omega,fun _ h=>h⟩
  ·rename_i r
   have r:s.2=false:=by simpa using r
   obtain ⟨h1,h2,G⟩:=D s r;obtain ⟨B,I,E⟩:=kidsF_wt D n (g s).2 (ks++[(g s).1]);rw [wtL_app] at B;simp only [PT.wtL] at B;have M:1<=(g s).1.wt:=by cases (g s).1;unfold PT.wt;omega
   have L:=lv_ok r;refine ⟨by omega,by rw [DK,Ec] at I;omega,fun J K=>?_⟩
   have o:∀k∈ks++[(g s).1],k.Ok:=fun k hk2=>by
    rcases Er.1 hk2 with hk2 | hk2
    ·exact K k hk2
    ·rw [Ej.1 hk2];exact h2 J
   cases d:(g s).2.2 with
   | false=>exact E (by have:=G d;omega) o
   | true=>
    rw [kidsF_stop (.inr d)];exact o
theorem rdF_wt:∀(f:Nat) (s:Rd),s.2=false->(rdF f s).1.wt+lv (rdF f s).2<=lv s/\(s.1.length<=1000000000->(rdF f s).1.Ok)/\((rdF f s).2.2=false->(rdF f s).2.1.length<=s.1.length)
 | 0,s,o=>by
  rw [lv_ok o];refine ⟨by simp [rdF,PT.zero,PT.wt,PT.wtL,lv],fun _=>?_,fun h=>by cases h⟩;show PT.Ok (.node 0 [] []);unfold PT.Ok PT.OkL;exact ⟨⟨by decide,by decide⟩,(fun x B=>by cases B),by simp,by simp,True.intro⟩
 | f+1,s,o=>by
  have a1:=intF_lv s;obtain ⟨a2,a3⟩:=intsF_lv (zU s).2;have a4:=intF_lv (Aj (zU s).2).2;obtain ⟨a5,a6,a7⟩:=kidsF_wt (fun s h=>rdF_wt f s h) (zU (Aj (zU s).2).2).1.toNat (zU (Aj (zU s).2).2).2 [];have a8:=lv_ok o;have a9:=three_len s
  have d:(rdF (f+1) s).2.2=false->(rdF (f+1) s).2.1.length<=s.1.length:=fun h=>by
   have h1:=kidsF_lv (g:=rdF f) (fun s h=>Nat.le_of_lt (rdF_lv f s h)) (zU (Aj (zU s).2).2).1.toNat (zU (Aj (zU s).2).2).2 []
   have h2:lv (rdF (f+1) s).2<=lv s:=by
    have:lv (rdF (f+1) s).2<=lv (zU (Aj (zU s).2).2).2:=h1;omega
   rw [lv_ok h,a8] at h2;omega
  refine ⟨?_,fun D=>?_,d⟩
  ·show (PT.node _ _ _).wt+lv (AU _ _ _ _).2<=_;unfold PT.wt;simp only [PT.wtL] at a5;omega
  ·show (PT.node _ _ _).Ok;unfold PT.Ok;refine ⟨intF_bound s,a3,by omega,?_,okL_of (a7 (by omega) fun k r=>by cases r)⟩;simp only [EG,Nat.zero_add] at a6;omega
mutual
theorem enc_wt:∀(p:PT),p.Ok->(encP p).length<=50*p.wt/\p.size<=p.wt
 | .node t s ks,h=>by
  unfold PT.Ok at h;obtain ⟨h1,h2,o,r,d⟩:=h;have b1:=wI_len h1;have b2:=wIs_len h2;have b3:=wI_len (n:=(ks.length:Nat)) ⟨by omega,by omega⟩;obtain ⟨b4,b5⟩:=encs_wt ks d;unfold encP PT.wt PT.size;simp only [wL,DK,EF,EG];exact ⟨by omega,by omega⟩
theorem encs_wt:∀(ks:List PT),PT.OkL ks->(Ba ks).length<=50*PT.wtL ks/\PT.sizeL ks<=PT.wtL ks
 | [],_=>by simp [Ba,PT.wtL,PT.sizeL]
 | k :: ks,h=>by
  unfold PT.OkL at h;obtain ⟨b1,b2⟩:=enc_wt k h.1;obtain ⟨b3,b4⟩:=encs_wt ks h.2;unfold Ba PT.wtL PT.sizeL;rw [DK];exact ⟨by omega,by omega⟩
end
def decR (l:List UInt8):Int×PT:=if 262144<l.length then (2,.zero) else match decF l with
 | none=>(4,.zero)
 | some p=>(0,p)
theorem dec_end {R:Ending->World->Prop} (o:a.tmps[2]?=some (.pointer (some ⟨gp,0,none⟩))) (r:a.tmps[3]?=some (.int .i64 n)) (B:a.defers=[]) (d:zj W gp 27 #[x,y,z]) (h:R (.returned (.tuple #[.agg #[x,y,z],.int .i64 n])) W):bodyPost Tryz.prog Tryz.f16 R Exit.ret a W:=by
 have c0:=d.cell (k:=0) rfl;have c1:=d.cell (k:=1) rfl;have c2:=d.cell (k:=2) rfl;have e:a.tmps.getD 2 undef=.pointer (some ⟨gp,0,none⟩):=by rw [Array.getD_eq_getD_getElem?,o];rfl
 have e3:a.tmps.getD 3 undef=.int .i64 n:=by rw [Array.getD_eq_getD_getElem?,r];rfl
 exact Eu (v:=.tuple #[.agg #[x,y,z],.int .i64 n]) (by simp [results,Tryz.results16,go_sem,o,r,e,e3,c0,c1,c2]) B h
theorem dec_fin {wq:World} {v0 v1 v2:Value} {d:Int×PT} {p:PT} (J:gp=w.heap.size) (D:Below gp w wq) (r:zj wq gp 27 #[v0,v1,v2]) (hp:Ay wq (fun b=>gp<b) (.agg #[x,y,z]) p) (I:d=(n,p)) (G:a.tmps[2]?=some (.pointer (some ⟨gp,0,none⟩))) (K:a.tmps[3]?=some (.int .i64 n)) (B:a.defers=[]):
  bodyPost Tryz.prog Tryz.f16 (fun e w'=>∃v,e=.returned (.tuple #[v,.int .i64 d.1])/\zc w w'/\Ay w' (fun b=>w.heap.size<=b) v d.2) Exit.ret a (((wq.setCell ⟨gp,0,none⟩ x).setCell ⟨gp,1,none⟩ y).setCell ⟨gp,2,none⟩ z):=by
 subst I;have E:zm (fun b=>b=gp) wq (((wq.setCell ⟨gp,0,none⟩ x).setCell ⟨gp,1,none⟩ y).setCell ⟨gp,2,none⟩ z):=(((zm.refl (fun b=>b=gp) _).set gp 0 _ rfl).set gp 1 _ rfl).set gp 2 _ rfl
 have o:zc w (((wq.setCell ⟨gp,0,none⟩ x).setCell ⟨gp,1,none⟩ y).setCell ⟨gp,2,none⟩ z):=by
  subst J;exact ((D.setCell (p:=⟨_,0,none⟩) (DC _) _).setCell (p:=⟨_,1,none⟩) (DC _) _).setCell (p:=⟨_,2,none⟩) (DC _) _
 exact dec_end G K B (((r.set (k:=0) x).set (k:=1) y).set (k:=2) z) ⟨_,rfl,o,hp.keepW (E.same fun b r e=>by omega) fun b r=>by omega⟩
theorem dec_calls {l:List UInt8} (w:World) (hv:zJ w):Calls Tryz.prog 16 #[.string ⟨l.toArray⟩] w fun e w'=>∃v,e=.returned (.tuple #[v,.int .i64 (decR l).1])/\zc w w'/\Ay w' (fun b=>w.heap.size<=b) v (decR l).2:=by
 have HV:=zh hv;obtain ⟨d,hd⟩:=EH (decR l);rw [<-hd];have HD:=zh hd;clear hv hd
 go_enter Tryz.func16,Tryz.ntmps16
 go_upto_region 1 with fail;have D:Hid (zj (w.alloc (.cells #[.int .i64 0,.slice none 0 0,.slice none 0 0] 27)) w.heap.size 27 #[.int .i64 0,.slice none 0 0,.slice none 0 0]):=zj.new _ _ _ rfl;have a4:Hid (zc w (w.alloc (.cells #[.int .i64 0,.slice none 0 0,.slice none 0 0] 27))):=(zc.refl w).alloc _;generalize w.alloc _=w1 at D a4⊢;obtain ⟨gp,b6⟩:∃g,g=w.heap.size:=⟨_,rfl⟩;rw [<-b6] at D⊢;have I:=zh b6;have fz:∀k,w1.frozen? ⟨gp,k,none⟩=false:=fun k=>D.out.frozen k
 have b0:=D.out.cell (k:=0) rfl;have b1:=D.out.cell (k:=1) rfl;have b2:=D.out.cell (k:=2) rfl;clear b6;by_cases hl:262144<l.length
 ·have G:Hid (d=(2,.zero)):=by (show _=_);rw [HD.out];unfold decR;rw [if_pos hl]
  have f0:(262144:Int)<(l.length:Int):=by omega
  have f1:decide (262144<l.length)=true:=DF hl
  go_wp2_with fail
  exact dec_fin I.out (by rw [I.out];exact a4.out) D.out (Ay.zero _ _) G.out rfl rfl rfl
 ·have f0:¬ ((262144:Int)<(l.length:Int)):=by omega
  have f1:decide (262144<l.length)=false:=DG hl;have e3:=zh (Nat.le_of_not_lt hl);obtain ⟨q,hq⟩:=EH (rdF (l.length+1) (l,false))
  have L:Hid (d=match (if q.2.2=true\/0<Aw q.2\/encP q.1≠l then none else some q.1) with | none=>(4,.zero) | some p=>(0,p)):=by
   (show _=_);rw [HD.out,hq];unfold decR;rw [if_neg hl];rfl
  have a2:=rdF_wt (l.length+1) (l,false) rfl;rw [<-hq] at a2;have b7:=a2.2.1 (by show l.length<=_;omega);have e9:=enc_wt q.1 b7;have f2:lv (l,false)=l.length+1:=lv_ok rfl;have e4:=zh b7;have a5:Hid ((encP q.1).length<=9223372036854775000):=by (show _<=_);have:=a2.1;omega
  have HQ:=zh hq;clear hl a2 b7 e9 f2 hq b0 b1 b2 fz
  go_wp2_with fail
  refine (wNew_calls l w1).mono ?_;rintro e w2 ⟨rfl,V,b4⟩;obtain ⟨r,hr⟩:=EH w1.heap.size;rw [<-hr] at b4⊢;have a8:Hid (gp<r/\r=w1.heap.size):=⟨by have:=zb D.out;omega,hr⟩;have d7:zc w w2:=a4.out.trans V;have c9:=zh b4;have b9:=zh (D.out.ext V);have c6:=zh d7;have c0:=zh V;clear b4 hr V d7 D
  go_wp2_with fail
  refine (read_calls (l.length+1) w2 (HV.out.ext c6.out) c9.out (Nat.lt_succ_self _) (by have:=e3.out;omega)).mono ?_;rintro e w3 ⟨v,rfl,b3,b5,a0⟩;rw [<-HQ.out] at b5 a0;obtain ⟨As,cs,Ak,ck,rfl,-⟩:=a0.form;have c7:Hid (Ay w3 (fun b=>gp<b) (.agg #[.int .i64 q.1.task,.slice As q.1.side.length cs,.slice Ak q.1.kids.length ck]) q.1):=a0.keepW (fun _ _ _=>rfl) (fun b hb=>by have:=c0.out.size;have:=a8.out;omega);have a3:Hid (zj w3 gp 27 #[.int .i64 0,.slice none 0 0,.slice none 0 0]):=b3.blk b9.out (by have:=a8.out;omega);have d6:Hid (Below gp w w3):=by (show Below _ _ _);rw [I.out];exact (zm.trans (BC c6.out) b3 (X:=(·=r)) (fun _ _ h=>h)).below (DC _) (fun b hb=>by have:=a8.out;have:=I.out;omega)
  have d4:=zh b5;clear b3 b5 a0 b9 c9;go_upto_region 5 with fail;obtain ⟨M,p0,p1,p2⟩:=box3 w3 (.int .i64 q.1.task) (.slice As q.1.side.length cs) (.slice Ak q.1.kids.length ck);generalize w3.alloc _=w4 at M p0 p1 p2⊢;obtain ⟨gq,d8⟩:∃g,g=w3.heap.size:=⟨_,rfl⟩;rw [<-d8] at p0 p1 p2⊢;have c8:=zh (c7.out.ext M);have E:=zh (a3.out.ext M);have U:Hid (Below gp w w4):=Below.trans d6.out (M.mono (Nat.le_of_lt (zb a3.out)));have d5:=zh (d4.out.ext M);have e7:Hid (zJ w4):=HV.out.ext (by have:=U.out;rw [I.out] at this;exact this);have K:=zh (Cy w4 d5.out);have a7:=zh (Dv w4 d5.out);have hx:zc w4 w4:=zc.refl w4;have z0:=E.out.cell (k:=0) rfl;have z1:=E.out.cell (k:=1) rfl;have z2:=E.out.cell (k:=2) rfl;have fz:∀k,w4.frozen? ⟨gp,k,none⟩=false:=fun k=>E.out.frozen k
  clear d8 M c7 a3 d6 d4;by_cases o:q.2.2=true
  ·have G:Hid (d=(4,.zero)):=by (show _=_);rw [L.out,if_pos (.inl o)]
   rw [o] at K;clear o
   go_wp2_with fail
   refine K.out.mono ?_;rintro e w5 ⟨rfl,rfl⟩
   go_wp2_with fail
   exact dec_fin I.out U.out E.out (Ay.zero _ _) G.out rfl rfl rfl
  ·have a1:q.2.2=false:=by simpa using o
   rw [a1] at K;by_cases Q:0<Aw q.2
   ·have G:Hid (d=(4,.zero)):=by (show _=_);rw [L.out,if_pos (.inr (.inl Q))]
    have d9:(0:Int)<(Aw q.2:Int):=by omega
    have e0:decide (0<Aw q.2)=true:=DF Q;clear o a1
    go_wp2_with fail
    refine K.out.mono ?_;rintro e w5 ⟨rfl,rfl⟩
    go_wp2_with fail
    refine a7.out.mono ?_;rintro e w5 ⟨rfl,rfl⟩
    go_wp2_with fail
    exact dec_fin I.out U.out E.out (Ay.zero _ _) G.out rfl rfl rfl
   ·have d9:¬ ((0:Int)<(Aw q.2:Int)):=by omega
    have e0:decide (0<Aw q.2)=false:=DG Q;have a6:=zh (enc_calls q.1.size w4 e7.out c8.out (DC _) e4.out a5.out);by_cases O:encP q.1=l
    ·have G:Hid (d=(0,q.1)):=by (show _=_);rw [L.out,if_neg (fun h=>h.elim o fun h=>h.elim Q fun h=>h O)]
     rw [O] at a6;clear o a1 Q O L HD HQ a5
     go_wp2_with fail
     refine K.out.mono ?_;rintro e w5 ⟨rfl,rfl⟩
     go_wp2_with fail
     refine a7.out.mono ?_;rintro e w5 ⟨rfl,rfl⟩
     go_wp2_with fail
     refine a6.out.mono ?_;rintro e w6 ⟨rfl,J⟩;have e5:=zh (c8.out.ext J);have B:=zh (E.out.ext J);have a9:Hid (Below gp w w6):=Below.trans U.out (J.mono (Nat.le_of_lt (zb E.out)));have y0:=B.out.cell (k:=0) rfl;have y1:=B.out.cell (k:=1) rfl;have y2:=B.out.cell (k:=2) rfl;have fy:∀k,w6.frozen? ⟨gp,k,none⟩=false:=fun k=>B.out.frozen k
     clear z0 z1 z2 fz hx;have hx:zc w4 w6:=J;clear J
     go_wp2_with fail
     exact dec_fin I.out a9.out B.out e5.out G.out rfl rfl rfl
    ·have G:Hid (d=(4,.zero)):=by (show _=_);rw [L.out,if_pos (.inr (.inr O))]
     have f8:(encP q.1==l)=false:=by simp [O]
     clear o a1 Q O L HD HQ a5
     go_wp2_with fail
     refine K.out.mono ?_;rintro e w5 ⟨rfl,rfl⟩
     go_wp2_with fail
     refine a7.out.mono ?_;rintro e w5 ⟨rfl,rfl⟩
     go_wp2_with fail
     refine a6.out.mono ?_;rintro e w6 ⟨rfl,J⟩;have B:=zh (E.out.ext J);have a9:Hid (Below gp w w6):=Below.trans U.out (J.mono (Nat.le_of_lt (zb E.out)));have y0:=B.out.cell (k:=0) rfl;have y1:=B.out.cell (k:=1) rfl;have y2:=B.out.cell (k:=2) rfl;have fy:∀k,w6.frozen? ⟨gp,k,none⟩=false:=fun k=>B.out.frozen k
     clear z0 z1 z2 fz hx J
     go_wp2_with fail
     exact dec_fin I.out a9.out B.out (Ay.zero _ _) G.out rfl rfl rfl
end
section
open Go.RowKit
def reachLX (m:MZ) (t:Nat) (f us:List Int):List Int:=((List.range m.n.toNat).map Int.ofNat).filter fun x=>decide (x∈reachX m t f us)
def sideX (m:MZ) (ch:List Int) (t:Nat):List Int:=if Br m=0/\t<m.tasks.length then reachLX m t (AH m ch t) ch else []
theorem side_x (d:Dim m) (ch:List Int) (t:Nat):BJ m ch t=sideX m ch t:=by
 unfold BJ sideX reachO reachLX;by_cases h:Br m=0/\t<m.tasks.length
 ·rw [if_pos h,if_pos ⟨h.1,by omega,by have:=h.2;omega⟩,reachL_x d]
  all_goals rfl
 ·rw [if_neg h,if_neg (fun o=>h ⟨o.1,by have:=o.2.2;omega⟩)]
def offX (m:MZ) (ch:List Int) (t:Nat):Bool:=!((sideX m ch t).any fun n=>decide (n∈(m.tasks.getD t ([],[])).2)) && (decide (sideX m ch t≠[]) || decide (zS m ch<t))
def cutX (m:MZ) (ch:List Int):Option Nat:=((List.range (m.tasks.length - zS m ch)).map (zS m ch+·)).find? (offX m ch)
theorem cut_x (d:Dim m) (ch:List Int):cutT m ch=cutX m ch:=by
 unfold cutT cutX;congr 1;funext t;unfold offB offX;rw [side_x d]
def proveX (m:MZ):Nat->List Int->Nat->Int×PT×Nat
 | 0,_,k=>(53,.zero,k)
 | f+1,ch,k=>
  if m.tasks.length<=zS m ch then (51,.zero,k)
  else if 3000<k+1 then (53,.zero,k+1)
  else match cutX m ch with
   | some t=>(0,.node t (sideX m ch t) [],k+1)
   | none=>
    let r:=zO (fun n k=>proveX m f (ch++[n]) k) (zT m ch) (k+1) []
    if r.1=0 then (0,.node (zS m ch) [] r.2.1,r.2.2) else (r.1,.zero,r.2.2)
theorem prove_x {m:MZ} (d:Dim m):∀(f:Nat) (ch:List Int) (k:Nat),zr m f ch k=proveX m f ch k
 | 0,ch,k=>rfl
 | f+1,ch,k=>by
  unfold zr proveX;rw [cut_x d]
  have h:(fun n k=>zr m f (ch++[n]) k)=fun n k=>proveX m f (ch++[n]) k:=by
   funext n k;exact prove_x d f _ _
  rw [h];by_cases h1:m.tasks.length<=zS m ch
  ·rw [if_pos h1,if_pos h1]
  ·rw [if_neg h1,if_neg h1];by_cases h2:3000<k+1
   ·rw [if_pos h2,if_pos h2]
   ·rw [if_neg h2,if_neg h2]
    cases cutX m ch with
    | some t=>show (0,PT.node _ (BJ m ch t) _,_)=(0,PT.node _ (sideX m ch t) _,_);rw [side_x d]
    | none=>rfl
def makeX (m:MZ):Int×PT:=if Br m=0 then ((proveX m (m.n.toNat+2) [] 0).1,(proveX m (m.n.toNat+2) [] 0).2.1) else (Br m,.zero)
theorem make_x (d:Dim m):Bf m=makeX m:=by
 unfold Bf makeX;rw [prove_x d]
def yP:PT:=.node 1 [] []
def yCut:PT:=.node 0 [] [.node 0 [] [.node 1 [1,2,5,8] []]]
def Ch:PT:=.node 0 [] [.node 0 [] [yP,yCut]]
theorem ym1:(makeX (exM 6 8)).1=51:=by decide +kernel
theorem ym2:makeX (exM 4 8)=(0,yP):=by kernel_rfl
theorem ym3:makeX (exM 1 7)=(0,Ch):=by kernel_rfl
theorem yk1:Ar (exM 4 8) yP=true:=by decide +kernel
theorem yk2:Ar (exM 6 8) yP=false:=by decide +kernel
theorem yk3:Ar (exM 1 7) Ch=true:=by decide +kernel
theorem yk4:Ar (exM 1 7) yP=false:=by decide +kernel
theorem yz:Ch.size=6:=by decide +kernel
theorem yl0:yP.Lens:=by simp [yP,PT.Lens,PT.LensL]
theorem yl1:Ch.Lens:=by simp [Ch,yP,yCut,PT.Lens,PT.LensL]
theorem yd1:decR (encP Ch)=(0,Ch):=by kernel_rfl
theorem yd2:(decR (encP Ch++[120])).1=4:=by decide +kernel
theorem yel:(encP Ch).length<=1000:=by decide +kernel
theorem yok:Ch.Ok:=by
 have h:∀x:Int,x∈[(1:Int),2,5,8]->I64 x:=by
  intro x d;simp only [Ep,Ew,or_false] at d;rcases d with rfl | rfl | rfl | rfl <;> exact ⟨by decide,by decide⟩
 have h0:I64 0:=⟨by decide,by decide⟩;have h1:I64 1:=⟨by decide,by decide⟩;simp [Ch,yP,yCut,PT.Ok,PT.OkL,h0,h1];exact ⟨h 2 (by simp),h 5 (by simp),h 8 (by simp)⟩
theorem ysp:BO yP yP=true:=Dc _
theorem Ay.leaf (w:World) (ok:Nat->Prop) (t:Int):Ay w ok (.agg #[.int .i64 t,.slice none 0 0,.slice none 0 0]) (.node t [] []):=
 .mk (cs:=[]) (zn.nil _ _) ⟨none,0,rfl,DC _,AG.nil _ _ _ _⟩ (fun i d=>absurd d (by simp))
theorem Ay.one {a:Value} {p:PT} (t:Int) (d:zj w g 27 #[a,b,c]) (o:ok g) (h:Ay w ok (.agg #[a,b,c]) p):Ay w ok (.agg #[.int .i64 t,.slice none 0 0,.slice (some ⟨g,0,none⟩) 1 1]) (.node t [] [p]):=
 .mk (cs:=[a,b,c]) (zn.nil _ _) ⟨_,_,rfl,DC _,rfl,fun _=>⟨g,0,rfl,o,fun j u B=>by rw [Nat.zero_add];exact zj.cell (cs:=#[a,b,c]) d (by simpa using B)⟩⟩ (fun i r=>by
  match i,r with
  | 0,_=>exact h)
theorem Ay.two {a d e:Value} {p q:PT} (t:Int) (r:zj w g 27 #[a,b,c,d,e,f]) (B:ok g) (h:Ay w ok (.agg #[a,b,c]) p) (o:Ay w ok (.agg #[d,e,f]) q):Ay w ok (.agg #[.int .i64 t,.slice none 0 0,.slice (some ⟨g,0,none⟩) 2 2]) (.node t [] [p,q]):=
 .mk (cs:=[a,b,c,d,e,f]) (zn.nil _ _) ⟨_,_,rfl,DC _,rfl,fun _=>⟨g,0,rfl,B,fun j u E=>by rw [Nat.zero_add];exact zj.cell (cs:=#[a,b,c,d,e,f]) r (by simpa using E)⟩⟩ (fun i D=>by
  match i,D with
  | 0,_=>exact h
  | 1,_=>exact o)
theorem ywant_mem {H:Nat} (b0:zj W H 3 #[.int .i64 1,.int .i64 2,.int .i64 5,.int .i64 8]) (b1:zj W (H+1) 27 #[.int .i64 1,.slice (some ⟨H,0,none⟩) 4 4,.slice none 0 0]) (b2:zj W (H+2) 27 #[.int .i64 0,.slice none 0 0,.slice (some ⟨H+1,0,none⟩) 1 1])
  (b4:zj W (H+4) 27 #[.int .i64 1,.slice none 0 0,.slice none 0 0,.int .i64 0,.slice none 0 0,.slice (some ⟨H+2,0,none⟩) 1 1]) (b5:zj W (H+5) 27 #[.int .i64 0,.slice none 0 0,.slice (some ⟨H+4,0,none⟩) 2 2]):
  Ay W (fun b=>H<=b) (.agg #[.int .i64 0,.slice none 0 0,.slice (some ⟨H+5,0,none⟩) 1 1]) Ch:=by
 have h1:Ay W (fun b=>H<=b) (.agg #[.int .i64 1,.slice (some ⟨H,0,none⟩) 4 4,.slice none 0 0]) (.node 1 [1,2,5,8] []):=
  .mk (cs:=[]) ⟨_,_,rfl,DC _,AG.block (cs:=#[.int .i64 1,.int .i64 2,.int .i64 5,.int .i64 8]) b0 (DC _) rfl⟩ ⟨none,0,rfl,DC _,AG.nil _ _ _ _⟩ (fun i d=>absurd d (by simp))
 exact .one 0 b5 (by omega) (.two 0 b4 (by omega) (.leaf _ _ 1) (.one 0 b2 (by omega) (.one 0 b1 (by omega) h1)))
end
section
open Go.RowKit
attribute [local go_sem ↓] Go.wp_at_zero Go.wp_at_succ
theorem indexFuncX_calls {l:List Int} (n:FuncId) (caps:Array Value) (p:Int->Bool) (w:World) (h:zn w ok v l) (hl:l.length<=20000000000000)
  (a2:∀(a:Array Value) (w:World),(callFunc n a).run Tryz.prog w=.ok (.enter n a) w)
  (hp:∀x∈l,∀w1,zc w w1->Calls Tryz.prog n (#[.int .i64 x]++caps) w1 fun e w'=>e=.returned (.bool (p x))/\zc w1 w'):
  Calls Tryz.prog 104 #[v,.func (.func n) #[] caps] w fun e w'=>∃r:Int,e=.returned (.int .i64 r)/\(0<=r↔l.any p=true)/\-1<=r/\zc w w':=by
 obtain ⟨A,c,rfl,hc,V⟩:=h;have HR:=zh V;clear V;have HP:=zh hp;clear hp
 go_enter Tryz.func104,Tryz.ntmps104
 go_wp2_with fail
 go_loopw [8] (fun i wr=>∃k:Nat,k<=l.length/\i=.int .i64 k/\Hid ((l.take k).any p=false)/\Hid (zc w wr)) (fun i _=>l.length - (intOf i).toNat)
 case atStart=>exact ⟨0,DR _,rfl,by simp [Hid],zc.refl _⟩
 case round=>
  obtain ⟨k,hk,rfl,U,L⟩:=hrel;by_cases J:k<l.length
  ·obtain ⟨b,off,rfl,_,I⟩:=Ae (HR.out.keep (zW.of_below L.out)) J J;obtain ⟨x,O⟩:=EH (l[k]);rw [<-O] at I;have M:x∈l:=by rw [O];exact DD _
   have D:=zh (Bq p J);rw [<-O] at D;clear O;have d:=zh (HP.out x M wr L.out);by_cases B:p x=true
   ·go_wp2_with fail
    refine d.out.mono ?_;rintro e w1 ⟨rfl,o⟩;rw [B];have E:=zh (L.out.trans o);clear o;have G:=zh B;clear B
    go_wp2_with fail
    go_ret;refine ⟨_,rfl,⟨fun _=>?_,fun _=>by omega⟩,by omega,E.out⟩;rw [EC];exact ⟨x,M,G.out⟩
   ·have K:p x=false:=by simpa using B
    clear B
    go_wp2_with fail
    refine d.out.mono ?_;rintro e w1 ⟨rfl,o⟩;rw [K];have E:=zh (L.out.trans o);clear o;have G:=zh K;clear K
    go_wp2_with fail
    go_roundw
    case rel=>exact ⟨k+1,by omega,by go_num,by
     show _=false;rw [D.out,U.out,G.out];rfl,E⟩
    case measure=>simp [intOf];omega
  ·obtain rfl:k=l.length:=by omega
   go_wp2;go_ret;have h:=U.out;rw [DN] at h;refine ⟨_,rfl,⟨fun Q=>by omega,fun Q=>?_⟩,by omega,L.out⟩;rw [h] at Q
   cases Q
theorem Bm {l:List (Int)} (n:FuncId) (caps:Array Value) (p:Int->Bool) (w:World) (h:zn w ok v l) (G:l.length<=20000000000000) (o:∀(a:Array Value) (w:World),(callFunc n a).run Tryz.prog w=.ok (.enter n a) w)
  (hp:∀x∈l,∀w1,zc w w1->Calls Tryz.prog n (#[.int .i64 x]++caps) w1 fun e w'=>e=.returned (.bool (p x))/\zc w1 w'):
  Calls Tryz.prog 73 #[v,.func (.func n) #[] caps] w fun e w'=>e=.returned (.bool (l.any p))/\zc w w':=by
 have H:=zh (indexFuncX_calls n caps p w h G o hp);clear hp;obtain ⟨A,c,rfl,J,d⟩:=h;clear d
 go_enter Tryz.func73,Tryz.ntmps73
 go_wp2_with fail
 refine H.out.mono ?_;rintro e w1 ⟨r,rfl,d,I,B⟩;have E:=zh d;clear d;have D:=zh B;clear B
 go_wp2_with fail
 go_ret;refine ⟨zk ?_,D.out⟩;rw [Bool.eq_iff_iff,decide_eq_true_iff];exact E.out
structure CutV (w:World) (ok okp:Nat->Prop) (g2 gp go:Nat) (m:MZ) (f u ts vc vp:Value) (ch:List Int) (t:Int) (tk:Nat) (vs:Value) (s:List Int):Prop where
 st:PSt w ok m f u ts vc vp ch
 c0:w.cell? ⟨g2,0,none⟩=some (.int .i64 m.w)
 c1:w.cell? ⟨g2,1,none⟩=some (.int .i64 m.h)
 c2:w.cell? ⟨g2,2,none⟩=some (.int .i64 m.l)
 c3:w.cell? ⟨g2,3,none⟩=some f
 c4:w.cell? ⟨g2,4,none⟩=some u
 c5:w.cell? ⟨g2,5,none⟩=some ts
 c6:w.cell? ⟨g2,6,none⟩=some vc
 c7:w.cell? ⟨g2,7,none⟩=some vp
 c8:w.cell? ⟨g2,8,none⟩=some (.int .i64 t)
 p0:w.cell? ⟨gp,0,none⟩=some (.int .i64 tk)
 p1:w.cell? ⟨gp,1,none⟩=some vs
 sd:zn w okp vs s
 o0:w.cell? ⟨go,0,none⟩=some (.func (.func 109) #[] #[.pointer (some ⟨gp,0,none⟩)])
theorem CutV.more {w w':World} {ok okp:Nat->Prop} {g2 gp go:Nat} {m:MZ} {f u ts vc vp:Value} {ch:List Int} {t:Int} {tk:Nat} {vs:Value} {s:List Int} (h:CutV w ok okp g2 gp go m f u ts vc vp ch t tk vs s) (d:zc w w'):CutV w' ok okp g2 gp go m f u ts vc vp ch t tk vs s:=
 ⟨h.st.more d,d.cell h.c0,d.cell h.c1,d.cell h.c2,d.cell h.c3,d.cell h.c4,d.cell h.c5,d.cell h.c6,d.cell h.c7,d.cell h.c8,d.cell h.p0,d.cell h.p1,h.sd.below d,d.cell h.o0⟩
theorem cut1_calls (x:Int) (w:World) (h1:w.cell? ⟨gp,1,none⟩=some vs) (d:zn w ok vs s) (r:s.length<=20000000000000):
  Calls Tryz.prog 109 #[.int .i64 x,.pointer (some ⟨gp,0,none⟩)] w fun e w'=>e=.returned (.bool (!decide (x∈s)))/\w=w':=by
 have o:=zh d;obtain ⟨As,cs,rfl,-,-⟩:=d
 go_enter Tryz.func109,Tryz.ntmps109
 go_wp2_with fail
 refine (zt x w o.out r).mono ?_;rintro e w9 ⟨rfl,rfl⟩
 go_wp2_with fail
 go_ret;exact ⟨rfl,rfl⟩
theorem cut21_calls (x:Int) (w:World) (h:CutV w ok okp g2 gp go m f u ts vc vp ch t tk vs s) (g:Am m) (r:ch.length<=20000000000000) (B:tk<m.free.length) (h0:0<=x) (h1:x<m.n) (E:s.length<=20000000000000):
  Calls Tryz.prog 112 #[.int .i64 x,.pointer (some ⟨g2,0,none⟩),.pointer (some ⟨gp,0,none⟩),.pointer (some ⟨go,0,none⟩)] w fun e w'=>e=.returned (.bool ((zl m tk x && !decide (x∈ch)) && !decide (x∈s)))/\zc w w':=by
 have D:=zh (popen_calls t tk x w h.st g r B h0 h1);have G:Hid (∀w9,zc w w9->Calls Tryz.prog 109 #[.int .i64 x,.pointer (some ⟨gp,0,none⟩)] w9 fun e w'=>e=.returned (.bool (!decide (x∈s)))/\w9=w'):=fun w9 I=>cut1_calls x w9 (I.cell h.p1) (h.sd.below I) E
 obtain ⟨c0,c1,c2,c3,c4,c5,c6,c7,c8,p0,p1,o0⟩:=(⟨h.c0,h.c1,h.c2,h.c3,h.c4,h.c5,h.c6,h.c7,h.c8,h.p0,h.p1,h.o0⟩:_/\_/\_/\_/\_/\_/\_/\_/\_/\_/\_/\_);clear h B h0 h1 g r;unfold Dw at D;generalize (zl m tk x && !decide (x∈ch))=b at D⊢;generalize (!decide (x∈s))=d at G⊢
 go_enter Tryz.func112,Tryz.ntmps112
 go_wp2_with fail
 refine D.out.mono ?_;rintro e w1 ⟨rfl,o⟩;have o1:=o.cell o0;clear c0 c1 c2 c3 c4 c5 c6 c7 c8 p0 p1 o0 D
 cases b with
 | false=>
  go_wp2_with fail
  go_ret;exact ⟨rfl,o⟩
 | true=>
  go_wp2_with fail
  refine (G.out w1 o).mono ?_;rintro e w2 ⟨rfl,rfl⟩
  go_wp2_with fail
  go_ret;exact ⟨by simp,o⟩
theorem cut2_calls (x:Int) (w:World) (h:CutV w ok okp g2 gp go m f u ts vc vp ch t tk vs s) (g:Am m) (K:Lens m) (o:ch.length<=20000000000000) (r:tk<m.free.length) (I:s.length<=20000000000000):
  Calls Tryz.prog 110 #[.int .i64 x,.pointer (some ⟨g2,0,none⟩),.pointer (some ⟨gp,0,none⟩),.pointer (some ⟨go,0,none⟩)] w fun e w'=>e=.returned (.bool ((BN m x).any fun k=>(zl m tk k && !decide (k∈ch)) && !decide (k∈s)))/\zc w w':=by
 have H:=zh h;have J:=zh (rNext_calls x w h.st.maze K)
 have B:Hid (∀w9 v9,zc w w9->zn w9 (fun _=>True) v9 (BN m x)->Calls Tryz.prog 73 #[v9,.func (.func 112) #[] #[.pointer (some ⟨g2,0,none⟩),.pointer (some ⟨gp,0,none⟩),.pointer (some ⟨go,0,none⟩)]] w9 fun e w'=>e=.returned (.bool ((BN m x).any fun k=>(zl m tk k && !decide (k∈ch)) && !decide (k∈s)))/\zc w9 w'):=fun w9 v9 O U=>
  Bm 112 _ _ w9 U (by have:=nextO_len m x;omega) (Ah Tryz.func112 rfl rfl) fun y V w8 M=>by
   have L:=nextO_rng g V;exact cut21_calls y w8 (H.out.more (O.trans M)) g o r L.1 L.2 I
 obtain ⟨c0,c1,c2,c3,c4,c5⟩:=(⟨h.c0,h.c1,h.c2,h.c3,h.c4,h.c5⟩:_/\_/\_/\_/\_/\_);clear h g o r K;generalize Q:((BN m x).any fun k=>(zl m tk k && !decide (k∈ch)) && !decide (k∈s))=R at B⊢;clear Q
 go_enter Tryz.func110,Tryz.ntmps110
 go_wp2_with fail
 refine J.out.mono ?_;rintro e w1 ⟨v1,rfl,d⟩;have E:=zh d.ext;have D:=zh (B.out w1 v1 d.ext (d.ints.weaken fun _ _=>trivial));obtain ⟨A1,k1,rfl,-⟩:=d.slice;clear d B J H c0 c1 c2 c3 c4 c5
 go_wp2_with fail
 refine D.out.mono ?_;rintro e w2 ⟨rfl,G⟩
 go_wp2_with fail
 go_ret;exact ⟨rfl,E.out.trans G⟩
end
end Go.Proofs.YtcnaogdgjkpkmaaGreatDoor
