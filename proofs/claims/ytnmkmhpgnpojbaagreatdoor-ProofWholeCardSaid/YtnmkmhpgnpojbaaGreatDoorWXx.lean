import Derived.Test.YtnmkmhpgnpojbaaGreatDoorWXu
set_option linter.unusedVariables false
set_option linter.unusedSimpArgs false
set_option maxRecDepth 100000
set_option maxHeartbeats 16000000
namespace Go.Proofs.YtnmkmhpgnpojbaaGreatDoor
variable {a:Act} {R:Ending->World->Prop} {m:MZ} {gp n:Nat} {s:Rd} {x y z:Value} {W w:World}
section
open Go.RowKit Go.Shelf
attribute [local go_sem ↓] Go.wp_at_zero Go.wp_at_succ
def AM (g:Rd->PT×Rd):Nat->Rd->List PT->List PT×Rd
 | 0,s,ks=>(ks,s)
 | n+1,s,ks=>if s.2=true then (ks,s) else AM g n (g s).2 (ks++[(g s).1])
def rdF:Nat->Rd->PT×Rd
 | 0,_=>(.zero,([],true))
 | f+1,s=>(.node (zS s).1 (Aa (zS s).2).1 (AM (rdF f) (zS (Aa (zS s).2).2).1.toNat (zS (Aa (zS s).2).2).2 []).1,(AM (rdF f) (zS (Aa (zS s).2).2).1.toNat (zS (Aa (zS s).2).2).2 []).2)
theorem elsF_len:∀(f:Nat) (s:Rd) (l:List Int),(BA f s l).2.1.length<=s.1.length
 | 0,s,l=>Dq _
 | f+1,s,l=>by
  unfold BA
  split
  ·exact Dq _
  ·exact Dt (elsF_len f _ _) (Ci s).1
theorem intsF_len (s:Rd):(Aa s).2.1.length<=s.1.length:=by
 unfold Aa
 split
 ·simp
 ·have h:=elsF_len s.1.tail.length (s.1.tail,false) [];unfold intsE
  split
  ·simp
  ·simp only [List.length_tail] at h⊢;omega
def lv (s:Rd):Nat:=if s.2=true then 0 else s.1.length+1
theorem lv_ok (h:s.2=false):lv s=s.1.length+1:=by unfold lv;rw [h];rfl
theorem kidsF_lv {g:Rd->PT×Rd} (d:∀s,s.2=false->lv (g s).2<=lv s):∀(n:Nat) (s:Rd) (ks:List PT),lv (AM g n s ks).2<=lv s
 | 0,s,ks=>Dq _
 | n+1,s,ks=>by
  unfold AM
  split
  ·exact Dq _
  ·rename_i h
   exact Dt (kidsF_lv d n _ _) (d s (by simpa using h))
theorem lv_dec {t:Rd} (h:t.2=false->t.1.length<s.1.length) (o:s.2=false):lv t<lv s:=by
 rw [lv_ok o];unfold lv
 split
 ·omega
 ·rename_i d
  have:=h (by simpa using d);omega
theorem three_len (s:Rd):(zS (Aa (zS s).2).2).2.1.length<=s.1.length/\((zS (Aa (zS s).2).2).2.2=false->(zS (Aa (zS s).2).2).2.1.length<s.1.length):=by
 have o:=Ci s;have B:=intsF_len (zS s).2;have d:=Ci (Aa (zS s).2).2;exact ⟨by omega,fun h=>by have:=d.2 h;omega⟩
theorem rdF_lv:∀(f:Nat) (s:Rd),s.2=false->lv (rdF f s).2<lv s
 | 0,s,d=>by rw [lv_ok d];exact Nat.zero_lt_succ _
 | f+1,s,d=>by
  show lv (AM (rdF f) _ _ []).2<_;exact Nat.lt_of_le_of_lt (kidsF_lv (fun s h=>Nat.le_of_lt (rdF_lv f s h)) _ _ _) (lv_dec (three_len s).2 d)
theorem kidsF_stop {g:Rd->PT×Rd} {ks:List PT} (h:n=0\/s.2=true):AM g n s ks=(ks,s):=by
 cases n with
 | zero=>rfl
 | succ n=>
  unfold AM;rcases h with h | h
  ·cases h
  ·rw [if_pos h]
theorem kidsF_step {g:Rd->PT×Rd} {j:Nat} {ks:List PT} (h:s.2=false) (o:j<n):AM g (n - j) s ks=AM g (n - (j+1)) (g s).2 (ks++[(g s).1]):=by
 obtain ⟨k,d⟩:∃k,n - j=k+1:=⟨n - j - 1,by omega⟩;rw [d,show n - (j+1)=k by omega];show (if s.2=true then _ else _)=_;rw [if_neg (by rw [h];simp)]
theorem var_new (h:zM w) {b:Nat} (d:w.heap.size<=b):¬ isVar b:=by
 rintro ⟨n,B,o⟩
 have f:∀cs,w.var? Tryz.prog n=some cs->False:=fun cs h=>by
  unfold World.var? at h;rw [o,Option.bind_some,Array.getElem?_eq_none d] at h;cases h
 rcases B with rfl | rfl | rfl
 ·exact f _ h.tab
 ·obtain ⟨tp,p,h⟩:=h.syn;exact f _ h
 ·obtain ⟨tp,p,h⟩:=h.rng;exact f _ h
theorem read_end (o:a.tmps[2]?=some (.pointer (some ⟨gp,0,none⟩))) (B:a.defers=[]) (d:ze W gp 41 #[x,y,z]) (h:R (.returned (.agg #[x,y,z])) W):bodyPost Tryz.prog Tryz.f83 R Exit.ret a W:=by
 have c0:=d.cell (k:=0) rfl;have c1:=d.cell (k:=1) rfl;have c2:=d.cell (k:=2) rfl;have e:a.tmps.getD 2 undef=.pointer (some ⟨gp,0,none⟩):=by rw [Array.getD_eq_getD_getElem?,o];rfl
 exact El (v:=.agg #[x,y,z]) (by simp [results,Tryz.results83,go_sem,o,e,c0,c1,c2]) B h
theorem read_calls:∀(f:Nat) {r:Nat} {s:Rd} (w:World),zM w->AD w r s->s.1.length<f->f<=1000000000->
  Calls Tryz.prog 83 #[.pointer (some ⟨r,0,none⟩)] w fun e w'=>∃v,e=.returned v/\zi (·=r) w w'/\AD w' r (rdF f s).2/\Bn w' (fun b=>w.heap.size<=b) v (rdF f s).1
 | 0,r,s,w,_,_,h,_=>by omega
 | f+1,r,s,w,hv,hr,hf,n7=>by
  have IH:Hid (∀(r:Nat) (s:Rd) (w:World),zM w->AD w r s->s.1.length<f->Calls Tryz.prog 83 #[.pointer (some ⟨r,0,none⟩)] w fun e w'=>∃v,e=.returned v/\zi (·=r) w w'/\AD w' r (rdF f s).2/\Bn w' (fun b=>w.heap.size<=b) v (rdF f s).1):=fun r s w a b c=>read_calls f w a b c (by omega)
  have HV:=zh hv;have HR:=zh hr;have o0:=za hr;obtain ⟨t,ht⟩:=Ez (zS s);obtain ⟨u,hu⟩:=Ez (Aa t.2);obtain ⟨n,hn⟩:=Ez (zS u.2);obtain ⟨G,hG⟩:=Ez (rdF f);obtain ⟨N,hN⟩:=Ez n.1.toNat;have HF:Hid (rdF (f+1) s=(.node t.1 u.1 (AM G N n.2 []).1,(AM G N n.2 []).2)):=by (show _=_);rw [hN,hn,hu,ht,hG];rfl
  have e9:=Ci s;have l6:=intsF_len t.2;have i4:=Ci u.2;rw [<-ht] at e9;rw [<-hu] at l6;rw [<-hn] at i4;have HT:Hid (∀w,zM w->AD w r s->Calls Tryz.prog 152 #[.pointer (some ⟨r,0,none⟩)] w fun e w'=>e=.returned (.int .i64 t.1)/\zi (·=r) w w'/\AD w' r t.2):=fun w a b=>by rw [ht];exact rInt_calls w a b (by omega)
  have HU:Hid (∀w,zM w->AD w r t.2->Calls Tryz.prog 153 #[.pointer (some ⟨r,0,none⟩)] w fun e w'=>∃v,e=.returned v/\zi (·=r) w w'/\AD w' r u.2/\zt w' w.heap.size v u.1):=fun w a b=>by rw [hu];exact rInts_calls w a b (by omega)
  have j8:Hid (∀w,zM w->AD w r u.2->Calls Tryz.prog 152 #[.pointer (some ⟨r,0,none⟩)] w fun e w'=>e=.returned (.int .i64 n.1)/\zi (·=r) w w'/\AD w' r n.2):=fun w a b=>by rw [hn];exact rInt_calls w a b (by omega)
  have m7:Hid (I64 n.1):=by (show I64 n.1);rw [hn];exact intF_bound _
  have j7:Hid (n.2.1.length<=1000000000/\(n.2.2=false->n.2.1.length<f)):=⟨by omega,fun h=>by have:=i4.2 h;omega⟩;have m4:Hid (∀(s:Rd),s.2=false->lv (G s).2<lv s):=by (show ∀s,_);rw [hG];exact rdF_lv f
  rw [<-hG] at IH;have g5:=zh hN;rw [HF.out];clear hv hr hf n7 ht hu hn hG e9 l6 i4 hN HF
  go_enter Tryz.func83,Tryz.ntmps83
  go_upto_region 1 with fail;have c6:Hid (ze (w.alloc (.cells #[.int .i64 0,.slice none 0 0,.slice none 0 0] 41)) w.heap.size 41 #[.int .i64 0,.slice none 0 0,.slice none 0 0]):=ze.new _ _ _ rfl;have c8:Hid (zb w (w.alloc (.cells #[.int .i64 0,.slice none 0 0,.slice none 0 0] 41))):=(zb.refl w).alloc _;generalize w.alloc _=w1 at c6 c8⊢;obtain ⟨gp,i3⟩:∃g,g=w.heap.size:=⟨_,rfl⟩;rw [<-i3] at c6⊢;have a8:=zh i3;have B:Hid (r<gp):=by (show r<gp);omega
  clear i3 o0
  go_wp2_with fail
  refine (HT.out w1 (HV.out.ext c8.out) (HR.out.ext c8.out)).mono ?_;rintro e w2 ⟨rfl,c9,e7⟩;have a2:=zh c9;have n1:=zh e7;have k4:Hid (zM w2):=Bt (HV.out.ext c8.out) c9 (var_ne HV.out HR.out);clear c9 e7
  go_wp2_with fail
  refine (HU.out w2 k4.out n1.out).mono ?_;rintro e w3 ⟨vs,rfl,f6,l2,h9⟩;obtain ⟨As,cs,rfl,-⟩:=AV h9;have d8:Hid (ze w3 gp 41 #[.int .i64 0,.slice none 0 0,.slice none 0 0]):=(a2.out.tr f6).blk c6.out (by have:=B.out;omega);obtain ⟨ws,f7⟩:∃W,W=(w3.setCell ⟨gp,0,none⟩ (.int .i64 t.1)).setCell ⟨gp,1,none⟩ (.slice As u.1.length cs):=⟨_,rfl⟩;have e0:Hid (zi (·=gp) w3 ws):=by (show zi _ _ _);rw [f7];exact ((zi.refl (fun b=>b=gp) _).set gp 0 _ rfl).set gp 1 _ rfl
  have j0:Hid (ze ws gp 41 #[.int .i64 t.1,.slice As u.1.length cs,.slice none 0 0]):=by (show ze _ _ _ _);rw [f7];exact (d8.out.set (k:=0) _).set (k:=1) _
  have k3:Hid (AD ws r u.2):=e0.out.blk l2 (by have:=B.out;omega);have j2:Hid (zk ws (fun b=>gp<b) (.slice As u.1.length cs) u.1):=((Aw.of_own h9).keep (e0.out.same (fun b hb e=>by have Q:=a2.out.size;have h2:=c8.out.size;have h3:=a8.out;have h4:=za c6.out;omega))).weaken (fun b hb=>by have Q:=a2.out.size;have h4:=za c6.out;omega);have h8:Hid (zM ws):=Bt (Bt k4.out f6 (by rintro g rfl;exact var_ne HV.out HR.out g rfl)) e0.out (by rintro g rfl;exact var_new HV.out (by have:=a8.out;omega));have V:Hid (zi (fun b=>b=r\/b=gp) w1 ws):=((a2.out.tr f6).wide (fun _ h=>.inl h)).tr (e0.out.wide (fun _ h=>.inr h));have b0:=d8.out.cell (k:=0) rfl;have b1:=d8.out.cell (k:=1) rfl;have fz:∀k,w3.frozen? ⟨gp,k,none⟩=false:=fun k=>d8.out.frozen k
  clear f6 l2 h9 a2 e0
  go_wp2_with fail
  rw [<-f7];clear f7 b0 b1 fz d8;refine (j8.out ws h8.out k3.out).mono ?_;rintro e w6 ⟨rfl,e6,l3⟩;have m3:Hid (zi (fun b=>b=r\/b=gp) w1 w6):=V.out.tr (e6.wide (fun _ h=>.inl h));have i9:Hid (ze w6 gp 41 #[.int .i64 t.1,.slice As u.1.length cs,.slice none 0 0]):=e6.blk j0.out (by have:=B.out;omega);have m5:Hid (zk w6 (fun b=>gp<b) (.slice As u.1.length cs) u.1):=j2.out.keep (e6.same (fun b hb e=>by have:=B.out;omega));have n3:Hid (zM w6):=Bt h8.out e6 (by rintro g rfl;exact var_ne HV.out HR.out g rfl);have n2:=zh l3;have E:Hid (gp<w6.heap.size):=za i9.out;clear e6 l3 j0 j2 h8 k3 HT HU j8 V c6
  go_wp2_with fail
  go_loopw [4] (fun v wr=>∃(j:Nat) (acc:List PT) (vk:Value) (cs':List Value) (s':Rd),v=.int .i64 j/\j<=N/\Hid (AM G N n.2 []=AM G (N - j) s' acc)/\Hid (zi (fun b=>b=r\/b=gp) w6 wr)/\Hid (AD wr r s')/\Hid (ze wr gp 41 #[.int .i64 t.1,.slice As u.1.length cs,vk])/\Hid (Aj wr w6.heap.size vk acc cs')/\Hid (acc.length+lv s'<=n.2.1.length+1)/\Hid (s'.2=false->n.2.2=false/\lv s'<=lv n.2)) (fun v _=>N - (intOf v).toNat)
  case atStart=>exact ⟨0,[],_,[],n.2,rfl,DF _,rfl,zi.refl _ _,n2.out,i9.out,Aj.nil _ _,by (show _<=_);unfold lv;split <;> simp,fun h=>⟨h,Dq _⟩⟩
  case round=>
   obtain ⟨j,acc,vk,cs',s',rfl,hj,h7,d,e5,M,D,h6,j4⟩:=hrel;obtain ⟨wq,rfl⟩:∃W:World,W=wr:=⟨_,rfl⟩;by_cases a0:N - j=0\/s'.2=true
   ·have f8:Hid (AM G N n.2 []=(acc,s')):=h7.out.trans (kidsF_stop a0);have j1:Hid (zk wq (fun b=>gp<b/\b<w6.heap.size) (.slice As u.1.length cs) u.1):=m5.out.bound.keep (d.out.same (fun b hb e=>by have:=B.out;omega));obtain ⟨Ak,ck,o1,-,-⟩:=Aw.of_own D.out.own;subst o1;clear h7;have b0:=M.out.cell (k:=0) rfl;have b1:=M.out.cell (k:=1) rfl;have b2:=M.out.cell (k:=2) rfl;have fz:∀k,wq.frozen? ⟨gp,k,none⟩=false:=fun k=>M.out.frozen k
    have I:=Cm wq e5.out
    have U:Hid (ze (((wq.setCell ⟨gp,0,none⟩ (.int .i64 t.1)).setCell ⟨gp,1,none⟩ (.slice As u.1.length cs)).setCell ⟨gp,2,none⟩ (.slice Ak acc.length ck)) gp 41 #[.int .i64 t.1,.slice As u.1.length cs,.slice Ak acc.length ck]/\zi (·=r) w (((wq.setCell ⟨gp,0,none⟩ (.int .i64 t.1)).setCell ⟨gp,1,none⟩ (.slice As u.1.length cs)).setCell ⟨gp,2,none⟩ (.slice Ak acc.length ck))/\AD (((wq.setCell ⟨gp,0,none⟩ (.int .i64 t.1)).setCell ⟨gp,1,none⟩ (.slice As u.1.length cs)).setCell ⟨gp,2,none⟩ (.slice Ak acc.length ck)) r (AM G N n.2 []).2/\Bn (((wq.setCell ⟨gp,0,none⟩ (.int .i64 t.1)).setCell ⟨gp,1,none⟩ (.slice As u.1.length cs)).setCell ⟨gp,2,none⟩ (.slice Ak acc.length ck)) (fun b=>w.heap.size<=b) (.agg #[.int .i64 t.1,.slice As u.1.length cs,.slice Ak acc.length ck]) (.node t.1 u.1 (AM G N n.2 []).1)):=by
     (show _/\_/\_/\_)
     rw [f8.out];have hS:zi (fun b=>b=gp) wq (((wq.setCell ⟨gp,0,none⟩ (.int .i64 t.1)).setCell ⟨gp,1,none⟩ (.slice As u.1.length cs)).setCell ⟨gp,2,none⟩ (.slice Ak acc.length ck)):=(((zi.refl (fun b=>b=gp) _).set gp 0 _ rfl).set gp 1 _ rfl).set gp 2 _ rfl;have hW:zi (fun b=>b=r\/b=gp) w (((wq.setCell ⟨gp,0,none⟩ (.int .i64 t.1)).setCell ⟨gp,1,none⟩ (.slice As u.1.length cs)).setCell ⟨gp,2,none⟩ (.slice Ak acc.length ck)):=((BC c8.out).tr m3.out).tr (d.out.tr (hS.wide (fun _ h=>.inr h)));refine ⟨((M.out.set (k:=0) _).set (k:=1) _).set (k:=2) _,(zi.refl _ w).trans hW (fun k hk h=>h.elim id (fun e=>by have:=a8.out;omega)),hS.blk e5.out (by have:=B.out;omega),?_⟩;refine .mk (cs:=cs') ((j1.out.keep (hS.same (fun b hb e=>by omega))).weaken (fun b hb=>by have:=a8.out;omega)) ((Aw.of_own (D.out.chg hS (fun b hb e=>by have:=E.out;omega)).own).weaken (fun b hb=>by have:=a8.out;have:=E.out;omega)) (fun i hi=>((D.out.chg hS (fun b hb e=>by have:=E.out;omega)).each i hi).keepW (fun _ _ _=>rfl) (fun b hb=>by have:=a8.out;have:=E.out;have:=hb.1;omega))
    clear D j1 f8 d h6 j4;rcases a0 with h0 | hb
    ·have d4:¬ ((j:Int)<n.1):=by have:=g5.out;omega
     have i2:decide ((j:Int)<n.1)=false:=Dv d4;clear I
     go_wp2_with fail
     exact read_end rfl rfl U.out.1 ⟨_,rfl,U.out.2⟩
    ·by_cases d4:(j:Int)<n.1
     ·have i2:decide ((j:Int)<n.1)=true:=Du d4;rw [hb] at I;have b4:=zh I;clear I
      go_wp2_with fail
      refine b4.out.mono ?_;rintro e w7 ⟨rfl,rfl⟩
      go_wp2_with fail
      exact read_end rfl rfl U.out.1 ⟨_,rfl,U.out.2⟩
     ·have i2:decide ((j:Int)<n.1)=false:=Dv d4;clear I
      go_wp2_with fail
      exact read_end rfl rfl U.out.1 ⟨_,rfl,U.out.2⟩
   ·have n8:j<N:=by omega
    have d4:(j:Int)<n.1:=by have:=g5.out;omega
    have i2:decide ((j:Int)<n.1)=true:=Du d4
    have i6:s'.2=false:=by
     cases h:s'.2 with
     | false=>rfl
     | true=>exact absurd (.inr h) a0
    have I:=Cm wq e5.out;rw [i6] at I;have b4:=zh I;have f3:=zh i6;have o5:(j:Int)+1<=9223372036854775807:=by have:=m7.out.2;omega
    clear I a0 i6
    go_wp2_with fail
    refine b4.out.mono ?_;rintro e w7 ⟨rfl,rfl⟩;clear b4;go_upto_region 6 with fail;have e1:Hid (AM G N n.2 []=AM G (N - (j+1)) (G s').2 (acc++[(G s').1])):=h7.out.trans (kidsF_step f3.out n8);have hd:=m4.out s' f3.out;have l8:=lv_ok f3.out;have b9:=j4.out f3.out;have l7:=lv_ok b9.1;have d7:Hid ((acc++[(G s').1]).length+lv (G s').2<=n.2.1.length+1):=by (show _<=_);have:=h6.out;rw [Dz,DR];omega
    have e2:Hid ((G s').2.2=false->n.2.2=false/\lv (G s').2<=lv n.2):=fun _=>⟨b9.1,by omega⟩
    have g1:Hid (s'.1.length<f):=by (show _<_);have:=j7.out.2 b9.1;omega
    have c0:Hid (acc.length<=1000000001):=by (show _<=_);have:=h6.out;have:=j7.out.1;omega
    have k5:Hid (zM wq):=Bt n3.out d.out (by
     rintro g (rfl | rfl)
     ·exact var_ne HV.out HR.out g rfl
     ·exact var_new HV.out (by have:=a8.out;omega))
    clear hd l8 b9 l7;refine DH (S:=(fun W=>zi (fun b=>b=r\/b=gp) w6 W)) AB (d.out.tr (BC (zb.refl wq).drew)) fun zH=>?_;have O:Hid (zb wq wq.drew):=(zb.refl wq).drew;generalize wq.drew=wd at zH O⊢;refine zo 0 zH ?_;refine zo 2 zH ?_;simp only [zc,Dn];refine rdA [1,3] ?_;refine DS rfl (fun K o=>?_) ?_
    ·have cg1:wd.cell? ⟨gp,2,none⟩=some vk:=zi.cellk (BC (X:=fun b=>b=r) O.out) (M.out.cell (k:=2) rfl) (by have:=B.out;show ¬ (gp=r);omega);go_simp;clear cg1;refine EA o (d.out.tr ((BC (X:=fun b=>b=r) O.out).wide (fun _ h=>.inl h))) fun zH=>?_;clear o K;try simp only [zc,Dn]
     refine zK 3 fun K o=>?_;go_simp;go_at_call 83;refine (IH.out r s' wd (k5.out.ext O.out) (e5.out.ext O.out) g1.out).mono ?_;rintro e w2 ⟨v2,rfl,c9,e7,i0⟩;obtain ⟨As2,cs2,Ak2,ck2,rfl,-⟩:=i0.form;have a2:Hid (zi (fun b=>b=r) wq w2):=(BC O.out).tr c9;have m8:=zh i0;have n4:=zh e7;have g4:Hid (wq.heap.size<=wd.heap.size):=O.out.size;clear c9 i0 e7;refine EA o (d.out.tr ((a2.out).wide (fun _ h=>.inl h))) fun zH=>?_;clear o K;try simp only [zc,Dn]
     refine zK 4 fun K o=>?_;go_simp;have f4:=ze.new w2 #[.int .i64 (G s').1.task,.slice As2 (G s').1.side.length cs2,.slice Ak2 (G s').1.kids.length ck2] 41 (g:=w2.heap.size) rfl;have hA3:zb w2 (w2.alloc (.cells #[.int .i64 (G s').1.task,.slice As2 (G s').1.side.length cs2,.slice Ak2 (G s').1.kids.length ck2] 41)):=(zb.refl w2).alloc _;generalize w2.alloc _=w3 at f4 hA3⊢;generalize w2.heap.size=g3 at f4⊢;have m1:=zh f4;have V:Hid (zi (fun b=>b=r) wq w3):=(a2.out).tr (BC hA3);have m9:=zh (m8.out.ext hA3);have k8:=zh (n4.out.ext hA3);clear f4 hA3;refine EA o (d.out.tr ((V.out).wide (fun _ h=>.inl h))) fun zH=>?_;clear o K;try simp only [zc,Dn]
     refine zK 5 fun K o=>?_;have j3:Hid (Aj w3 w6.heap.size vk acc cs'):=D.out.chg (V.out) (fun b hb e=>by have:=E.out;have:=B.out;omega);refine Ag (ok:=fun _=>True) (by rfl) w3 _ _ eProof (by rfl) w6.heap.size acc.length 1 cs' _ vk _ (by rfl) (by rfl) j3.out.own (Cj m1.out) (fun u hu=>by simp at hu;rcases hu with rfl | rfl | rfl <;> rfl) (by have Q:=d.out.size;have h2:=zi.size (V.out);omega) (by have:=c0.out;unfold maxLen;omega) (by have:=c0.out;omega) ?_;intro v4 w4 i5 e8 m0;have m6:=zh (show Aj w4 w6.heap.size _ (acc++[(G s').1]) (cs'++[.int .i64 (G s').1.task,.slice As2 (G s').1.side.length cs2,.slice Ak2 (G s').1.kids.length ck2]) from j3.out.app (lo:=wd.heap.size) m9.out (fun k hk=>by have Q:=D.out.lt hk;have h2:=g4.out;omega) (by have Q:=d.out.size;have h2:=g4.out;omega) i5 e8 m0);have f2:Hid (zi (fun b=>b=r\/b=gp) w6 w4):=zi.grown (d.out.tr ((V.out).wide (fun _ h=>.inl h))) e8 (fun k hk e9=>by have Q:=D.out.lt hk;omega);obtain ⟨A4,c4,e4,-,-⟩:=Aw.of_own i5;subst e4;have e3:Hid (ze w4 gp 41 #[.int .i64 t.1,.slice As u.1.length cs,vk]):=(e8.block gp (by have Q:=E.out;have h2:=d.out.size;have h3:=zi.size (V.out);omega) (fun e=>by have Q:=D.out.lt e.symm;have h2:=E.out;omega)).trans (zi.blk (V.out) M.out (by have:=B.out;omega));have n5:Hid (AD w4 r (G s').2):=(e8.block r (za k8.out) (fun e=>by have Q:=D.out.lt e.symm;have h2:=E.out;have h3:=B.out;omega)).trans k8.out;clear i5 e8 m0;refine EA o (f2.out) fun zH=>?_;clear o K;try simp only [zc,Dn]
     refine zK 6 fun K o=>?_;go_simp;refine EA o (f2.out) fun zH=>?_;clear o K;try simp only [zc,Dn]
     refine zK 7 fun K o=>?_;have cg6:=e3.out.cell (k:=2) rfl;have fg6:=e3.out.frozen 2;go_simp;clear cg6 fg6;refine EA o (zi.set (f2.out) gp 2 (.slice A4 (acc.length+1) c4) (.inr rfl)) fun zH=>?_;clear o K;try simp only [zc,Dn]
     refine DV (by kernel_rfl) ?_ _;have a4:Hid (zi (fun b=>b=r\/b=gp) w6 (w4.setCell ⟨gp,2,none⟩ (.slice A4 (acc.length+1) c4))):=zi.set (f2.out) gp 2 (.slice A4 (acc.length+1) c4) (.inr rfl);have L:Hid (ze (w4.setCell ⟨gp,2,none⟩ (.slice A4 (acc.length+1) c4)) gp 41 #[.int .i64 t.1,.slice As u.1.length cs,(.slice A4 (acc.length+1) c4)]):=e3.out.set (k:=2) (.slice A4 (acc.length+1) c4);have a5:Hid (AD (w4.setCell ⟨gp,2,none⟩ (.slice A4 (acc.length+1) c4)) r (G s').2):=ze.setOther n5.out (a:=⟨gp,2,none⟩) (by have:=B.out;show r≠gp;omega) (.slice A4 (acc.length+1) c4);have a3:=zh (m6.out.chg (zi.set (X:=fun b=>b=gp) (zi.refl _ w4) gp 2 (.slice A4 (acc.length+1) c4) rfl) (fun b hb e=>by have:=E.out;omega));generalize w4.setCell ⟨gp,2,none⟩ (.slice A4 (acc.length+1) c4)=wz at a4 L a5 a3⊢;go_wp2;go_roundw
     case rel=>exact ⟨j+1,acc++[(G s').1],_,_,(G s').2,by go_num,by omega,e1.out,a4.out,a5.out,L.out,a3.out,d7.out,e2.out⟩
     case measure=>simp [intOf];omega
    refine DS rfl (fun K o=>?_) .nil;go_simp;go_at_call 83;refine (IH.out r s' wd (k5.out.ext O.out) (e5.out.ext O.out) g1.out).mono ?_;rintro e w7 ⟨v7,rfl,l1,l4,i1⟩;obtain ⟨As7,cs7,Ak7,ck7,rfl,-⟩:=i1.form;have d9:Hid (zi (fun b=>b=r) wq w7):=(BC O.out).tr l1;have k1:=zh i1;have k9:=zh l4;have b7:Hid (wq.heap.size<=wd.heap.size):=O.out.size;clear l1 i1 l4;refine EA o (d.out.tr ((d9.out).wide (fun _ h=>.inl h))) fun zH=>?_;clear o K;try simp only [zc,Dn]
    refine rdA [1,4] ?_;refine DS rfl (fun K o=>?_) ?_
    ·have cg8:w7.cell? ⟨gp,2,none⟩=some vk:=zi.cellk (d9.out) (M.out.cell (k:=2) rfl) (by have:=B.out;show ¬ (gp=r);omega);go_simp;clear cg8;refine EA o (d.out.tr ((d9.out).wide (fun _ h=>.inl h))) fun zH=>?_;clear o K;try simp only [zc,Dn]
     refine zK 4 fun K o=>?_;go_simp;have f5:=ze.new w7 #[.int .i64 (G s').1.task,.slice As7 (G s').1.side.length cs7,.slice Ak7 (G s').1.kids.length ck7] 41 (g:=w7.heap.size) rfl;have hA9:zb w7 (w7.alloc (.cells #[.int .i64 (G s').1.task,.slice As7 (G s').1.side.length cs7,.slice Ak7 (G s').1.kids.length ck7] 41)):=(zb.refl w7).alloc _;generalize w7.alloc _=w9 at f5 hA9⊢;generalize w7.heap.size=g9 at f5⊢;have m2:=zh f5;have c7:Hid (zi (fun b=>b=r) wq w9):=(d9.out).tr (BC hA9);have n0:=zh (k1.out.ext hA9);have l0:=zh (k9.out.ext hA9);clear f5 hA9;refine EA o (d.out.tr ((c7.out).wide (fun _ h=>.inl h))) fun zH=>?_;clear o K;try simp only [zc,Dn]
     refine zK 5 fun K o=>?_;have f9:Hid (Aj w9 w6.heap.size vk acc cs'):=D.out.chg (c7.out) (fun b hb e=>by have:=E.out;have:=B.out;omega);refine Ag (ok:=fun _=>True) (by rfl) w9 _ _ eProof (by rfl) w6.heap.size acc.length 1 cs' _ vk _ (by rfl) (by rfl) f9.out.own (Cj m2.out) (fun u hu=>by simp at hu;rcases hu with rfl | rfl | rfl <;> rfl) (by have Q:=d.out.size;have h2:=zi.size (c7.out);omega) (by have:=c0.out;unfold maxLen;omega) (by have:=c0.out;omega) ?_;intro v10 w10 f0 a6 g8;have j5:=zh (show Aj w10 w6.heap.size _ (acc++[(G s').1]) (cs'++[.int .i64 (G s').1.task,.slice As7 (G s').1.side.length cs7,.slice Ak7 (G s').1.kids.length ck7]) from f9.out.app (lo:=wd.heap.size) n0.out (fun k hk=>by have Q:=D.out.lt hk;have h2:=b7.out;omega) (by have Q:=d.out.size;have h2:=b7.out;omega) f0 a6 g8);have b5:Hid (zi (fun b=>b=r\/b=gp) w6 w10):=zi.grown (d.out.tr ((c7.out).wide (fun _ h=>.inl h))) a6 (fun k hk e9=>by have Q:=D.out.lt hk;omega);obtain ⟨A10,c10,e10,-,-⟩:=Aw.of_own f0;subst e10;have a9:Hid (ze w10 gp 41 #[.int .i64 t.1,.slice As u.1.length cs,vk]):=(a6.block gp (by have Q:=E.out;have h2:=d.out.size;have h3:=zi.size (c7.out);omega) (fun e=>by have Q:=D.out.lt e.symm;have h2:=E.out;omega)).trans (zi.blk (c7.out) M.out (by have:=B.out;omega));have k6:Hid (AD w10 r (G s').2):=(a6.block r (za l0.out) (fun e=>by have Q:=D.out.lt e.symm;have h2:=E.out;have h3:=B.out;omega)).trans l0.out;clear f0 a6 g8;refine EA o (b5.out) fun zH=>?_;clear o K;try simp only [zc,Dn]
     refine zK 6 fun K o=>?_;go_simp;refine EA o (b5.out) fun zH=>?_;clear o K;try simp only [zc,Dn]
     refine zK 7 fun K o=>?_;have cg12:=a9.out.cell (k:=2) rfl;have fg12:=a9.out.frozen 2;go_simp;clear cg12 fg12;refine EA o (zi.set (b5.out) gp 2 (.slice A10 (acc.length+1) c10) (.inr rfl)) fun zH=>?_;clear o K;try simp only [zc,Dn]
     refine DV (by kernel_rfl) ?_ _;have a4:Hid (zi (fun b=>b=r\/b=gp) w6 (w10.setCell ⟨gp,2,none⟩ (.slice A10 (acc.length+1) c10))):=zi.set (b5.out) gp 2 (.slice A10 (acc.length+1) c10) (.inr rfl);have L:Hid (ze (w10.setCell ⟨gp,2,none⟩ (.slice A10 (acc.length+1) c10)) gp 41 #[.int .i64 t.1,.slice As u.1.length cs,(.slice A10 (acc.length+1) c10)]):=a9.out.set (k:=2) (.slice A10 (acc.length+1) c10);have a5:Hid (AD (w10.setCell ⟨gp,2,none⟩ (.slice A10 (acc.length+1) c10)) r (G s').2):=ze.setOther k6.out (a:=⟨gp,2,none⟩) (by have:=B.out;show r≠gp;omega) (.slice A10 (acc.length+1) c10);have a3:=zh (j5.out.chg (zi.set (X:=fun b=>b=gp) (zi.refl _ w10) gp 2 (.slice A10 (acc.length+1) c10) rfl) (fun b hb e=>by have:=E.out;omega));generalize w10.setCell ⟨gp,2,none⟩ (.slice A10 (acc.length+1) c10)=wz at a4 L a5 a3⊢;go_wp2;go_roundw
     case rel=>exact ⟨j+1,acc++[(G s').1],_,_,(G s').2,by go_num,by omega,e1.out,a4.out,a5.out,L.out,a3.out,d7.out,e2.out⟩
     case measure=>simp [intOf];omega
    refine DS rfl (fun K o=>?_) .nil;go_simp;have b8:=ze.new w7 #[.int .i64 (G s').1.task,.slice As7 (G s').1.side.length cs7,.slice Ak7 (G s').1.kids.length ck7] 41 (g:=w7.heap.size) rfl;have hA13:zb w7 (w7.alloc (.cells #[.int .i64 (G s').1.task,.slice As7 (G s').1.side.length cs7,.slice Ak7 (G s').1.kids.length ck7] 41)):=(zb.refl w7).alloc _;generalize w7.alloc _=w13 at b8 hA13⊢;generalize w7.heap.size=g13 at b8⊢;have i8:=zh b8;have J:Hid (zi (fun b=>b=r) wq w13):=(d9.out).tr (BC hA13);have j9:=zh (k1.out.ext hA13);have g7:=zh (k9.out.ext hA13);clear b8 hA13;refine EA o (d.out.tr ((J.out).wide (fun _ h=>.inl h))) fun zH=>?_;clear o K;try simp only [zc,Dn]
    refine zK 1 fun K o=>?_;have cg14:w13.cell? ⟨gp,2,none⟩=some vk:=zi.cellk (J.out) (M.out.cell (k:=2) rfl) (by have:=B.out;show ¬ (gp=r);omega);go_simp;clear cg14;refine EA o (d.out.tr ((J.out).wide (fun _ h=>.inl h))) fun zH=>?_;clear o K;try simp only [zc,Dn]
    refine zK 5 fun K o=>?_;have g0:Hid (Aj w13 w6.heap.size vk acc cs'):=D.out.chg (J.out) (fun b hb e=>by have:=E.out;have:=B.out;omega);refine Ag (ok:=fun _=>True) (by rfl) w13 _ _ eProof (by rfl) w6.heap.size acc.length 1 cs' _ vk _ (by rfl) (by rfl) g0.out.own (Cj i8.out) (fun u hu=>by simp at hu;rcases hu with rfl | rfl | rfl <;> rfl) (by have Q:=d.out.size;have h2:=zi.size (J.out);omega) (by have:=c0.out;unfold maxLen;omega) (by have:=c0.out;omega) ?_;intro v15 w15 f1 a7 h5;have j6:=zh (show Aj w15 w6.heap.size _ (acc++[(G s').1]) (cs'++[.int .i64 (G s').1.task,.slice As7 (G s').1.side.length cs7,.slice Ak7 (G s').1.kids.length ck7]) from g0.out.app (lo:=wd.heap.size) j9.out (fun k hk=>by have Q:=D.out.lt hk;have h2:=b7.out;omega) (by have Q:=d.out.size;have h2:=b7.out;omega) f1 a7 h5);have b6:Hid (zi (fun b=>b=r\/b=gp) w6 w15):=zi.grown (d.out.tr ((J.out).wide (fun _ h=>.inl h))) a7 (fun k hk e9=>by have Q:=D.out.lt hk;omega);obtain ⟨A15,c15,e15,-,-⟩:=Aw.of_own f1;subst e15;have b3:Hid (ze w15 gp 41 #[.int .i64 t.1,.slice As u.1.length cs,vk]):=(a7.block gp (by have Q:=E.out;have h2:=d.out.size;have h3:=zi.size (J.out);omega) (fun e=>by have Q:=D.out.lt e.symm;have h2:=E.out;omega)).trans (zi.blk (J.out) M.out (by have:=B.out;omega));have k7:Hid (AD w15 r (G s').2):=(a7.block r (za g7.out) (fun e=>by have Q:=D.out.lt e.symm;have h2:=E.out;have h3:=B.out;omega)).trans g7.out;clear f1 a7 h5;refine EA o (b6.out) fun zH=>?_;clear o K;try simp only [zc,Dn]
    refine zK 6 fun K o=>?_;go_simp;refine EA o (b6.out) fun zH=>?_;clear o K;try simp only [zc,Dn]
    refine zK 7 fun K o=>?_;have cg17:=b3.out.cell (k:=2) rfl;have fg17:=b3.out.frozen 2;go_simp;clear cg17 fg17;refine EA o (zi.set (b6.out) gp 2 (.slice A15 (acc.length+1) c15) (.inr rfl)) fun zH=>?_;clear o K;try simp only [zc,Dn]
    refine DV (by kernel_rfl) ?_ _;have a4:Hid (zi (fun b=>b=r\/b=gp) w6 (w15.setCell ⟨gp,2,none⟩ (.slice A15 (acc.length+1) c15))):=zi.set (b6.out) gp 2 (.slice A15 (acc.length+1) c15) (.inr rfl);have L:Hid (ze (w15.setCell ⟨gp,2,none⟩ (.slice A15 (acc.length+1) c15)) gp 41 #[.int .i64 t.1,.slice As u.1.length cs,(.slice A15 (acc.length+1) c15)]):=b3.out.set (k:=2) (.slice A15 (acc.length+1) c15);have a5:Hid (AD (w15.setCell ⟨gp,2,none⟩ (.slice A15 (acc.length+1) c15)) r (G s').2):=ze.setOther k7.out (a:=⟨gp,2,none⟩) (by have:=B.out;show r≠gp;omega) (.slice A15 (acc.length+1) c15);have a3:=zh (j6.out.chg (zi.set (X:=fun b=>b=gp) (zi.refl _ w15) gp 2 (.slice A15 (acc.length+1) c15) rfl) (fun b hb e=>by have:=E.out;omega));generalize w15.setCell ⟨gp,2,none⟩ (.slice A15 (acc.length+1) c15)=wz at a4 L a5 a3⊢;go_wp2;go_roundw
    case rel=>exact ⟨j+1,acc++[(G s').1],_,_,(G s').2,by go_num,by omega,e1.out,a4.out,a5.out,L.out,a3.out,d7.out,e2.out⟩
    case measure=>simp [intOf];omega
def decF (l:List UInt8):Option PT:=if (rdF (l.length+1) (l,false)).2.2=true\/0<Ah (rdF (l.length+1) (l,false)).2\/encP (rdF (l.length+1) (l,false)).1≠l then none else some (rdF (l.length+1) (l,false)).1
mutual
def PT.wt:PT->Nat
 | .node _ s ks=>1+s.length+PT.wtL ks
def PT.wtL:List PT->Nat
 | []=>0
 | k :: ks=>k.wt+PT.wtL ks
end
theorem wtL_app:∀(a b:List PT),PT.wtL (a++b)=PT.wtL a+PT.wtL b
 | [],b=>by simp [PT.wtL]
 | k :: a,b=>by rw [List.cons_append];simp only [PT.wtL,wtL_app a b];omega
theorem intF_lv (s:Rd):lv (zS s).2<=lv s - 1:=by
 cases d:s.2 with
 | true=>rw [intF_bad d];simp [lv]
 | false=>have:=lv_dec (Ci s).2 d;omega
theorem elsF_lv:∀(f:Nat) (s:Rd) (l:List Int),(BA f s l).1.length+lv (BA f s l).2<=l.length+lv s/\((∀x∈l,I64 x)->∀x∈(BA f s l).1,I64 x)
 | 0,s,l=>⟨Dq _,fun h=>h⟩
 | f+1,s,l=>by
  unfold BA
  split
  ·exact ⟨Dq _,fun h=>h⟩
  ·rename_i B
   have D:s.2=false:=by
    cases h:s.2 with
    | false=>rfl
    | true=>exact absurd (.inl (by unfold Ah;rw [h];rfl)) B
   obtain ⟨d,o⟩:=elsF_lv f (zS s).2 (l++[(zS s).1]);have E:=intF_lv s;have G:=lv_ok D;refine ⟨by rw [Dz,DR] at d;omega,fun h=>o fun x hx=>?_⟩;rcases Eg.1 hx with hx | hx
   ·exact h x hx
   ·rw [DY.1 hx];exact intF_bound s
theorem intsF_lv (s:Rd):(Aa s).1.length+lv (Aa s).2<=lv s/\∀x∈(Aa s).1,I64 x:=by
 unfold Aa
 split
 ·exact ⟨by simp [lv],fun x d=>by cases d⟩
 ·rename_i G
  have I:s.2=false:=by
   cases h:s.2 with
   | false=>rfl
   | true=>exact absurd (.inl (by unfold Ah;rw [h];rfl)) G
  obtain ⟨o,B⟩:=elsF_lv s.1.tail.length (s.1.tail,false) [];have h0:lv (s.1.tail,false)<=lv s:=by rw [lv_ok I];simp [lv]
  unfold intsE
  split
  ·exact ⟨by simp [lv],fun x d=>by cases d⟩
  ·rename_i E
   have D:(BA s.1.tail.length (s.1.tail,false) []).2.2=false:=by
    cases h:(BA s.1.tail.length (s.1.tail,false) []).2.2 with
    | false=>rfl
    | true=>exact absurd (by unfold Ah;rw [h];rfl) E
   have J:lv ((BA s.1.tail.length (s.1.tail,false) []).2.1.tail,false)<=lv (BA s.1.tail.length (s.1.tail,false) []).2:=by rw [lv_ok D];simp [lv]
   refine ⟨?_,B fun x d=>by cases d⟩;simp only [Ey,Nat.zero_add] at o;show (BA s.1.tail.length (s.1.tail,false) []).1.length+lv ((BA s.1.tail.length (s.1.tail,false) []).2.1.tail,false)<=_;omega
theorem okL_of:∀{ks:List PT},(∀k∈ks,k.Ok)->PT.OkL ks
 | [],_=>by unfold PT.OkL;exact True.intro
 | k :: ks,h=>by
  unfold PT.OkL;exact ⟨h k (Ed ..),okL_of fun x d=>h x (DM _ d)⟩
theorem kidsF_wt {g:Rd->PT×Rd} (E:∀s,s.2=false->(g s).1.wt+lv (g s).2<=lv s/\(s.1.length<=1000000000->(g s).1.Ok)/\((g s).2.2=false->(g s).2.1.length<=s.1.length)):∀(n:Nat) (s:Rd) (ks:List PT),PT.wtL (AM g n s ks).1+lv (AM g n s ks).2<=PT.wtL ks+lv s/\ks.length+(AM g n s ks).1.length<=ks.length+ks.length+lv s/\(s.1.length<=1000000000->(∀k∈ks,k.Ok)->∀k∈(AM g n s ks).1,k.Ok)
 | 0,s,ks=>⟨Dq _,by simp [AM],fun _ h=>h⟩
 | n+1,s,ks=>by
  unfold AM
  split
  ·exact ⟨Dq _,by show ks.length+ks.length<=_;omega,fun _ h=>h⟩
  ·rename_i B
   have B:s.2=false:=by simpa using B
   obtain ⟨O,G,J⟩:=E s B;obtain ⟨D,K,I⟩:=kidsF_wt E n (g s).2 (ks++[(g s).1]);rw [wtL_app] at D;simp only [PT.wtL] at D;have U:1<=(g s).1.wt:=by cases (g s).1;unfold PT.wt;omega
   have Q:=lv_ok B;refine ⟨by omega,by rw [Dz,DR] at K;omega,fun L M=>?_⟩
   have o:∀k∈ks++[(g s).1],k.Ok:=fun k hk2=>by
    rcases Eg.1 hk2 with hk2 | hk2
    ·exact M k hk2
    ·rw [DY.1 hk2];exact G L
   cases d:(g s).2.2 with
   | false=>exact I (by have:=J d;omega) o
   | true=>
    rw [kidsF_stop (.inr d)];exact o
theorem rdF_wt:∀(f:Nat) (s:Rd),s.2=false->(rdF f s).1.wt+lv (rdF f s).2<=lv s/\(s.1.length<=1000000000->(rdF f s).1.Ok)/\((rdF f s).2.2=false->(rdF f s).2.1.length<=s.1.length)
 | 0,s,o=>by
  rw [lv_ok o];refine ⟨by simp [rdF,PT.zero,PT.wt,PT.wtL,lv],fun _=>?_,fun h=>by cases h⟩;show PT.Ok (.node 0 [] []);unfold PT.Ok PT.OkL;exact ⟨⟨by decide,by decide⟩,(fun x G=>by cases G),by simp,by simp,True.intro⟩
 | f+1,s,o=>by
  have a1:=intF_lv s;obtain ⟨a2,a3⟩:=intsF_lv (zS s).2;have a4:=intF_lv (Aa (zS s).2).2;obtain ⟨a5,a6,a7⟩:=kidsF_wt (fun s h=>rdF_wt f s h) (zS (Aa (zS s).2).2).1.toNat (zS (Aa (zS s).2).2).2 [];have a8:=lv_ok o;have a9:=three_len s
  have d:(rdF (f+1) s).2.2=false->(rdF (f+1) s).2.1.length<=s.1.length:=fun h=>by
   have B:=kidsF_lv (g:=rdF f) (fun s h=>Nat.le_of_lt (rdF_lv f s h)) (zS (Aa (zS s).2).2).1.toNat (zS (Aa (zS s).2).2).2 []
   have D:lv (rdF (f+1) s).2<=lv s:=by
    have:lv (rdF (f+1) s).2<=lv (zS (Aa (zS s).2).2).2:=B;omega
   rw [lv_ok h,a8] at D;omega
  refine ⟨?_,fun I=>?_,d⟩
  ·show (PT.node _ _ _).wt+lv (AM _ _ _ _).2<=_;unfold PT.wt;simp only [PT.wtL] at a5;omega
  ·show (PT.node _ _ _).Ok;unfold PT.Ok;refine ⟨intF_bound s,a3,by omega,?_,okL_of (a7 (by omega) fun k E=>by cases E)⟩;simp only [Ey,Nat.zero_add] at a6;omega
mutual
theorem enc_wt:∀(p:PT),p.Ok->(encP p).length<=50*p.wt/\p.size<=p.wt
 | .node t s ks,h=>by
  unfold PT.Ok at h;obtain ⟨d,o,D,E,B⟩:=h;have b1:=wI_len d;have b2:=wIs_len o;have b3:=wI_len (n:=(ks.length:Nat)) ⟨by omega,by omega⟩;obtain ⟨b4,b5⟩:=encs_wt ks B;unfold encP PT.wt PT.size;simp only [wL,Dz,Ex,Ey];exact ⟨by omega,by omega⟩
theorem encs_wt:∀(ks:List PT),PT.OkL ks->(AX ks).length<=50*PT.wtL ks/\PT.sizeL ks<=PT.wtL ks
 | [],_=>by simp [AX,PT.wtL,PT.sizeL]
 | k :: ks,h=>by
  unfold PT.OkL at h;obtain ⟨b1,b2⟩:=enc_wt k h.1;obtain ⟨b3,b4⟩:=encs_wt ks h.2;unfold AX PT.wtL PT.sizeL;rw [Dz];exact ⟨by omega,by omega⟩
end
def decR (l:List UInt8):Int×PT:=if 262144<l.length then (2,.zero) else match decF l with
 | none=>(4,.zero)
 | some p=>(0,p)
theorem dec_end {n:Int} (o:a.tmps[2]?=some (.pointer (some ⟨gp,0,none⟩))) (B:a.tmps[3]?=some (.int .i64 n)) (D:a.defers=[]) (d:ze W gp 41 #[x,y,z]) (h:R (.returned (.tuple #[.agg #[x,y,z],.int .i64 n])) W):bodyPost Tryz.prog Tryz.f31 R Exit.ret a W:=by
 have c0:=d.cell (k:=0) rfl;have c1:=d.cell (k:=1) rfl;have c2:=d.cell (k:=2) rfl;have e:a.tmps.getD 2 undef=.pointer (some ⟨gp,0,none⟩):=by rw [Array.getD_eq_getD_getElem?,o];rfl
 have e3:a.tmps.getD 3 undef=.int .i64 n:=by rw [Array.getD_eq_getD_getElem?,B];rfl
 exact El (v:=.tuple #[.agg #[x,y,z],.int .i64 n]) (by simp [results,Tryz.results31,go_sem,o,B,e,e3,c0,c1,c2]) D h
theorem dec_fin {wq:World} {v0 v1 v2:Value} {d:Int×PT} {p:PT} {n:Int} (K:gp=w.heap.size) (E:Below gp w wq) (B:ze wq gp 41 #[v0,v1,v2]) (hp:Bn wq (fun b=>gp<b) (.agg #[x,y,z]) p) (J:d=(n,p)) (I:a.tmps[2]?=some (.pointer (some ⟨gp,0,none⟩))) (L:a.tmps[3]?=some (.int .i64 n)) (D:a.defers=[]):
  bodyPost Tryz.prog Tryz.f31 (fun e w'=>∃v,e=.returned (.tuple #[v,.int .i64 d.1])/\zb w w'/\Bn w' (fun b=>w.heap.size<=b) v d.2) Exit.ret a (((wq.setCell ⟨gp,0,none⟩ x).setCell ⟨gp,1,none⟩ y).setCell ⟨gp,2,none⟩ z):=by
 subst J;have G:zi (fun b=>b=gp) wq (((wq.setCell ⟨gp,0,none⟩ x).setCell ⟨gp,1,none⟩ y).setCell ⟨gp,2,none⟩ z):=(((zi.refl (fun b=>b=gp) _).set gp 0 _ rfl).set gp 1 _ rfl).set gp 2 _ rfl
 have o:zb w (((wq.setCell ⟨gp,0,none⟩ x).setCell ⟨gp,1,none⟩ y).setCell ⟨gp,2,none⟩ z):=by
  subst K;exact ((E.setCell (p:=⟨_,0,none⟩) (Dq _) _).setCell (p:=⟨_,1,none⟩) (Dq _) _).setCell (p:=⟨_,2,none⟩) (Dq _) _
 exact dec_end I L D (((B.set (k:=0) x).set (k:=1) y).set (k:=2) z) ⟨_,rfl,o,hp.keepW (G.same fun b B e=>by omega) fun b B=>by omega⟩
theorem dec_calls {l:List UInt8} (w:World) (hv:zM w):Calls Tryz.prog 31 #[.string ⟨l.toArray⟩] w fun e w'=>∃v,e=.returned (.tuple #[v,.int .i64 (decR l).1])/\zb w w'/\Bn w' (fun b=>w.heap.size<=b) v (decR l).2:=by
 have HV:=zh hv;obtain ⟨d,hd⟩:=Ez (decR l);rw [<-hd];have HD:=zh hd;clear hv hd
 go_enter Tryz.func31,Tryz.ntmps31
 go_upto_region 1 with fail;have D:Hid (ze (w.alloc (.cells #[.int .i64 0,.slice none 0 0,.slice none 0 0] 41)) w.heap.size 41 #[.int .i64 0,.slice none 0 0,.slice none 0 0]):=ze.new _ _ _ rfl;have a4:Hid (zb w (w.alloc (.cells #[.int .i64 0,.slice none 0 0,.slice none 0 0] 41))):=(zb.refl w).alloc _;generalize w.alloc _=w1 at D a4⊢;obtain ⟨gp,b6⟩:∃g,g=w.heap.size:=⟨_,rfl⟩;rw [<-b6] at D⊢;have I:=zh b6;have fz:∀k,w1.frozen? ⟨gp,k,none⟩=false:=fun k=>D.out.frozen k
 have b0:=D.out.cell (k:=0) rfl;have b1:=D.out.cell (k:=1) rfl;have b2:=D.out.cell (k:=2) rfl;clear b6;by_cases hl:262144<l.length
 ·have G:Hid (d=(2,.zero)):=by (show _=_);rw [HD.out];unfold decR;rw [if_pos hl]
  have f0:(262144:Int)<(l.length:Int):=by omega
  have f1:decide (262144<l.length)=true:=Du hl
  go_wp2_with fail
  exact dec_fin I.out (by rw [I.out];exact a4.out) D.out (Bn.zero _ _) G.out rfl rfl rfl
 ·have f0:¬ ((262144:Int)<(l.length:Int)):=by omega
  have f1:decide (262144<l.length)=false:=Dv hl;have e3:=zh (Nat.le_of_not_lt hl);obtain ⟨q,hq⟩:=Ez (rdF (l.length+1) (l,false))
  have L:Hid (d=match (if q.2.2=true\/0<Ah q.2\/encP q.1≠l then none else some q.1) with | none=>(4,.zero) | some p=>(0,p)):=by
   (show _=_);rw [HD.out,hq];unfold decR;rw [if_neg hl];rfl
  have a2:=rdF_wt (l.length+1) (l,false) rfl;rw [<-hq] at a2;have b7:=a2.2.1 (by show l.length<=_;omega);have e9:=enc_wt q.1 b7;have f2:lv (l,false)=l.length+1:=lv_ok rfl;have e4:=zh b7;have a5:Hid ((encP q.1).length<=9223372036854775000):=by (show _<=_);have:=a2.1;omega
  have HQ:=zh hq;clear hl a2 b7 e9 f2 hq b0 b1 b2 fz
  go_wp2_with fail
  refine (wNew_calls l w1).mono ?_;rintro e w2 ⟨rfl,V,b4⟩;obtain ⟨r,hr⟩:=Ez w1.heap.size;rw [<-hr] at b4⊢;have a8:Hid (gp<r/\r=w1.heap.size):=⟨by have:=za D.out;omega,hr⟩;have d7:zb w w2:=a4.out.trans V;have c9:=zh b4;have b9:=zh (D.out.ext V);have c6:=zh d7;have c0:=zh V;clear b4 hr V d7 D
  go_wp2_with fail
  refine (read_calls (l.length+1) w2 (HV.out.ext c6.out) c9.out (Nat.lt_succ_self _) (by have:=e3.out;omega)).mono ?_;rintro e w3 ⟨v,rfl,b3,b5,a0⟩;rw [<-HQ.out] at b5 a0;obtain ⟨As,cs,Ak,ck,rfl,-⟩:=a0.form;have c7:Hid (Bn w3 (fun b=>gp<b) (.agg #[.int .i64 q.1.task,.slice As q.1.side.length cs,.slice Ak q.1.kids.length ck]) q.1):=a0.keepW (fun _ _ _=>rfl) (fun b hb=>by have:=c0.out.size;have:=a8.out;omega);have a3:Hid (ze w3 gp 41 #[.int .i64 0,.slice none 0 0,.slice none 0 0]):=b3.blk b9.out (by have:=a8.out;omega);have d6:Hid (Below gp w w3):=by (show Below _ _ _);rw [I.out];exact (zi.trans (BC c6.out) b3 (X:=(·=r)) (fun _ _ h=>h)).below (Dq _) (fun b hb=>by have:=a8.out;have:=I.out;omega)
  have d4:=zh b5;clear b3 b5 a0 b9 c9;go_upto_region 5 with fail;obtain ⟨M,p0,p1,p2⟩:=box3 w3 (.int .i64 q.1.task) (.slice As q.1.side.length cs) (.slice Ak q.1.kids.length ck);generalize w3.alloc _=w4 at M p0 p1 p2⊢;obtain ⟨gq,d8⟩:∃g,g=w3.heap.size:=⟨_,rfl⟩;rw [<-d8] at p0 p1 p2⊢;have c8:=zh (c7.out.ext M);have E:=zh (a3.out.ext M);have U:Hid (Below gp w w4):=Below.trans d6.out (M.mono (Nat.le_of_lt (za a3.out)));have d5:=zh (d4.out.ext M);have e7:Hid (zM w4):=HV.out.ext (by have:=U.out;rw [I.out] at this;exact this);have K:=zh (Cm w4 d5.out);have a7:=zh (Dh w4 d5.out);have hx:zb w4 w4:=zb.refl w4;have z0:=E.out.cell (k:=0) rfl;have z1:=E.out.cell (k:=1) rfl;have z2:=E.out.cell (k:=2) rfl;have fz:∀k,w4.frozen? ⟨gp,k,none⟩=false:=fun k=>E.out.frozen k
  clear d8 M c7 a3 d6 d4;by_cases o:q.2.2=true
  ·have G:Hid (d=(4,.zero)):=by (show _=_);rw [L.out,if_pos (.inl o)]
   rw [o] at K;clear o
   go_wp2_with fail
   refine K.out.mono ?_;rintro e w5 ⟨rfl,rfl⟩
   go_wp2_with fail
   exact dec_fin I.out U.out E.out (Bn.zero _ _) G.out rfl rfl rfl
  ·have a1:q.2.2=false:=by simpa using o
   rw [a1] at K;by_cases Q:0<Ah q.2
   ·have G:Hid (d=(4,.zero)):=by (show _=_);rw [L.out,if_pos (.inr (.inl Q))]
    have d9:(0:Int)<(Ah q.2:Int):=by omega
    have e0:decide (0<Ah q.2)=true:=Du Q;clear o a1
    go_wp2_with fail
    refine K.out.mono ?_;rintro e w5 ⟨rfl,rfl⟩
    go_wp2_with fail
    refine a7.out.mono ?_;rintro e w5 ⟨rfl,rfl⟩
    go_wp2_with fail
    exact dec_fin I.out U.out E.out (Bn.zero _ _) G.out rfl rfl rfl
   ·have d9:¬ ((0:Int)<(Ah q.2:Int)):=by omega
    have e0:decide (0<Ah q.2)=false:=Dv Q;have a6:=zh (enc_calls q.1.size w4 e7.out c8.out (Dq _) e4.out a5.out);by_cases O:encP q.1=l
    ·have G:Hid (d=(0,q.1)):=by (show _=_);rw [L.out,if_neg (fun h=>h.elim o fun h=>h.elim Q fun h=>h O)]
     rw [O] at a6;clear o a1 Q O L HD HQ a5
     go_wp2_with fail
     refine K.out.mono ?_;rintro e w5 ⟨rfl,rfl⟩
     go_wp2_with fail
     refine a7.out.mono ?_;rintro e w5 ⟨rfl,rfl⟩
     go_wp2_with fail
     refine a6.out.mono ?_;rintro e w6 ⟨rfl,J⟩;have e5:=zh (c8.out.ext J);have B:=zh (E.out.ext J);have a9:Hid (Below gp w w6):=Below.trans U.out (J.mono (Nat.le_of_lt (za E.out)));have y0:=B.out.cell (k:=0) rfl;have y1:=B.out.cell (k:=1) rfl;have y2:=B.out.cell (k:=2) rfl;have fy:∀k,w6.frozen? ⟨gp,k,none⟩=false:=fun k=>B.out.frozen k
     clear z0 z1 z2 fz hx;have hx:zb w4 w6:=J;clear J
     go_wp2_with fail
     exact dec_fin I.out a9.out B.out e5.out G.out rfl rfl rfl
    ·have G:Hid (d=(4,.zero)):=by (show _=_);rw [L.out,if_pos (.inr (.inr O))]
     have f8:(encP q.1==l)=false:=by simp [O]
     clear o a1 Q O L HD HQ a5
     go_wp2_with fail
     refine K.out.mono ?_;rintro e w5 ⟨rfl,rfl⟩
     go_wp2_with fail
     refine a7.out.mono ?_;rintro e w5 ⟨rfl,rfl⟩
     go_wp2_with fail
     refine a6.out.mono ?_;rintro e w6 ⟨rfl,J⟩;have B:=zh (E.out.ext J);have a9:Hid (Below gp w w6):=Below.trans U.out (J.mono (Nat.le_of_lt (za E.out)));have y0:=B.out.cell (k:=0) rfl;have y1:=B.out.cell (k:=1) rfl;have y2:=B.out.cell (k:=2) rfl;have fy:∀k,w6.frozen? ⟨gp,k,none⟩=false:=fun k=>B.out.frozen k
     clear z0 z1 z2 fz hx J
     go_wp2_with fail
     exact dec_fin I.out a9.out B.out (Bn.zero _ _) G.out rfl rfl rfl
end
section
open Go.RowKit
def reachLX (m:MZ) (t:Nat) (f us:List Int):List Int:=((List.range m.n.toNat).map Int.ofNat).filter fun x=>decide (x∈reachX m t f us)
def sideX (m:MZ) (ch:List Int) (t:Nat):List Int:=if AS m=0/\t<m.tasks.length then reachLX m t (zZ m ch t) ch else []
theorem side_x (d:Dim m) (ch:List Int) (t:Nat):By m ch t=sideX m ch t:=by
 unfold By sideX reachO reachLX;by_cases h:AS m=0/\t<m.tasks.length
 ·rw [if_pos h,if_pos ⟨h.1,by omega,by have:=h.2;omega⟩,reachL_x d]
  all_goals rfl
 ·rw [if_neg h,if_neg (fun o=>h ⟨o.1,by have:=o.2.2;omega⟩)]
def offX (m:MZ) (ch:List Int) (t:Nat):Bool:=!((sideX m ch t).any fun n=>decide (n∈(m.tasks.getD t ([],[])).2)) && (decide (sideX m ch t≠[]) || decide (zO m ch<t))
def cutX (m:MZ) (ch:List Int):Option Nat:=((List.range (m.tasks.length - zO m ch)).map (zO m ch+·)).find? (offX m ch)
theorem cut_x (d:Dim m) (ch:List Int):cutT m ch=cutX m ch:=by
 unfold cutT cutX;congr 1;funext t;unfold offB offX;rw [side_x d]
def proveX (m:MZ):Nat->List Int->Nat->Int×PT×Nat
 | 0,_,k=>(53,.zero,k)
 | f+1,ch,k=>
  if m.tasks.length<=zO m ch then (51,.zero,k)
  else if 3000<k+1 then (53,.zero,k+1)
  else match cutX m ch with
   | some t=>(0,.node t (sideX m ch t) [],k+1)
   | none=>
    let r:=zI (fun n k=>proveX m f (ch++[n]) k) (zQ m ch) (k+1) []
    if r.1=0 then (0,.node (zO m ch) [] r.2.1,r.2.2) else (r.1,.zero,r.2.2)
theorem prove_x {m:MZ} (d:Dim m):∀(f:Nat) (ch:List Int) (k:Nat),zm m f ch k=proveX m f ch k
 | 0,ch,k=>rfl
 | f+1,ch,k=>by
  unfold zm proveX;rw [cut_x d]
  have h:(fun n k=>zm m f (ch++[n]) k)=fun n k=>proveX m f (ch++[n]) k:=by
   funext n k;exact prove_x d f _ _
  rw [h];by_cases o:m.tasks.length<=zO m ch
  ·rw [if_pos o,if_pos o]
  ·rw [if_neg o,if_neg o];by_cases B:3000<k+1
   ·rw [if_pos B,if_pos B]
   ·rw [if_neg B,if_neg B]
    cases cutX m ch with
    | some t=>show (0,PT.node _ (By m ch t) _,_)=(0,PT.node _ (sideX m ch t) _,_);rw [side_x d]
    | none=>rfl
def makeX (m:MZ):Int×PT:=if AS m=0 then ((proveX m (m.n.toNat+2) [] 0).1,(proveX m (m.n.toNat+2) [] 0).2.1) else (AS m,.zero)
theorem make_x (d:Dim m):zJ m=makeX m:=by
 unfold zJ makeX;rw [prove_x d]
end
end Go.Proofs.YtnmkmhpgnpojbaaGreatDoor
