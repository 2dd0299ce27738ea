import Derived.Test.YtcnaogdgjkpkmaaGreatDoorWSzb
set_option linter.unusedVariables false
set_option linter.unusedSimpArgs false
set_option maxRecDepth 100000
set_option maxHeartbeats 16000000
namespace Go.Proofs.YtcnaogdgjkpkmaaGreatDoor
variable {ks:List PT} {n:Nat} {ok:Nat->Prop} {s:Rd} {g:Rd->PT×Rd} {v:Value} {w:World}
section
open Go.RowKit
attribute [local go_sem ↓] Go.wp_at_zero Go.wp_at_succ
theorem pref_intss {A:Option Addr} {c N:Nat} {l:List (List Int)} (h:Ai w ok (.slice A n c) l) (I:N<=n):Ai w ok (.slice A N c) (l.take N):=by
 obtain ⟨vs,⟨A',c',e,J,E,G⟩,he⟩:=h;injection e with e1 e2 e3;subst e1 e2 e3;refine ⟨vs.take N,⟨A,c,by rw [Et,Nat.min_eq_left (by omega)],by rw [Et];omega,by simp [E],fun hp=>?_⟩,fun i x r=>?_⟩
 ·rw [Et] at hp;obtain ⟨b,off,e,B,d⟩:=G (by omega);refine ⟨b,off,e,B,fun j u o=>d j u ?_⟩;rw [List.getElem?_take] at o
  split at o
  ·exact o
  ·cases o
 ·rw [List.getElem?_take] at r⊢
  split at r
  ·rename_i D
   rw [if_pos D];exact he i x r
  ·cases r
theorem CH {ls:List (List Int)} (w:World) (hm:Ai w ok v ls) (b0:ls.length<=9223372036854775807) (K:∀x∈ls,x.length<=9223372036854775807):Calls Tryz.prog 8 #[v] w (AD w):=by
 have HM:=zh hm;have G:=zh K;obtain ⟨_,⟨A,c,rfl,hc,-⟩,-⟩:=id hm;clear hm K;obtain ⟨N,hN⟩:=EH (min ls.length 5);have HN:=zh hN;have V:N<=ls.length:=by omega
 have a7:N<=5:=by omega
 have a4:min (ls.length:Int) 5=(N:Int):=by omega
 clear hN
 go_enter Tryz.func8,Tryz.ntmps8
 go_upto_region 1 with fail;generalize E:w.alloc (.cells #[.int .i64 0,.int .i64 0,.int .i64 0,.slice none 0 0,.slice none 0 0,.slice none 0 0] 35)=w1;have J:zc w w1:=by rw [<-E];exact (zc.refl w).alloc _
 have r:Hid (zj w1 w.heap.size 35 #[.int .i64 0,.int .i64 0,.int .i64 0,.slice none 0 0,.slice none 0 0,.slice none 0 0]):=by rw [<-E];exact zj.new _ _ _ rfl
 clear E;have D:=zh J;clear J
 go_wp2_with fail
 refine (made_calls w1 (pref_intss (HM.out.below D.out) V) (by rw [Et];omega) (fun x hx=>G.out x (List.mem_of_mem_take hx))).mono ?_;rintro e w2 ⟨v',z,rfl,B,hz,L⟩;obtain ⟨Af,cf,Au,cu,At,ct,rfl,-,-,-⟩:=hz.parts;have HZ:=zh hz;have Q:=zh L;have O:Hid (Below w.heap.size w w2/\w.heap.size<w2.heap.size):=⟨(D.out.trans B),Ee (zb r.out) B.size⟩;have d:=r.out.ext B;have I:Hid (w.heap.size<w1.heap.size):=zb r.out;clear r D HM G HN B hz L;have z0:=d.cell (k:=0) rfl;have z1:=d.cell (k:=1) rfl;have z2:=d.cell (k:=2) rfl;have z3:=d.cell (k:=3) rfl;have z4:=d.cell (k:=4) rfl;have z5:=d.cell (k:=5) rfl;have fz:∀j,w2.frozen? ⟨w.heap.size,j,none⟩=false:=fun j=>d.frozen j
 have M:=zh d;clear d;go_wp2;refine case_fin (P:=fun W=>bodyPost Tryz.prog Tryz.f8 _ Exit.ret _ W) (g2:=w.heap.size) ?_ M.out;intro WZ o U hk;have y0:=o.cell (k:=0) rfl;have y1:=o.cell (k:=1) rfl;have y2:=o.cell (k:=2) rfl;have y3:=o.cell (k:=3) rfl;have y4:=o.cell (k:=4) rfl;have y5:=o.cell (k:=5) rfl;refine Eu (v:=.agg #[.int .i64 z.w,.int .i64 z.h,.int .i64 z.l,.slice Af z.free.length cf,.slice Au z.up.length cu,.slice At z.tasks.length ct]) (by simp [results,Tryz.results8,go_sem,y0,y1,y2,y3,y4,y5]) rfl ⟨_,z,rfl,O.out.1.trans U,?_,Q.out⟩;exact (HZ.out.keep (fun b hb a0=>hk b a0 (by have:=I.out;omega))).weaken fun b hb=>by have:=I.out;omega
noncomputable def endR (m:MZ):RS:=RS.run m 20000 ⟨[],AR m [],0⟩
theorem yfound_calls {m:MZ} (w:World) (hm:zM w ok v m) (hl:Lens m) (O:Br m=0):Calls Tryz.prog 20 #[v] w fun e w'=>e=.returned (.tuple #[.bool (AR m (endR m).ch),.bool (endR m).done])/\zc w w':=by
 have V:=zh hm;obtain ⟨Af,cf,Au,cu,At,ct,rfl,-,-,-⟩:=hm.parts;clear hm;have Q:=zh O;have U:=zh hl;clear O
 go_enter Tryz.func20,Tryz.ntmps20
 go_upto_region 1 with fail;obtain ⟨d,q0,q1,q2,q3,q4,q5⟩:=box6 w (.int .i64 m.w) (.int .i64 m.h) (.int .i64 m.l) (.slice Af m.free.length cf) (.slice Au m.up.length cu) (.slice At m.tasks.length ct);generalize w.alloc _=w1 at d q0 q1 q2 q3 q4 q5⊢;have G:=zh d;have I:=zh (V.out.below d);have M:zc w1 w1:=zc.refl w1;clear d
 go_wp2_with fail
 refine (new1 w1 w1 (zc.refl w1) I.out U.out Q.out).mono ?_;rintro e w8 ⟨g,rfl,L,E⟩
 have B:Hid (Calls Tryz.prog 22 #[.pointer (some ⟨g,0,none⟩),.int .i64 (20000:Nat)] w8 fun e w'=>e=.returned (.bool (endR m).done)/\OneR w1 w' g m (endR m)):=by
  (show Calls _ _ _ _ _)
  have h:=E.step 20000 (by omega) (by unfold loadS;simp);have he:RS.run m 20000 (loadS m [] 0)=endR m:=by rw [loadS_nil];rfl
  rw [he] at h;exact h
 clear M q0 q1 q2 q3 q4 q5 L E
 go_wp2_with fail
 refine B.out.mono ?_;rintro e w9 ⟨rfl,r⟩;have o:=r.found;have J:Hid (zc w w9):=G.out.trans r.ext;clear B r;unfold BP at o
 go_wp2_with fail
 refine o.mono ?_;rintro e wa ⟨vfd,rfl,D,-⟩;have K:Hid (zc w wa):=J.out.trans D;clear o D
 go_wp2_with fail
 exact Eu (v:=.tuple #[.bool (AR m (endR m).ch),.bool (endR m).done]) (by simp [results,Tryz.results20,go_sem]) rfl ⟨rfl,K.out⟩
end
section
open Go.RowKit Go.Shelf
attribute [local go_sem ↓] Go.wp_at_zero Go.wp_at_succ
def AU (g:Rd->PT×Rd):Nat->Rd->List PT->List PT×Rd
 | 0,s,ks=>(ks,s)
 | n+1,s,ks=>if s.2=true then (ks,s) else AU g n (g s).2 (ks++[(g s).1])
def rdF:Nat->Rd->PT×Rd
 | 0,_=>(.zero,([],true))
 | f+1,s=>(.node (zU s).1 (Aj (zU s).2).1 (AU (rdF f) (zU (Aj (zU s).2).2).1.toNat (zU (Aj (zU s).2).2).2 []).1,(AU (rdF f) (zU (Aj (zU s).2).2).1.toNat (zU (Aj (zU s).2).2).2 []).2)
theorem elsF_len:∀(f:Nat) (s:Rd) (l:List Int),(Bz f s l).2.1.length<=s.1.length
 | 0,s,l=>DC _
 | f+1,s,l=>by
  unfold Bz
  split
  ·exact DC _
  ·exact DE (elsF_len f _ _) (Cw s).1
theorem intsF_len (s:Rd):(Aj s).2.1.length<=s.1.length:=by
 unfold Aj
 split
 ·simp
 ·have h:=elsF_len s.1.tail.length (s.1.tail,false) [];unfold intsE
  split
  ·simp
  ·simp only [List.length_tail] at h⊢;omega
def lv (s:Rd):Nat:=if s.2=true then 0 else s.1.length+1
theorem lv_ok (h:s.2=false):lv s=s.1.length+1:=by unfold lv;rw [h];rfl
theorem kidsF_lv {g:Rd->PT×Rd} (d:∀s,s.2=false->lv (g s).2<=lv s):∀(n:Nat) (s:Rd) (ks:List PT),lv (AU g n s ks).2<=lv s
 | 0,s,ks=>DC _
 | n+1,s,ks=>by
  unfold AU
  split
  ·exact DC _
  ·rename_i h
   exact DE (kidsF_lv d n _ _) (d s (by simpa using h))
theorem lv_dec {t:Rd} (h:t.2=false->t.1.length<s.1.length) (o:s.2=false):lv t<lv s:=by
 rw [lv_ok o];unfold lv
 split
 ·omega
 ·rename_i d
  have:=h (by simpa using d);omega
theorem three_len (s:Rd):(zU (Aj (zU s).2).2).2.1.length<=s.1.length/\((zU (Aj (zU s).2).2).2.2=false->(zU (Aj (zU s).2).2).2.1.length<s.1.length):=by
 have h1:=Cw s;have h2:=intsF_len (zU s).2;have d:=Cw (Aj (zU s).2).2;exact ⟨by omega,fun h=>by have:=d.2 h;omega⟩
theorem rdF_lv:∀(f:Nat) (s:Rd),s.2=false->lv (rdF f s).2<lv s
 | 0,s,d=>by rw [lv_ok d];exact Nat.zero_lt_succ _
 | f+1,s,d=>by
  show lv (AU (rdF f) _ _ []).2<_;exact Nat.lt_of_le_of_lt (kidsF_lv (fun s h=>Nat.le_of_lt (rdF_lv f s h)) _ _ _) (lv_dec (three_len s).2 d)
theorem kidsF_stop (h:n=0\/s.2=true):AU g n s ks=(ks,s):=by
 cases n with
 | zero=>rfl
 | succ n=>
  unfold AU;rcases h with h | h
  ·cases h
  ·rw [if_pos h]
theorem kidsF_step {j:Nat} (h:s.2=false) (o:j<n):AU g (n - j) s ks=AU g (n - (j+1)) (g s).2 (ks++[(g s).1]):=by
 obtain ⟨k,d⟩:∃k,n - j=k+1:=⟨n - j - 1,by omega⟩;rw [d,show n - (j+1)=k by omega];show (if s.2=true then _ else _)=_;rw [if_neg (by rw [h];simp)]
theorem var_new (h:zJ w) {b:Nat} (d:w.heap.size<=b):¬ isVar b:=by
 rintro ⟨n,r,o⟩
 have f:∀cs,w.var? Tryz.prog n=some cs->False:=fun cs h=>by
  unfold World.var? at h;rw [o,Option.bind_some,Array.getElem?_eq_none d] at h;cases h
 rcases r with rfl | rfl | rfl
 ·exact f _ h.tab
 ·obtain ⟨tp,p,h⟩:=h.syn;exact f _ h
 ·obtain ⟨tp,p,h⟩:=h.rng;exact f _ h
theorem read_end {a:Act} {W:World} {gp:Nat} {x y z:Value} {R:Ending->World->Prop} (o:a.tmps[2]?=some (.pointer (some ⟨gp,0,none⟩))) (r:a.defers=[]) (d:zj W gp 27 #[x,y,z]) (h:R (.returned (.agg #[x,y,z])) W):bodyPost Tryz.prog Tryz.f41 R Exit.ret a W:=by
 have c0:=d.cell (k:=0) rfl;have c1:=d.cell (k:=1) rfl;have c2:=d.cell (k:=2) rfl;have e:a.tmps.getD 2 undef=.pointer (some ⟨gp,0,none⟩):=by rw [Array.getD_eq_getD_getElem?,o];rfl
 exact Eu (v:=.agg #[x,y,z]) (by simp [results,Tryz.results41,go_sem,o,e,c0,c1,c2]) r h
theorem read_calls:∀(f:Nat) {r:Nat} {s:Rd} (w:World),zJ w->AO w r s->s.1.length<f->f<=1000000000->
  Calls Tryz.prog 41 #[.pointer (some ⟨r,0,none⟩)] w fun e w'=>∃v,e=.returned v/\zm (·=r) w w'/\AO w' r (rdF f s).2/\Ay w' (fun b=>w.heap.size<=b) v (rdF f s).1
 | 0,r,s,w,_,_,h,_=>by omega
 | f+1,r,s,w,hv,hr,hf,n7=>by
  have IH:Hid (∀(r:Nat) (s:Rd) (w:World),zJ w->AO w r s->s.1.length<f->Calls Tryz.prog 41 #[.pointer (some ⟨r,0,none⟩)] w fun e w'=>∃v,e=.returned v/\zm (·=r) w w'/\AO w' r (rdF f s).2/\Ay w' (fun b=>w.heap.size<=b) v (rdF f s).1):=fun r s w a b c=>read_calls f w a b c (by omega)
  have HV:=zh hv;have HR:=zh hr;have o0:=zb hr;obtain ⟨t,ht⟩:=EH (zU s);obtain ⟨u,hu⟩:=EH (Aj t.2);obtain ⟨n,hn⟩:=EH (zU u.2);obtain ⟨G,hG⟩:=EH (rdF f);obtain ⟨N,hN⟩:=EH n.1.toNat;have HF:Hid (rdF (f+1) s=(.node t.1 u.1 (AU G N n.2 []).1,(AU G N n.2 []).2)):=by (show _=_);rw [hN,hn,hu,ht,hG];rfl
  have e7:=Cw s;have l6:=intsF_len t.2;have i2:=Cw u.2;rw [<-ht] at e7;rw [<-hu] at l6;rw [<-hn] at i2;have HT:Hid (∀w,zJ w->AO w r s->Calls Tryz.prog 83 #[.pointer (some ⟨r,0,none⟩)] w fun e w'=>e=.returned (.int .i64 t.1)/\zm (·=r) w w'/\AO w' r t.2):=fun w a b=>by rw [ht];exact rInt_calls w a b (by omega)
  have HU:Hid (∀w,zJ w->AO w r t.2->Calls Tryz.prog 84 #[.pointer (some ⟨r,0,none⟩)] w fun e w'=>∃v,e=.returned v/\zm (·=r) w w'/\AO w' r u.2/\zF w' w.heap.size v u.1):=fun w a b=>by rw [hu];exact rInts_calls w a b (by omega)
  have j6:Hid (∀w,zJ w->AO w r u.2->Calls Tryz.prog 83 #[.pointer (some ⟨r,0,none⟩)] w fun e w'=>e=.returned (.int .i64 n.1)/\zm (·=r) w w'/\AO w' r n.2):=fun w a b=>by rw [hn];exact rInt_calls w a b (by omega)
  have m7:Hid (I64 n.1):=by (show I64 n.1);rw [hn];exact intF_bound _
  have j5:Hid (n.2.1.length<=1000000000/\(n.2.2=false->n.2.1.length<f)):=⟨by omega,fun h=>by have:=i2.2 h;omega⟩;have m4:Hid (∀(s:Rd),s.2=false->lv (G s).2<lv s):=by (show ∀s,_);rw [hG];exact rdF_lv f
  rw [<-hG] at IH;have g1:=zh hN;rw [HF.out];clear hv hr hf n7 ht hu hn hG e7 l6 i2 hN HF
  go_enter Tryz.func41,Tryz.ntmps41
  go_upto_region 1 with fail;have b9:Hid (zj (w.alloc (.cells #[.int .i64 0,.slice none 0 0,.slice none 0 0] 27)) w.heap.size 27 #[.int .i64 0,.slice none 0 0,.slice none 0 0]):=zj.new _ _ _ rfl;have c6:Hid (zc w (w.alloc (.cells #[.int .i64 0,.slice none 0 0,.slice none 0 0] 27))):=(zc.refl w).alloc _;generalize w.alloc _=w1 at b9 c6⊢;obtain ⟨gp,i1⟩:∃g,g=w.heap.size:=⟨_,rfl⟩;rw [<-i1] at b9⊢;have a6:=zh i1;have B:Hid (r<gp):=by (show r<gp);omega
  clear i1 o0
  go_wp2_with fail
  refine (HT.out w1 (HV.out.ext c6.out) (HR.out.ext c6.out)).mono ?_;rintro e w2 ⟨rfl,c7,e5⟩;have a0:=zh c7;have n1:=zh e5;have k4:Hid (zJ w2):=Bw (HV.out.ext c6.out) c7 (var_ne HV.out HR.out);clear c7 e5
  go_wp2_with fail
  refine (HU.out w2 k4.out n1.out).mono ?_;rintro e w3 ⟨vs,rfl,f4,l2,h7⟩;obtain ⟨As,cs,rfl,-⟩:=AC h7;have d6:Hid (zj w3 gp 27 #[.int .i64 0,.slice none 0 0,.slice none 0 0]):=(a0.out.tr f4).blk b9.out (by have:=B.out;omega);obtain ⟨ws,f5⟩:∃W,W=(w3.setCell ⟨gp,0,none⟩ (.int .i64 t.1)).setCell ⟨gp,1,none⟩ (.slice As u.1.length cs):=⟨_,rfl⟩;have d8:Hid (zm (·=gp) w3 ws):=by (show zm _ _ _);rw [f5];exact ((zm.refl (fun b=>b=gp) _).set gp 0 _ rfl).set gp 1 _ rfl
  have i8:Hid (zj ws gp 27 #[.int .i64 t.1,.slice As u.1.length cs,.slice none 0 0]):=by (show zj _ _ _ _);rw [f5];exact (d6.out.set (k:=0) _).set (k:=1) _
  have k3:Hid (AO ws r u.2):=d8.out.blk l2 (by have:=B.out;omega);have j0:Hid (zn ws (fun b=>gp<b) (.slice As u.1.length cs) u.1):=((An.of_own h7).keep (d8.out.same (fun b hb e=>by have h1:=a0.out.size;have h2:=c6.out.size;have h3:=a6.out;have h4:=zb b9.out;omega))).weaken (fun b hb=>by have h1:=a0.out.size;have h4:=zb b9.out;omega);have h6:Hid (zJ ws):=Bw (Bw k4.out f4 (by rintro g rfl;exact var_ne HV.out HR.out g rfl)) d8.out (by rintro g rfl;exact var_new HV.out (by have:=a6.out;omega));have U:Hid (zm (fun b=>b=r\/b=gp) w1 ws):=((a0.out.tr f4).wide (fun _ h=>.inl h)).tr (d8.out.wide (fun _ h=>.inr h));have b0:=d6.out.cell (k:=0) rfl;have b1:=d6.out.cell (k:=1) rfl;have fz:∀k,w3.frozen? ⟨gp,k,none⟩=false:=fun k=>d6.out.frozen k
  clear f4 l2 h7 a0 d8
  go_wp2_with fail
  rw [<-f5];clear f5 b0 b1 fz d6;refine (j6.out ws h6.out k3.out).mono ?_;rintro e w6 ⟨rfl,e3,l3⟩;have m3:Hid (zm (fun b=>b=r\/b=gp) w1 w6):=U.out.tr (e3.wide (fun _ h=>.inl h));have i7:Hid (zj w6 gp 27 #[.int .i64 t.1,.slice As u.1.length cs,.slice none 0 0]):=e3.blk i8.out (by have:=B.out;omega);have m5:Hid (zn w6 (fun b=>gp<b) (.slice As u.1.length cs) u.1):=j0.out.keep (e3.same (fun b hb e=>by have:=B.out;omega));have n3:Hid (zJ w6):=Bw h6.out e3 (by rintro g rfl;exact var_ne HV.out HR.out g rfl);have n2:=zh l3;have E:Hid (gp<w6.heap.size):=zb i7.out;clear e3 l3 i8 j0 h6 k3 HT HU j6 U b9
  go_wp2_with fail
  go_loopw [4] (fun v wr=>∃(j:Nat) (acc:List PT) (vk:Value) (cs':List Value) (s':Rd),v=.int .i64 j/\j<=N/\Hid (AU G N n.2 []=AU G (N - j) s' acc)/\Hid (zm (fun b=>b=r\/b=gp) w6 wr)/\Hid (AO wr r s')/\Hid (zj wr gp 27 #[.int .i64 t.1,.slice As u.1.length cs,vk])/\Hid (AA wr w6.heap.size vk acc cs')/\Hid (acc.length+lv s'<=n.2.1.length+1)/\Hid (s'.2=false->n.2.2=false/\lv s'<=lv n.2)) (fun v _=>N - (intOf v).toNat)
  case atStart=>exact ⟨0,[],_,[],n.2,rfl,DR _,rfl,zm.refl _ _,n2.out,i7.out,AA.nil _ _,by (show _<=_);unfold lv;split <;> simp,fun h=>⟨h,DC _⟩⟩
  case round=>
   obtain ⟨j,acc,vk,cs',s',rfl,hj,h5,d,e2,M,D,g8,j2⟩:=hrel;obtain ⟨wq,rfl⟩:∃W:World,W=wr:=⟨_,rfl⟩;by_cases V:N - j=0\/s'.2=true
   ·have f6:Hid (AU G N n.2 []=(acc,s')):=h5.out.trans (kidsF_stop V);have i9:Hid (zn wq (fun b=>gp<b/\b<w6.heap.size) (.slice As u.1.length cs) u.1):=m5.out.bound.keep (d.out.same (fun b hb e=>by have:=B.out;omega));obtain ⟨Ak,ck,o1,-,-⟩:=An.of_own D.out.own;subst o1;clear h5;have b0:=M.out.cell (k:=0) rfl;have b1:=M.out.cell (k:=1) rfl;have b2:=M.out.cell (k:=2) rfl;have fz:∀k,wq.frozen? ⟨gp,k,none⟩=false:=fun k=>M.out.frozen k
    have I:=Cy wq e2.out
    have Q:Hid (zj (((wq.setCell ⟨gp,0,none⟩ (.int .i64 t.1)).setCell ⟨gp,1,none⟩ (.slice As u.1.length cs)).setCell ⟨gp,2,none⟩ (.slice Ak acc.length ck)) gp 27 #[.int .i64 t.1,.slice As u.1.length cs,.slice Ak acc.length ck]/\zm (·=r) w (((wq.setCell ⟨gp,0,none⟩ (.int .i64 t.1)).setCell ⟨gp,1,none⟩ (.slice As u.1.length cs)).setCell ⟨gp,2,none⟩ (.slice Ak acc.length ck))/\AO (((wq.setCell ⟨gp,0,none⟩ (.int .i64 t.1)).setCell ⟨gp,1,none⟩ (.slice As u.1.length cs)).setCell ⟨gp,2,none⟩ (.slice Ak acc.length ck)) r (AU G N n.2 []).2/\Ay (((wq.setCell ⟨gp,0,none⟩ (.int .i64 t.1)).setCell ⟨gp,1,none⟩ (.slice As u.1.length cs)).setCell ⟨gp,2,none⟩ (.slice Ak acc.length ck)) (fun b=>w.heap.size<=b) (.agg #[.int .i64 t.1,.slice As u.1.length cs,.slice Ak acc.length ck]) (.node t.1 u.1 (AU G N n.2 []).1)):=by
     (show _/\_/\_/\_)
     rw [f6.out];have hS:zm (fun b=>b=gp) wq (((wq.setCell ⟨gp,0,none⟩ (.int .i64 t.1)).setCell ⟨gp,1,none⟩ (.slice As u.1.length cs)).setCell ⟨gp,2,none⟩ (.slice Ak acc.length ck)):=(((zm.refl (fun b=>b=gp) _).set gp 0 _ rfl).set gp 1 _ rfl).set gp 2 _ rfl;have hW:zm (fun b=>b=r\/b=gp) w (((wq.setCell ⟨gp,0,none⟩ (.int .i64 t.1)).setCell ⟨gp,1,none⟩ (.slice As u.1.length cs)).setCell ⟨gp,2,none⟩ (.slice Ak acc.length ck)):=((BC c6.out).tr m3.out).tr (d.out.tr (hS.wide (fun _ h=>.inr h)));refine ⟨((M.out.set (k:=0) _).set (k:=1) _).set (k:=2) _,(zm.refl _ w).trans hW (fun k hk h=>h.elim id (fun e=>by have:=a6.out;omega)),hS.blk e2.out (by have:=B.out;omega),?_⟩;refine .mk (cs:=cs') ((i9.out.keep (hS.same (fun b hb e=>by omega))).weaken (fun b hb=>by have:=a6.out;omega)) ((An.of_own (D.out.chg hS (fun b hb e=>by have:=E.out;omega)).own).weaken (fun b hb=>by have:=a6.out;have:=E.out;omega)) (fun i hi=>((D.out.chg hS (fun b hb e=>by have:=E.out;omega)).each i hi).keepW (fun _ _ _=>rfl) (fun b hb=>by have:=a6.out;have:=E.out;have:=hb.1;omega))
    clear D i9 f6 d g8 j2;rcases V with h0 | hb
    ·have c8:¬ ((j:Int)<n.1):=by have:=g1.out;omega
     have i0:decide ((j:Int)<n.1)=false:=DG c8;clear I
     go_wp2_with fail
     exact read_end rfl rfl Q.out.1 ⟨_,rfl,Q.out.2⟩
    ·by_cases c8:(j:Int)<n.1
     ·have i0:decide ((j:Int)<n.1)=true:=DF c8;rw [hb] at I;have a9:=zh I;clear I
      go_wp2_with fail
      refine a9.out.mono ?_;rintro e w7 ⟨rfl,rfl⟩
      go_wp2_with fail
      exact read_end rfl rfl Q.out.1 ⟨_,rfl,Q.out.2⟩
     ·have i0:decide ((j:Int)<n.1)=false:=DG c8;clear I
      go_wp2_with fail
      exact read_end rfl rfl Q.out.1 ⟨_,rfl,Q.out.2⟩
   ·have n8:j<N:=by omega
    have c8:(j:Int)<n.1:=by have:=g1.out;omega
    have i0:decide ((j:Int)<n.1)=true:=DF c8
    have i4:s'.2=false:=by
     cases h:s'.2 with
     | false=>rfl
     | true=>exact absurd (.inr h) V
    have I:=Cy wq e2.out;rw [i4] at I;have a9:=zh I;have f1:=zh i4;have o5:(j:Int)+1<=9223372036854775807:=by have:=m7.out.2;omega
    clear I V i4
    go_wp2_with fail
    refine a9.out.mono ?_;rintro e w7 ⟨rfl,rfl⟩;clear a9;go_upto_region 6 with fail;have d9:Hid (AU G N n.2 []=AU G (N - (j+1)) (G s').2 (acc++[(G s').1])):=h5.out.trans (kidsF_step f1.out n8);have hd:=m4.out s' f1.out;have l8:=lv_ok f1.out;have b7:=j2.out f1.out;have l7:=lv_ok b7.1;have d5:Hid ((acc++[(G s').1]).length+lv (G s').2<=n.2.1.length+1):=by (show _<=_);have:=g8.out;rw [DK,Ec];omega
    have e0:Hid ((G s').2.2=false->n.2.2=false/\lv (G s').2<=lv n.2):=fun _=>⟨b7.1,by omega⟩
    have f9:Hid (s'.1.length<f):=by (show _<_);have:=j5.out.2 b7.1;omega
    have b8:Hid (acc.length<=1000000001):=by (show _<=_);have:=g8.out;have:=j5.out.1;omega
    have k5:Hid (zJ wq):=Bw n3.out d.out (by
     rintro g (rfl | rfl)
     ·exact var_ne HV.out HR.out g rfl
     ·exact var_new HV.out (by have:=a6.out;omega))
    clear hd l8 b7 l7;refine DT (S:=(fun W=>zm (fun b=>b=r\/b=gp) w6 W)) zN (d.out.tr (BC (zc.refl wq).drew)) fun zH=>?_;have O:Hid (zc wq wq.drew):=(zc.refl wq).drew;generalize wq.drew=wd at zH O⊢;refine ze 0 zH ?_;refine ze 2 zH ?_;simp only [za,Dz];refine rdA [1,3] ?_;refine Ed rfl (fun K o=>?_) ?_
    ·have cg1:wd.cell? ⟨gp,2,none⟩=some vk:=zm.cellk (BC (X:=fun b=>b=r) O.out) (M.out.cell (k:=2) rfl) (by have:=B.out;show ¬ (gp=r);omega);go_simp;clear cg1;refine EI o (d.out.tr ((BC (X:=fun b=>b=r) O.out).wide (fun _ h=>.inl h))) fun zH=>?_;clear o K;try simp only [za,Dz]
     refine zC 3 fun K o=>?_;go_simp;go_at_call 41;refine (IH.out r s' wd (k5.out.ext O.out) (e2.out.ext O.out) f9.out).mono ?_;rintro e w2 ⟨v2,rfl,c7,e5,h8⟩;obtain ⟨As2,cs2,Ak2,ck2,rfl,-⟩:=h8.form;have a0:Hid (zm (fun b=>b=r) wq w2):=(BC O.out).tr c7;have m8:=zh h8;have n4:=zh e5;have g0:Hid (wq.heap.size<=wd.heap.size):=O.out.size;clear c7 h8 e5;refine EI o (d.out.tr ((a0.out).wide (fun _ h=>.inl h))) fun zH=>?_;clear o K;try simp only [za,Dz]
     refine zC 4 fun K o=>?_;go_simp;have f2:=zj.new w2 #[.int .i64 (G s').1.task,.slice As2 (G s').1.side.length cs2,.slice Ak2 (G s').1.kids.length ck2] 27 (g:=w2.heap.size) rfl;have hA3:zc w2 (w2.alloc (.cells #[.int .i64 (G s').1.task,.slice As2 (G s').1.side.length cs2,.slice Ak2 (G s').1.kids.length ck2] 27)):=(zc.refl w2).alloc _;generalize w2.alloc _=w3 at f2 hA3⊢;generalize w2.heap.size=g3 at f2⊢;have m1:=zh f2;have U:Hid (zm (fun b=>b=r) wq w3):=(a0.out).tr (BC hA3);have m9:=zh (m8.out.ext hA3);have k8:=zh (n4.out.ext hA3);clear f2 hA3;refine EI o (d.out.tr ((U.out).wide (fun _ h=>.inl h))) fun zH=>?_;clear o K;try simp only [za,Dz]
     refine zC 5 fun K o=>?_;have j1:Hid (AA w3 w6.heap.size vk acc cs'):=D.out.chg (U.out) (fun b hb e=>by have:=E.out;have:=B.out;omega);refine zZ (ok:=fun _=>True) (by rfl) w3 _ _ eProof (by rfl) w6.heap.size acc.length 1 cs' _ vk _ (by rfl) (by rfl) j1.out.own (Cc m1.out) (fun u hu=>by simp at hu;rcases hu with rfl | rfl | rfl <;> rfl) (by have h1:=d.out.size;have h2:=zm.size (U.out);omega) (by have:=b8.out;unfold maxLen;omega) (by have:=b8.out;omega) ?_;intro v4 w4 i3 e6 m0;have m6:=zh (show AA w4 w6.heap.size _ (acc++[(G s').1]) (cs'++[.int .i64 (G s').1.task,.slice As2 (G s').1.side.length cs2,.slice Ak2 (G s').1.kids.length ck2]) from j1.out.app (lo:=wd.heap.size) m9.out (fun k hk=>by have h1:=D.out.lt hk;have h2:=g0.out;omega) (by have h1:=d.out.size;have h2:=g0.out;omega) i3 e6 m0);have f0:Hid (zm (fun b=>b=r\/b=gp) w6 w4):=zm.grown (d.out.tr ((U.out).wide (fun _ h=>.inl h))) e6 (fun k hk e7=>by have h1:=D.out.lt hk;omega);obtain ⟨A4,c4,e4,-,-⟩:=An.of_own i3;subst e4;have e1:Hid (zj w4 gp 27 #[.int .i64 t.1,.slice As u.1.length cs,vk]):=(e6.block gp (by have h1:=E.out;have h2:=d.out.size;have h3:=zm.size (U.out);omega) (fun e=>by have h1:=D.out.lt e.symm;have h2:=E.out;omega)).trans (zm.blk (U.out) M.out (by have:=B.out;omega));have n5:Hid (AO w4 r (G s').2):=(e6.block r (zb k8.out) (fun e=>by have h1:=D.out.lt e.symm;have h2:=E.out;have h3:=B.out;omega)).trans k8.out;clear i3 e6 m0;refine EI o (f0.out) fun zH=>?_;clear o K;try simp only [za,Dz]
     refine zC 6 fun K o=>?_;go_simp;refine EI o (f0.out) fun zH=>?_;clear o K;try simp only [za,Dz]
     refine zC 7 fun K o=>?_;have cg6:=e1.out.cell (k:=2) rfl;have fg6:=e1.out.frozen 2;go_simp;clear cg6 fg6;refine EI o (zm.set (f0.out) gp 2 (.slice A4 (acc.length+1) c4) (.inr rfl)) fun zH=>?_;clear o K;try simp only [za,Dz]
     refine Eg (by kernel_rfl) ?_ _;have a2:Hid (zm (fun b=>b=r\/b=gp) w6 (w4.setCell ⟨gp,2,none⟩ (.slice A4 (acc.length+1) c4))):=zm.set (f0.out) gp 2 (.slice A4 (acc.length+1) c4) (.inr rfl);have L:Hid (zj (w4.setCell ⟨gp,2,none⟩ (.slice A4 (acc.length+1) c4)) gp 27 #[.int .i64 t.1,.slice As u.1.length cs,(.slice A4 (acc.length+1) c4)]):=e1.out.set (k:=2) (.slice A4 (acc.length+1) c4);have a3:Hid (AO (w4.setCell ⟨gp,2,none⟩ (.slice A4 (acc.length+1) c4)) r (G s').2):=zj.setOther n5.out (a:=⟨gp,2,none⟩) (by have:=B.out;show r≠gp;omega) (.slice A4 (acc.length+1) c4);have a1:=zh (m6.out.chg (zm.set (X:=fun b=>b=gp) (zm.refl _ w4) gp 2 (.slice A4 (acc.length+1) c4) rfl) (fun b hb e=>by have:=E.out;omega));generalize w4.setCell ⟨gp,2,none⟩ (.slice A4 (acc.length+1) c4)=wz at a2 L a3 a1⊢;go_wp2;go_roundw
     case rel=>exact ⟨j+1,acc++[(G s').1],_,_,(G s').2,by go_num,by omega,d9.out,a2.out,a3.out,L.out,a1.out,d5.out,e0.out⟩
     case measure=>simp [intOf];omega
    refine Ed rfl (fun K o=>?_) .nil;go_simp;go_at_call 41;refine (IH.out r s' wd (k5.out.ext O.out) (e2.out.ext O.out) f9.out).mono ?_;rintro e w7 ⟨v7,rfl,l1,l4,h9⟩;obtain ⟨As7,cs7,Ak7,ck7,rfl,-⟩:=h9.form;have d7:Hid (zm (fun b=>b=r) wq w7):=(BC O.out).tr l1;have j8:=zh h9;have k9:=zh l4;have b5:Hid (wq.heap.size<=wd.heap.size):=O.out.size;clear l1 h9 l4;refine EI o (d.out.tr ((d7.out).wide (fun _ h=>.inl h))) fun zH=>?_;clear o K;try simp only [za,Dz]
    refine rdA [1,4] ?_;refine Ed rfl (fun K o=>?_) ?_
    ·have cg8:w7.cell? ⟨gp,2,none⟩=some vk:=zm.cellk (d7.out) (M.out.cell (k:=2) rfl) (by have:=B.out;show ¬ (gp=r);omega);go_simp;clear cg8;refine EI o (d.out.tr ((d7.out).wide (fun _ h=>.inl h))) fun zH=>?_;clear o K;try simp only [za,Dz]
     refine zC 4 fun K o=>?_;go_simp;have f3:=zj.new w7 #[.int .i64 (G s').1.task,.slice As7 (G s').1.side.length cs7,.slice Ak7 (G s').1.kids.length ck7] 27 (g:=w7.heap.size) rfl;have hA9:zc w7 (w7.alloc (.cells #[.int .i64 (G s').1.task,.slice As7 (G s').1.side.length cs7,.slice Ak7 (G s').1.kids.length ck7] 27)):=(zc.refl w7).alloc _;generalize w7.alloc _=w9 at f3 hA9⊢;generalize w7.heap.size=g9 at f3⊢;have m2:=zh f3;have c0:Hid (zm (fun b=>b=r) wq w9):=(d7.out).tr (BC hA9);have n0:=zh (j8.out.ext hA9);have l0:=zh (k9.out.ext hA9);clear f3 hA9;refine EI o (d.out.tr ((c0.out).wide (fun _ h=>.inl h))) fun zH=>?_;clear o K;try simp only [za,Dz]
     refine zC 5 fun K o=>?_;have f7:Hid (AA w9 w6.heap.size vk acc cs'):=D.out.chg (c0.out) (fun b hb e=>by have:=E.out;have:=B.out;omega);refine zZ (ok:=fun _=>True) (by rfl) w9 _ _ eProof (by rfl) w6.heap.size acc.length 1 cs' _ vk _ (by rfl) (by rfl) f7.out.own (Cc m2.out) (fun u hu=>by simp at hu;rcases hu with rfl | rfl | rfl <;> rfl) (by have h1:=d.out.size;have h2:=zm.size (c0.out);omega) (by have:=b8.out;unfold maxLen;omega) (by have:=b8.out;omega) ?_;intro v10 w10 e8 a4 g6;have j3:=zh (show AA w10 w6.heap.size _ (acc++[(G s').1]) (cs'++[.int .i64 (G s').1.task,.slice As7 (G s').1.side.length cs7,.slice Ak7 (G s').1.kids.length ck7]) from f7.out.app (lo:=wd.heap.size) n0.out (fun k hk=>by have h1:=D.out.lt hk;have h2:=b5.out;omega) (by have h1:=d.out.size;have h2:=b5.out;omega) e8 a4 g6);have b3:Hid (zm (fun b=>b=r\/b=gp) w6 w10):=zm.grown (d.out.tr ((c0.out).wide (fun _ h=>.inl h))) a4 (fun k hk e7=>by have h1:=D.out.lt hk;omega);obtain ⟨A10,c10,e10,-,-⟩:=An.of_own e8;subst e10;have a7:Hid (zj w10 gp 27 #[.int .i64 t.1,.slice As u.1.length cs,vk]):=(a4.block gp (by have h1:=E.out;have h2:=d.out.size;have h3:=zm.size (c0.out);omega) (fun e=>by have h1:=D.out.lt e.symm;have h2:=E.out;omega)).trans (zm.blk (c0.out) M.out (by have:=B.out;omega));have k6:Hid (AO w10 r (G s').2):=(a4.block r (zb l0.out) (fun e=>by have h1:=D.out.lt e.symm;have h2:=E.out;have h3:=B.out;omega)).trans l0.out;clear e8 a4 g6;refine EI o (b3.out) fun zH=>?_;clear o K;try simp only [za,Dz]
     refine zC 6 fun K o=>?_;go_simp;refine EI o (b3.out) fun zH=>?_;clear o K;try simp only [za,Dz]
     refine zC 7 fun K o=>?_;have cg12:=a7.out.cell (k:=2) rfl;have fg12:=a7.out.frozen 2;go_simp;clear cg12 fg12;refine EI o (zm.set (b3.out) gp 2 (.slice A10 (acc.length+1) c10) (.inr rfl)) fun zH=>?_;clear o K;try simp only [za,Dz]
     refine Eg (by kernel_rfl) ?_ _;have a2:Hid (zm (fun b=>b=r\/b=gp) w6 (w10.setCell ⟨gp,2,none⟩ (.slice A10 (acc.length+1) c10))):=zm.set (b3.out) gp 2 (.slice A10 (acc.length+1) c10) (.inr rfl);have L:Hid (zj (w10.setCell ⟨gp,2,none⟩ (.slice A10 (acc.length+1) c10)) gp 27 #[.int .i64 t.1,.slice As u.1.length cs,(.slice A10 (acc.length+1) c10)]):=a7.out.set (k:=2) (.slice A10 (acc.length+1) c10);have a3:Hid (AO (w10.setCell ⟨gp,2,none⟩ (.slice A10 (acc.length+1) c10)) r (G s').2):=zj.setOther k6.out (a:=⟨gp,2,none⟩) (by have:=B.out;show r≠gp;omega) (.slice A10 (acc.length+1) c10);have a1:=zh (j3.out.chg (zm.set (X:=fun b=>b=gp) (zm.refl _ w10) gp 2 (.slice A10 (acc.length+1) c10) rfl) (fun b hb e=>by have:=E.out;omega));generalize w10.setCell ⟨gp,2,none⟩ (.slice A10 (acc.length+1) c10)=wz at a2 L a3 a1⊢;go_wp2;go_roundw
     case rel=>exact ⟨j+1,acc++[(G s').1],_,_,(G s').2,by go_num,by omega,d9.out,a2.out,a3.out,L.out,a1.out,d5.out,e0.out⟩
     case measure=>simp [intOf];omega
    refine Ed rfl (fun K o=>?_) .nil;go_simp;have b6:=zj.new w7 #[.int .i64 (G s').1.task,.slice As7 (G s').1.side.length cs7,.slice Ak7 (G s').1.kids.length ck7] 27 (g:=w7.heap.size) rfl;have hA13:zc w7 (w7.alloc (.cells #[.int .i64 (G s').1.task,.slice As7 (G s').1.side.length cs7,.slice Ak7 (G s').1.kids.length ck7] 27)):=(zc.refl w7).alloc _;generalize w7.alloc _=w13 at b6 hA13⊢;generalize w7.heap.size=g13 at b6⊢;have i6:=zh b6;have J:Hid (zm (fun b=>b=r) wq w13):=(d7.out).tr (BC hA13);have j7:=zh (j8.out.ext hA13);have g5:=zh (k9.out.ext hA13);clear b6 hA13;refine EI o (d.out.tr ((J.out).wide (fun _ h=>.inl h))) fun zH=>?_;clear o K;try simp only [za,Dz]
    refine zC 1 fun K o=>?_;have cg14:w13.cell? ⟨gp,2,none⟩=some vk:=zm.cellk (J.out) (M.out.cell (k:=2) rfl) (by have:=B.out;show ¬ (gp=r);omega);go_simp;clear cg14;refine EI o (d.out.tr ((J.out).wide (fun _ h=>.inl h))) fun zH=>?_;clear o K;try simp only [za,Dz]
    refine zC 5 fun K o=>?_;have f8:Hid (AA w13 w6.heap.size vk acc cs'):=D.out.chg (J.out) (fun b hb e=>by have:=E.out;have:=B.out;omega);refine zZ (ok:=fun _=>True) (by rfl) w13 _ _ eProof (by rfl) w6.heap.size acc.length 1 cs' _ vk _ (by rfl) (by rfl) f8.out.own (Cc i6.out) (fun u hu=>by simp at hu;rcases hu with rfl | rfl | rfl <;> rfl) (by have h1:=d.out.size;have h2:=zm.size (J.out);omega) (by have:=b8.out;unfold maxLen;omega) (by have:=b8.out;omega) ?_;intro v15 w15 e9 a5 g7;have j4:=zh (show AA w15 w6.heap.size _ (acc++[(G s').1]) (cs'++[.int .i64 (G s').1.task,.slice As7 (G s').1.side.length cs7,.slice Ak7 (G s').1.kids.length ck7]) from f8.out.app (lo:=wd.heap.size) j7.out (fun k hk=>by have h1:=D.out.lt hk;have h2:=b5.out;omega) (by have h1:=d.out.size;have h2:=b5.out;omega) e9 a5 g7);have b4:Hid (zm (fun b=>b=r\/b=gp) w6 w15):=zm.grown (d.out.tr ((J.out).wide (fun _ h=>.inl h))) a5 (fun k hk e7=>by have h1:=D.out.lt hk;omega);obtain ⟨A15,c15,e15,-,-⟩:=An.of_own e9;subst e15;have a8:Hid (zj w15 gp 27 #[.int .i64 t.1,.slice As u.1.length cs,vk]):=(a5.block gp (by have h1:=E.out;have h2:=d.out.size;have h3:=zm.size (J.out);omega) (fun e=>by have h1:=D.out.lt e.symm;have h2:=E.out;omega)).trans (zm.blk (J.out) M.out (by have:=B.out;omega));have k7:Hid (AO w15 r (G s').2):=(a5.block r (zb g5.out) (fun e=>by have h1:=D.out.lt e.symm;have h2:=E.out;have h3:=B.out;omega)).trans g5.out;clear e9 a5 g7;refine EI o (b4.out) fun zH=>?_;clear o K;try simp only [za,Dz]
    refine zC 6 fun K o=>?_;go_simp;refine EI o (b4.out) fun zH=>?_;clear o K;try simp only [za,Dz]
    refine zC 7 fun K o=>?_;have cg17:=a8.out.cell (k:=2) rfl;have fg17:=a8.out.frozen 2;go_simp;clear cg17 fg17;refine EI o (zm.set (b4.out) gp 2 (.slice A15 (acc.length+1) c15) (.inr rfl)) fun zH=>?_;clear o K;try simp only [za,Dz]
    refine Eg (by kernel_rfl) ?_ _;have a2:Hid (zm (fun b=>b=r\/b=gp) w6 (w15.setCell ⟨gp,2,none⟩ (.slice A15 (acc.length+1) c15))):=zm.set (b4.out) gp 2 (.slice A15 (acc.length+1) c15) (.inr rfl);have L:Hid (zj (w15.setCell ⟨gp,2,none⟩ (.slice A15 (acc.length+1) c15)) gp 27 #[.int .i64 t.1,.slice As u.1.length cs,(.slice A15 (acc.length+1) c15)]):=a8.out.set (k:=2) (.slice A15 (acc.length+1) c15);have a3:Hid (AO (w15.setCell ⟨gp,2,none⟩ (.slice A15 (acc.length+1) c15)) r (G s').2):=zj.setOther k7.out (a:=⟨gp,2,none⟩) (by have:=B.out;show r≠gp;omega) (.slice A15 (acc.length+1) c15);have a1:=zh (j4.out.chg (zm.set (X:=fun b=>b=gp) (zm.refl _ w15) gp 2 (.slice A15 (acc.length+1) c15) rfl) (fun b hb e=>by have:=E.out;omega));generalize w15.setCell ⟨gp,2,none⟩ (.slice A15 (acc.length+1) c15)=wz at a2 L a3 a1⊢;go_wp2;go_roundw
    case rel=>exact ⟨j+1,acc++[(G s').1],_,_,(G s').2,by go_num,by omega,d9.out,a2.out,a3.out,L.out,a1.out,d5.out,e0.out⟩
    case measure=>simp [intOf];omega
def decF (l:List UInt8):Option PT:=if (rdF (l.length+1) (l,false)).2.2=true\/0<Aw (rdF (l.length+1) (l,false)).2\/encP (rdF (l.length+1) (l,false)).1≠l then none else some (rdF (l.length+1) (l,false)).1
end
end Go.Proofs.YtcnaogdgjkpkmaaGreatDoor
