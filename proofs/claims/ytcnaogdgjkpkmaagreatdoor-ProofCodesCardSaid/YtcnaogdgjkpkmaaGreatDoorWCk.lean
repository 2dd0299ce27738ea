import Derived.Test.YtcnaogdgjkpkmaaGreatDoorWCj
import Derived.StillTailTactics
set_option linter.unusedVariables false
set_option linter.unusedSimpArgs false
set_option maxRecDepth 100000
set_option maxHeartbeats 16000000
namespace Go.Proofs.YtcnaogdgjkpkmaaGreatDoor
variable {a:Act} {R:Ending->World->Prop} {n:Int} {l:List UInt8} {fs:List Value} {g gp k r:Nat} {o:Obj} {s:Rd} {t u vF x y z:Value} {W W0 w w2:World}
section
open Go.RowKit Go.Shelf
attribute [local go_sem ↓] Go.wp_at_zero Go.wp_at_succ
theorem zW.lt (h:zW w r l s):r<w.heap.size:=by
 obtain ⟨cs,d⟩:=h.blk;exact zb d
theorem zW.chg {w':World} {X:Nat->Prop} (h:zW w r l s) (d:zd X w w') (B:¬ X r):zW w' r l s:=h.keep (d.block r h.lt B)
theorem vread_end {gr:Nat} (B:a.tmps[2]?=some (.pointer (some ⟨gr,0,none⟩))) (D:a.defers=[]) (d:ze W gr 27 #[x,y,z]) (h:R (.returned (.agg #[x,y,z])) W):bodyPost Tryz.prog Tryz.f46 R Exit.ret a W:=by
 have c0:=d.cell (k:=0) rfl;have c1:=d.cell (k:=1) rfl;have c2:=d.cell (k:=2) rfl;have e:a.tmps.getD 2 undef=.pointer (some ⟨gr,0,none⟩):=by rw [Array.getD_eq_getD_getElem?,B];rfl
 exact DM (v:=.agg #[x,y,z]) (by simp [results,Tryz.results46,go_sem,B,e,c0,c1,c2]) D h
theorem vread_calls {l:List UInt8} (hl:l.length<=1000000000):∀(f:Nat) {r:Nat} {s:Rd} (w:World),zW w r l s->s.1.length<f->f<=1000000001->
  Calls Tryz.prog 46 #[.pointer (some ⟨r,0,none⟩)] w fun e w'=>∃v,e=.returned v/\zd (·=r) w w'/\zW w' r l (CE f s).2/\zV w' (fun b=>w.heap.size<=b) v (CE f s).1
 | 0,r,s,w,_,h,_=>by omega
 | f+1,r,s,w,hr,hf,l5=>by
  have IH:Hid (∀(r:Nat) (s:Rd) (w:World),zW w r l s->s.1.length<f->Calls Tryz.prog 46 #[.pointer (some ⟨r,0,none⟩)] w fun e w'=>∃v,e=.returned v/\zd (·=r) w w'/\zW w' r l (CE f s).2/\zV w' (fun b=>w.heap.size<=b) v (CE f s).1):=fun r s w a b=>vread_calls hl f w a b (by omega)
  have HR:=zh hr;have l8:r<w.heap.size:=by obtain ⟨cs,hb⟩:=hr.blk;exact zb hb
  obtain ⟨t,ht⟩:=DX (zw s);obtain ⟨u,hu⟩:=DX (zy t.2);obtain ⟨n,hn⟩:=DX (zw u.2);obtain ⟨G,hG⟩:=DX (CE f);obtain ⟨N,hN⟩:=DX n.1.toNat;have HF:Hid (CE (f+1) s=(.node t.1 u.1 (zJ G N n.2 []).1,(zJ G N n.2 []).2)):=by (show _=_);rw [hN,hn,hu,ht,hG];rfl
  have f3:=AW s;have i9:=intsF_len t.2;have f2:=AW u.2;rw [<-ht] at f3;rw [<-hu] at i9;rw [<-hn] at f2;have HT:Hid (∀w,zW w r l s->Calls Tryz.prog 85 #[.pointer (some ⟨r,0,none⟩)] w fun e w'=>e=.returned (.int .i64 t.1)/\zd (·=r) w w'/\zW w' r l t.2):=fun w a=>by rw [ht];exact CL w a (by omega)
  have HU:Hid (∀w,zW w r l t.2->Calls Tryz.prog 86 #[.pointer (some ⟨r,0,none⟩)] w fun e w'=>∃v,e=.returned v/\zd (·=r) w w'/\zW w' r l u.2/\zT w' w.heap.size v u.1):=fun w a=>by rw [hu];exact mRInts_calls w a (by omega) (by omega)
  have h7:Hid (∀w,zW w r l u.2->Calls Tryz.prog 85 #[.pointer (some ⟨r,0,none⟩)] w fun e w'=>e=.returned (.int .i64 n.1)/\zd (·=r) w w'/\zW w' r l n.2):=fun w a=>by rw [hn];exact CL w a (by omega)
  have k4:Hid (Cp n.1):=by (show Cp n.1);rw [hn];exact Cv _
  have h6:Hid (n.2.1.length<=1000000000/\(n.2.2=false->n.2.1.length<f)):=⟨by omega,fun h=>by have:=f2.2 h;omega⟩;have j7:Hid (∀(s:Rd),s.2=false->lv (G s).2<lv s):=by (show ∀s,_);rw [hG];exact rdF_lv f
  rw [<-hG] at IH;have d6:=zh hN;rw [HF.out];clear hr hf l5 ht hu hn hG f3 i9 f2 hN HF
  go_enter Tryz.func46,Tryz.ntmps46
  go_upto_region 1 with fail;have a8:Hid (ze (w.alloc (.cells #[.int .i64 0,.slice none 0 0,.slice none 0 0] 27)) w.heap.size 27 #[.int .i64 0,.slice none 0 0,.slice none 0 0]):=ze.new _ _ _ rfl;have e1:Hid (za w (w.alloc (.cells #[.int .i64 0,.slice none 0 0,.slice none 0 0] 27))):=(za.refl w).alloc _;generalize w.alloc _=w1 at a8 e1⊢;obtain ⟨gr,f1⟩:∃g,g=w.heap.size:=⟨_,rfl⟩;rw [<-f1] at a8⊢;have e2:=zh f1;have O:Hid (r<gr):=by (show r<gr);omega
  clear f1 l8
  go_wp2_with fail
  refine (HT.out w1 (HR.out.ext e1.out)).mono ?_;rintro e w2 ⟨rfl,i3,i5⟩;have E:=zh i3;have k7:=zh i5;clear i3 i5
  go_wp2_with fail
  have J:Hid (ze (w2.alloc (.cells #[.int .i64 t.1,.slice none 0 0,.slice none 0 0] 27)) w2.heap.size 27 #[.int .i64 t.1,.slice none 0 0,.slice none 0 0]):=ze.new _ _ _ rfl;have V:Hid (za w2 (w2.alloc (.cells #[.int .i64 t.1,.slice none 0 0,.slice none 0 0] 27))):=(za.refl w2).alloc _;generalize w2.alloc _=w3 at J V⊢;obtain ⟨gp,c7⟩:∃g,g=w2.heap.size:=⟨_,rfl⟩;rw [<-c7] at J⊢;have m5:=zh c7;have B:Hid (gr<gp):=by (show gr<gp);have h1:=zb a8.out;have h2:=E.out.size;omega
  have c9:Hid (ze w3 gr 27 #[.int .i64 0,.slice none 0 0,.slice none 0 0]):=(E.out.blk a8.out (by have:=O.out;omega)).ext V.out;clear c7;refine (HU.out w3 (k7.out.ext V.out)).mono ?_;rintro e w4 ⟨vs,rfl,e5,i6,e6⟩;obtain ⟨As,cs,rfl,-⟩:=Az e6;have b5:Hid (ze w4 gp 27 #[.int .i64 t.1,.slice none 0 0,.slice none 0 0]):=e5.blk J.out (by have:=O.out;have:=B.out;omega);obtain ⟨ws,c8⟩:∃W,W=w4.setCell ⟨gp,1,none⟩ (.slice As u.1.length cs):=⟨_,rfl⟩;have b6:Hid (zd (·=gp) w4 ws):=by (show zd _ _ _);rw [c8];exact (zd.refl (fun b=>b=gp) _).set gp 1 _ rfl
  have g1:Hid (ze ws gp 27 #[.int .i64 t.1,.slice As u.1.length cs,.slice none 0 0]):=by (show ze _ _ _ _);rw [c8];exact b5.out.set (k:=1) _
  have h8:Hid (zW ws r l u.2):=i6.chg b6.out (by have:=O.out;have:=B.out;omega);have g4:Hid (zk ws (fun b=>gp<b) (.slice As u.1.length cs) u.1):=((Ay.of_own e6).keep (b6.out.same (fun b hb e=>by have h4:=zb J.out;omega))).weaken (fun b hb=>by have h4:=zb J.out;omega);have a9:Hid (zd (fun b=>b=r\/b=gp) w3 ws):=(e5.wide (fun _ h=>.inl h)).tr (b6.out.wide (fun _ h=>.inr h));have b1:=b5.out.cell (k:=1) rfl;have fz:∀k,w4.frozen? ⟨gp,k,none⟩=false:=fun k=>b5.out.frozen k
  clear e5 i6 e6 b6
  go_wp2_with fail
  rw [<-c8];clear c8 b1 fz b5;refine (h7.out ws h8.out).mono ?_;rintro e w6 ⟨rfl,c6,i7⟩;have e0:Hid (zd (fun b=>b=r\/b=gp) w3 w6):=a9.out.tr (c6.wide (fun _ h=>.inl h));have f9:Hid (ze w6 gp 27 #[.int .i64 t.1,.slice As u.1.length cs,.slice none 0 0]):=c6.blk g1.out (by have:=O.out;have:=B.out;omega);have j9:Hid (zk w6 (fun b=>gp<b) (.slice As u.1.length cs) u.1):=g4.out.keep (c6.same (fun b hb e=>by have:=O.out;have:=B.out;omega));have k8:=zh i7;have a6:Hid (gp<w6.heap.size):=zb f9.out;have g0:Hid (ze w6 gr 27 #[.int .i64 0,.slice none 0 0,.slice none 0 0]):=e0.out.blk c9.out (by have:=O.out;have:=B.out;omega);have a1:Hid (r<gp):=by (show r<gp);have:=O.out;have:=B.out;omega
  have j8:Hid (w.heap.size<gp):=by (show _<_);have:=e2.out;have:=B.out;omega
  have k9:Hid (zd (fun b=>b=r\/b=gr\/b=gp) w w6):=((Ag e1.out).tr (E.out.wide (fun _ h=>.inl h))).tr ((Ag V.out).tr (e0.out.wide (fun _ h=>h.elim .inl fun h=>.inr (.inr h))));clear c6 i7 g1 g4 h8 HT HU h7 a9 a8 J c9 e0 E V
  go_wp2_with fail
  go_loopw [5] (fun v wr=>∃(j:Nat) (acc:List PT) (vk:Value) (cs':List Value) (s':Rd),v=.int .i64 j/\j<=N/\Hid (zJ G N n.2 []=zJ G (N - j) s' acc)/\Hid (zd (fun b=>b=r\/b=gp) w6 wr)/\Hid (zW wr r l s')/\Hid (ze wr gp 27 #[.int .i64 t.1,.slice As u.1.length cs,vk])/\Hid (zO wr w6.heap.size vk acc cs')/\Hid (acc.length+lv s'<=n.2.1.length+1)/\Hid (s'.2=false->n.2.2=false/\lv s'<=lv n.2)) (fun v _=>N - (intOf v).toNat)
  case atStart=>exact ⟨0,[],_,[],n.2,rfl,Do _,rfl,zd.refl _ _,k8.out,f9.out,zO.nil _ _,by (show _<=_);unfold lv;split <;> simp,fun h=>⟨h,CY _⟩⟩
  case round=>
   obtain ⟨j,acc,vk,cs',s',rfl,hj,e4,I,b7,a0,M,d8,g9⟩:=hrel;obtain ⟨wq,rfl⟩:∃W:World,W=wr:=⟨_,rfl⟩;by_cases Q:N - j=0\/s'.2=true
   ·have d4:Hid (zJ G N n.2 []=(acc,s')):=e4.out.trans (kidsF_stop Q);have g3:Hid (zk wq (fun b=>gp<b/\b<w6.heap.size) (.slice As u.1.length cs) u.1):=j9.out.bound.keep (I.out.same (fun b hb e=>by have:=a1.out;omega));have U:Hid (ze wq gr 27 #[.int .i64 0,.slice none 0 0,.slice none 0 0]):=I.out.blk g0.out (by have:=O.out;have:=B.out;omega);obtain ⟨Ak,ck,l9,-,-⟩:=Ay.of_own M.out.own;subst l9;clear e4;have b0:=a0.out.cell (k:=0) rfl;have b1:=a0.out.cell (k:=1) rfl;have b2:=a0.out.cell (k:=2) rfl;have d0:=U.out.cell (k:=0) rfl;have d1:=U.out.cell (k:=1) rfl;have d2:=U.out.cell (k:=2) rfl;have fz:∀k,wq.frozen? ⟨gr,k,none⟩=false:=fun k=>U.out.frozen k
    have D:=Cx wq b7.out
    have L:Hid (ze (((wq.setCell ⟨gr,0,none⟩ (.int .i64 t.1)).setCell ⟨gr,1,none⟩ (.slice As u.1.length cs)).setCell ⟨gr,2,none⟩ (.slice Ak acc.length ck)) gr 27 #[.int .i64 t.1,.slice As u.1.length cs,.slice Ak acc.length ck]/\zd (·=r) w (((wq.setCell ⟨gr,0,none⟩ (.int .i64 t.1)).setCell ⟨gr,1,none⟩ (.slice As u.1.length cs)).setCell ⟨gr,2,none⟩ (.slice Ak acc.length ck))/\zW (((wq.setCell ⟨gr,0,none⟩ (.int .i64 t.1)).setCell ⟨gr,1,none⟩ (.slice As u.1.length cs)).setCell ⟨gr,2,none⟩ (.slice Ak acc.length ck)) r l (zJ G N n.2 []).2/\zV (((wq.setCell ⟨gr,0,none⟩ (.int .i64 t.1)).setCell ⟨gr,1,none⟩ (.slice As u.1.length cs)).setCell ⟨gr,2,none⟩ (.slice Ak acc.length ck)) (fun b=>w.heap.size<=b) (.agg #[.int .i64 t.1,.slice As u.1.length cs,.slice Ak acc.length ck]) (.node t.1 u.1 (zJ G N n.2 []).1)):=by
     (show _/\_/\_/\_)
     rw [d4.out];have hS:zd (fun b=>b=gr) wq (((wq.setCell ⟨gr,0,none⟩ (.int .i64 t.1)).setCell ⟨gr,1,none⟩ (.slice As u.1.length cs)).setCell ⟨gr,2,none⟩ (.slice Ak acc.length ck)):=(((zd.refl (fun b=>b=gr) _).set gr 0 _ rfl).set gr 1 _ rfl).set gr 2 _ rfl;have hW:zd (fun b=>b=r\/b=gr\/b=gp) w (((wq.setCell ⟨gr,0,none⟩ (.int .i64 t.1)).setCell ⟨gr,1,none⟩ (.slice As u.1.length cs)).setCell ⟨gr,2,none⟩ (.slice Ak acc.length ck)):=(k9.out.tr (I.out.wide (fun _ h=>h.elim .inl fun h=>.inr (.inr h)))).tr (hS.wide (fun _ h=>.inr (.inl h)));refine ⟨((U.out.set (k:=0) _).set (k:=1) _).set (k:=2) _,(zd.refl _ w).trans hW (fun k hk h=>h.elim id fun h=>h.elim (fun e=>by have:=e2.out;omega) (fun e=>by have:=j8.out;omega)),b7.out.chg hS (by have:=O.out;omega),?_⟩;have hg:=e2.out;have c7:=B.out;have hz:=a6.out;exact .mk (cs:=cs') ((g3.out.keep (hS.same (fun b hb e=>by omega))).weaken (fun b hb=>by omega)) ((Ay.of_own (M.out.chg hS (fun b hb e=>by omega)).own).weaken (fun b hb=>by omega)) (fun i hi=>((M.out.chg hS (fun b hb e=>by omega)).each i hi).keepW (fun _ _ _=>rfl) (fun b hb=>by have:=hb.1;omega))
    clear M g3 d4 I d8 g9;rcases Q with h0 | hb
    ·have a7:¬ ((j:Int)<n.1):=by have:=d6.out;omega
     have f0:decide ((j:Int)<n.1)=false:=Dc a7;clear D
     go_wp2_with fail
     exact vread_end rfl rfl L.out.1 ⟨_,rfl,L.out.2⟩
    ·by_cases a7:(j:Int)<n.1
     ·have f0:decide ((j:Int)<n.1)=true:=Db a7;rw [hb] at D;have a3:=zh D;clear D
      go_wp2_with fail
      refine a3.out.mono ?_;rintro e w7 ⟨rfl,rfl⟩
      go_wp2_with fail
      exact vread_end rfl rfl L.out.1 ⟨_,rfl,L.out.2⟩
     ·have f0:decide ((j:Int)<n.1)=false:=Dc a7;clear D
      go_wp2_with fail
      exact vread_end rfl rfl L.out.1 ⟨_,rfl,L.out.2⟩
   ·have l6:j<N:=by omega
    have a7:(j:Int)<n.1:=by have:=d6.out;omega
    have f0:decide ((j:Int)<n.1)=true:=Db a7
    have f5:s'.2=false:=by
     cases h:s'.2 with
     | false=>rfl
     | true=>exact absurd (.inr h) Q
    have D:=Cx wq b7.out;rw [f5] at D;have a3:=zh D;have b8:=zh f5;have m4:(j:Int)+1<=9223372036854775807:=by have:=k4.out.2;omega
    clear D Q f5
    go_wp2_with fail
    refine a3.out.mono ?_;rintro e w7 ⟨rfl,rfl⟩;clear a3;go_upto_region 7 with fail;have g6:Hid (zJ G N n.2 []=zJ G (N - (j+1)) (G s').2 (acc++[(G s').1])):=e4.out.trans (kidsF_step b8.out l6);have hd:=j7.out s' b8.out;have j1:=BV b8.out;have a5:=g9.out b8.out;have j0:=BV a5.1;have f7:Hid ((acc++[(G s').1]).length+lv (G s').2<=n.2.1.length+1):=by (show _<=_);have:=d8.out;rw [Dh,Dx];omega
    have h5:Hid ((G s').2.2=false->n.2.2=false/\lv (G s').2<=lv n.2):=fun _=>⟨a5.1,by omega⟩
    have g8:Hid (s'.1.length<f):=by (show _<_);have:=h6.out.2 a5.1;omega
    have f8:Hid (acc.length<=1000000001):=by (show _<=_);have:=d8.out;have:=h6.out.1;omega
    have m2:=a0.out.cell (k:=2) rfl;clear hd j1 a5 j0;refine wp_dark (fun Q' hP l3=>?_) (fun c a a' w hd h=>by obtain ⟨t,d⟩:=a;obtain ⟨t',d'⟩:=a';cases hd;exact h);refine CS (S:=(fun W=>zd (fun b=>b=r\/b=gp) w6 W/\W.cell? ⟨gp,2,none⟩=some vk)) An (⟨I.out.tr (Ag (za.refl wq).drew),m2⟩) fun zH=>?_;have b9:Hid (za wq wq.drew):=(za.refl wq).drew;generalize wq.drew=wd at zH b9⊢;refine zm (i:=0) (v:=?v1) rfl (by kernel_rfl) (by kernel_rfl) (by kernel_rfl) (by kernel_rfl) (fun _ _ _ h=>hP _ _ _ _ (by rfl) h) (Or.inl ⟨?w1,?y1⟩) zH ?r1
    case w1=>rfl
    case y1=>(intro w a2;obtain ⟨e8,e9⟩:=a2;go_simp;try with_reducible rfl)
    simp only [zc,CV];refine zm (i:=1) (v:=?v2) rfl (by kernel_rfl) (by kernel_rfl) (by kernel_rfl) (by kernel_rfl) (fun _ _ _ h=>hP _ _ _ _ (by rfl) h) (Or.inl ⟨?w2,?y2⟩) zH ?r2
    case w2=>rfl
    case y2=>(intro w a2;obtain ⟨e8,e9⟩:=a2;go_simp;try with_reducible rfl)
    simp only [zc,CV];refine zm (i:=2) (v:=?v3) rfl (by kernel_rfl) (by kernel_rfl) (by kernel_rfl) (by kernel_rfl) (fun _ _ _ h=>hP _ _ _ _ (by rfl) h) (Or.inl ⟨?w3,?y3⟩) zH ?r3
    case w3=>rfl
    case y3=>(intro w a2;obtain ⟨e8,e9⟩:=a2;go_simp;try with_reducible rfl)
    simp only [zc,CV];refine AN (rs:=[3]) (by kernel_rfl) (by simp) ?_;refine zB.cons rfl (fun K hK=>?_) zB.nil;go_simp;go_at_call 46;refine (IH.out r s' wd (b7.out.ext b9.out) g8.out).mono ?_;rintro e w1 ⟨v1,rfl,i2,i4,e7⟩;obtain ⟨As1,cs1,Ak1,ck1,rfl,-⟩:=e7.form;have d9:Hid (zd (fun b=>b=r) wq w1):=(Ag b9.out).tr i2;have k5:=zh e7;have l0:=zh i4;have d5:Hid (wq.heap.size<=wd.heap.size):=b9.out.size;clear i2 e7 i4;refine hK.out _ _ ⟨I.out.tr ((d9.out).wide (fun _ h=>.inl h)),zd.cellk (d9.out) (a0.out.cell (k:=2) rfl) (by have:=a1.out;show ¬ (gp=r);omega)⟩ fun zH=>?_;clear hK K;try simp only [zc,CV]
    refine AN (rs:=[4]) (by kernel_rfl) (by simp) ?_;refine zB.cons rfl (fun K hK=>?_) zB.nil;go_simp;have c0:=ze.new w1 #[.int .i64 (G s').1.task,.slice As1 (G s').1.side.length cs1,.slice Ak1 (G s').1.kids.length ck1] 27 (g:=w1.heap.size) rfl;have hA2:za w1 (w1.alloc (.cells #[.int .i64 (G s').1.task,.slice As1 (G s').1.side.length cs1,.slice Ak1 (G s').1.kids.length ck1] 27)):=(za.refl w1).alloc _;generalize w1.alloc _=w2 at c0 hA2⊢;generalize w1.heap.size=g2 at c0⊢;have j6:=zh c0;have E:Hid (zd (fun b=>b=r) wq w2):=(d9.out).tr (Ag hA2);have k6:=zh (k5.out.ext hA2);have i0:=zh (l0.out.ext hA2);clear c0 hA2;refine hK.out _ _ ⟨I.out.tr ((E.out).wide (fun _ h=>.inl h)),zd.cellk (E.out) (a0.out.cell (k:=2) rfl) (by have:=a1.out;show ¬ (gp=r);omega)⟩ fun zH=>?_;clear hK K;try simp only [zc,CV]
    refine AN (rs:=[5]) (by kernel_rfl) (by simp) ?_;refine zB.cons rfl (fun K hK=>?_) zB.nil;have g5:Hid (zO w2 w6.heap.size vk acc cs'):=M.out.chg (E.out) (fun b hb e=>by have:=a6.out;have:=a1.out;omega);refine zu (ok:=fun _=>True) (by rfl) w2 _ _ BQ (by rfl) w6.heap.size acc.length 1 cs' _ vk _ (by rfl) (by rfl) g5.out.own (AH j6.out) (fun u hu=>by simp at hu;rcases hu with rfl | rfl | rfl <;> rfl) (by have h1:=I.out.size;have h2:=zd.size (E.out);omega) (by have:=f8.out;unfold maxLen;omega) (by have:=f8.out;omega) ?_;intro v3 w3 f4 b4 j3;have k3:=zh (show zO w3 w6.heap.size _ (acc++[(G s').1]) (cs'++[.int .i64 (G s').1.task,.slice As1 (G s').1.side.length cs1,.slice Ak1 (G s').1.kids.length ck1]) from g5.out.app (lo:=wd.heap.size) k6.out (fun k hk=>by have h1:=M.out.lt hk;have h2:=d5.out;omega) (by have h1:=I.out.size;have h2:=d5.out;omega) f4 b4 j3);have a9:Hid (zd (fun b=>b=r\/b=gp) w6 w3):=zd.grown (I.out.tr ((E.out).wide (fun _ h=>.inl h))) b4 (fun k hk f3=>by have h1:=M.out.lt hk;omega);obtain ⟨A3,c3,e3,-,-⟩:=Ay.of_own f4;subst e3;have a4:Hid (ze w3 gp 27 #[.int .i64 t.1,.slice As u.1.length cs,vk]):=(b4.block gp (by have h1:=a6.out;have h2:=I.out.size;have h3:=zd.size (E.out);omega) (fun e=>by have h1:=M.out.lt e.symm;have h2:=a6.out;omega)).trans (zd.blk (E.out) a0.out (by have:=a1.out;omega));have l1:Hid (zW w3 r l (G s').2):=i0.out.keep (b4.block r i0.out.lt (fun e=>by have h1:=M.out.lt e.symm;have h2:=a6.out;have h3:=a1.out;omega));clear f4 b4 j3;refine hK.out _ _ ⟨a9.out,a4.out.cell (k:=2) rfl⟩ fun zH=>?_;clear hK K;try simp only [zc,CV]
    refine zm (i:=6) (v:=?v4) rfl (by kernel_rfl) (by kernel_rfl) (by kernel_rfl) (by kernel_rfl) (fun _ _ _ h=>hP _ _ _ _ (by rfl) h) (Or.inl ⟨?w4,?y4⟩) zH ?r4
    case w4=>rfl
    case y4=>(intro w a2;obtain ⟨e8,e9⟩:=a2;go_simp;try with_reducible rfl)
    simp only [zc,CV];have cg9:=a4.out.cell (k:=2) rfl;have fg9:=a4.out.frozen 2;refine AN (rs:=[7]) (by kernel_rfl) (by simp) ?_;refine zB.last rfl (by kernel_rfl) fun K hK=>?_;go_simp;refine hK.out _ _ ?_;clear hK K;refine wpAnyL_done (by kernel_rfl) ?_ _;subst l3;have h9:Hid (zd (fun b=>b=r\/b=gp) w6 (w3.setCell ⟨gp,2,none⟩ (.slice A3 (acc.length+1) c3))):=zd.set (a9.out) gp 2 (.slice A3 (acc.length+1) c3) (.inr rfl);have d7:Hid (ze (w3.setCell ⟨gp,2,none⟩ (.slice A3 (acc.length+1) c3)) gp 27 #[.int .i64 t.1,.slice As u.1.length cs,(.slice A3 (acc.length+1) c3)]):=a4.out.set (k:=2) (.slice A3 (acc.length+1) c3);have i1:Hid (zW (w3.setCell ⟨gp,2,none⟩ (.slice A3 (acc.length+1) c3)) r l (G s').2):=l1.out.keep (Di w3 ⟨gp,2,none⟩ (.slice A3 (acc.length+1) c3) r (by have:=a1.out;show r≠gp;omega));have g7:=zh (k3.out.chg (zd.set (X:=fun b=>b=gp) (zd.refl _ w3) gp 2 (.slice A3 (acc.length+1) c3) rfl) (fun b hb e=>by have:=a6.out;omega));generalize w3.setCell ⟨gp,2,none⟩ (.slice A3 (acc.length+1) c3)=wz at h9 d7 i1 g7⊢;go_wp2;go_roundw
    case rel=>exact ⟨j+1,acc++[(G s').1],_,_,(G s').2,by go_num,by omega,g6.out,h9.out,i1.out,d7.out,g7.out,f7.out,h5.out⟩
    case measure=>simp [intOf];omega
end
section
open Go.RowKit Go.Shelf
attribute [local go_sem ↓] Go.wp_at_zero Go.wp_at_succ
attribute [local go_sem] Oper.semAt_some
theorem vdec_end (B:a.tmps[2]?=some (.pointer (some ⟨gp,0,none⟩))) (D:a.tmps[3]?=some (.int .i64 n)) (E:a.defers=[]) (d:ze W gp 27 #[x,y,z]) (h:R (.returned (.tuple #[.agg #[x,y,z],.int .i64 n])) W):bodyPost Tryz.prog Tryz.f18 R Exit.ret a W:=by
 have c0:=d.cell (k:=0) rfl;have c1:=d.cell (k:=1) rfl;have c2:=d.cell (k:=2) rfl;have e:a.tmps.getD 2 undef=.pointer (some ⟨gp,0,none⟩):=by rw [Array.getD_eq_getD_getElem?,B];rfl
 have e3:a.tmps.getD 3 undef=.int .i64 n:=by rw [Array.getD_eq_getD_getElem?,D];rfl
 exact DM (v:=.tuple #[.agg #[x,y,z],.int .i64 n]) (by simp [results,Tryz.results18,go_sem,B,D,e,e3,c0,c1,c2]) E h
theorem vdec_fin {wq:World} {v0 v1 v2:Value} {d:Int×PT} {p:PT} (L:gp=w.heap.size) (G:Below gp w wq) (D:ze wq gp 27 #[v0,v1,v2]) (hp:zV wq (fun b=>gp<b) (.agg #[x,y,z]) p) (K:d=(n,p)) (J:a.tmps[2]?=some (.pointer (some ⟨gp,0,none⟩))) (M:a.tmps[3]?=some (.int .i64 n)) (E:a.defers=[]):
  bodyPost Tryz.prog Tryz.f18 (fun e w'=>∃v,e=.returned (.tuple #[v,.int .i64 d.1])/\za w w'/\zV w' (fun b=>w.heap.size<=b) v d.2) Exit.ret a (((wq.setCell ⟨gp,0,none⟩ x).setCell ⟨gp,1,none⟩ y).setCell ⟨gp,2,none⟩ z):=by
 subst K;have I:zd (fun b=>b=gp) wq (((wq.setCell ⟨gp,0,none⟩ x).setCell ⟨gp,1,none⟩ y).setCell ⟨gp,2,none⟩ z):=(((zd.refl (fun b=>b=gp) _).set gp 0 _ rfl).set gp 1 _ rfl).set gp 2 _ rfl
 have B:za w (((wq.setCell ⟨gp,0,none⟩ x).setCell ⟨gp,1,none⟩ y).setCell ⟨gp,2,none⟩ z):=by
  subst L;exact ((G.setCell (p:=⟨_,0,none⟩) (CY _) _).setCell (p:=⟨_,1,none⟩) (CY _) _).setCell (p:=⟨_,2,none⟩) (CY _) _
 exact vdec_end J M E (((D.set (k:=0) x).set (k:=1) y).set (k:=2) z) ⟨_,rfl,B,hp.keepW (I.same fun b D e=>by omega) fun b D=>by omega⟩
theorem vdec_calls (w:World):Calls Tryz.prog 18 #[.string ⟨l.toArray⟩] w fun e w'=>∃v,e=.returned (.tuple #[v,.int .i64 (decR l).1])/\za w w'/\zV w' (fun b=>w.heap.size<=b) v (decR l).2:=by
 obtain ⟨d,hd⟩:=DX (decR l);rw [<-hd];have HD:=zh hd;clear hd
 go_enter Tryz.func18,Tryz.ntmps18
 go_upto_region 1 with fail;have J:Hid (ze (w.alloc (.cells #[.int .i64 0,.slice none 0 0,.slice none 0 0] 27)) w.heap.size 27 #[.int .i64 0,.slice none 0 0,.slice none 0 0]):=ze.new _ _ _ rfl;have b3:Hid (za w (w.alloc (.cells #[.int .i64 0,.slice none 0 0,.slice none 0 0] 27))):=(za.refl w).alloc _;generalize w.alloc _=w1 at J b3⊢;obtain ⟨gp,c9⟩:∃g,g=w.heap.size:=⟨_,rfl⟩;rw [<-c9] at J⊢;have M:=zh c9;have fz:∀k,w1.frozen? ⟨gp,k,none⟩=false:=fun k=>J.out.frozen k
 have b0:=J.out.cell (k:=0) rfl;have b1:=J.out.cell (k:=1) rfl;have b2:=J.out.cell (k:=2) rfl;clear c9;by_cases hl:262144<l.length
 ·have K:Hid (d=(2,.zero)):=by (show _=_);rw [HD.out];unfold decR;rw [if_pos hl]
  have f5:(262144:Int)<(l.length:Int):=by omega
  have f6:decide (262144<l.length)=true:=Db hl
  go_wp2_with fail
  exact vdec_fin M.out (by rw [M.out];exact b3.out) J.out (zV.zero _ _) K.out rfl rfl rfl
 ·have f5:¬ ((262144:Int)<(l.length:Int)):=by omega
  have f6:decide (262144<l.length)=false:=Dc hl;have b7:=zh (Nat.le_of_not_lt hl);obtain ⟨q,hq⟩:=DX (CE (l.length+1) (l,false))
  have Q:Hid (d=match (if q.2.2=true\/0<zr q.2\/zI q.1≠l then none else some q.1) with | none=>(4,.zero) | some p=>(0,p)):=by
   (show _=_);rw [HD.out,hq];unfold decR;rw [if_neg hl];rfl
  have a8:=rdF_wt (l.length+1) (l,false) rfl;rw [<-hq] at a8;have d4:=a8.2.1 (by show l.length<=_;omega);have f4:=enc_wt q.1 d4;have f7:lv (l,false)=l.length+1:=BV rfl;have f0:=zh d4;have b4:Hid ((zI q.1).length<=9223372036854775000):=by (show _<=_);have:=a8.1;omega
  have HQ:=zh hq;clear hl a8 d4 f4 f7 hq b0 b1 b2 fz
  go_wp2_with fail
  refine (mNew_calls l w1).mono ?_;rintro e w2 ⟨rfl,a5,c7⟩;obtain ⟨r,hr⟩:=DX w1.heap.size;rw [<-hr] at c7⊢;have b9:Hid (gp<r/\r=w1.heap.size):=⟨by have:=zb J.out;omega,hr⟩;have e3:za w w2:=b3.out.trans a5;have d9:=zh c7;have d6:=zh (J.out.ext a5);have e9:=zh e3;have d7:=zh a5;clear c7 hr a5 e3 J
  go_wp2_with fail
  refine (vread_calls (by have:=b7.out;omega) (l.length+1) w2 d9.out (Nat.lt_succ_self _) (by have:=b7.out;omega)).mono ?_;rintro e w3 ⟨v,rfl,c6,c8,a6⟩;rw [<-HQ.out] at c8 a6;obtain ⟨As,cs,Ak,ck,rfl,-⟩:=a6.form;have d8:Hid (zV w3 (fun b=>gp<b) (.agg #[.int .i64 q.1.task,.slice As q.1.side.length cs,.slice Ak q.1.kids.length ck]) q.1):=a6.keepW (fun _ _ _=>rfl) (fun b hb=>by have:=d7.out.size;have:=b9.out;omega);have a9:Hid (ze w3 gp 27 #[.int .i64 0,.slice none 0 0,.slice none 0 0]):=c6.blk d6.out (by have:=b9.out;omega);have e2:Hid (Below gp w w3):=by (show Below _ _ _);rw [M.out];exact (zd.trans (Ag e9.out) c6 (X:=(·=r)) (fun _ _ h=>h)).below (CY _) (fun b hb=>by have:=b9.out;have:=M.out;omega)
  have e0:=zh c8;clear c6 c8 a6 d6 d9;go_upto_region 5 with fail;obtain ⟨U,p0,p1,p2⟩:=box3 w3 (.int .i64 q.1.task) (.slice As q.1.side.length cs) (.slice Ak q.1.kids.length ck);generalize w3.alloc _=w4 at U p0 p1 p2⊢;obtain ⟨gq,e4⟩:∃g,g=w3.heap.size:=⟨_,rfl⟩;rw [<-e4] at p0 p1 p2⊢;have a3:=zh (d8.out.ext U);have G:=zh (a9.out.ext U);have a4:Hid (Below gp w w4):=Below.trans e2.out (U.mono (Nat.le_of_lt (zb a9.out)));have e1:=zh (e0.out.ext U);have O:=zh (Cx w4 e1.out);have b6:=zh (mLeft_calls w4 e1.out (by have:=b7.out;omega));have hx:za w4 w4:=za.refl w4;have z0:=G.out.cell (k:=0) rfl;have z1:=G.out.cell (k:=1) rfl;have z2:=G.out.cell (k:=2) rfl;have fz:∀k,w4.frozen? ⟨gp,k,none⟩=false:=fun k=>G.out.frozen k
  clear e4 U d8 a9 e2 e0;by_cases E:q.2.2=true
  ·have K:Hid (d=(4,.zero)):=by (show _=_);rw [Q.out,if_pos (.inl E)]
   rw [E] at O;clear E
   go_wp2_with fail
   refine O.out.mono ?_;rintro e w5 ⟨rfl,rfl⟩
   go_wp2_with fail
   exact vdec_fin M.out a4.out G.out (zV.zero _ _) K.out rfl rfl rfl
  ·have a7:q.2.2=false:=by simpa using E
   rw [a7] at O;by_cases a0:0<zr q.2
   ·have K:Hid (d=(4,.zero)):=by (show _=_);rw [Q.out,if_pos (.inr (.inl a0))]
    have e5:(0:Int)<(zr q.2:Int):=by omega
    have e6:decide (0<zr q.2)=true:=Db a0;clear E a7
    go_wp2_with fail
    refine O.out.mono ?_;rintro e w5 ⟨rfl,rfl⟩
    go_wp2_with fail
    refine b6.out.mono ?_;rintro e w5 ⟨rfl,D⟩;have B:=zh (G.out.ext D);have a1:Hid (Below gp w w5):=Below.trans a4.out (D.mono (Nat.le_of_lt (zb G.out)));have b8:=zh (a3.out.ext D);have y0:=B.out.cell (k:=0) rfl;have y1:=B.out.cell (k:=1) rfl;have y2:=B.out.cell (k:=2) rfl;have fy:∀k,w5.frozen? ⟨gp,k,none⟩=false:=fun k=>B.out.frozen k
    clear z0 z1 z2 fz hx;have hx:za w4 w5:=D;clear D
    go_wp2_with fail
    exact vdec_fin M.out a1.out B.out (zV.zero _ _) K.out rfl rfl rfl
   ·have e5:¬ ((0:Int)<(zr q.2:Int)):=by omega
    have e6:decide (0<zr q.2)=false:=Dc a0;have b5:Hid (∀W,za w4 W->Calls Tryz.prog 15 #[_] W fun e w'=>e=.returned (.string ⟨(zI q.1).toArray⟩)/\za W w'):=fun W hW=>venc_calls q.1.size W (a3.out.ext hW) (CY _) f0.out b4.out
    by_cases V:zI q.1=l
    ·have K:Hid (d=(0,q.1)):=by (show _=_);rw [Q.out,if_neg (fun h=>h.elim E fun h=>h.elim a0 fun h=>h V)]
     rw [V] at b5;clear E a7 a0 V Q HD HQ b4
     go_wp2_with fail
     refine O.out.mono ?_;rintro e w5 ⟨rfl,rfl⟩
     go_wp2_with fail
     refine b6.out.mono ?_;rintro e w5 ⟨rfl,D⟩;have B:=zh (G.out.ext D);have a1:Hid (Below gp w w5):=Below.trans a4.out (D.mono (Nat.le_of_lt (zb G.out)));have b8:=zh (a3.out.ext D);have y0:=B.out.cell (k:=0) rfl;have y1:=B.out.cell (k:=1) rfl;have y2:=B.out.cell (k:=2) rfl;have fy:∀k,w5.frozen? ⟨gp,k,none⟩=false:=fun k=>B.out.frozen k
     clear z0 z1 z2 fz hx;have hx:za w4 w5:=D;clear D
     go_wp2_with fail
     refine (b5.out w5 hx).mono ?_;rintro e w6 ⟨rfl,L⟩;have f1:=zh (b8.out.ext L);have I:=zh (B.out.ext L);have c0:Hid (Below gp w w6):=Below.trans a1.out (L.mono (Nat.le_of_lt (zb B.out)));clear y0 y1 y2 fy;have y0:=I.out.cell (k:=0) rfl;have y1:=I.out.cell (k:=1) rfl;have y2:=I.out.cell (k:=2) rfl;have fy:∀k,w6.frozen? ⟨gp,k,none⟩=false:=fun k=>I.out.frozen k
     have g1:za w4 w6:=hx.trans L;clear L hx
     go_wp2_with fail
     exact vdec_fin M.out c0.out I.out f1.out K.out rfl rfl rfl
    ·have K:Hid (d=(4,.zero)):=by (show _=_);rw [Q.out,if_pos (.inr (.inr V))]
     have g0:(zI q.1==l)=false:=by simp [V]
     clear E a7 a0 V Q HD HQ b4
     go_wp2_with fail
     refine O.out.mono ?_;rintro e w5 ⟨rfl,rfl⟩
     go_wp2_with fail
     refine b6.out.mono ?_;rintro e w5 ⟨rfl,D⟩;have B:=zh (G.out.ext D);have a1:Hid (Below gp w w5):=Below.trans a4.out (D.mono (Nat.le_of_lt (zb G.out)));have b8:=zh (a3.out.ext D);have y0:=B.out.cell (k:=0) rfl;have y1:=B.out.cell (k:=1) rfl;have y2:=B.out.cell (k:=2) rfl;have fy:∀k,w5.frozen? ⟨gp,k,none⟩=false:=fun k=>B.out.frozen k
     clear z0 z1 z2 fz hx;have hx:za w4 w5:=D;clear D
     go_wp2_with fail
     refine (b5.out w5 hx).mono ?_;rintro e w6 ⟨rfl,L⟩;have I:=zh (B.out.ext L);have c0:Hid (Below gp w w6):=Below.trans a1.out (L.mono (Nat.le_of_lt (zb B.out)));clear y0 y1 y2 fy;have y0:=I.out.cell (k:=0) rfl;have y1:=I.out.cell (k:=1) rfl;have y2:=I.out.cell (k:=2) rfl;have fy:∀k,w6.frozen? ⟨gp,k,none⟩=false:=fun k=>I.out.frozen k
     clear hx L
     go_wp2_with fail
     exact vdec_fin M.out c0.out I.out (zV.zero _ _) K.out rfl rfl rfl
end
section
open Go.RowKit
attribute [local go_sem ↓] Go.wp_at_zero Go.wp_at_succ
attribute [local go_sem] Oper.semAt_some
mutual
def AJ:PT->PT->Bool
 | .node t s ks,.node t' s' ks'=>decide (t=t') && (decide (s=s') && (decide (ks.length=ks'.length) && BY ks ks'))
def BY:List PT->List PT->Bool
 | [],_=>true
 | _ :: _,[]=>true
 | k :: ks,k' :: ks'=>AJ k k' && BY ks ks'
end
theorem sameL_no:∀{ks ks':List PT} {k:Nat} (h:k<ks.length) (d:k<ks'.length),AJ ks[k] ks'[k]=false->BY ks ks'=false
 | a :: ks,b :: ks',0,_,_,e=>by
  have e':AJ a b=false:=e;unfold BY;rw [e'];rfl
 | a :: ks,b :: ks',k+1,h,d,e=>by
  have:=sameL_no (ks:=ks) (ks':=ks') (k:=k) (by simpa using h) (by simpa using d) (by simpa using e);unfold BY;rw [this,Bool.and_false]
theorem sameL_yes:∀{ks ks':List PT},(∀j (h:j<ks.length) (d:j<ks'.length),AJ ks[j] ks'[j]=true)->BY ks ks'=true
 | [],_,_=>by unfold BY;rfl
 | _ :: _,[],_=>by unfold BY;rfl
 | a :: ks,b :: ks',h=>by
  unfold BY;have h0:AJ a b=true:=h 0 (by simp) (by simp);rw [h0,sameL_yes (ks:=ks) (ks':=ks') fun j h1 h2=>h (j+1) (by simpa using h1) (by simpa using h2)];rfl
mutual
theorem AZ:∀(p:PT),AJ p p=true
 | .node t s ks=>by unfold AJ;simp [sameL_refl ks]
theorem sameL_refl:∀(ks:List PT),BY ks ks=true
 | []=>by unfold BY;rfl
 | k :: ks=>by unfold BY;rw [AZ k,sameL_refl ks];rfl
end
theorem AI:∀(N:Nat) {ok ok':Nat->Prop} {v v':Value} {p p':PT} (w:World),zV w ok v p->zV w ok' v' p'->p.size<=N->p.Lens->p'.Lens->
  Calls Tryz.prog 17 #[v,v'] w fun e w'=>e=.returned (.bool (AJ p p'))/\za w w'
 | 0,ok,ok',v,v',.node t s ks,p',w,h,_,hN,_,_=>by unfold PT.size at hN;omega
 | N+1,ok,ok',v,v',.node t s ks,.node t' s' ks',w,h,O,hN,hl,c7=>by
  have IH:Hid (∀(ok ok':Nat->Prop) (v v':Value) (p p':PT) (w:World),zV w ok v p->zV w ok' v' p'->p.size<=N->p.Lens->p'.Lens->Calls Tryz.prog 17 #[v,v'] w fun e w'=>e=.returned (.bool (AJ p p'))/\za w w'):=fun ok ok' v v' p p' w=>AI N w
  cases h with
  | mk hs hk he=>
  rename_i vs vk cs
  cases O with
  | mk d6 e7 b9=>
  rename_i vs' vk' cs'
  have HS:=zh hs;have e3:=zh d6;obtain ⟨As,c1,rfl,-,-⟩:=hs;obtain ⟨As',c1',rfl,-,-⟩:=d6;obtain ⟨Ak,ck,rfl,g0,d5⟩:=hk;obtain ⟨Ak',ck',rfl,f3,a2⟩:=e7;have e2:=zh d5;have d9:=zh he;have b2:=zh a2;have a9:=zh b9;unfold PT.Lens at hl c7;obtain ⟨e8,g3,c9⟩:=hl;obtain ⟨c8,f6,a1⟩:=c7;have e1:=zh (lensL_mem c9);have b1:=zh (lensL_mem a1);have e4:Hid (∀k∈ks,k.size<=PT.sizeL ks):=size_mem;have b8:=fun (w:World) (W:World) (hW:za w W) (h:zk w ok (.slice As s.length c1) s) (O:zk w ok' (.slice As' s'.length c1') s')=>same_calls W (h.below hW) (O.below hW) e8 c8
  have B:Hid (∀W,za w W->Calls Tryz.prog 44 #[.slice As s.length c1,.slice As' s'.length c1'] W fun e w'=>e=.returned (.bool (decide (s=s')))/\zM W w'):=fun W hW=>b8 w W hW HS.out e3.out
  unfold PT.size at hN;obtain ⟨R,hR⟩:=DX (AJ (.node t s ks) (.node t' s' ks'));rw [<-hR];unfold AJ at hR;have V:=zh hR;clear d5 he c9 a2 b9 a1 b8 hR
  go_enter Tryz.func17,Tryz.ntmps17
  go_upto_region 1 with fail;obtain ⟨a7,p0,p1,p2⟩:=box3 w (.int .i64 t) (.slice As s.length c1) (.slice Ak ks.length ck);have a8:(w.alloc (.cells #[.int .i64 t,.slice As s.length c1,.slice Ak ks.length ck] 27)).heap.size=w.heap.size+1:=by simp
  generalize w.alloc _=w1 at a7 p0 p1 p2 a8⊢;obtain ⟨Q,q0,q1,q2⟩:=box3 w1 (.int .i64 t') (.slice As' s'.length c1') (.slice Ak' ks'.length ck');generalize w1.alloc _=w2 at Q q0 q1 q2⊢;rw [a8] at q0 q1 q2;obtain ⟨gp,c0⟩:=DX w.heap.size;rw [<-c0] at p0 p1 p2 q0 q1 q2⊢;have a4:=zh Q;have p0:=fun W h=>p0 W (a4.out.trans h)
  have p1:=fun W h=>p1 W (a4.out.trans h)
  have p2:=fun W h=>p2 W (a4.out.trans h)
  have d:=zh (a7.trans Q);have I:za w2 w2:=za.refl w2;clear a7 Q c0 a8;by_cases ht:t=t'
  ·have d7:(t != t')=false:=by simp [ht]
   by_cases G:s=s'
   ·have E:decide (s=s')=true:=Db G;by_cases D:ks.length=ks'.length
    ·have c6:((ks.length:Int) != (ks'.length:Int))=false:=by simp [D]
     have a0:(ks.length != ks'.length)=false:=by simp [D]
     rw [E] at B;have b3:Hid (R=BY ks ks'):=by (show _=_);rw [V.out,Db ht,Db G,Db D];rfl
     clear ht G E V
     go_wp2_with fail
     refine (B.out w2 d.out).mono ?_;rintro e w3 ⟨rfl,hD⟩;obtain ⟨nd,rfl⟩:=hD;have I:za w2 (w2.drewN nd):=(za.refl w2).drewN nd;generalize w2.drewN nd=w3 at I⊢
     go_wp2_with fail
     clear c6 a0 d7 B;go_loopw [5] (fun i wr=>∃k:Nat,k<=ks.length/\i=.int .i64 k/\Hid (∀j,j<k->∀(h:j<ks.length) (O:j<ks'.length),AJ ks[j] ks'[j]=true)/\Hid (za w2 wr)) (fun i _=>ks.length - (intOf i).toNat)
     case atStart=>exact ⟨0,Do _,rfl,(fun j hj=>by omega),I⟩
     have e0:=zh D;clear I D
     case round=>
      obtain ⟨k,hk,rfl,U,hE⟩:=hrel;obtain ⟨wk,rfl⟩:∃wk:World,wk=wr:=⟨_,rfl⟩;have I:za w2 wk:=hE.out;by_cases L:k<ks.length
      ·have d4:(k:Int)<(ks.length:Int):=by omega
       have J:k<ks'.length:=by have:=e0.out;omega
       have e9:(k:Int)<(ks'.length:Int):=by omega
       have kk0:(0:Int)<=(k:Int):=by omega
       obtain ⟨b,off,rfl,h0,h1,h2⟩:=kidsAt e2.out L;obtain ⟨b',off',rfl,b4,b5,b6⟩:=kidsAt b2.out J;have r0:=za.rule (d.out.cell h0);have r1:=za.rule (d.out.cell h1);have r2:=za.rule (d.out.cell h2);have s0:=za.rule (d.out.cell b4);have s1:=za.rule (d.out.cell b5);have s2:=za.rule (d.out.cell b6);have b0:Hid (∀W,za w2 W->Calls Tryz.prog 17 #[_,_] W fun e w'=>e=.returned (.bool (AJ ks[k] ks'[k]))/\za W w'):=fun W hW=>IH.out _ _ _ _ _ _ W ((d9.out k L).ext (d.out.trans hW)) ((a9.out k J).ext (d.out.trans hW)) (by have:=e4.out _ (CZ L);omega) (e1.out _ (CZ L)) (b1.out _ (CZ J))
       obtain ⟨z,hz⟩:=DX (AJ ks[k] ks'[k]);rw [<-hz] at b0;have HZ:=zh hz;clear h0 h1 h2 b4 b5 b6 hz;go_upto_region 6 with fail;refine Dp (S:=(fun W=>za w2 W)) An (I.drew) fun zH=>?_;have a6:za w2 wk.drew:=zH;generalize wk.drew=wd at zH a6⊢;refine zj 0 zH ?_;refine zj 1 zH ?_;simp only [zc,CV];refine zj 2 zH ?_;refine zj 3 zH ?_;simp only [zc,CV];refine zj 4 zH ?_;refine zj 5 zH ?_;simp only [zc,CV];refine zj 6 zH ?_;refine zj 7 zH ?_;simp only [zc,CV];refine zj 8 zH ?_;refine zj 9 zH ?_;simp only [zc,CV];refine Aa 10 fun K hK=>?_;go_simp;go_at_call 17;refine (b0.out _ zH).mono ?_;rintro e w9 ⟨rfl,e5⟩;go_simp;refine DY hK (zH.trans e5) fun zH=>?_;clear hK K;try simp only [zc,CV]
       refine zj 11 zH ?_;simp only [zc,CV];refine DB (by kernel_rfl) ?_ _
       cases z with
       | true=>
        have a3:Hid (∀j,j<k+1->∀(h:j<ks.length) (O:j<ks'.length),AJ ks[j] ks'[j]=true):=fun j hj h O=>by
         rcases Dv j k with h1 | h1
         ·exact U.out j h1 h O
         ·have:j=k:=by omega
          subst this;exact HZ.out.symm
        have a5:=zh zH;clear zH I a6 r0 r1 r2 s0 s1 s2
        go_wp2_with fail
        go_roundw
        case rel=>exact ⟨k+1,by omega,by go_num,a3,a5⟩
        case measure=>simp [intOf];omega
       | false=>
        have M:Hid (R=false):=by (show _=_);rw [b3.out];exact sameL_no L J HZ.out.symm
        have a5:=zh (d.out.trans zH);clear zH I a6 r0 r1 r2 s0 s1 s2
        go_wp2_with fail
        go_ret;exact ⟨zi M.out.symm,a5.out⟩
      ·have M:Hid (R=true):=by (show _=_);rw [b3.out];exact sameL_yes fun j h O=>U.out j (by omega) h O
       have d4:¬ ((k:Int)<(ks.length:Int)):=by omega
       go_wp2_with fail
       go_ret;exact ⟨zi M.out.symm,d.out.trans I⟩
    ·have c6:((ks.length:Int) != (ks'.length:Int))=true:=by rw [bne_iff_ne];omega
     have a0:(ks.length != ks'.length)=true:=by rw [bne_iff_ne];exact D
     rw [E] at B;have M:Hid (R=false):=by (show _=_);rw [V.out,Dc D];simp
     clear ht G E V
     go_wp2_with fail
     refine (B.out w2 d.out).mono ?_;rintro e w3 ⟨rfl,hD⟩;obtain ⟨nd,rfl⟩:=hD;have I:za w2 (w2.drewN nd):=(za.refl w2).drewN nd;generalize w2.drewN nd=w3 at I⊢
     go_wp2_with fail
     go_ret;exact ⟨zi M.out.symm,d.out.trans I⟩
   ·have E:decide (s=s')=false:=Dc G;rw [E] at B;have M:Hid (R=false):=by (show _=_);rw [V.out,Dc G];simp
    clear ht G E V
    go_wp2_with fail
    refine (B.out w2 d.out).mono ?_;rintro e w3 ⟨rfl,hD⟩;obtain ⟨nd,rfl⟩:=hD;have I:za w2 (w2.drewN nd):=(za.refl w2).drewN nd;generalize w2.drewN nd=w3 at I⊢
    go_wp2_with fail
    go_ret;exact ⟨zi M.out.symm,d.out.trans I⟩
  ·have d7:(t != t')=true:=by simp [ht]
   have M:Hid (R=false):=by (show _=_);rw [V.out,Dc ht];rfl
   clear ht V
   go_wp2_with fail
   go_ret;exact ⟨zi M.out.symm,d.out⟩
end
section
open Go.RowKit
attribute [local go_sem ↓] Go.wp_at_zero Go.wp_at_succ
def exFree:List Bool:=[true,true,true,true,false,true,true,true,true]
def exM (a b:Int):MZ:=⟨3,3,1,[exFree,exFree],List.replicate 9 false,[([0],[2]),([a],[b])]⟩
theorem Cq:∀(os:List Obj) (w:World),za w (os.foldl World.alloc w)
 | [],w=>za.refl w
 | o :: os,w=>((za.refl w).alloc o).trans (Cq os (w.alloc o))
theorem allocs_at:∀(os:List Obj) (w:World) (i:Nat) (o:Obj),os[i]?=some o->(os.foldl World.alloc w).heap[w.heap.size+i]?=some o
 | o :: os,w,0,o',h=>by
  have:o=o':=by simpa using h
  subst this;exact ((Cq os (w.alloc o)).block _ (by simp)).trans (DI w o)
 | o :: os,w,i+1,o',h=>by
  have:=allocs_at os (w.alloc o) i o' (by simpa using h);rw [show w.heap.size+(i+1)=(w.alloc o).heap.size+i from by simp;omega];exact this
end
section
open Go.RowKit
theorem case_fin {P:World->Prop} {g2:Nat} {t:TypeId} {a b c d e f z0 z1 z2 z3 z4 z5:Value} (h:∀WZ,ze WZ g2 t #[a,b,c,d,e,f]->Below g2 W WZ->(∀k,k<W.heap.size->k≠g2->WZ.heap[k]?=W.heap[k]?)->P WZ) (E:ze W g2 t #[z0,z1,z2,z3,z4,z5]):
  P ((((((W.setCell ⟨g2,0,none⟩ a).setCell ⟨g2,1,none⟩ b).setCell ⟨g2,2,none⟩ c).setCell ⟨g2,3,none⟩ d).setCell ⟨g2,4,none⟩ e).setCell ⟨g2,5,none⟩ f):=by
 refine h _ ?_ ((((((Below.refl g2 W).setCell (p:=⟨g2,0,none⟩) (CY _) _).setCell (p:=⟨g2,1,none⟩) (CY _) _).setCell (p:=⟨g2,2,none⟩) (CY _) _).setCell (p:=⟨g2,3,none⟩) (CY _) _).setCell (p:=⟨g2,4,none⟩) (CY _) _ |>.setCell (p:=⟨g2,5,none⟩) (CY _) _) fun k _ B=>?_
 ·have D:=(((((E.set (k:=0) a).set (k:=1) b).set (k:=2) c).set (k:=3) d).set (k:=4) e).set (k:=5) f;exact D
 ·exact (Di _ ⟨g2,5,none⟩ _ k B).trans ((Di _ ⟨g2,4,none⟩ _ k B).trans ((Di _ ⟨g2,3,none⟩ _ k B).trans ((Di _ ⟨g2,2,none⟩ _ k B).trans ((Di _ ⟨g2,1,none⟩ _ k B).trans (Di _ ⟨g2,0,none⟩ _ k B)))))
end
section
open Go.RowKit
attribute [local go_sem ↓] Go.wp_at_zero Go.wp_at_succ
def exA:Array Value:=#[.bool true,.bool true,.bool true,.bool true,.bool false,.bool true,.bool true,.bool true,.bool true]
theorem fin_wp {P:Program} {c:Code} {Q:Exit->Act->World->Prop} (w:World) (os:List Obj) (h:∀W,za w W->(∀(i:Nat) o,os[i]?=some o->W.heap[w.heap.size+i]?=some o)->c.wp P Q a W):c.wp P Q a (os.foldl World.alloc w):=h _ (Cq os w) (fun i o d=>allocs_at os w i o d)
structure FI (W0:World) (g:Nat) (u t:Value) (w:World) (k:Nat) (vF:Value) (fs:List Value):Prop where
 ch:zd (·=g) W0 w
 mz:ze w g 35 #[.int .i64 3,.int .i64 3,.int .i64 1,vF,u,t]
 F:w.ownsRow W0.heap.size 32 1 vF k fs
 fd:∀j,j<k->∃h,fs[j]?=some (.slice (some ⟨h,0,none⟩) 9 9)/\W0.heap.size<=h/\ze w h 4 exA
theorem FI.mid (h:FI W0 g u t w k vF fs) (d:za w ((w.alloc (.cells exA 4)).alloc o)) (B:((w.alloc (.cells exA 4)).alloc o).grownBy w2 vF.ownBlock):ze w2 g 35 #[.int .i64 3,.int .i64 3,.int .i64 1,vF,u,t]:=
 (B.block g (by have:=zb h.mz;simp;omega) (fun e=>AY h.F h.mz (by decide) e.symm)).trans (h.mz.ext d)
theorem FI.add {v':Value} (h:FI W0 g u t w k vF fs) (I:za w ((w.alloc (.cells exA 4)).alloc o)) (K:w2.ownsRow W0.heap.size 32 1 v' (k+1) (fs++[.slice (some ⟨w.heap.size,0,none⟩) 9 9])) (G:((w.alloc (.cells exA 4)).alloc o).grownBy w2 vF.ownBlock):
  FI W0 g u t (w2.setCell ⟨g,3,none⟩ v') (k+1) v' (fs++[.slice (some ⟨w.heap.size,0,none⟩) 9 9]):=by
 have Q:ze ((w.alloc (.cells exA 4)).alloc o) w.heap.size 4 exA:=(ze.new w exA 4 rfl).ext ((za.refl _).alloc _);have D:∀x ty cs,ze w x ty cs->ty≠32->ze w2 x ty cs:=fun x ty cs d ht=>(G.block x (by have:=zb d;simp;omega) (fun e=>AY h.F d (Ne.symm ht) e.symm)).trans (d.ext I)
 have E:ze w2 w.heap.size 4 exA:=(G.block _ (by simp;omega) (fun e=>by have:=(World.ownsRow.lt h.F _ e.symm).2;omega)).trans Q;have B:=D g _ _ h.mz (by decide);have L:∀x ty cs,ze w2 x ty cs->ty≠35->ze (w2.setCell ⟨g,3,none⟩ v') x ty cs:=fun x ty cs d ht=>d.setOther (a:=⟨g,3,none⟩) (ze.ne_ d B ht) _
 have J:fs.length=k*1:=h.F.1;refine ⟨((h.ch.tr (Ag I)).grown G (fun x d U=>by have:=(World.ownsRow.lt h.F _ d).1;omega)).set g 3 v' rfl,B.set (k:=3) v',own_keep K (fun x d=>Di w2 ⟨g,3,none⟩ _ x (fun e=>AY K B (by decide) (by rw [d];exact congrArg some e))),fun j V=>?_⟩;rcases Dv j k with h1 | h1
 ·obtain ⟨x,h2,M,O⟩:=h.fd j h1;exact ⟨x,by rw [Dd (by omega)];exact h2,M,L _ _ _ (D _ _ _ O (by decide)) (by decide)⟩
 ·have:j=k:=by omega
  subst this;exact ⟨w.heap.size,by rw [De (by omega),show j - fs.length=0 by omega];rfl,h.ch.size,L _ _ _ E (by decide)⟩
theorem zY (a b:Int) (w:World):Calls Tryz.prog 26 #[.int .i64 a,.int .i64 b] w fun e w'=>∃v,e=.returned v/\za w w'/\zL w' (fun x=>w.heap.size<=x) v (exM a b):=by
 have c7:∀w,(Instr.makeSlice 32 (.int .i64 9) (.int .i64 9)).run Tryz.prog w=.ok (.slice (some ⟨w.heap.size,0,none⟩) 9 9) (w.alloc (.cells #[.bool false,.bool false,.bool false,.bool false,.bool false,.bool false,.bool false,.bool false,.bool false] 4)):=fun _=>by kernel_rfl
 go_enter Tryz.func26,Tryz.ntmps26
 go_wp2_with fail
 refine fin_wp w [_,_,_,_,_,_,_,_] fun W0 a1 I=>?_
 have b0:W0.heap[w.heap.size]?=_:=I 0 _ rfl;have b1:=I 1 _ rfl;have b2:=I 2 _ rfl;have b3:=I 3 _ rfl;have b4:=I 4 _ rfl;have b5:=I 5 _ rfl;have b6:=I 6 _ rfl;have b7:=I 7 _ rfl;clear I c7;have a6:=zh a1;obtain ⟨H,hH⟩:=DX w.heap.size;rw [<-hH] at b0 b1 b2 b3 b4 b5 b6 b7⊢;have HH:=zh hH;have a5:Hid (ze W0 H 35 #[.int .i64 0,.int .i64 0,.int .i64 0,.slice none 0 0,.slice none 0 0,.slice none 0 0]):=b0;have U:Hid (∀(k:Nat) (x:Int),H<=k->W0.heap[k]?=some (.cells #[.int .i64 x] 3 (0,0))->zk W0 (fun b=>H<=b/\b≠H+7/\b≠H) (.slice (some ⟨k,0,none⟩) 1 1) [x]):=fun k x hk d=>⟨_,_,rfl,CY _,Aj.block (cs:=#[.int .i64 x]) d ⟨hk,(fun e=>by subst e;rw [b7] at d;cases d),fun e=>by subst e;rw [b0] at d;cases d⟩ rfl⟩
 have a0:Hid (AO W0 (fun b=>H<=b/\b≠H+7/\b≠H) (.slice (some ⟨H+1,0,none⟩) 9 9) (List.replicate 9 false)):=⟨_,_,rfl,CY _,Aj.block (cs:=#[.bool false,.bool false,.bool false,.bool false,.bool false,.bool false,.bool false,.bool false,.bool false]) b1 (by omega) rfl⟩
 have V:Hid (Bd W0 (fun b=>H<=b/\b≠H+7/\b≠H) (.slice (some ⟨H+6,0,none⟩) 2 2) [([0],[2]),([a],[b])]):=by
  refine ⟨[.string ⟨#[97]⟩,.slice (some ⟨H+2,0,none⟩) 1 1,.slice (some ⟨H+3,0,none⟩) 1 1,.string ⟨#[98]⟩,.slice (some ⟨H+4,0,none⟩) 1 1,.slice (some ⟨H+5,0,none⟩) 1 1],⟨_,_,rfl,CY _,rfl,fun _=>⟨H+6,0,rfl,by omega,fun j u hu=>by rw [Nat.zero_add];exact ze.cell (cs:=#[.string ⟨#[97]⟩,.slice (some ⟨H+2,0,none⟩) 1 1,.slice (some ⟨H+3,0,none⟩) 1 1,.string ⟨#[98]⟩,.slice (some ⟨H+4,0,none⟩) 1 1,.slice (some ⟨H+5,0,none⟩) 1 1]) b6 (by simpa using hu)⟩⟩,fun i x G=>?_⟩
  match i,G with
  | 0,G=>
   have:(([0],[2]):List Int×List Int)=x:=by simpa using G
   subst this;exact ⟨_,_,_,rfl,rfl,rfl,U.out _ _ (by omega) b2,U.out _ _ (by omega) b3⟩
  | 1,G=>
   have:(([a],[b]):List Int×List Int)=x:=by simpa using G
   subst this;exact ⟨_,_,_,rfl,rfl,rfl,U.out _ _ (by omega) b4,U.out _ _ (by omega) b5⟩
 have Q:Hid (FI W0 (H+7) (.slice (some ⟨H+1,0,none⟩) 9 9) (.slice (some ⟨H+6,0,none⟩) 2 2) W0 0 (.slice none 0 0) []):=⟨zd.refl _ _,b7,World.ownsRow_nil _ _ _ _,fun j hj=>by omega⟩;have M:Hid (H+7<W0.heap.size):=zb b7;clear b0 b1 b2 b3 b4 b5 b6 b7 a1 U hH;go_loopw [6] (fun i wr=>∃(k:Nat) (vF:Value) (fs:List Value),i=.int .i64 k/\k<=2/\Hid (FI W0 (H+7) (.slice (some ⟨H+1,0,none⟩) 9 9) (.slice (some ⟨H+6,0,none⟩) 2 2) wr k vF fs)) (fun i _=>2 - (intOf i).toNat)
 case atStart=>exact ⟨0,_,_,rfl,Do _,Q.out⟩
 clear Q
 case round=>
  obtain ⟨k,vF,fs,rfl,hk,D⟩:=hrel;obtain ⟨wk,rfl⟩:∃wk:World,wk=wr:=⟨_,rfl⟩;have m0:=D.out.mz.cell (k:=0) rfl;have m1:=D.out.mz.cell (k:=1) rfl;have m2:=D.out.mz.cell (k:=2) rfl;have m3:=D.out.mz.cell (k:=3) rfl;have m4:=D.out.mz.cell (k:=4) rfl;have m5:=D.out.mz.cell (k:=5) rfl;have e0:W0.heap.size<=wk.heap.size:=D.out.ch.size;by_cases a3:k<2
  ·have d6:(k:Int)<2:=by omega
   have a2:za wk ((wk.alloc (.cells exA 4)).alloc (.cells #[.slice (some ⟨wk.heap.size,0,none⟩) 9 9] 32)):=((za.refl _).alloc _).alloc _;have L:=zh a2;have K:Ay ((wk.alloc (.cells exA 4)).alloc (.cells #[.slice (some ⟨wk.heap.size,0,none⟩) 9 9] 32)) (fun _=>True) 1 (.slice (some ⟨wk.heap.size+1,0,none⟩) 1 1) 1 [.slice (some ⟨wk.heap.size,0,none⟩) 9 9]:=⟨_,_,rfl,CY _,Aj.block (cs:=#[.slice (some ⟨wk.heap.size,0,none⟩) 9 9]) (ze.new _ _ _ (by simp)) trivial rfl⟩;have J:=zh K;clear a2 K
   go_wp2_with (at_builtin;refine wpList_append_row rfl _ _ _ eBools rfl W0.heap.size k 1 fs [.slice (some ⟨wk.heap.size,0,none⟩) 9 9] vF _ rfl rfl ((D.out.F.alloc _).alloc _) J.out (by simp [Value.oneCell']) (by simp;omega) (by unfold maxLen;omega) (by omega) ?_)
   intro v' w2 ho hg c9;have O:=D.out.mid L.out hg;have a8:=zh (D.out.add L.out ho hg);have n3:=O.cell (k:=3) rfl;have fz:=O.frozen 3;obtain ⟨A',c',e',-,-⟩:=Ay.of_own ho;subst e';clear ho hg c9 O J L m0 m1 m2 m3 m4 m5;go_wp2;go_roundw
   case rel=>exact ⟨k+1,_,_,by go_num,by omega,a8.out⟩
   case measure=>simp [intOf];omega
  ·obtain rfl:k=2:=by omega
   have B:Hid (ze wk H 35 #[.int .i64 0,.int .i64 0,.int .i64 0,.slice none 0 0,.slice none 0 0,.slice none 0 0]):=D.out.ch.blk a5.out (by omega);have z0:=B.out.cell (k:=0) rfl;have z1:=B.out.cell (k:=1) rfl;have z2:=B.out.cell (k:=2) rfl;have z3:=B.out.cell (k:=3) rfl;have z4:=B.out.cell (k:=4) rfl;have z5:=B.out.cell (k:=5) rfl;have fz:∀j,wk.frozen? ⟨H,j,none⟩=false:=fun j=>B.out.frozen j
   obtain ⟨Af,cf,e',-,-⟩:=Ay.of_own D.out.F;subst e'
   have b8:Hid (zL wk (fun b=>H<=b/\b≠H) (.agg #[.int .i64 3,.int .i64 3,.int .i64 1,.slice Af 2 cf,.slice (some ⟨H+1,0,none⟩) 9 9,.slice (some ⟨H+6,0,none⟩) 2 2]) (exM a b)):=by
    have hS:zK (fun b=>H<=b/\b≠H+7/\b≠H) W0 wk:=D.out.ch.same fun b d e=>d.2.1 e
    refine ⟨_,_,_,rfl,⟨fs,(Ay.of_own D.out.F).weaken (fun b d=>by have:=M.out;omega),fun i x G=>?_⟩,(a0.out.keep hS).weaken (fun b d=>⟨d.1,d.2.2⟩),(V.out.keep hS).weaken (fun b d=>⟨d.1,d.2.2⟩)⟩
    have hi:i<2/\x=exFree:=by
     match i,G with
     | 0,G=>exact ⟨by omega,by simpa [exM] using G.symm⟩
     | 1,G=>exact ⟨by omega,by simpa [exM] using G.symm⟩
    obtain ⟨h,h1,h2,h3⟩:=D.out.fd i hi.1;rw [hi.2];exact ⟨_,h1,⟨_,_,rfl,CY _,Aj.block (cs:=exA) h3 (by have:=M.out;omega) rfl⟩⟩
   have a7:Hid (Below H w wk):=by
    have h1:Below H w W0:=by (show Below _ _ _);rw [HH.out];exact a6.out
    have h2:Below H W0 wk:=D.out.ch.below (by have:=M.out;omega) (fun b d=>by omega);exact h1.trans h2
   clear D a0 V;go_wp2;refine case_fin (P:=fun W=>bodyPost Tryz.prog Tryz.f26 _ Exit.ret _ W) (g2:=H) ?_ B.out;intro WZ E b9 hk;have y0:=E.cell (k:=0) rfl;have y1:=E.cell (k:=1) rfl;have y2:=E.cell (k:=2) rfl;have y3:=E.cell (k:=3) rfl;have y4:=E.cell (k:=4) rfl;have y5:=E.cell (k:=5) rfl;have hE:za w WZ:=by have h:=a7.out.trans b9;rw [HH.out] at h;exact h
   exact DM (v:=.agg #[.int .i64 3,.int .i64 3,.int .i64 1,.slice Af 2 cf,.slice (some ⟨H+1,0,none⟩) 9 9,.slice (some ⟨H+6,0,none⟩) 2 2]) (by simp [results,Tryz.results26,go_sem,y0,y1,y2,y3,y4,y5]) rfl ⟨_,rfl,hE,(b8.out.keep (fun b d a3=>hk b a3 d.2)).weaken fun b d=>by have:=HH.out;omega⟩
end
section
open Go.RowKit
theorem Ct (a b:Int):Lens (exM a b):=⟨by simp [exM],by simp [exM],by simp [exM],fun t ht=>by
 simp only [exM,DJ,DO,or_false] at ht;rcases ht with rfl | rfl <;> simp⟩
end
end Go.Proofs.YtcnaogdgjkpkmaaGreatDoor
