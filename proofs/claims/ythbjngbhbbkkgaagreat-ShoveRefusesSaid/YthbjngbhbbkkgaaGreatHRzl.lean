import Derived.Test.YthbjngbhbbkkgaaGreatHRzj
import Derived.Laws.EntriesVeiled
set_option linter.unusedVariables false
set_option linter.unusedSimpArgs false
set_option maxRecDepth 100000
set_option maxHeartbeats 16000000
namespace Go.Proofs.YthbjngbhbbkkgaaGreat
variable {t:Int} {ch s:List Int} {m:MZ} {g2 go gp tk:Nat} {ok okp:Nat->Prop} {f ts u v vc vp vs:Value}
section
open Go.RowKit
attribute [local go_sem ↓] Go.wp_at_zero Go.wp_at_succ
theorem indexFuncX_calls {l:List Int} (n:FuncId) (caps:Array Value) (p:Int->Bool) (w:World) (h:zj w ok v l) (hl:l.length<=20000000000000)
  (a2:∀(a:Array Value) (w:World),(callFunc n a).run Tryz.prog w=.ok (.enter n a) w)
  (hp:∀x∈l,∀w1,zb w w1->Calls Tryz.prog n (#[.int .i64 x]++caps) w1 fun e w'=>e=.returned (.bool (p x))/\zb w1 w'):
  Calls Tryz.prog 82 #[v,.func (.func n) #[] caps] w fun e w'=>∃r:Int,e=.returned (.int .i64 r)/\(0<=r↔l.any p=true)/\-1<=r/\zb w w':=by
 obtain ⟨A,c,rfl,hc,V⟩:=h;have HR:=zh V;clear V;have HP:=zh hp;clear hp
 go_enter Tryz.func82,Tryz.ntmps82
 go_wp2_with fail
 go_loopw [8] (fun i wr=>∃k:Nat,k<=l.length/\i=.int .i64 k/\Hid ((l.take k).any p=false)/\Hid (zb w wr)) (fun i _=>l.length - (intOf i).toNat)
 case atStart=>exact ⟨0,EU _,rfl,by simp [Hid],zb.refl _⟩
 case round=>
  obtain ⟨k,hk,rfl,U,M⟩:=hrel;by_cases J:k<l.length
  ·obtain ⟨b,off,rfl,_,I⟩:=zy (HR.out.keep (zW.of_below M.out)) J J;obtain ⟨x,Q⟩:=zad (l[k]);rw [<-Q] at I;have O:x∈l:=by rw [Q];exact EH _
   have D:=zh (AZ p J);rw [<-Q] at D;clear Q;have o:=zh (HP.out x O wr M.out);by_cases B:p x=true
   ·go_wp2_with fail
    refine o.out.mono ?_;rintro e w1 ⟨rfl,z⟩;rw [B];have E:=zh (M.out.trans z);clear z;have G:=zh B;clear B
    go_wp2_with fail
    go_ret;refine ⟨_,rfl,⟨fun _=>?_,fun _=>by omega⟩,by omega,E.out⟩;rw [FM];exact ⟨x,O,G.out⟩
   ·have L:p x=false:=by simpa using B
    clear B
    go_wp2_with fail
    refine o.out.mono ?_;rintro e w1 ⟨rfl,z⟩;rw [L];have E:=zh (M.out.trans z);clear z;have G:=zh L;clear L
    go_wp2_with fail
    go_roundw
    case rel=>exact ⟨k+1,by omega,by go_num,by
     show _=false;rw [D.out,U.out,G.out];rfl,E⟩
    case measure=>simp [intOf];omega
  ·obtain rfl:k=l.length:=by omega
   go_wp2;go_ret;have h:=U.out;rw [ER] at h;refine ⟨_,rfl,⟨fun T=>by omega,fun T=>?_⟩,by omega,M.out⟩;rw [h] at T
   cases T
theorem Ce {l:List (Int)} (n:FuncId) (caps:Array Value) (p:Int->Bool) (w:World) (h:zj w ok v l) (G:l.length<=20000000000000) (z:∀(a:Array Value) (w:World),(callFunc n a).run Tryz.prog w=.ok (.enter n a) w)
  (hp:∀x∈l,∀w1,zb w w1->Calls Tryz.prog n (#[.int .i64 x]++caps) w1 fun e w'=>e=.returned (.bool (p x))/\zb w1 w'):
  Calls Tryz.prog 54 #[v,.func (.func n) #[] caps] w fun e w'=>e=.returned (.bool (l.any p))/\zb w w':=by
 have H:=zh (indexFuncX_calls n caps p w h G z hp);clear hp;obtain ⟨A,c,rfl,J,o⟩:=h;clear o
 go_enter Tryz.func54,Tryz.ntmps54
 go_wp2_with fail
 refine H.out.mono ?_;rintro e w1 ⟨r,rfl,o,I,B⟩;have E:=zh o;clear o;have D:=zh B;clear B
 go_wp2_with fail
 go_ret;refine ⟨ze ?_,D.out⟩;rw [Bool.eq_iff_iff,decide_eq_true_iff];exact E.out
structure CutV (w:World) (ok okp:Nat->Prop) (g2 gp go:Nat) (m:MZ) (f u ts vc vp:Value) (ch:List Int) (t:Int) (tk:Nat) (vs:Value) (s:List Int):Prop where
 st:PSt w ok m f u ts vc vp ch
 c0:w.cell? ⟨g2,0,none⟩=some (.int .i64 m.w)
 c1:w.cell? ⟨g2,1,none⟩=some (.int .i64 m.h)
 c2:w.cell? ⟨g2,2,none⟩=some (.int .i64 m.l)
 c3:w.cell? ⟨g2,3,none⟩=some f
 c4:w.cell? ⟨g2,4,none⟩=some u
 c5:w.cell? ⟨g2,5,none⟩=some ts
 c6:w.cell? ⟨g2,6,none⟩=some vc
 c7:w.cell? ⟨g2,7,none⟩=some vp
 c8:w.cell? ⟨g2,8,none⟩=some (.int .i64 t)
 p0:w.cell? ⟨gp,0,none⟩=some (.int .i64 tk)
 p1:w.cell? ⟨gp,1,none⟩=some vs
 sd:zj w okp vs s
 o0:w.cell? ⟨go,0,none⟩=some (.func (.func 115) #[] #[.pointer (some ⟨gp,0,none⟩)])
theorem CutV.more {w w':World} {ok okp:Nat->Prop} {g2 gp go:Nat} {m:MZ} {f u ts vc vp:Value} {ch:List Int} {t:Int} {tk:Nat} {vs:Value} {s:List Int} (h:CutV w ok okp g2 gp go m f u ts vc vp ch t tk vs s) (o:zb w w'):CutV w' ok okp g2 gp go m f u ts vc vp ch t tk vs s:=
 ⟨h.st.more o,o.cell h.c0,o.cell h.c1,o.cell h.c2,o.cell h.c3,o.cell h.c4,o.cell h.c5,o.cell h.c6,o.cell h.c7,o.cell h.c8,o.cell h.p0,o.cell h.p1,h.sd.below o,o.cell h.o0⟩
theorem cut1_calls (x:Int) (w:World) (h1:w.cell? ⟨gp,1,none⟩=some vs) (o:zj w ok vs s) (B:s.length<=20000000000000):
  Calls Tryz.prog 115 #[.int .i64 x,.pointer (some ⟨gp,0,none⟩)] w fun e w'=>e=.returned (.bool (!decide (x∈s)))/\w=w':=by
 have z:=zh o;obtain ⟨As,cs,rfl,-,-⟩:=o
 go_enter Tryz.func115,Tryz.ntmps115
 go_wp2_with fail
 refine (zB x w z.out B).mono ?_;rintro e w9 ⟨rfl,rfl⟩
 go_wp2_with fail
 go_ret;exact ⟨rfl,rfl⟩
theorem cut21_calls (x:Int) (w:World) (h:CutV w ok okp g2 gp go m f u ts vc vp ch t tk vs s) (g:zC m) (z:ch.length<=20000000000000) (B:tk<m.free.length) (h0:0<=x) (h1:x<m.n) (E:s.length<=20000000000000):
  Calls Tryz.prog 118 #[.int .i64 x,.pointer (some ⟨g2,0,none⟩),.pointer (some ⟨gp,0,none⟩),.pointer (some ⟨go,0,none⟩)] w fun e w'=>e=.returned (.bool ((zi m tk x && !decide (x∈ch)) && !decide (x∈s)))/\zb w w':=by
 have D:=zh (popen_calls t tk x w h.st g z B h0 h1);have G:Hid (∀w9,zb w w9->Calls Tryz.prog 115 #[.int .i64 x,.pointer (some ⟨gp,0,none⟩)] w9 fun e w'=>e=.returned (.bool (!decide (x∈s)))/\w9=w'):=fun w9 I=>cut1_calls x w9 (I.cell h.p1) (h.sd.below I) E
 obtain ⟨c0,c1,c2,c3,c4,c5,c6,c7,c8,p0,p1,o0⟩:=(⟨h.c0,h.c1,h.c2,h.c3,h.c4,h.c5,h.c6,h.c7,h.c8,h.p0,h.p1,h.o0⟩:_/\_/\_/\_/\_/\_/\_/\_/\_/\_/\_/\_);clear h B h0 h1 g z;unfold Ey at D;generalize (zi m tk x && !decide (x∈ch))=b at D⊢;generalize (!decide (x∈s))=d at G⊢
 go_enter Tryz.func118,Tryz.ntmps118
 go_wp2_with fail
 refine D.out.mono ?_;rintro e w1 ⟨rfl,o⟩;have o1:=o.cell o0;clear c0 c1 c2 c3 c4 c5 c6 c7 c8 p0 p1 o0 D
 cases b with
 | false=>
  go_wp2_with fail
  go_ret;exact ⟨rfl,o⟩
 | true=>
  go_wp2_with fail
  refine (G.out w1 o).mono ?_;rintro e w2 ⟨rfl,rfl⟩
  go_wp2_with fail
  go_ret;exact ⟨by simp,o⟩
theorem cut2_calls (x:Int) (w:World) (h:CutV w ok okp g2 gp go m f u ts vc vp ch t tk vs s) (g:zC m) (M:Lens m) (z:ch.length<=20000000000000) (B:tk<m.free.length) (J:s.length<=20000000000000):
  Calls Tryz.prog 117 #[.int .i64 x,.pointer (some ⟨g2,0,none⟩),.pointer (some ⟨gp,0,none⟩),.pointer (some ⟨go,0,none⟩)] w fun e w'=>e=.returned (.bool ((AR m x).any fun k=>(zi m tk k && !decide (k∈ch)) && !decide (k∈s)))/\zb w w':=by
 have H:=zh h;have L:=zh (Et x w h.st.maze M)
 have D:Hid (∀w9 v9,zb w w9->zj w9 (fun _=>True) v9 (AR m x)->Calls Tryz.prog 54 #[v9,.func (.func 118) #[] #[.pointer (some ⟨g2,0,none⟩),.pointer (some ⟨gp,0,none⟩),.pointer (some ⟨go,0,none⟩)]] w9 fun e w'=>e=.returned (.bool ((AR m x).any fun k=>(zi m tk k && !decide (k∈ch)) && !decide (k∈s)))/\zb w9 w'):=fun w9 v9 T V=>
  Ce 118 _ _ w9 V (by have:=nextO_len m x;omega) (Ar Tryz.func118 rfl rfl) fun y hy w8 Q=>by
   have O:=nextO_rng g hy;exact cut21_calls y w8 (H.out.more (T.trans Q)) g z B O.1 O.2 J
 obtain ⟨c0,c1,c2,c3,c4,c5⟩:=(⟨h.c0,h.c1,h.c2,h.c3,h.c4,h.c5⟩:_/\_/\_/\_/\_/\_);clear h g z B M;generalize U:((AR m x).any fun k=>(zi m tk k && !decide (k∈ch)) && !decide (k∈s))=R at D⊢;clear U
 go_enter Tryz.func117,Tryz.ntmps117
 go_wp2_with fail
 refine L.out.mono ?_;rintro e w1 ⟨v1,rfl,o⟩;have G:=zh o.ext;have E:=zh (D.out w1 v1 o.ext (o.ints.weaken fun _ _=>trivial));obtain ⟨A1,k1,rfl,-⟩:=o.slice;clear o D L H c0 c1 c2 c3 c4 c5
 go_wp2_with fail
 refine E.out.mono ?_;rintro e w2 ⟨rfl,I⟩
 go_wp2_with fail
 go_ret;exact ⟨rfl,G.out.trans I⟩
theorem step_last {N:Int} {tg:List Int} {k:Nat} (z:∀j,j<k->Ca N tg s j):Ca N tg s k↔((-1:Int) :: s).getD k 0<s.getD k 0/\s.getD k 0<N/\s.getD k 0∉tg:=by
 unfold Ca
 cases k with
 | zero=>
  rw [List.getD_cons_zero];constructor
  ·rintro ⟨h1,h2,-,o⟩;exact ⟨by omega,h2,o⟩
  ·rintro ⟨h1,h2,h3⟩;exact ⟨by omega,h2,fun h=>by omega,h3⟩
 | succ k=>
  rw [List.getD_cons_succ];have h0:=(z k (by omega)).1;constructor
  ·rintro ⟨h1,h2,h3,o⟩;exact ⟨h3 (by omega),h2,o⟩
  ·rintro ⟨h1,h2,h3⟩;exact ⟨by omega,h2,fun _=>h1,h3⟩
theorem wall_any (m:MZ) (ch:List Int) (t:Nat) (s:List Int):wallB m ch t s=!(s.any fun n=>(AR m n).any fun k=>(zi m t k && !decide (k∈ch)) && !decide (k∈s)):=by
 unfold wallB;rw [List.not_any_eq_all_not];congr 1;funext n;rw [List.not_any_eq_all_not];congr 1;funext k
 cases (zi m t k && !decide (k∈ch)) <;> simp
theorem pcut_calls {vpr:Value} {p:PT} (w:World) (h:PSt w ok m f u ts vc vp ch) (hl:Lens m) (hc:AO m=0) (hi:zx m ch) (hp:Dz w okp vpr p) (a5:p.side.length<=20000000000000):
  Calls Tryz.prog 91 #[Ey m f u ts vc vp (zR m ch),vpr] w fun e w'=>e=.returned (.bool (cutB m ch p.task p.side p.kids.length))/\zb w w':=by
 have H:=zh h;have HL:=zh hl;have HC:=zh hc;have HI:=zh hi;have G:=zh (zC.of hc);have j3:=(AG hc hi).2.2.1;obtain ⟨Af,cf,Au,cu,At,ct,Ac,cc,Ap,cp,rfl,rfl,rfl,rfl,rfl,-,e8⟩:=h.parts;have g9:=zh e8;obtain ⟨As,cs,Ak,ck,rfl,O⟩:=hp.form;have U:=zh O;have j8:=hl.ts;clear h hl hc hi hp e8;obtain ⟨R,hR⟩:=zad (cutB m ch p.task p.side p.kids.length);rw [<-hR];have a0:=zh hR;obtain ⟨tk,c7⟩:=zad p.task;obtain ⟨s,hs⟩:=zad p.side;obtain ⟨nk,b9⟩:=zad p.kids.length;rw [<-c7,<-hs,<-b9] at a0;rw [<-hs] at U O a5;rw [<-c7,<-hs,<-b9];clear hR c7 hs b9;obtain ⟨c,b5⟩:=zad (zR m ch);rw [<-b5];have d4:=zh b5;obtain ⟨PL,a8⟩:=zad ((zq m ch).length);rw [<-a8] at H⊢;clear b5 a8;have g7:=zh (show Ae w okp 1 As s.length (s.map (Value.int .i64)) from by obtain ⟨A',c',e,-,h⟩:=U.out;injection e with e1 e2 e3;rw [e1];exact h);clear O;unfold Ey
 go_enter Tryz.func91,Tryz.ntmps91
 go_upto_region 1 with fail;obtain ⟨L,r0,r1,r2,r3,r4,r5,r6,r7,r8⟩:=box9 w (.int .i64 m.w) (.int .i64 m.h) (.int .i64 m.l) (.slice Af m.free.length cf) (.slice Au m.up.length cu) (.slice At m.tasks.length ct) (.slice Ac ch.length cc) (.slice Ap PL cp) (.int .i64 c);have c5:(w.alloc (.cells #[.int .i64 m.w,.int .i64 m.h,.int .i64 m.l,.slice Af m.free.length cf,.slice Au m.up.length cu,.slice At m.tasks.length ct,.slice Ac ch.length cc,.slice Ap PL cp,.int .i64 c] 103)).heap.size=w.heap.size+1:=by simp
 generalize w.alloc _=w0 at L r0 r1 r2 r3 r4 r5 r6 r7 r8 c5⊢;obtain ⟨M,p0,p1,p2⟩:=box3 w0 (.int .i64 tk) (.slice As s.length cs) (.slice Ak nk ck);generalize w0.alloc _=w1 at M p0 p1 p2⊢;rw [c5] at p0 p1 p2;obtain ⟨gm,d7⟩:=zad w.heap.size;rw [<-d7] at r0 r1 r2 r3 r4 r5 r6 r7 r8 p0 p1 p2⊢;have D:=zh M;have Q:=zh (L.trans M);have r0:=fun W h=>r0 W (D.out.trans h)
 have r1:=fun W h=>r1 W (D.out.trans h)
 have r2:=fun W h=>r2 W (D.out.trans h)
 have r3:=fun W h=>r3 W (D.out.trans h)
 have r4:=fun W h=>r4 W (D.out.trans h)
 have r5:=fun W h=>r5 W (D.out.trans h)
 have r6:=fun W h=>r6 W (D.out.trans h)
 have r7:=fun W h=>r7 W (D.out.trans h)
 have r8:=fun W h=>r8 W (D.out.trans h)
 clear d7 L M c5;have hx:zb w1 w1:=zb.refl w1;obtain ⟨bad,a9⟩:∃bad:Bool,bad=decide (tk<c\/(m.tasks.length:Int)<=tk\/(tk=c/\s=[])\/nk≠0):=⟨_,rfl⟩;have B:=zh a9;clear a9;go_cut [41] (fun v wx=>v=.bool bad/\w1=wx)
 case first=>
  by_cases h1:tk<(c:Int)
  ·have I:Hid (bad=true):=by (show _=_);rw [B.out];exact EJ (.inl h1)
   go_wp2_with fail
   go_meet;exact ⟨by rw [I.out],rfl⟩
  ·by_cases h2:(m.tasks.length:Int)<=tk
   ·have I:Hid (bad=true):=by (show _=_);rw [B.out];exact EJ (.inr (.inl h2))
    go_wp2_with fail
    go_meet;exact ⟨by rw [I.out],rfl⟩
   ·by_cases h3:tk=(c:Int)
    ·have h5:(tk==(c:Int))=true:=by rw [beq_iff_eq];exact h3
     by_cases h4:s=[]
     ·have I:Hid (bad=true):=by (show _=_);rw [B.out];exact EJ (.inr (.inr (.inl ⟨h3,h4⟩)))
      have h6:((s.length:Int)==0)=true:=by rw [h4];rfl
      clear h3 h4
      go_wp2_with fail
      go_meet;exact ⟨by rw [I.out],rfl⟩
     ·have I:Hid (bad=decide (0<nk)):=by
       (show _=_)
       rw [B.out,decide_eq_decide];constructor
       ·rintro (h | h | h | h)
        ·exact absurd h h1
        ·exact absurd h h2
        ·exact absurd h.2 h4
        ·omega
       ·intro h;exact .inr (.inr (.inr (by omega)))
      have h6:((s.length:Int)==0)=false:=by
       rw [ET];intro h;exact h4 (EX (by omega))
      clear h3 h4
      go_wp2_with fail
      go_meet;refine ⟨?_,rfl⟩;rw [I.out]
      all_goals (first | rfl | (congr 1;done) | (congr 1;rw [decide_eq_decide];omega))
    ·have h5:(tk==(c:Int))=false:=by rw [ET];exact h3
     have I:Hid (bad=decide (0<nk)):=by
      (show _=_)
      rw [B.out,decide_eq_decide];constructor
      ·rintro (h | h | h | h)
       ·exact absurd h h1
       ·exact absurd h h2
       ·exact absurd h.1 h3
       ·omega
      ·intro h;exact .inr (.inr (.inr (by omega)))
     clear h3
     go_wp2_with fail
     go_meet;refine ⟨?_,rfl⟩;rw [I.out]
     all_goals (first | rfl | (congr 1;done) | (congr 1;rw [decide_eq_decide];omega))
 case rest=>
  obtain ⟨rfl,rfl⟩:=hcut
  cases bad with
  | true=>
   have HF:Hid (R=false):=by
    (show _=_)
    have:=zaa B.out.symm;rw [d4.out] at this;rw [a0.out];unfold cutB;rw [if_pos this]
   go_wp2_with fail
   go_ret;exact ⟨ze HF.out.symm,Q.out⟩
  | false=>
   have e0:=of_decide_eq_false B.out.symm
   have HF:Hid (R=(incB m.n (-1) s && (!(s.any fun n=>decide (n∈(m.tasks.getD tk.toNat ([],[])).2)) && ((AE m ch tk.toNat).all (fun n=>decide (n∈s)) && wallB m ch tk.toNat s)))):=by
    (show _=_)
    have:=e0;rw [d4.out] at this;rw [a0.out];unfold cutB;rw [if_neg this]
   obtain ⟨t,ht⟩:∃t:Nat,tk=t:=⟨tk.toNat,by omega⟩;subst ht;rw [Fy] at HF;have e7:t<m.tasks.length:=by omega
   have E:=zh e7;have k1:(t:Int)<(m.tasks.length:Int):=by omega
   have k0:(0:Int)<=(t:Int):=by omega
   clear e0 B a0;have j6:=G.out.dim.n1;have i7:=G.out.dim.layer;have i9:IntKind.i64.wrap (m.w*m.h)=m.w*m.h:=by rw [Fb];omega
   have j0:IntKind.i64.wrap (m.w*m.h*m.l)=m.w*m.h*m.l:=by rw [Fb];omega
   have a1:Hid ((incB m.n (-1) s && !(s.any fun n=>decide (n∈(m.tasks.getD t ([],[])).2)))=true↔∀i,i<s.length->Ca m.n (m.tasks.getD t ([],[])).2 s i):=side_iff;obtain ⟨bt,offt,sn,u1,u2,rfl,-,-,-,b0,-,b8⟩:=AJ g9.out E.out;have i6:=(HL.out.tl _ (EH E.out)).2;have d5:Hid ((m.tasks.getD t ([],[])).2=(m.tasks[t]'E.out).2):=by (show _=_);rw [EF,EE E.out];rfl
   obtain ⟨tg,e5⟩:=zad ((m.tasks[t]'E.out).2);rw [<-e5] at b8 i6 d5;rw [d5.out] at a1 HF;have g8:=zh (b8.below Q.out);obtain ⟨Atg,ctg,rfl,-,-⟩:=b8;have rtg:=zb.rule (Q.out.cell b0);clear e5 b0
   go_wp2_with fail
   go_loopw [5,45] (fun lv i wr=>∃k:Nat,k<=s.length/\i=.int .i64 k/\lv=.int .i64 (((-1:Int) :: s).getD k 0)/\Hid (∀j,j<k->Ca m.n tg s j)/\w1=wr) (fun _ i _=>s.length - (intOf i).toNat)
   case atStart=>exact ⟨0,EU _,rfl,rfl,fun j hj=>by omega,rfl⟩
   case round=>
    obtain ⟨k,hk,rfl,rfl,a4,rfl⟩:=hrel;by_cases a3:k<s.length
    ·have i8:(k:Int)<(s.length:Int):=by omega
     have kk0:(0:Int)<=(k:Int):=by omega
     obtain ⟨bs,offs,rfl,-,b6⟩:=zy g7.out a3 a3;have b7:s.getD k 0=s[k]:=zgd a3
     have a6:=step_last a4.out;have c0:((-1:Int) :: s).getD (k+1) 0=s.getD k 0:=List.getD_cons_succ ..;obtain ⟨x,f0⟩:=zad (s[k]);rw [<-f0] at b6 b7;rw [b7] at a6 c0;obtain ⟨y,f1⟩:=zad (((-1:Int) :: s).getD k 0);rw [<-f1] at a6⊢;have g5:=zh c0;have rx:=zb.rule (Q.out.cell b6)
     obtain ⟨ob,c4⟩:∃ob:Bool,ob=true↔Ca m.n tg s k:=by
      by_cases h:Ca m.n tg s k
      ·exact ⟨true,by simp [h]⟩
      ·exact ⟨false,by simp [h]⟩
     have b4:Hid (ob=true↔y<x/\x<m.n/\x∉tg):=c4.trans a6;have a7:=zh c4;clear b6 b7 f0 c4 a6 c0 f1;go_upto_region 7 with fail;go_cut [78] (fun v wx=>v=.bool (!ob)/\w1=wx)
     case first=>
      by_cases h1:x<=y
      ·have I:Hid (ob=false):=by (show _=_);rw [<-Bool.not_eq_true,b4.out];omega
       go_wp2_with fail
       go_meet;exact ⟨by rw [I.out];rfl,rfl⟩
      ·by_cases h2:m.w*m.h*m.l<=x
       ·have I:Hid (ob=false):=by (show _=_);rw [<-Bool.not_eq_true,b4.out];unfold MZ.n;omega
        go_wp2_with fail
        go_meet;exact ⟨by rw [I.out];rfl,rfl⟩
       ·have I:Hid (ob=!decide (x∈tg)):=by
         (show _=_)
         rw [Bool.eq_iff_iff,b4.out,Bool.not_eq_true',Fd];exact ⟨fun h=>h.2.2,fun h=>⟨by omega,by unfold MZ.n;omega,h⟩⟩
        go_wp2_with fail
        refine (zB x w1 g8.out (by omega)).mono ?_;rintro e w9 ⟨rfl,rfl⟩
        go_wp2_with fail
        go_meet;exact ⟨by rw [I.out];simp,rfl⟩
     case rest=>
      obtain ⟨rfl,rfl⟩:=hcut
      cases ob with
      | false=>
       have T:Hid (R=false):=by
        (show _=_)
        have h:¬ ∀i,i<s.length->Ca m.n tg s i:=fun h=>absurd (a7.out.2 (h k a3)) (by simp)
        rw [HF.out,<-Bool.and_assoc,Bool.eq_false_iff.2 (fun h2=>h (a1.out.1 h2)),Bool.false_and]
       go_wp2_with fail
       go_ret;exact ⟨ze T.out.symm,Q.out⟩
      | true=>
       have e4:Hid (∀j,j<k+1->Ca m.n tg s j):=fun j hj=>by
        rcases Fc j k with h | h
        ·exact a4.out j h
        ·obtain rfl:j=k:=by omega
         exact a7.out.1 rfl
       go_wp2_with fail
       go_roundw
       case rel=>exact ⟨k+1,by omega,by go_num,by rw [g5.out],e4,trivial⟩
       case measure=>simp [intOf];omega
    ·obtain rfl:k=s.length:=by omega
     have V:Hid (R=((AE m ch t).all (fun n=>decide (n∈s)) && wallB m ch t s)):=by
      (show _=_)
      rw [HF.out,<-Bool.and_assoc,a1.out.2 a4.out,Bool.true_and]
     clear a4 HF a1;have g3:=zh (headP_le HL.out (ch:=ch) E.out);generalize ((-1:Int) :: s).getD s.length 0=lst;go_upto_region 12 with fail;have a2:=zk.new w1 #[.func (.func 115) #[] #[.pointer (some ⟨gm+1,0,none⟩)]] 62 (g:=w1.heap.size) rfl;have o:zb w1 (w1.alloc (.cells #[.func (.func 115) #[] #[.pointer (some ⟨gm+1,0,none⟩)]] 62)):=(zb.refl w1).alloc _;generalize w1.alloc _=w5 at a2 o⊢;obtain ⟨go,d8⟩:∃g,g=w1.heap.size:=⟨_,rfl⟩;rw [<-d8] at a2⊢;clear d8;have g0:=zb.rule (a2.cell (k:=0) rfl);have J:Hid (zb w w5):=Q.out.trans o;have r0:=fun W h=>r0 W (o.trans h)
     have r1:=fun W h=>r1 W (o.trans h)
     have r2:=fun W h=>r2 W (o.trans h)
     have r3:=fun W h=>r3 W (o.trans h)
     have r4:=fun W h=>r4 W (o.trans h)
     have r5:=fun W h=>r5 W (o.trans h)
     have r6:=fun W h=>r6 W (o.trans h)
     have r7:=fun W h=>r7 W (o.trans h)
     have r8:=fun W h=>r8 W (o.trans h)
     have p0:=fun W h=>p0 W (o.trans h)
     have p1:=fun W h=>p1 W (o.trans h)
     have z:zb w5 w5:=zb.refl w5;have e6:t<m.free.length:=by rw [G.out.fl];exact E.out
     have f8:Hid (CutV w5 ok okp gm (gm+1) go m _ _ _ _ _ ch (c:Int) t _ s):=⟨H.out.more J.out,r0 _ z,r1 _ z,r2 _ z,r3 _ z,r4 _ z,r5 _ z,r6 _ z,r7 _ z,r8 _ z,p0 _ z,p1 _ z,U.out.below J.out,g0 _ z⟩;have g6:=zh p1
     have f9:Hid (∀W,zb w5 W->Calls Tryz.prog 116 #[.agg #[.int .i64 m.w,.int .i64 m.h,.int .i64 m.l,.slice Af m.free.length cf,.slice Au m.up.length cu,.slice (some ⟨bt,offt,none⟩) m.tasks.length ct,.slice Ac ch.length cc,.slice Ap PL cp,.int .i64 (c:Nat)],.int .i64 (t:Nat)] W fun e w'=>∃A c',e=.returned (.slice A (AE m ch t).length c')/\zb W w'/\zj w' (fun _=>True) (.slice A (AE m ch t).length c') (AE m ch t)):=fun W hW=>by
      refine (phead_calls (c:Int) t W (H.out.more (J.out.trans hW)) HL.out HC.out HI.out E.out).mono ?_;rintro e w' ⟨v',rfl,h7,hv⟩;obtain ⟨A,c',rfl,-,-⟩:=id hv;exact ⟨A,c',rfl,h7,hv⟩
     obtain ⟨b1,L⟩:=zad ((AE m ch t).all fun n=>decide (n∈s))
     have f7:Hid (∀(W:World) (v9:Value),zb w5 W->zj W (fun _=>True) v9 (AE m ch t)->Calls Tryz.prog 54 #[v9,.func (.func 115) #[] #[.pointer (some ⟨gm+1,0,none⟩)]] W fun e w'=>e=.returned (.bool (!b1))/\zb W w'):=fun W v9 hW hv=>by
      have h:=Ce 115 #[.pointer (some ⟨gm+1,0,none⟩)] (fun x=>!decide (x∈s)) W hv g3.out (Ar Tryz.func115 rfl rfl) (fun x _ w9 h9=>by
       refine (cut1_calls x w9 (g6.out w9 (hW.trans h9)) (U.out.below (J.out.trans (hW.trans h9))) a5).mono ?_;rintro e w' ⟨rfl,rfl⟩;exact ⟨rfl,zb.refl _⟩)
      rw [<-List.not_all_eq_any_not,<-L] at h;exact h
     have c9:Hid (∀W,zb w5 W->Calls Tryz.prog 54 #[.slice As s.length cs,.func (.func 117) #[] #[.pointer (some ⟨gm,0,none⟩),.pointer (some ⟨gm+1,0,none⟩),.pointer (some ⟨go,0,none⟩)]] W fun e w'=>e=.returned (.bool (!wallB m ch t s))/\zb W w'):=fun W hW=>by
      have h:=Ce 117 #[.pointer (some ⟨gm,0,none⟩),.pointer (some ⟨gm+1,0,none⟩),.pointer (some ⟨go,0,none⟩)] (fun n=>(AR m n).any fun k=>(zi m t k && !decide (k∈ch)) && !decide (k∈s)) W (U.out.below (J.out.trans hW)) a5 (Ar Tryz.func117 rfl rfl) (fun x _ w9 h9=>cut2_calls x w9 (f8.out.more (hW.trans h9)) G.out HL.out (by omega) e6 a5);rw [wall_any,Bool.not_not];exact h
     rw [<-L] at V;obtain ⟨b2,M⟩:=zad (wallB m ch t s);rw [<-M] at c9 V;clear L M o a2;have j5:∀(fn:Fn) (first cap:Array Value) (w:World),(Instr.makeFunc fn first cap).run Tryz.prog w=.ok (.func fn first cap) w:=fun _ _ _ _=>rfl
     refine EW (S:=(fun W=>zb w5 W)) Ag (z.drew) fun zH=>?_;have i2:zb w5 w5.drew:=zH;clear i2;generalize w5.drew=wd at zH⊢;refine zf 0 zH ?_;refine zf 1 zH ?_;simp only [za,ED];refine zf 2 zH ?_;refine zf 4 zH ?_;simp only [za,ED];refine zE 3 fun K hK=>?_;go_simp;go_at_call 116;refine (f9.out _ zH).mono ?_;rintro e w6 ⟨A6,c6,rfl,h8,d9⟩;have g4:=zh d9;clear d9;go_simp;refine zae hK (zH.trans h8) fun zH=>?_;clear hK K;try simp only [za,ED]
     refine zE 5 fun K hK=>?_;go_simp;go_at_call 54;refine (f7.out _ _ zH g4.out).mono ?_;rintro e w7 ⟨rfl,i0⟩;go_simp;refine zae hK (zH.trans i0) fun zH=>?_;clear hK K;try simp only [za,ED]
     refine Fk (by kernel_rfl) ?_ _
     cases b1 with
     | false=>
      have T:Hid (R=false):=by (show _=_);rw [V.out];rfl
      go_wp2_with fail
      go_ret;exact ⟨ze T.out.symm,J.out.trans zH⟩
     | true=>
      have T:Hid (R=b2):=by (show _=_);rw [V.out];rfl
      have e9:zb w5 w7:=zH
      go_wp2_with fail
      refine (c9.out _ e9).mono ?_;rintro e w8 ⟨rfl,i1⟩
      go_wp2_with fail
      go_ret;exact ⟨ze T.out.symm,(J.out.trans e9).trans i1⟩
theorem pholds_calls {m:MZ} (hl:Lens m) (hc:AO m=0):∀(N:Nat) (ok okp:Nat->Prop) (f u ts vc vp vpr:Value) (ch:List Int) (p:PT) (w:World),PSt w ok m f u ts vc vp ch->zx m ch->Dz w okp vpr p->p.size<=N->p.Lens->
  Calls Tryz.prog 67 #[Ey m f u ts vc vp (zR m ch),vpr] w fun e w'=>e=.returned (.bool (Bl m p ch))/\zb w w'
 | 0,ok,okp,f,u,ts,vc,vp,vpr,ch,.node t s ks,w,_,_,_,hN,_=>by unfold PT.size at hN;omega
 | N+1,ok,okp,f,u,ts,vc,vp,vpr,ch,.node tk s ks,w,h,hi,hp,hN,f8=>by
  have IH:=zh (pholds_calls hl hc N);have H:=zh h;have HL:=zh hl;have HC:=zh hc;have HI:=zh hi;have HP:=zh hp;have j4:=zh (AG hc hi);have M:Hid (∀W,zb w W->Calls Tryz.prog 90 #[Ey m f u ts vc vp (zR m ch)] W fun e w'=>e=.returned (.bool (decide ((m.tasks.length:Int)<=(zR m ch:Int))))/\zb W w'):=fun W hW=>Ed _ W (h.more hW)
  unfold PT.Lens at f8;obtain ⟨i4,j8,f7⟩:=f8;have O:Hid (∀W,zb w W->Calls Tryz.prog 91 #[Ey m f u ts vc vp (zR m ch),vpr] W fun e w'=>e=.returned (.bool (cutB m ch tk s ks.length))/\zb W w'):=fun W hW=>pcut_calls W (h.more hW) hl hc hi (hp.ext hW) i4
  have a9:Hid (∀n,zx m (ch++[n])->∀W,zb w W->Calls Tryz.prog 93 #[Ey m f u ts vc vp (zR m ch),.int .i64 n] W fun e w'=>∃vc' vp',e=.returned (Ey m f u ts vc' vp' (zR m (ch++[n])))/\zb W w'/\PSt w' (fun b=>ok b\/W.heap.size<=b) m f u ts vc' vp' (ch++[n])):=fun n hn W hW=>En _ n W (h.more hW) hl hc hn (AG hc hi).2.2.1
  have e0:Hid (∀W,zb w W->Calls Tryz.prog 92 #[.agg #[.int .i64 m.w,.int .i64 m.h,.int .i64 m.l,f,u,ts],vc] W fun e w'=>∃v',e=.returned v'/\Mk W w' v' (zO m ch)):=fun W hW=>DB W ((h.more hW).maze) hl ((h.more hW).chs) (by have:=(AG hc hi).2.2.1;omega)
  unfold Ey at M O a9;obtain ⟨Af,cf,Au,cu,At,ct,Ac,cc,Ap,cp,rfl,rfl,rfl,rfl,rfl,-,-⟩:=h.parts;obtain ⟨R,hR⟩:=zad (Bl m (.node tk s ks) ch);rw [<-hR];have c6:=zh hR;have g7:=zh (lensL_mem f7);have h4:Hid (∀k∈ks,k.size<=PT.sizeL ks):=size_mem;unfold PT.size at hN
  cases hp with
  | mk hs hk he=>
   rename_i vs vk cs
   obtain ⟨As,cs',rfl,-,-⟩:=hs;obtain ⟨Ak,ck,rfl,j6,f9⟩:=hk;have g8:=zh f9;have g5:=zh he;clear h hl hc hi hR f7 f9 he;obtain ⟨c,c9⟩:=zad (zR m ch);have b9:=zh c9;rw [<-c9] at M O a9⊢;obtain ⟨PL,b4⟩:=zad ((zq m ch).length);rw [<-b4] at M O a9⊢;clear c9 b4 H;unfold Ey
   go_enter Tryz.func67,Tryz.ntmps67
   go_upto_region 1 with fail;obtain ⟨c8,r0,r1,r2,r3,r4,r5,r6,r7,r8⟩:=box9 w (.int .i64 m.w) (.int .i64 m.h) (.int .i64 m.l) (.slice Af m.free.length cf) (.slice Au m.up.length cu) (.slice At m.tasks.length ct) (.slice Ac ch.length cc) (.slice Ap PL cp) (.int .i64 c);have d6:(w.alloc (.cells #[.int .i64 m.w,.int .i64 m.h,.int .i64 m.l,.slice Af m.free.length cf,.slice Au m.up.length cu,.slice At m.tasks.length ct,.slice Ac ch.length cc,.slice Ap PL cp,.int .i64 c] 103)).heap.size=w.heap.size+1:=by simp
   generalize w.alloc _=w0 at c8 r0 r1 r2 r3 r4 r5 r6 r7 r8 d6⊢;obtain ⟨b1,p0,p1,p2⟩:=box3 w0 (.int .i64 tk) (.slice As s.length cs') (.slice Ak ks.length ck);generalize w0.alloc _=w1 at b1 p0 p1 p2⊢;rw [d6] at p0 p1 p2;obtain ⟨gm,f5⟩:=zad w.heap.size;rw [<-f5] at r0 r1 r2 r3 r4 r5 r6 r7 r8 p0 p1 p2⊢;have B:=zh b1;have o:=zh (c8.trans b1);have r0:=fun W h=>r0 W (B.out.trans h)
   have r1:=fun W h=>r1 W (B.out.trans h)
   have r2:=fun W h=>r2 W (B.out.trans h)
   have r3:=fun W h=>r3 W (B.out.trans h)
   have r4:=fun W h=>r4 W (B.out.trans h)
   have r5:=fun W h=>r5 W (B.out.trans h)
   have r6:=fun W h=>r6 W (B.out.trans h)
   have r7:=fun W h=>r7 W (B.out.trans h)
   have r8:=fun W h=>r8 W (B.out.trans h)
   clear f5 c8 b1 d6;have J:zb w1 w1:=zb.refl w1
   go_wp2_with fail
   refine (M.out w1 o.out).mono ?_;rintro e w2 ⟨rfl,f1⟩;clear J;have J:zb w1 w2:=f1;clear f1 M;by_cases D:m.tasks.length<=c
   ·have hd:decide ((m.tasks.length:Int)<=(c:Int))=true:=EJ (by omega);have HF:Hid (R=false):=by (show _=_);rw [c6.out];exact holdsT_done (by rw [<-b9.out];exact D)
    rw [hd];clear D hd
    go_wp2_with fail
    go_ret;exact ⟨ze HF.out.symm,o.out.trans J⟩
   ·have hd:decide ((m.tasks.length:Int)<=(c:Int))=false:=EK (by omega)
    have G:Hid (R=if tk≠(c:Int)\/s≠[] then cutB m ch tk s ks.length else Bk m ks ch (zO m ch)):=by
     (show _=_)
     rw [c6.out,holdsT_node (by rw [<-b9.out];exact D),b9.out]
    rw [hd];clear D hd c6;go_upto_region 3 with fail;obtain ⟨bq,f4⟩:∃bq:Bool,bq=decide (tk≠(c:Int)\/s≠[]):=⟨_,rfl⟩;have z:=zh f4;clear f4;go_cut [20] (fun v wx=>v=.bool bq/\w2=wx)
    case first=>
     by_cases I:tk=(c:Int)
     ·have hd:(tk != (c:Int))=false:=by rw [I];simp
      have b7:Hid (bq=decide (0<s.length)):=by
       (show _=_)
       rw [z.out,decide_eq_decide];constructor
       ·rintro (h | h)
        ·exact absurd I h
        ·exact List.length_pos_iff.2 h
       ·intro h;exact .inr (List.length_pos_iff.1 h)
      clear I
      go_wp2_with fail
      go_meet;refine ⟨?_,rfl⟩;rw [b7.out]
      all_goals (first | rfl | (congr 1;done) | (congr 1;rw [decide_eq_decide];omega))
     ·have hd:(tk != (c:Int))=true:=by rw [bne_iff_ne];exact I
      have b7:Hid (bq=true):=by (show _=_);rw [z.out];exact EJ (.inl I)
      clear I
      go_wp2_with fail
      go_meet;exact ⟨by rw [b7.out],rfl⟩
    case rest=>
     obtain ⟨rfl,rfl⟩:=hcut
     cases bq with
     | true=>
      have HF:Hid (R=cutB m ch tk s ks.length):=by (show _=_);rw [G.out,if_pos (zaa z.out.symm)]
      clear z G
      go_wp2_with fail
      refine (O.out w2 (o.out.trans J)).mono ?_;rintro e w4 ⟨rfl,h6⟩
      go_wp2_with fail
      go_ret;exact ⟨ze HF.out.symm,(o.out.trans J).trans h6⟩
     | false=>
      have HF:Hid (R=Bk m ks ch (zO m ch)):=by (show _=_);rw [G.out,if_neg (of_decide_eq_false z.out.symm)]
      clear z G O
      go_wp2_with fail
      refine (e0.out w2 (o.out.trans J)).mono ?_;rintro e w4 ⟨vl,rfl,c7⟩;have e3:=zh c7.ints;have d7:zb w1 w4:=J.trans c7.ext;have b8:Hid (zO m ch=cand m ch):=by (show _=_);unfold zO;rw [if_pos (okC_of HC.out HI.out)]
      have e4:Hid (∀n∈zO m ch,zx m (ch++[n])):=fun n hn=>by
       rw [b8.out] at hn;exact .snoc HI.out hn
      have h8:(zO m ch).length<=400000000000:=by rw [b8.out];exact CT HL.out ch
      obtain ⟨L,hL⟩:=zad (zO m ch);rw [<-hL] at e3 HF e4 h8;obtain ⟨AL,cL,rfl,-,g0⟩:=e3.out;have g9:=zh g0;have e8:=zh d7;clear c7 J hL g0 b8 e0;by_cases V:L.length=ks.length
      ·have hd:((L.length:Int) != (ks.length:Int))=false:=by rw [V];simp
       have e5:=zh V;clear V;have e9:=zh (zb.refl w4)
       go_wp2_with fail
       clear d7;go_loopw [37] (fun i wr=>∃j:Nat,j<=L.length/\i=.int .i64 j/\Hid (R=Bk m (ks.drop j) ch (L.drop j))/\Hid (zb w4 wr)) (fun i _=>L.length - (intOf i).toNat)
       case atStart=>exact ⟨0,EU _,rfl,HF.out,e9.out⟩
       case round=>
        obtain ⟨j,hj,rfl,hr,hE⟩:=hrel;obtain ⟨wj,rfl⟩:∃wj:World,wj=wr:=⟨_,rfl⟩;have J:zb w1 wj:=e8.out.trans hE.out;by_cases U:j<L.length
        ·have j1:(j:Int)<(L.length:Int):=by omega
         have kk0:(0:Int)<=(j:Int):=by omega
         have E:j<ks.length:=by rw [<-e5.out];exact U
         have i3:(j:Int)<(ks.length:Int):=by omega
         obtain ⟨bl,offl,rfl,-,b6⟩:=zy g9.out U U;have i2:wj.cell? ⟨bl,offl+j,none⟩=some (.int .i64 L[j]):=hE.out.cell b6;have c4:Hid (zx m (ch++[L[j]])):=e4.out _ (EH U);have Q:=zh (holdsL_drop (m:=m) (ch:=ch) E U);obtain ⟨b,off,rfl,h0,h1,h2⟩:=kidsAt g8.out E;have q0:=zb.rule (o.out.cell h0);have q1:=zb.rule (o.out.cell h1);have q2:=zb.rule (o.out.cell h2);have e7:=zh (g5.out j E);have c5:Hid ((ks[j]).Lens/\(ks[j]).size<=N):=⟨g7.out _ (EH E),by have:=h4.out _ (EH E);omega⟩;obtain ⟨n,hn⟩:=zad (L[j]);obtain ⟨kd,f6⟩:=zad (ks[j]);rw [<-hn] at i2 c4 Q;rw [<-f6] at Q e7 c5;obtain ⟨hb,d4⟩:=zad (Bl m kd (ch++[n]));rw [<-d4] at Q
         have e6:Hid (∀W,zb w1 W->Calls Tryz.prog 93 #[.agg #[.int .i64 m.w,.int .i64 m.h,.int .i64 m.l,.slice Af m.free.length cf,.slice Au m.up.length cu,.slice At m.tasks.length ct,.slice Ac ch.length cc,.slice Ap PL cp,.int .i64 c],.int .i64 n] W fun e w'=>∃a0 a1 a2 a3 a4 a5 a6 a7 a8,e=.returned (.agg #[a0,a1,a2,a3,a4,a5,a6,a7,a8])/\zb W w'/\∀W',zb w' W'->Calls Tryz.prog 67 #[.agg #[a0,a1,a2,a3,a4,a5,a6,a7,a8],.agg #[cs.getD (j*3) undef,cs.getD (j*3+1) undef,cs.getD (j*3+2) undef]] W' fun e w'=>e=.returned (.bool hb)/\zb W' w'):=fun W hW=>by
          refine (a9.out n c4.out W (o.out.trans hW)).mono ?_;rintro e w' ⟨vc',vp',rfl,f0,hS⟩;refine ⟨_,_,_,_,_,_,_,_,_,rfl,f0,fun W' hW'=>?_⟩;rw [d4];exact IH.out _ _ _ _ _ _ _ _ _ _ W' (hS.more hW') c4.out (e7.out.ext (o.out.trans (hW.trans (f0.trans hW')))) c5.out.2 c5.out.1
         have g4:=zh hE.out;have i7:zb w1 wj:=J;clear b6 h0 h1 h2 hn f6 d4 J;go_upto_region 11 with fail;go_cut [51] (fun v wx=>v=.bool (!hb)/\zb wj wx)
         case first=>
          refine EW (S:=(fun W=>zb w1 W)) Ag (i7.drew) fun zH=>?_;have h7:zb w1 wj.drew:=zH;have f2:zb wj wj.drew:=(zb.refl wj).drew;generalize wj.drew=wd at zH h7 f2⊢;refine zf 0 zH ?_;refine zf 1 zH ?_;simp only [za,ED];refine zf 3 zH ?_;refine zf 4 zH ?_;simp only [za,ED];refine zf 5 zH ?_;refine zf 6 zH ?_;simp only [za,ED];refine zf 7 zH ?_;simp only [za,ED];refine zE 2 fun K hK=>?_;go_simp;go_at_call 93;refine (e6.out _ zH).mono ?_;rintro e w9 ⟨a0,a1,a2,a3,a4,a5,a6,a7,a8,rfl,b0,HK⟩;have g6:=zh HK;clear HK;go_simp;refine zae hK (zH.trans b0) fun zH=>?_;clear hK K;try simp only [za,ED]
          refine zE 8 fun K hK=>?_;go_simp;go_at_call 67;refine (g6.out _ (zb.refl _)).mono ?_;rintro e w10 ⟨rfl,b3⟩;go_simp;refine zae hK (zH.trans b3) fun zH=>?_;clear hK K;try simp only [za,ED]
          refine zf 9 zH ?_;simp only [za,ED];refine Fk (by kernel_rfl) ?_ _;go_wp2;go_meet;exact ⟨by first | rfl | simp,(f2.trans b0).trans b3⟩
         case rest=>
          obtain ⟨rfl,b0⟩:=hcut;have g3:zb w4 wc:=g4.out.trans b0
          cases hb with
          | false=>
           have T:Hid (R=false):=by (show _=_);rw [hr.out,Q.out,Bool.false_and]
           go_wp2_with fail
           go_ret;exact ⟨ze T.out.symm,o.out.trans (e8.out.trans g3)⟩
          | true=>
           have i6:Hid (R=Bk m (ks.drop (j+1)) ch (L.drop (j+1))):=by (show _=_);rw [hr.out,Q.out,Bool.true_and]
           go_wp2_with fail
           go_roundw
           case rel=>exact ⟨j+1,by omega,by go_num,i6,g3⟩
           case measure=>simp [intOf];omega
        ·obtain rfl:j=L.length:=by omega
         have T:Hid (R=true):=by
          (show _=_)
          rw [hr.out,FJ,e5.out,FJ];unfold Bk;rfl
         go_wp2_with fail
         go_ret;exact ⟨ze T.out.symm,o.out.trans J⟩
      ·have hd:((L.length:Int) != (ks.length:Int))=true:=by rw [bne_iff_ne];omega
       have T:Hid (R=false):=by (show _=_);rw [HF.out];exact holdsL_len (fun h=>V h.symm)
       clear V
       go_wp2_with fail
       go_ret;exact ⟨ze T.out.symm,o.out.trans d7⟩
end
section
open Go.RowKit
def GivesZ {α:Type} (n:Nat) (P:Program) (g:Nat) (lb:Array Value) (encs:α->Array Value) (G:Nat->α->World->Prop) (N:Nat) (Z:Nat->Prop) (w:World):Prop:=
 ∀(l:Nat) (J:Nat->World->Prop) (Jx:World->Prop) (W:World),zb w W->w.heap.size<=l->l<W.heap.size->(∀k A B,J k A->Below W.heap.size A B->J k B)->(∀A B,Jx A->Below W.heap.size A B->Jx B)->
  (∀k x W1,k<N->J k W1->G k x W1->YieldAt Fence.wide (n - 1) P l (encs x) W1 fun e W'=>(e=.returned (.bool true)/\J (k+1) W'/\zp (fun b=>b=l\/Z b) W1 W')\/(e=.returned (.bool false)/\Jx W'/\∀b,W.heap.size<=b->b<W1.heap.size->W'.heap[b]?=W1.heap[b]?))->
  J 0 W->
  CallsIn Fence.wide n P g (#[.func (.yield l) #[] #[]]++lb) W fun e W'=>(∃v,e=.returned v)/\(J N W'\/Jx W')
def postZ (B k:Nat) (I:Nat->World->Prop) (Ix:Code->World->Prop) (Z:Nat->Prop) (W:World):Exit->Act->World->Prop
 | .normal,_,W'=>zp Z W W'/\I (k+1) W'
 | .ret,_,W'=>(∀b,B<=b->b<W.heap.size->W'.heap[b]?=W.heap[b]?)/\Ix .ret W'
 | .exit id,_,W'=>(∀b,B<=b->b<W.heap.size->W'.heap[b]?=W.heap[b]?)/\Ix (.exit id) W'
 | .goto t,_,W'=>(∀b,B<=b->b<W.heap.size->W'.heap[b]?=W.heap[b]?)/\Ix (.goto t) W'
 | .panic _,_,_=>False
 | .outgrown,_,_=>False
theorem wpIn_loopZ {P:Program} {n:Nat} {α:Type} {g:Operand} {ps:Array Tmp} {assign body:Code} {Q:Exit->Act->World->Prop} {a:Act} {w:World}
  {gf:Nat} {lb:Array Value} (hg:a.eval g=.func (.func gf) #[] lb) (eg:∀args w,(callFunc gf args).run P w=.ok (.enter gf args) w)
  {encs:α->Array Value} {G:Nat->α->World->Prop} {N:Nat} {w0:World} {Z:Nat->Prop} (hZ:∀b,Z b->b<w.heap.size) (b8:GivesZ (n - 1) P gf lb encs G N Z w0) (b5:zb w0 w) (c8:∀x,(encs x).size=ps.size)
  (I:Nat->World->Prop) (Ix:Code->World->Prop) (hI:∀k A B,I k A->Below w.heap.size A B->I k B) (hIx:∀c A B,Ix c A->Below w.heap.size A B->Ix c B)
  (Ax:Nat->α->Act->World->Prop) (b9:∀k x a A l,Ax k x a A->w.heap.size<l->l<A.heap.size->(∃r,A.heap[l]?=some (.loop r))->∀o,Ax k x a (A.putObj l o)) (h0:I 0 w)
  (a4:∀(l k:Nat) (x:α) (W:World) (K:Act->World->Prop),k<N->I k W->G k x W->w.heap.size<W.heap.size->(∀a' W',zb W W'->Ax k x a' W'->K a' W')->
   assign.wpIn (Fence.wide.inRound l) (n - 1 - 1) P (Exit.then K (fun _ _ _=>False)) { tmps:=(ps.zip (encs x)).foldl (fun t (p,v)=>t.setIfInBounds p v) a.tmps,defers:=[] } W)
  (b0:∀(l k:Nat) (x:α) (a':Act) (W:World),k<N->I k W->Ax k x a' W->w.heap.size<W.heap.size->(∃r,W.heap[w.heap.size+1]?=some (.loop r))->body.wpIn (Fence.wide.inRound l) (n - 1 - 1) P (postZ w.heap.size k I Ix Z W) a' W)
  (b1:∀(D:Nat) (W:World),w.heap.size<=D->I N W->W.heap[D]?=some (.deferred (some []))->Q .normal { a with defers:={ target:=.collected D,args:=#[] } :: a.defers } W)
  (b3:∀(D:Nat) (c:Code) (W:World),w.heap.size<=D->Ix c W->W.heap[D]?=some (.deferred (some []))->c.wpIn Fence.wide n P Q { a with defers:={ target:=.collected D,args:=#[] } :: a.defers } W):
  (Code.rangeFunc g ps assign body).wpIn Fence.wide n P Q a w:=by
 refine wpIn_rangeFunc ?_;intro fn c6;obtain ⟨rec,E⟩:∃rec:LoopState->Option Code->Loop,rec=fun st pe=>{ state:=st,pending:=pe,fn,tmps:=a.tmps,params:=ps,assign,body,defers:=w.heap.size }:=⟨_,rfl⟩
 obtain ⟨W1,a2⟩:∃W1,(w.alloc (.deferred (some []))).alloc (.loop (rec .ready none))=W1:=⟨_,rfl⟩;have d9:W1.heap.size=w.heap.size+2:=by rw [<-a2];simp
 have c4:W1.heap[w.heap.size+1]?=some (.loop (rec .ready none)):=by
  rw [<-a2];have:=World.alloc_heap_new (w.alloc (.deferred (some []))) (.loop (rec .ready none))
  rwa [World.size_alloc] at this
 have c0:W1.heap[w.heap.size]?=some (.deferred (some [])):=by
  rw [<-a2];exact (EY _ _ _ (by simp)).trans (World.alloc_heap_new w _)
 have b4:zb w W1:=by rw [<-a2];exact ((zb.refl w).alloc _).alloc _
 refine ⟨w.heap.size+1,[{ target:=.collected w.heap.size,args:=#[] }],W1,{ target:=.fn (.func gf) lb,args:=#[.func (.yield (w.heap.size+1)) #[] #[]] },W1,gf,
  #[.func (.yield (w.heap.size+1)) #[] #[]]++lb,W1,?_,?_,fun _ _=>trivial,?_,fun h=>absurd h (by simp [Fence.wide]),?_⟩
 ·rw [<-a2,E];exact run_enterLoop_outer _ _ _ _ _
 ·simp only [resolve,hg];simp [go_sem]
 ·simp [invoke,go_sem,eg]
 ·refine (b8 (w.heap.size+1)
   (fun k W=>I k W/\W.heap[w.heap.size+1]?=some (.loop (rec .ready none))/\W.heap[w.heap.size]?=some (.deferred (some []))/\w.heap.size+1<W.heap.size)
   (fun W=>∃c,Ix c W/\W.heap[w.heap.size+1]?=some (.loop (rec .done (some c)))/\W.heap[w.heap.size]?=some (.deferred (some [])))
   W1 (b5.trans b4) (by have:=b5.size;omega) (by omega) ?_ ?_ ?_ ⟨hI _ _ _ h0 b4,c4,c0,by omega⟩).mono ?_
  ·rintro k A B ⟨h1,h2,h3,h4⟩ O;exact ⟨hI _ _ _ h1 (O.mono (by omega)),(O.block _ (by omega)).trans h2,(O.block _ (by omega)).trans h3,Fh h4 O.size⟩
  ·rintro A B ⟨c,h1,h2,h3⟩ O;exact ⟨c,hIx _ _ _ h1 (O.mono (by omega)),(O.block _ (by omega)).trans h2,(O.block _ (by omega)).trans h3⟩
  ·-- one round
   rintro k x W b7 ⟨hi,hl,hD,M⟩ c7;have hy:=run_yield (P:=P) (args:=encs x) hl (by rw [E];exact c8 x);rw [E] at hy;refine ⟨fn,_,assign,body,hy,roundIn_of_wpIn c6 (a4 _ k x W _ b7 hi c7 (Nat.lt_trans (Nat.lt_succ_self _) M) (fun a' Wa V c5=>?_))⟩;have hl:=(V.block _ M).trans hl;have hD:=(V.block _ (by omega)).trans hD;have hi:=hI _ _ _ hi (V.mono (by omega));have d4:=M;have M:w.heap.size+1<Wa.heap.size:=Fh M V.size;refine ⟨_,run_beginRound hl (by rw [E]),?_⟩;have a1:(Wa.putObj (w.heap.size+1) (.loop { rec .ready none with state:=.busy })).heap[w.heap.size+1]?=some (.loop { rec .ready none with state:=.busy }):=World.putObj_heap_same M;have a6:(Wa.putObj (w.heap.size+1) (.loop { rec .ready none with state:=.busy })).heap[w.heap.size]?=some (.deferred (some [])):=(World.putObj_heap_other (by omega)).trans hD;have T:w.heap.size+1<(Wa.putObj (w.heap.size+1) (.loop { rec .ready none with state:=.busy })).heap.size:=(FE.1 a1).1;have b2:Wa.grownBy (Wa.putObj (w.heap.size+1) (.loop { rec .ready none with state:=.busy })) (some (w.heap.size+1)):=grownBy_putObj' _ _ _;refine wpIn_mono (b0 _ k x a' _ b7 (hI _ _ _ hi (zG _ (by omega) M)) (b9 _ _ _ _ _ c5 (by omega) M ⟨_,hl⟩ _) (Nat.lt_trans (Nat.lt_succ_self _) T) ⟨_,a1⟩) ?_;generalize Wa.putObj (w.heap.size+1) (.loop { rec .ready none with state:=.busy })=W2 at*
   have fin:∀(jump:Option Code) (W3:World),W3.heap[w.heap.size+1]?=some (.loop { rec .ready none with state:=.busy })->
     (Instr.endRound (w.heap.size+1) jump).run P W3=.ok (.bool jump.isNone) (W3.putObj (w.heap.size+1) (.loop (rec (if jump.isNone then .ready else .done) jump))):=fun jump W3 L=>by
    have:=run_endRound (P:=P) jump L;rw [E] at this⊢;exact this
   have keep:∀W3:World,(∀b,w.heap.size<=b->b<W2.heap.size->W3.heap[b]?=W2.heap[b]?)->∀(o:Obj) (b:Nat),W1.heap.size<=b->b<W.heap.size->(W3.putObj (w.heap.size+1) o).heap[b]?=W.heap[b]?:=fun W3 J o b d7 b6=>by
    have h1:b<Wa.heap.size:=Fh b6 V.size;have h2:=b2.size;exact (World.putObj_heap_other (by omega)).trans ((J b (by omega) (by omega)).trans ((b2.block b h1 (fun e=>by injection e;omega)).trans (V.block b b6)))
   rintro e a3 W3 hp
   cases e with
   | normal=>
    obtain ⟨a9,a0⟩:=hp;have L:=(a9.block _ T (fun h=>by have:=hZ _ h;omega)).trans a1;have z:=(FE.1 L).1;have U:=(a9.block _ (by omega) (fun h=>by have:=hZ _ h;omega)).trans a6;refine ⟨_,_,fin none W3 L,.inl ⟨rfl,⟨hI _ _ _ a0 (zG _ (by omega) z),World.putObj_heap_same z,(World.putObj_heap_other (by omega)).trans U,?_⟩,?_⟩⟩
    ·exact (FE.1 (World.putObj_heap_same z)).1
    ·exact (((zp.of_ext (X:=fun b=>b=w.heap.size+1\/Z b) V).grown b2 (fun k e _=>by injection e with e;exact .inl e.symm)).trans a9 (fun k _ h=>.inr h)).grown (grownBy_putObj' _ _ _) (fun k e _=>by injection e with e;exact .inl e.symm)
   | ret=>
    obtain ⟨J,a0⟩:=hp;have L:=(J _ (by omega) T).trans a1;have z:=(FE.1 L).1;have U:=(J _ (EG _) (by omega)).trans a6;exact ⟨_,_,fin (some .ret) W3 L,.inr ⟨rfl,⟨.ret,hIx _ _ _ a0 (zG _ (by omega) z),World.putObj_heap_same z,(World.putObj_heap_other (by omega)).trans U⟩,keep W3 J _⟩⟩
   | exit id=>
    obtain ⟨J,a0⟩:=hp;have L:=(J _ (by omega) T).trans a1;have z:=(FE.1 L).1;have U:=(J _ (EG _) (by omega)).trans a6;exact ⟨_,_,fin (some (.exit id)) W3 L,.inr ⟨rfl,⟨.exit id,hIx _ _ _ a0 (zG _ (by omega) z),World.putObj_heap_same z,(World.putObj_heap_other (by omega)).trans U⟩,keep W3 J _⟩⟩
   | goto t=>
    obtain ⟨J,a0⟩:=hp;have L:=(J _ (by omega) T).trans a1;have z:=(FE.1 L).1;have U:=(J _ (EG _) (by omega)).trans a6;exact ⟨_,_,fin (some (.goto t)) W3 L,.inr ⟨rfl,⟨.goto t,hIx _ _ _ a0 (zG _ (by omega) z),World.putObj_heap_same z,(World.putObj_heap_other (by omega)).trans U⟩,keep W3 J _⟩⟩
   | panic ch=>exact hp.elim
   | outgrown=>exact hp.elim
  ·-- behind the iterator
   rintro e W2 ⟨⟨v,rfl⟩,(⟨hi,hl,hD,M⟩ | ⟨c,hi,hl,hD⟩)⟩
   ·exact ⟨none,_,by have:=run_endLoop (P:=P) hl (by rw [E];simp);rw [E] at this;exact this,b1 _ _ (EG _) (hI _ _ _ hi (zG _ (by omega) M)) ((World.putObj_heap_other (by omega)).trans hD)⟩
   ·have M:=(FE.1 hl).1;exact ⟨some c,_,by have:=run_endLoop (P:=P) hl (by rw [E];simp);rw [E] at this;exact this,b3 _ c _ (EG _) (hIx _ _ _ hi (zG _ (by omega) M)) ((World.putObj_heap_other (by omega)).trans hD)⟩
end
end Go.Proofs.YthbjngbhbbkkgaaGreat
