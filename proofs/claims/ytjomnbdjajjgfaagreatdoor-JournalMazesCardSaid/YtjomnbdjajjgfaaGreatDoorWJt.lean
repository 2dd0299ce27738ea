import Derived.Test.YtjomnbdjajjgfaaGreatDoorWJs
set_option linter.unusedVariables false
set_option linter.unusedSimpArgs false
set_option maxRecDepth 100000
set_option maxHeartbeats 16000000
namespace Go.Proofs.YtjomnbdjajjgfaaGreatDoor
variable {a:Act} {n:Int} {ps:List (List Int)} {ns:List ByteArray} {ch:List Int} {id:List UInt8} {gp gq:Nat} {p:PT} {r:RS} {a0 a1 a2 v vp x y z:Value} {w0 wq wr:World}
section
open Go.RowKit
attribute [local go_sem ↓] Go.wp_at_zero Go.wp_at_succ
section
variable {w w':World} {ok ok':Nat->Prop} {g:Nat} {m:MZ} {s:RS} {f u t vn:Value}
theorem Ew (w:World) (g k:Nat) (v:Value):Ao (fun b=>b≠g) w (w.setCell ⟨g,k,none⟩ v):=fun b o _=>FH w ⟨g,k,none⟩ v b o
theorem QAt.steps (h:QAt w ok g m s f u t vn) (n:Int):QAt (w.setCell ⟨g,8,none⟩ (.int .i64 n)) ok g m ⟨s.ch,s.done,n⟩ f u t vn:=
 ⟨h.blk.set (k:=8) _,h.maze.keep (fun b D o=>Ew w g 8 _ b (fun e=>h.ng (e ▸ D)) o),h.now.keep (fun b D o=>Ew w g 8 _ b (fun e=>h.ng (e ▸ D)) o),h.ng⟩
theorem QAt.doneTo (h:QAt w ok g m s f u t vn) (d:Bool):QAt (w.setCell ⟨g,7,none⟩ (.bool d)) ok g m ⟨s.ch,d,s.steps⟩ f u t vn:=
 ⟨h.blk.set (k:=7) _,h.maze.keep (fun b D o=>Ew w g 7 _ b (fun e=>h.ng (e ▸ D)) o),h.now.keep (fun b D o=>Ew w g 7 _ b (fun e=>h.ng (e ▸ D)) o),h.ng⟩
theorem QAt.nowTo (h:QAt w ok g m s f u t vn) (I:∀b,ok b->ok' b) (E:¬ ok' g) {c:List Int} (G:zg w ok' v c):QAt (w.setCell ⟨g,6,none⟩ v) ok' g m ⟨c,s.done,s.steps⟩ f u t v:=
 ⟨h.blk.set (k:=6) _,(h.maze.weaken I).keep (fun b D o=>Ew w g 6 _ b (fun e=>E (e ▸ D)) o),G.keep (fun b D o=>Ew w g 6 _ b (fun e=>E (e ▸ D)) o),E⟩
theorem chg_setK (w:World) (g k:Nat) (v:Value):zu (fun b=>b=g) w (w.setCell ⟨g,k,none⟩ v):=
 ⟨rfl,rfl,rfl,by simp [World.setCell],fun b _ o=>FH w ⟨g,k,none⟩ v b o⟩
end
def QStepPost (w:World) (ok:Nat->Prop) (g:Nat) (m:MZ) (s:RS) (e:Ending) (w':World):Prop:=
 e=.returned (.tuple #[])/\QR2 w' (fun b=>ok b\/(w.heap.size<=b/\b<w'.heap.size)) g m s/\zu (fun b=>b=g) w w'
def StI (w1 wr:World) (m:MZ) (ch:List Int) (vnx vok:Value) (j:Nat):Prop:=
 za w1 wr/\((vok=.bool true/\∃c,DE m ch=some c/\zg wr (fun b=>w1.heap.size<=b) vnx c)\/(vok=.bool false/\vnx=.slice none 0 0/\DE m ch=backN m ch j))
theorem aft_form {w w':World} {m:MZ} {last:Int} {e:Ending} (h:AftPost w m ch last e w'):
  ∃vnx vok,e=.returned (.tuple #[vnx,vok])/\za w w'/\((vok=.bool true/\∃n,aft m ch last=some n/\zg w' (fun b=>w.heap.size<=b) vnx (ch++[n]))\/(vok=.bool false/\vnx=.slice none 0 0/\aft m ch last=none)):=by
 obtain ⟨o,⟨n,v,h1,h2,h3⟩ | ⟨h1,h2⟩⟩:=h
 ·exact ⟨_,_,h2,o,.inl ⟨rfl,n,h1,h3⟩⟩
 ·exact ⟨_,_,h2,o,.inr ⟨rfl,rfl,h1⟩⟩
theorem StI.next {w1 wk wn:World} {m:MZ} {vnx vok:Value} {j:Nat} (D:za w1 wk) (o:DE m ch=backN m ch (j+1)) (E:za wk wn)
  (h:(vok=.bool true/\∃n,aft m (ch.take j) (ch.getD j 0)=some n/\zg wn (fun b=>wk.heap.size<=b) vnx (ch.take j++[n]))\/(vok=.bool false/\vnx=.slice none 0 0/\aft m (ch.take j) (ch.getD j 0)=none)):StI w1 wn m ch vnx vok j:=by
 refine ⟨D.trans E,?_⟩;unfold backN at o;rcases h with ⟨h1,n,h2,h3⟩ | ⟨h1,h2,h3⟩
 ·rw [h2] at o;exact .inl ⟨h1,_,o,h3.weaken fun b o=>FA D.size o⟩
 ·rw [h3] at o;exact .inr ⟨h1,h2,o⟩
theorem qstep_calls {ok:Nat->Prop} {m:MZ} {s:RS} (w:World) (hq:QR2 w ok gq m s) (g:zZ m) (hl:Lens m) (hc:zw m s.ch) (i6:0<=s.steps) (i7:s.steps<=4000000000000000000):
  Calls Tryz.prog 166 #[.pointer (some ⟨gq,0,none⟩)] w (QStepPost w ok gq m (s.one m)):=by
 have g8:=hc.len300 g;obtain ⟨vfr,vup,vts,vn,hq⟩:=hq;have HQ:=zh hq;have HC:=zh hc;have HL:=zh hl;have HG:=zh g;have f6:w.cell? ⟨gq,8,none⟩=some (.int .i64 s.steps):=hq.blk.cell (k:=8) rfl;have f9:w.frozen? ⟨gq,8,none⟩=false:=hq.blk.frozen 8;obtain ⟨A,c,rfl,h8,-⟩:=hq.now;have g4:za w w:=za.refl w;clear hq hc hl g
 go_enter Tryz.func166,Tryz.ntmps166
 go_upto_region 1 with fail;have E:=HQ.out.steps (s.steps+1);have O:zu (fun b=>b=gq) w (w.setCell ⟨gq,8,none⟩ (.int .i64 (s.steps+1))):=chg_setK w gq 8 _;have V:(w.setCell ⟨gq,8,none⟩ (.int .i64 (s.steps+1))).heap.size=w.heap.size:=by simp [World.setCell]
 generalize g1:w.setCell ⟨gq,8,none⟩ (.int .i64 (s.steps+1))=w1 at E O V⊢;have M:=zh E;have a7:=zh O;have c7:=zh V;have c0:∀W,za w1 W->W.cell? ⟨gq,0,none⟩=some (.int .i64 m.w):=za.rule (E.blk.cell (k:=0) rfl);have c1:∀W,za w1 W->W.cell? ⟨gq,1,none⟩=some (.int .i64 m.h):=za.rule (E.blk.cell (k:=1) rfl);have c2:∀W,za w1 W->W.cell? ⟨gq,2,none⟩=some (.int .i64 m.l):=za.rule (E.blk.cell (k:=2) rfl);have c3:∀W,za w1 W->W.cell? ⟨gq,3,none⟩=some vfr:=za.rule (E.blk.cell (k:=3) rfl);have c4:∀W,za w1 W->W.cell? ⟨gq,4,none⟩=some vup:=za.rule (E.blk.cell (k:=4) rfl);have c5:∀W,za w1 W->W.cell? ⟨gq,5,none⟩=some vts:=za.rule (E.blk.cell (k:=5) rfl);have c6:∀W,za w1 W->W.cell? ⟨gq,6,none⟩=some (.slice A s.ch.length c):=za.rule (E.blk.cell (k:=6) rfl);have i9:za w1 w1:=za.refl w1;clear g1 E O V f6 f9 g4
 go_wp2_with fail
 refine (qafter_calls (-1) w1 ⟨_,_,_,_,M.out⟩ HG.out HL.out M.out.now HC.out).mono ?_;rintro e w2 ⟨d9,hA⟩
 have HI:Hid (∃vnx vok,e=.returned (.tuple #[vnx,vok])/\StI w1 w2 m s.ch vnx vok s.ch.length):=by
  rcases hA with ⟨n,v,h1,rfl,h3⟩ | ⟨h1,rfl⟩
  ·exact ⟨_,_,rfl,d9,.inl ⟨rfl,_,by unfold DE;rw [h1],h3⟩⟩
  ·exact ⟨_,_,rfl,d9,.inr ⟨rfl,rfl,by unfold DE;rw [h1]⟩⟩
 obtain ⟨vnx,vok,rfl,hI⟩:=HI.out;have b7:=zh hI;clear HI hI hA;go_upto_region 2 with fail
 go_wp2_with fail
 go_loopw [2,3,4] (fun vn vo i wr=>∃j:Nat,j<=s.ch.length/\i=.int .i64 ((j:Int) - 1)/\Hid (StI w1 wr m s.ch vn vo j)) (fun _ _ i _=>(intOf i+1).toNat)
 case atStart=>exact ⟨s.ch.length,Fy _,rfl,b7⟩
 clear b7
 case round=>
  obtain ⟨j,hj,rfl,hI⟩:=hrel;obtain ⟨wk,rfl⟩:∃wk:World,wk=wr:=⟨_,rfl⟩;have I:za w1 wk:=hI.out.1;by_cases a3:0<j/\u3=.bool false
  ·obtain ⟨i1,d8⟩:=a3;obtain ⟨k,rfl⟩:∃k,j=k+1:=⟨j - 1,by omega⟩
   have f2:Hid (DE m s.ch=backN m s.ch (k+1)):=by
    rcases hI.out.2 with ⟨h1,_⟩ | ⟨_,_,h3⟩
    ·rw [d8] at h1;cases h1
    ·exact h3
   subst d8;have U:=M.out.now;obtain ⟨A',c',e',g6,hr⟩:=id U;injection e' with e1 e2 e3;subst e1 e3;obtain ⟨b,off,rfl,_,G⟩:=Ai hr (k:=k) (by omega) (by omega)
   have c8:s.ch[k]'(by omega)=s.ch.getD k 0:=by
    rw [Fx,Fw (by omega),zap]
   rw [c8] at G;have f0:=zh (intsTake U (show k<=s.ch.length by omega));obtain ⟨x,hx⟩:=zaI (s.ch.getD k 0);rw [<-hx] at G;have HX:=zh hx;have rx:=za.rule G;have d5:((k+1:Nat):Int) - 1=(k:Int):=by omega
   have g0:(0:Int)<=(k:Int):=by omega
   have i2:(k:Int)<(s.ch.length:Int):=by omega
   have i3:(k:Int)<=(c:Int):=by omega
   have h9:decide ((0:Int)<=(k:Int))=true:=FB g0;clear G hr U c8 hx hI;rw [d5];clear d5
   go_wp2_with fail
   go_region_held3 (fun w'=>za w1 w')
    (first | (exact I.drew) | (exact I.drew.trans b4))
    ((go_at_call 215;refine (qafter_calls x _ ⟨_,_,_,_,M.out.ext I.drew⟩ HG.out HL.out (f0.out.below I.drew) (HC.out.take k)).mono ?_;rintro e wn hA;obtain ⟨vn9,vo9,rfl,b4,b0⟩:=aft_form hA))
   rename_i f1
   rw [HX.out] at b0;have e8:Hid (StI w1 wn m s.ch vn9 vo9 k):=StI.next I.drew f2.out b4 b0;clear b0 b4 hA f1
   go_wp2_with fail
   go_roundw
   case rel=>exact ⟨k,by omega,rfl,e8⟩
   case measure=>first | (simp [intOf];done) | (simp [intOf];omega)
  ·have i0:gq<w.heap.size:=HQ.out.lt;have a4:=HQ.out.ng;have a6:=M.out.ext I;have f4:wk.cell? ⟨gq,6,none⟩=some (.slice A s.ch.length c):=a6.blk.cell (k:=6) rfl;have f7:wk.frozen? ⟨gq,6,none⟩=false:=a6.blk.frozen 6;have g9:w.heap.size<=wk.heap.size:=by have:=I.size;have:=c7.out;omega
   have b8:=zh a6;clear a6
   have Q:Hid ((decide ((0:Int)<=(j:Int) - 1)=false)\/(decide ((0:Int)<=(j:Int) - 1)=true/\u3=.bool true)):=by
    by_cases h0:0<j
    ·refine .inr ⟨FB (by omega),?_⟩;rcases hI.out.2 with ⟨h1,_⟩ | ⟨h1,_⟩
     ·exact h1
     ·exact absurd ⟨h0,h1⟩ a3
    ·exact .inl (FC (by omega))
   obtain ⟨kk,d6⟩:∃kk:Int,kk=(j:Int) - 1:=⟨_,rfl⟩;have b1:Hid (u3=.bool false->j=0):=fun h=>Decidable.byContradiction fun h0=>a3 ⟨by omega,h⟩
   rw [<-d6] at Q⊢;clear a3 d6;rcases hI.out.2 with ⟨h1,cc,h2,h3⟩ | ⟨h1,h2,h3⟩
   ·subst h1;have e5:=zh h3;obtain ⟨A9,c9,e9,h7,-⟩:=id h3;subst e9;have b9:=zh (stepC_some HC.out h2);have a8:Hid (s.one m=⟨cc,zV m cc,s.steps+1⟩):=by show _=_;unfold RS.one;rw [h2]
    clear h2 h3 hI;have i4:=b9.out.1.len300 HG.out;rcases Q.out with hd | ⟨hd,-⟩
    all_goals
     clear Q b1;go_upto_region 7 with fail
     have o:QAt (wk.setCell ⟨gq,6,none⟩ (.slice A9 cc.length c9)) (fun b=>ok b\/(w.heap.size<=b/\b<wk.heap.size)) gq m ⟨cc,s.done,s.steps+1⟩ vfr vup vts (.slice A9 cc.length c9):=by
      refine b8.out.nowTo (fun b h=>.inl h) (fun h=>?_) (e5.out.bound.weaken fun b hb=>.inr ⟨by have:=c7.out;have:=hb.1;omega,hb.2⟩);rcases h with h | h
      ·exact a4 h
      ·omega
     have D:zu (fun b=>b=gq) w (wk.setCell ⟨gq,6,none⟩ (.slice A9 cc.length c9)):=(a7.out.ext_r I).tr (chg_setK _ _ _ _);have d7:(wk.setCell ⟨gq,6,none⟩ (.slice A9 cc.length c9)).heap.size=wk.heap.size:=by simp [World.setCell]
     generalize wk.setCell ⟨gq,6,none⟩ (.slice A9 cc.length c9)=w3 at o D d7⊢;clear c0 c1 c2 c3 c4 c5 c6 f4 f7;have c0:∀W,za w3 W->W.cell? ⟨gq,0,none⟩=some (.int .i64 m.w):=za.rule (o.blk.cell (k:=0) rfl);have c1:∀W,za w3 W->W.cell? ⟨gq,1,none⟩=some (.int .i64 m.h):=za.rule (o.blk.cell (k:=1) rfl);have c2:∀W,za w3 W->W.cell? ⟨gq,2,none⟩=some (.int .i64 m.l):=za.rule (o.blk.cell (k:=2) rfl);have c3:∀W,za w3 W->W.cell? ⟨gq,3,none⟩=some vfr:=za.rule (o.blk.cell (k:=3) rfl);have c4:∀W,za w3 W->W.cell? ⟨gq,4,none⟩=some vup:=za.rule (o.blk.cell (k:=4) rfl);have c5:∀W,za w3 W->W.cell? ⟨gq,5,none⟩=some vts:=za.rule (o.blk.cell (k:=5) rfl);have j1:za w3 w3:=za.refl w3;have a9:=zh o;have b6:=zh D;have i5:w.heap.size<=w3.heap.size:=by omega
     clear o D
     go_wp2_with fail
     refine (CD w3 a9.out.maze HG.out HL.out a9.out.now b9.out.1).mono ?_;rintro e w4 ⟨rfl,b3⟩;have a5:=a9.out.ext b3;have f5:w4.cell? ⟨gq,7,none⟩=some (.bool s.done):=a5.blk.cell (k:=7) rfl;have f8:w4.frozen? ⟨gq,7,none⟩=false:=a5.blk.frozen 7
     have J:Hid (QStepPost w ok gq m (s.one m) (.returned (.tuple #[])) (w4.setCell ⟨gq,7,none⟩ (.bool (zV m cc)))):=by
      have h1:=a5.doneTo (zV m cc);have h2:(w4.setCell ⟨gq,7,none⟩ (.bool (zV m cc))).heap.size=w4.heap.size:=by simp [World.setCell]
      have h3:=b3.size;refine ⟨rfl,?_,(b6.out.ext_r b3).tr (chg_setK _ _ _ _)⟩;rw [a8.out];refine QR2.weaken ⟨_,_,_,_,h1⟩ (fun b hb=>?_) fun h=>?_
      ·rcases hb with hb | hb
       ·exact .inl hb
       ·exact .inr ⟨hb.1,by omega⟩
      ·rcases h with h | h
       ·exact a4 h
       ·omega
     clear a5
     go_wp2_with fail
     refine za5 (results_none rfl _ _ _) rfl ?_;exact J.out
   ·subst h1;subst h2;obtain rfl:=b1.out rfl
    have hd:decide ((0:Int)<=kk)=false:=by
     rcases Q.out with hd | ⟨-,hd⟩
     ·exact hd
     ·cases hd
    have a8:Hid (s.one m=⟨[],true,s.steps+1⟩):=by show _=_;unfold RS.one;rw [h3];rfl
    clear h3 hI Q b1;go_upto_region 7 with fail;have o:QAt (wk.setCell ⟨gq,6,none⟩ (.slice none 0 0)) ok gq m ⟨[],s.done,s.steps+1⟩ vfr vup vts (.slice none 0 0):=b8.out.nowTo (fun b h=>h) a4 (zg.nil _ _);have D:zu (fun b=>b=gq) w (wk.setCell ⟨gq,6,none⟩ (.slice none 0 0)):=(a7.out.ext_r I).tr (chg_setK _ _ _ _);generalize wk.setCell ⟨gq,6,none⟩ (.slice none 0 0)=w3 at o D⊢;have f5:w3.cell? ⟨gq,7,none⟩=some (.bool s.done):=o.blk.cell (k:=7) rfl;have f8:w3.frozen? ⟨gq,7,none⟩=false:=o.blk.frozen 7
    have J:Hid (QStepPost w ok gq m (s.one m) (.returned (.tuple #[])) (w3.setCell ⟨gq,7,none⟩ (.bool true))):=by
     refine ⟨rfl,?_,D.tr (chg_setK _ _ _ _)⟩;rw [a8.out];refine QR2.weaken ⟨_,_,_,_,o.doneTo true⟩ (fun b hb=>.inl hb) fun h=>?_;rcases h with h | h
     ·exact a4 h
     ·omega
    clear o D
    go_wp2_with fail
    refine za5 (results_none rfl _ _ _) rfl ?_;exact J.out
def QRunPost (w:World) (ok:Nat->Prop) (g:Nat) (m:MZ) (s:RS) (e:Ending) (w':World):Prop:=
 e=.returned (.bool s.done)/\QR2 w' (fun b=>ok b\/(w.heap.size<=b/\b<w'.heap.size)) g m s/\zu (fun b=>b=g) w w'
structure QRun (w wr:World) (ok:Nat->Prop) (g:Nat) (m:MZ) (s0:RS) (n k:Nat) (s:RS):Prop where
 rt:QR2 wr (fun b=>ok b\/(w.heap.size<=b/\b<wr.heap.size)) g m s
 chg:zu (fun b=>b=g) w wr
 run:RS.run m (n - k) s=RS.run m n s0
 ch:zw m s.ch
 st:0<=s.steps/\(n<=k\/s.steps+(n - k:Nat)<=4000000000000000000)
theorem qStep_calls {ok:Nat->Prop} {m:MZ} {s:RS} (n:Nat) (w:World) (J:QR2 w ok gq m s) (g:zZ m) (hl:Lens m) (hc:zw m s.ch) (hn:n<=1000000) (M:0<=s.steps) (a4:n=0\/s.steps<=3000000000000000000):
  Calls Tryz.prog 105 #[.pointer (some ⟨gq,0,none⟩),.int .i64 n] w (QRunPost w ok gq m (RS.run m n s)):=by
 have b4:gq<w.heap.size:=J.lt;have I:¬ ok gq:=by obtain ⟨_,_,_,_,h⟩:=J;exact h.ng
 have H0:Hid (QRun w w ok gq m s n 0 s):=⟨J.weaken (fun b hb=>.inl hb) (fun h=>by rcases h with h | h;exact I h;omega),zu.refl _ _,rfl,hc,M,by omega⟩;have HL:=zh hl;have HG:=zh g;have U:w.cell? ⟨gq,9,none⟩=some (.bool true):=by obtain ⟨_,_,_,_,h⟩:=J;exact h.blk.cell (k:=9) rfl
 have a5:za w w:=za.refl w;obtain ⟨R,Q⟩:=zaI (RS.run m n s);rw [<-Q];have HR:=zh Q;clear J hc hl g M a4 Q
 go_enter Tryz.func105,Tryz.ntmps105
 go_wp2_with fail
 clear U a5;go_loopw [5] (fun i wr=>∃(k:Nat) (s':RS),k<=n/\i=.int .i64 k/\Hid (QRun w wr ok gq m s n k s')) (fun i _=>n - (intOf i).toNat)
 case atStart=>exact ⟨0,s,FN _,rfl,H0⟩
 clear H0
 case round=>
  obtain ⟨k,s',hk,rfl,hI⟩:=hrel;obtain ⟨wk,rfl⟩:∃wk:World,wk=wr:=⟨_,rfl⟩;have G:wk.cell? ⟨gq,7,none⟩=some (.bool s'.done):=by obtain ⟨_,_,_,_,h⟩:=hI.out.rt;exact h.blk.cell (k:=7) rfl
  obtain ⟨d,V⟩:=zaI s'.done;rw [<-V] at G;have O:=zh V;clear V;by_cases a3:k<n
  ·cases d with
   | true=>
    have o:Hid (QRunPost w ok gq m R (.returned (.bool true)) wk):=by
     have h1:=hI.out.run;rw [RS.run_done O.out.symm,<-HR.out] at h1;rw [<-h1];exact ⟨by rw [<-O.out],hI.out.rt,hI.out.chg⟩
    go_wp2_with fail
    go_ret;exact o.out
   | false=>
    go_wp2_with fail
    refine (qstep_calls wk hI.out.rt HG.out HL.out hI.out.ch hI.out.st.1 (by have:=hI.out.st.2;omega)).mono ?_;rintro e w5 ⟨rfl,E,D⟩
    have HN:Hid (QRun w w5 ok gq m s n (k+1) (s'.one m)):=by
     have h1:=one_isCh hI.out.ch;have h2:=hI.out.st;have h3:=hI.out.run;have h4:n - k=(n - (k+1))+1:=by omega
     rw [h4] at h3;unfold RS.run at h3;rw [<-O.out,if_neg (by simp)] at h3;have h5:=hI.out.chg.size;have h6:=D.size;refine ⟨E.weaken (fun b hb=>?_) (fun h=>?_),hI.out.chg.tr D,h3.trans (by cases n <;> rfl),h1.1,by omega⟩
     ·rcases hb with (hb | hb) | hb
      ·exact .inl hb
      ·exact .inr ⟨hb.1,by omega⟩
      ·exact .inr ⟨by omega,hb.2⟩
     ·rcases h with h | h
      ·exact I h
      ·omega
    clear E D G
    go_wp2_with fail
    go_roundw
    case rel=>exact ⟨k+1,_,a3,by go_num,HN⟩
    case measure=>simp [intOf];omega
  ·obtain rfl:k=n:=by omega
   have o:Hid (QRunPost w ok gq m R (.returned (.bool d)) wk):=by
    have h1:=hI.out.run;rw [Nat.sub_self,<-HR.out] at h1;have h2:RS.run m 0 s'=s':=rfl;rw [h2] at h1;rw [<-h1,O.out];exact ⟨rfl,hI.out.rt,hI.out.chg⟩
   have b3:decide (k<k)=false:=FC (by omega)
   go_wp2_with fail
   go_ret;exact o.out
theorem okC_ofq {m:MZ} (o:AV m=0) (h:zw m ch):EH m ch=true:=by
 unfold EH;rw [FB o,AX.2 h];rfl
theorem pathsO_cmp {m:MZ} (o:AV m=0) (h:zw m ch) (hp:zV m ch=true):zq m ch=zS m ch:=by
 rw [pathsO_eq (okC_ofq o h) (splitL_cmp hp),if_pos rfl]
theorem qFound_calls {ok:Nat->Prop} {m:MZ} {s:RS} (w:World) (D:QR2 w ok gq m s) (I:AV m=0) (hl:Lens m) (hc:zw m s.ch):
  Calls Tryz.prog 106 #[.pointer (some ⟨gq,0,none⟩)] w (Di w m s.ch):=by
 obtain ⟨vfr,vup,vts,vn,D⟩:=D;have Q:=zh D;have HL:=zh hl;have HC:=zh hc;have O:=zh I;have HG:=zh (zZ.of I);have c0:∀W,za w W->W.cell? ⟨gq,0,none⟩=some (.int .i64 m.w):=za.rule (D.blk.cell (k:=0) rfl);have c1:∀W,za w W->W.cell? ⟨gq,1,none⟩=some (.int .i64 m.h):=za.rule (D.blk.cell (k:=1) rfl);have c2:∀W,za w W->W.cell? ⟨gq,2,none⟩=some (.int .i64 m.l):=za.rule (D.blk.cell (k:=2) rfl);have c3:∀W,za w W->W.cell? ⟨gq,3,none⟩=some vfr:=za.rule (D.blk.cell (k:=3) rfl);have c4:∀W,za w W->W.cell? ⟨gq,4,none⟩=some vup:=za.rule (D.blk.cell (k:=4) rfl);have c5:∀W,za w W->W.cell? ⟨gq,5,none⟩=some vts:=za.rule (D.blk.cell (k:=5) rfl);have c6:∀W,za w W->W.cell? ⟨gq,6,none⟩=some vn:=za.rule (D.blk.cell (k:=6) rfl);have c9:∀W,za w W->W.cell? ⟨gq,9,none⟩=some (.bool true):=za.rule (D.blk.cell (k:=9) rfl);have G:za w w:=za.refl w;clear D hl hc I
 go_enter Tryz.func106,Tryz.ntmps106
 go_wp2_with fail
 obtain ⟨A,c,rfl,b2,-⟩:=Q.out.now
 go_region_held3 (fun w'=>za w w')
  (first | (exact G.drew) | (exact G.drew.trans J))
  ((go_at_call 167;refine (CD _ (Q.out.maze.below G.drew) HG.out HL.out (Q.out.now.below G.drew) HC.out).mono ?_;rintro e wn ⟨rfl,J⟩))
 rename_i M
 cases o:zV m s.ch
 ·have E:Hid (Di w m s.ch (.returned (.tuple #[.slice none 0 0,.bool false])) wn):=⟨_,by rw [o],M,by unfold Cm;rw [o];exact ⟨[],⟨none,0,rfl,Fy _,Ba.nil _ _ _ _⟩,fun i x hx=>by simp at hx⟩⟩;clear o J
  go_wp2_with fail
  go_ret2
  exact E.out
 ·have HP:Hid (zq m s.ch=Cm m s.ch):=by show _=_;rw [pathsO_cmp O.out HC.out o];unfold Cm;rw [if_pos o]
  have HK:Hid (EH m s.ch=zV m s.ch):=by show _=_;rw [okC_ofq O.out HC.out,o]
  clear o J;have a9:=HC.out.len300 HG.out
  go_wp2_with fail
  go_region_held3 (fun w'=>za w w')
   (first | (exact M.drew) | (exact M.drew.trans V))
   ((go_at_call 118;refine (EJ _ (Q.out.maze.below M.drew) HL.out (Q.out.now.below M.drew) (by omega)).mono ?_;rintro e wq ⟨v9,rfl,V,U⟩))
  rename_i a4
  have E:Hid (Di w m s.ch (.returned (.tuple #[v9,.bool (EH m s.ch)])) wq):=⟨v9,by rw [HK.out],a4,by
   have h2:=U;rw [HP.out] at h2;exact h2.weaken fun b hb=>FA M.drew.size hb⟩
  clear U V
  go_wp2_with fail
  go_ret2
  exact E.out
end
section
open Go.RowKit Go.Shelf
attribute [local go_sem ↓] Go.wp_at_zero Go.wp_at_succ
attribute [local go_sem] Oper.semAt_some
structure QI (w0 wr:World) (gq:Nat) (m:MZ) (r:RS):Prop where
 rt:QR2 wr (fun b=>b≠gq) gq m r
 ext:za w0 wr
 gg:w0.heap.size<=gq
 inv:CZ m r
theorem QI.more {w':World} {m:MZ} (h:QI w0 wr gq m r) (o:za wr w'):QI w0 w' gq m r:=⟨h.rt.ext o,h.ext.trans o,h.gg,h.inv⟩
theorem QI.step {m:MZ} (h:QI w0 wr gq m r) (g:zZ m) (E:Lens m) (n:Nat) (G:n<=1000000) (J:n=0\/r.steps<=3000000000000000000):
  Calls Tryz.prog 105 #[.pointer (some ⟨gq,0,none⟩),.int .i64 n] wr fun e w'=>e=.returned (.bool (RS.run m n r).done)/\QI w0 w' gq m (RS.run m n r):=by
 refine (qStep_calls n wr h.rt g E h.inv.ch G h.inv.st J).mono ?_;rintro e w' ⟨rfl,I,o⟩;have D:=h.rt.lt;refine ⟨rfl,I.weaken (fun b hb=>?_) (fun h=>h rfl),Below.trans h.ext (o.below h.ext.size (fun b e=>by have:=h.gg;omega)),h.gg,h.inv.run n⟩;rcases hb with hb | hb
 ·exact hb
 ·omega
theorem QI.cells {m:MZ} (h:QI w0 wr gq m r):∃vn,wr.cell? ⟨gq,6,none⟩=some vn/\zg wr (fun _=>True) vn r.ch/\wr.cell? ⟨gq,8,none⟩=some (.int .i64 r.steps):=by
 obtain ⟨_,_,_,vn,h2⟩:=h.rt;exact ⟨vn,h2.blk.cell (k:=6) rfl,h2.now.weaken fun _ _=>trivial,h2.blk.cell (k:=8) rfl⟩
theorem mRunT_calls {ok:Nat->Prop} {m:MZ} {s:List UInt8} (n:Int) (w:World) (h:JP w ok v m ns) (g4:s.length<=40000000) (hn:-1000<=n/\n<=1000):
  Calls Tryz.prog 74 #[v,.string ⟨s.toArray⟩,.int .i64 n] w (RunX w (runT m (BB (zr m ns)) s n)):=by
 obtain ⟨⟨x,er⟩,hp⟩:∃p,p=opT m (BB (zr m ns)) s:=⟨_,rfl⟩;have HO:Hid (∀W,za w W->Calls Tryz.prog 87 #[v,.string ⟨s.toArray⟩] W (QOpX W (x,er))):=fun W hE=>by rw [hp];exact EE W (h.below hE) g4
 have i1:=zh g4;have HN:=zh hn;have HM:=zh h.hm;have HL:=zh h.hl;obtain ⟨f,u,t,rfl,⟨_,⟨Af,cf,rfl,-,-⟩,-⟩,⟨Au,cu,rfl,-,-⟩,⟨-,_,⟨At,ct,rfl,-,-⟩,-⟩⟩:=_root_.id h.hm;have b2:(BB (zr m ns)).length=8:=Aw _;obtain ⟨id,hid⟩:∃x,x=BB (zr m ns):=⟨_,rfl⟩;rw [<-hid] at hp b2⊢;have l5:=zh b2;have HP:=zh hp.symm;clear h g4 hn hid b2 hp
 go_enter Tryz.func74,Tryz.ntmps74
 go_upto_region 1 with fail;obtain ⟨c0,r0,r1,r2,r3,r4,r5⟩:=CO w m Af cf Au cu At ct;simp only [Fr] at c0 r0 r1 r2 r3 r4 r5;generalize w.alloc _=w2 at c0 r0 r1 r2 r3 r4 r5⊢;have b8:=zh c0;have n8:za w2 w2:=za.refl w2;clear c0
 go_wp2_with fail
 refine (HO.out _ b8.out).mono ?_;rintro e w3 ⟨Ac,nc,cc,rfl,c6,c7⟩;have l4:=zh c7;have d9:za w2 w3:=c6;have I:za w3 (w3.alloc (.cells #[.slice Ac nc cc,.int .i64 x.steps,.string ⟨x.sg.toArray⟩,.int .i64 x.fin] 146)):=(za.refl w3).alloc _;by_cases d7:er=0
 rotate_left
 ·have HR:Hid (runT m id s n=([],false,er)):=runT_err n HP.out d7;have o8:(er != 0)=true:=by simp [d7]
  have Q:=zh ((b8.out.trans d9).trans I);clear c6 I d7 c7
  go_wp2_with fail
  refine za5 (by simp [results,Tryz.results74,go_sem];rfl) rfl ⟨by rw [HR.out],Q.out⟩
 ·subst d7;obtain ⟨d6,ho⟩:=opT_ok HP.out;have HC:=zh d6;have d5:runT m id s n=Da m (zx id) id s n:=by unfold runT;rw [if_pos d6]
  obtain ⟨hb,f9,g5⟩:=open_b HC.out l5.out ho;have b5:=hb.st.2;by_cases k5:n<0
  ·have HR:Hid (runT m id s n=([],false,1)):=by (show _=_);rw [d5];unfold Da;rw [ho];simp only;rw [if_pos k5]
   have Q:=zh ((b8.out.trans d9).trans I);clear c6 I ho d6 d5 hb f9 g5 b5 c7
   go_wp2_with fail
   refine za5 (by simp [results,Tryz.results74,go_sem];rfl) rfl ⟨by rw [HR.out],Q.out⟩
  ·obtain ⟨lim,b3⟩:∃l,l=min (20000 - x.steps) n:=⟨_,rfl⟩
   have HR:Hid (runT m id s n=(s.take x.fin++(BK m x.steps lim lim.toNat (loadS m x.ch x.steps) x.sg).1,(BK m x.steps lim lim.toNat (loadS m x.ch x.steps) x.sg).2.done,0)):=by
    (show _=_);rw [d5];unfold Da;rw [ho];simp only;rw [if_neg k5,b3]
   have E:Hid (-9223372036854775808<=lim/\lim<=1000/\x.steps+lim<=20000/\0<=n/\n<=1000):=by have:=HN.out;exact ⟨by omega,by omega,by omega,by omega,by omega⟩
   have l7:=zh b3;have HB:=zh hb;have e8:=zh f9;have a6:Hid (0<=x.steps/\x.steps<=9223372036854775807):=⟨g5,b5⟩;have HG:Hid (zZ m):=zZ.of HC.out;clear c6 ho hb f9 g5 b5 b3 d6 d5 c7;go_upto_region 6 with fail;have b9:=ze.new w3 #[.slice Ac nc cc,.int .i64 x.steps,.string ⟨x.sg.toArray⟩,.int .i64 x.fin] 146 (g:=w3.heap.size) rfl;generalize w3.alloc _=w4 at b9 I⊢;generalize w3.heap.size=gx at b9⊢;generalize w.heap.size=gm at r0 r1 r2 r3 r4 r5⊢;have D:za w2 w4:=d9.trans I;have r0:=fun W h=>r0 W (D.trans h)
   have r1:=fun W h=>r1 W (D.trans h)
   have r2:=fun W h=>r2 W (D.trans h)
   have r3:=fun W h=>r3 W (D.trans h)
   have r4:=fun W h=>r4 W (D.trans h)
   have r5:=fun W h=>r5 W (D.trans h)
   obtain ⟨k0,k1,k2,k3⟩:=DX (x:=x) b9;have k0:=za.rule k0;have k1:=za.rule k1;have k2:=za.rule k2;have k3:=za.rule k3;have Q:Hid (za w w4):=b8.out.trans D
   have h6:Hid (Calls Tryz.prog 137 #[.agg #[.int .i64 m.w,.int .i64 m.h,.int .i64 m.l,.slice Af m.free.length cf,.slice Au m.up.length cu,.slice At m.tasks.length ct],.slice Ac nc cc,.int .i64 x.steps] w4 fun e w'=>∃gq,e=.returned (.tuple #[.pointer (some ⟨gq,0,none⟩),.int .i64 0])/\QI w4 w' gq m (loadS m x.ch x.steps)):=by
    refine (Fi x.steps w4 (HM.out.maze.below Q.out) HL.out (l4.out.below I) (by have:=HB.out.cl;have:=i1.out;show x.ch.length<=_;omega)).mono ?_;rintro e w' ⟨v',rfl,hE,hq⟩;rw [e8.out];rcases hq with ⟨h1,-⟩ | ⟨-,-,-,gq,rfl,m6,hq⟩
    ·exact absurd e8.out h1
    ·exact ⟨gq,rfl,hq.weaken (fun b hb=>hb.2) (fun h=>h rfl),hE,m6,(BZ e8.out).2⟩
   have hx:za w4 w4:=za.refl w4;clear D d9 I b9 n8
   go_wp2_with fail
   refine h6.out.mono ?_;rintro e w5 ⟨gq,rfl,f4⟩;have e9:=zh f4;have n9:za w4 w5:=f4.ext;have i9:x.fin<=s.length:=HB.out.fin;have j1:=i1.out;have e1:ByteArray.extract ⟨s.toArray⟩ 0 x.fin=⟨(s.take x.fin).toArray⟩:=Cl s x.fin;clear f4 h6 hx;go_upto_region 8 with fail;obtain ⟨rr,g3⟩:∃r,r=loadS m x.ch x.steps:=⟨_,rfl⟩;have k7:rr.steps=x.steps:=by rw [g3];rfl
   rw [<-g3] at e9 HR;have h9:Hid (Calls Tryz.prog 105 #[.pointer (some ⟨gq,0,none⟩),.int .i64 0] w5 fun e w'=>e=.returned (.bool rr.done)/\QI w4 w' gq m rr):=e9.out.step HG.out HL.out 0 (by omega) (.inl rfl);obtain ⟨T,hT⟩:=zaI (s.take x.fin++(BK m x.steps lim lim.toNat rr x.sg).1);obtain ⟨RF,f5⟩:∃R,R=(BK m x.steps lim lim.toNat rr x.sg).2:=⟨_,rfl⟩;rw [<-hT,<-f5] at HR;have f1:=zh k7;have O:Hid (s.take x.fin++(BK m x.steps lim lim.toNat rr x.sg).1=T/\(BK m x.steps lim lim.toNat rr x.sg).2=RF):=⟨hT.symm,f5.symm⟩
   have a4:Hid ((s.take x.fin).length+7000*lim.toNat<=47000000):=by
    (show _<=_)
    have h1:=E.out;have h4:(s.take x.fin).length<=s.length:=by rw [za3];omega
    omega
   have a5:Hid (x.sg.length<=1000):=by (show _<=_);rw [HB.out.sg];omega
   clear g3 k7 hT f5 e9 i9 j1 e1
   go_wp2_with fail
   refine h9.out.mono ?_;rintro e w9 ⟨rfl,f3⟩;have g9:=zh f3;have o0:za w4 w9:=f3.ext;clear f3 n9 h9
   go_wp2_with fail
   clear r0 r1 r2 r3 r4 r5 k0 k2 k3 o0
   go_loopg [13,14,15] (lim.toNat) (fun gk v13 v14 v15 wr=>∃(r:RS) (out sg:List UInt8),v13=.string ⟨out.toArray⟩/\v14=.bool r.done/\v15=.string ⟨sg.toArray⟩/\x.steps<=r.steps/\r.steps<=x.steps+lim.toNat/\lim<=r.steps - x.steps+gk/\Hid (sg.length<=1000)/\Hid (out.length+7000*gk<=47000000)/\Hid (QI w4 wr gq m r)/\Hid (out++(BK m x.steps lim gk r sg).1=T/\(BK m x.steps lim gk r sg).2=RF))
   case atStart=>exact ⟨rr,_,_,rfl,rfl,rfl,by have:=f1.out;omega,by have h1:=f1.out;have h2:=E.out;omega,by have h1:=f1.out;have h2:=E.out;omega,a5,a4,g9,O⟩
   clear g9 O a4 a5
   case round=>
    obtain ⟨r,out,sg,rfl,rfl,rfl,n4,n5,n6,a5,a4,HI,O⟩:=hrel;obtain ⟨wk,rfl⟩:∃wk:World,wk=wr:=⟨_,rfl⟩;have hx:za w4 wk:=HI.out.ext;have m7:=E.out;have m8:=a6.out;have f8:=l7.out;obtain ⟨vn,-,-,b1⟩:=HI.out.cells;have c8:=za.rule b1;obtain ⟨d,hd⟩:=zaI r.done;rw [<-hd];have HD:=zh hd;clear hd b1;go_upto_region 10 with fail;go_cut [65] (fun v65 wc=>v65=.bool (!d && decide (r.steps - x.steps<lim))/\Hid (za wk wc))
    case first=>
     have V:za wk wk:=za.refl wk;have o9:∀W,za wk W->W.cell? ⟨gx,1,none⟩=some (.int .i64 x.steps):=fun W h=>k1 W (hx.trans h)
     clear k1 hx
     cases d with
     | true=>
      refine zab (S:=(fun W=>za wk W)) zG (V.drew) fun zH=>?_;generalize wk.drew=wd at zH⊢;refine zi 0 zH ?_;refine zi 1 zH ?_;simp only [zc,Fv];refine zi 2 zH ?_;refine DI 3 zH ?_;simp only [zc,Fv];refine DI 4 zH ?_;refine DI 5 zH ?_;simp only [zc,Fv];refine DI 6 zH ?_;refine DI 7 zH ?_;simp only [zc,Fv];refine zi 8 zH ?_;refine zi 9 zH ?_;simp only [zc,Fv];refine DI 10 zH ?_;refine DI 11 zH ?_;simp only [zc,Fv];refine DI 12 zH ?_;refine DI 13 zH ?_;simp only [zc,Fv];refine DI 14 zH ?_;refine DI 15 zH ?_;simp only [zc,Fv];refine DI 16 zH ?_;refine DI 17 zH ?_;simp only [zc,Fv];refine DI 18 zH ?_;refine zi 19 zH ?_;simp only [zc,Fv];refine zao (by kernel_rfl) ?_ _;have a8:=zh zH;clear zH V;go_wp2;go_meet;exact ⟨rfl,a8⟩
     | false=>
      by_cases i4:r.steps<20000
      ·have n7:IntKind.i64.wrap (r.steps - x.steps)=r.steps - x.steps:=by rw [zag];omega
       have m4:decide (r.steps<20000)=true:=FB i4
       have m5:decide (r.steps - x.steps<n)=decide (r.steps - x.steps<lim):=by
        rw [f8];exact decide_eq_decide.2 ⟨fun h=>by omega,fun h=>by omega⟩
       refine zab (S:=(fun W=>za wk W)) zG (V.drew) fun zH=>?_;generalize wk.drew=wd at zH⊢;refine zi 0 zH ?_;refine zi 1 zH ?_;simp only [zc,Fv];refine zi 2 zH ?_;refine zi 3 zH ?_;simp only [zc,Fv];refine zi 4 zH ?_;refine zi 5 zH ?_;simp only [zc,Fv];refine zi 6 zH ?_;refine zi 7 zH ?_;simp only [zc,Fv];refine zi 8 zH ?_;refine zi 9 zH ?_;simp only [zc,Fv];refine zi 10 zH ?_;refine zi 11 zH ?_;simp only [zc,Fv];refine zi 12 zH ?_;refine zi 13 zH ?_;simp only [zc,Fv];refine zi 14 zH ?_;refine zi 15 zH ?_;simp only [zc,Fv];refine zi 16 zH ?_;refine zi 17 zH ?_;simp only [zc,Fv];refine zi 18 zH ?_;refine zi 19 zH ?_;simp only [zc,Fv];refine zao (by kernel_rfl) ?_ _;have a8:=zh zH;clear zH V n7;go_wp2;go_meet;exact ⟨by simp [m5];rw [<-f8],a8⟩
      ·have m4:decide (r.steps<20000)=false:=FC i4;refine zab (S:=(fun W=>za wk W)) zG (V.drew) fun zH=>?_;generalize wk.drew=wd at zH⊢;refine zi 0 zH ?_;refine zi 1 zH ?_;simp only [zc,Fv];refine zi 2 zH ?_;refine zi 3 zH ?_;simp only [zc,Fv];refine zi 4 zH ?_;refine zi 5 zH ?_;simp only [zc,Fv];refine zi 6 zH ?_;refine zi 7 zH ?_;simp only [zc,Fv];refine zi 8 zH ?_;refine zi 9 zH ?_;simp only [zc,Fv];refine DI 10 zH ?_;refine DI 11 zH ?_;simp only [zc,Fv];refine DI 12 zH ?_;refine DI 13 zH ?_;simp only [zc,Fv];refine DI 14 zH ?_;refine DI 15 zH ?_;simp only [zc,Fv];refine DI 16 zH ?_;refine DI 17 zH ?_;simp only [zc,Fv];refine DI 18 zH ?_;refine zi 19 zH ?_;simp only [zc,Fv];refine zao (by kernel_rfl) ?_ _;have a8:=zh zH;clear zH V;go_wp2;go_meet;exact ⟨by rw [FC (show ¬ r.steps - x.steps<lim by omega)];simp,a8⟩
    case rest=>
     obtain ⟨rfl,e5⟩:=hcut;obtain ⟨w10,rfl⟩:∃w10:World,w10=wc:=⟨_,rfl⟩;have a3:=zh (HI.out.more e5.out);clear hx;by_cases o:d=true\/lim<=r.steps - x.steps
     ·have b6:(!d && decide (r.steps - x.steps<lim))=false:=by
       rcases o with h | h
       ·rw [h];rfl
       ·rw [FC (by omega),Bool.and_false]
      rw [b6]
      have e0:Hid (out=T/\r=RF):=by
       have h1:=O.out;rw [Ev (by rw [<-HD.out];exact o),List.append_nil] at h1;exact h1
      have i3:Hid (za w w10):=Q.out.trans a3.out.ext;clear b6 o O
      go_wp2_with fail
      refine za5 (by simp [results,Tryz.results74,go_sem];rfl) rfl ⟨?_,i3.out⟩;rw [HR.out,HD.out,e0.out.1,e0.out.2]
     ·have f6:d=false:=by
       cases d with
       | true=>exact absurd (.inl rfl) o
       | false=>rfl
      have j7:r.steps - x.steps<lim:=by
       rcases Int.lt_or_le (r.steps - x.steps) lim with q | q
       ·exact q
       ·exact absurd (.inr q) o
      have b6:(!d && decide (r.steps - x.steps<lim))=true:=by rw [f6,FB j7];rfl
      rw [b6];obtain ⟨q,hq⟩:=zaI (r.steps % 16);have m9:0<=q/\q<16:=by rw [hq];exact ⟨Int.emod_nonneg _ (by decide),Int.emod_lt_of_pos _ (by decide)⟩
      obtain ⟨n0,n1⟩:=m9;obtain ⟨kN,j5⟩:∃k:Nat,k=(min (16 - q) (lim - (r.steps - x.steps))).toNat:=⟨_,rfl⟩;obtain ⟨mo,j8⟩:=zaI (min (16 - q) (20000 - r.steps));have j4:(kN:Int)=min mo (n - (r.steps - x.steps)):=by omega
      have j6:kN<=16/\0<kN/\(kN:Int)<=lim - (r.steps - x.steps):=by omega
      obtain ⟨r',b4⟩:∃r',r'=RS.run m kN r:=⟨_,rfl⟩;have d8:=CL m kN r;rw [<-b4] at d8;have g0:=d8.2.2.2 (by rw [<-HD.out];exact f6) j6.2.1;have j3:=d8.2.1;have h5:Hid (CZ m r'):=by (show CZ _ _);rw [b4];exact HI.out.inv.run kN
      obtain ⟨gk',f7⟩:∃f,gk=f+1:=⟨gk - 1,by omega⟩
      have g7:Hid (BK m x.steps lim gk r sg=(Ay sg r'.ch r'.steps++(BK m x.steps lim gk' r' (zY sg r'.ch r'.steps)).1,(BK m x.steps lim gk' r' (zY sg r'.ch r'.steps)).2)):=by
       (show _=_)
       rw [f7];exact runJ_go (by rw [<-HD.out];exact o) (by rw [<-hq,<-j5,b4])
      have G:Hid (x.steps<=r'.steps/\r'.steps<=x.steps+lim.toNat/\lim<=r'.steps - x.steps+gk'/\gk'<gk/\gk=gk'+1):=⟨by omega,by omega,by omega,by omega,f7⟩
      have i2:Hid (∀W,za w10 W->Calls Tryz.prog 105 #[.pointer (some ⟨gq,0,none⟩),.int .i64 (min mo (n - (r.steps - x.steps)))] W fun e w'=>e=.returned (.bool r'.done)/\QI w4 w' gq m r'):=fun W h=>by
       rw [<-j4,b4];exact (a3.out.more h).step HG.out HL.out kN (by omega) (.inr (by omega))
      have j9:r.steps.tmod 16=q:=by rw [hq];exact Int.tmod_eq_emod_of_nonneg (by omega)
      have w2a:IntKind.i64.wrap (r.steps - x.steps)=r.steps - x.steps:=by rw [zag];omega
      have w2b:IntKind.i64.wrap q=q:=by rw [zag];omega
      have w2c:IntKind.i64.wrap (16 - q)=16 - q:=by rw [zag];omega
      have w2d:IntKind.i64.wrap (n - (r.steps - x.steps))=n - (r.steps - x.steps):=by rw [zag];omega
      have w2e:IntKind.i64.wrap (20000 - r.steps)=20000 - r.steps:=by rw [zag];omega
      have o3:min (16 - q) (20000 - r.steps)=mo:=j8.symm;have c8':∀W,za w10 W->W.cell? ⟨gq,8,none⟩=some (.int .i64 r.steps):=fun W h=>c8 W (e5.out.trans h)
      clear b6 o f6 j7 hq j5 j4 j6 b4 d8 g0 j3 f7 m7 m8 f8 n4 n5 n6 n0 n1 j8 c8;have hx:za w10 w10:=za.refl w10;go_upto_region 11 with fail;refine zab (S:=(fun W=>za w10 W)) zG (hx.drew) fun zH=>?_;have U:za w10 w10.drew:=(za.refl w10).drew;generalize w10.drew=wd at zH U⊢;refine zi 0 zH ?_;refine zi 1 zH ?_;simp only [zc,Fv];refine zi 2 zH ?_;refine zi 3 zH ?_;simp only [zc,Fv];refine zi 4 zH ?_;refine zi 5 zH ?_;simp only [zc,Fv];refine zi 6 zH ?_;refine zi 7 zH ?_;simp only [zc,Fv];refine zi 8 zH ?_;refine zi 9 zH ?_;simp only [zc,Fv];refine zi 10 zH ?_;refine zi 11 zH ?_;simp only [zc,Fv];refine zi 12 zH ?_;simp only [zc,Fv];refine zao (by kernel_rfl) ?_ _;have a7:=zh U;clear zH U hx j9 w2b w2c w2e;go_upto_region 12 with fail;have k8:za w4 wd:=a3.out.ext.trans a7.out;have c9:∀W,za wd W->W.cell? ⟨gq,8,none⟩=some (.int .i64 r.steps):=fun W h=>c8' W (a7.out.trans h)
      clear c8';go_cut [14] (fun v14 wc=>v14=.bool r'.done/\Hid (QI w4 wc gq m r'))
      case first=>
       refine Cj fun Q' hP m1=>?_;refine zB (S:=(fun W=>za w4 W)) zG (k8.drew) fun zH=>?_;have f2:za wd wd.drew:=(za.refl wd).drew;generalize wd.drew=we at zH f2⊢;have i7:=c9 _ f2;refine AQ 0 hP zH ?_;simp only [zc,Fv];refine AQ 1 hP zH ?_;simp only [zc,Fv];refine AQ 2 hP zH ?_;simp only [zc,Fv];refine AQ 3 hP zH ?_;simp only [zc,Fv];refine AQ 4 hP zH ?_;simp only [zc,Fv];refine AQ 5 hP zH ?_;simp only [zc,Fv];refine AQ 7 hP zH ?_;simp only [zc,Fv];refine AQ 8 hP zH ?_;simp only [zc,Fv];refine EM 6 fun K hK=>?_;go_simp;clear i7;go_simp;refine zaJ hK (zH) fun zH=>?_;clear hK K;try simp only [zc,Fv]
       refine AQ 9 hP zH ?_;simp only [zc,Fv];refine AQ 10 hP zH ?_;simp only [zc,Fv];refine AQ 11 hP zH ?_;simp only [zc,Fv];refine EM 12 fun K hK=>?_;go_simp;go_at_call 105;refine (i2.out _ (a7.out.trans f2)).mono ?_;rintro e w13 ⟨rfl,e6⟩;have e3:=zh e6;clear e6;go_simp;refine zaJ hK (e3.out.ext) fun zH=>?_;clear hK K;try simp only [zc,Fv]
       refine rlZ 13 fun K hK=>?_;go_simp;go_simp;refine hK.out _ _ ?_;clear hK K;refine zP (by kernel_rfl) ?_ _;subst m1;go_wp2;go_meet;exact ⟨rfl,e3⟩
      case rest=>
       obtain ⟨rfl,e2⟩:=hcut;obtain ⟨w11,rfl⟩:∃w11:World,w11=wc:=⟨_,rfl⟩;clear k8 c9 w2a w2d;have hi:=run_i64 HG.out h5.out;have e4:=zh hi;have g1:=recB_le (sg:=sg) (ch:=r'.ch) (st:=r'.steps) a5.out hi.1 ⟨by have:=G.out;have:=a6.out;omega,by have:=G.out;have:=E.out;have:=a6.out;omega⟩ hi.2;obtain ⟨rec,J⟩:∃x,x=Ay sg r'.ch r'.steps:=⟨_,rfl⟩;obtain ⟨sg',M⟩:∃x,x=zY sg r'.ch r'.steps:=⟨_,rfl⟩;rw [<-J,<-M] at g7;rw [<-J] at g1;obtain ⟨vn,i6,j2,b1⟩:=e2.out.cells
       have h7:Hid (∀W,za w11 W->Calls Tryz.prog 138 #[.string ⟨sg.toArray⟩,vn,.int .i64 r'.steps] W fun e w'=>e=.returned (.tuple #[.string ⟨rec.toArray⟩,.string ⟨sg'.toArray⟩])/\za W w'):=fun W hW=>by
        rw [J,M];exact mRecord_calls W (j2.below hW) e4.out.1 ⟨by have:=G.out;have:=a6.out;omega,by have:=G.out;have:=E.out;have:=a6.out;omega⟩ (by have:=e4.out.2;omega) (by have:=a5.out;omega)
       obtain ⟨An,cn,evn,-,-⟩:=j2;subst evn;have n2:=za.rule i6;have n3:=za.rule b1;have h8:=zh g1;have i0:Hid (sg'.length<=1000):=by (show _<=_);rw [M,By];omega
       have hx:za w11 w11:=za.refl w11;clear hi g1 J M i6 b1;go_upto_region 14 with fail;refine zab (S:=(fun W=>za w11 W)) zG (hx.drew) fun zH=>?_;have U:za w11 w11.drew:=(za.refl w11).drew;generalize w11.drew=we at zH U⊢;refine zi 0 zH ?_;refine zi 1 zH ?_;simp only [zc,Fv];refine zi 2 zH ?_;refine zi 3 zH ?_;simp only [zc,Fv];refine zi 4 zH ?_;refine zi 5 zH ?_;simp only [zc,Fv];refine zi 6 zH ?_;refine zi 7 zH ?_;simp only [zc,Fv];refine zi 8 zH ?_;simp only [zc,Fv];refine BO 9 fun K hK=>?_;go_simp;go_at_call 138;refine (h7.out _ U).mono ?_;rintro e w12 ⟨rfl,i5⟩;go_simp;refine zaJ hK (zH.trans i5) fun zH=>?_;clear hK K;try simp only [zc,Fv]
       refine zi 10 zH ?_;refine zi 11 zH ?_;simp only [zc,Fv];refine zi 12 zH ?_;refine zi 13 zH ?_;simp only [zc,Fv];refine zi 14 zH ?_;simp only [zc,Fv];refine zao (by kernel_rfl) ?_ _;have g8:=zh (e2.out.more zH);have ha:∀w,(Op.stringOp .add ⟨out.toArray⟩ ⟨rec.toArray⟩).run Tryz.prog w=.ok (.string ⟨(out++rec).toArray⟩) w:=fun w=>zJ (by have h1:=h8.out;have h2:=a4.out;omega)
       have l9:Hid ((out++rec)++(BK m x.steps lim gk' r' sg').1=T/\(BK m x.steps lim gk' r' sg').2=RF):=by
        have h1:=O.out;rw [g7.out] at h1;exact ⟨by rw [List.append_assoc];exact h1.1,h1.2⟩
       have l8:Hid ((out++rec).length+7000*gk'<=47000000):=by (show _<=_);have h1:=h8.out;have h2:=a4.out;have h3:=G.out.2.2.2.2;rw [FG];omega
       clear zH hx n2 n3 h7
       go_wp2_with fail
       go_roundg gk'
       case measure=>exact G.out.2.2.2.1
       case rel=>exact ⟨r',out++rec,_,rfl,rfl,rfl,G.out.1,G.out.2.1,G.out.2.2.1,i0.out,l8.out,g8.out,l9.out⟩
noncomputable def resF (m:MZ) (h id s:List UInt8):List (List Int)×PT×Int:=match Aa m h id s with
 | none=>([],.zero,4)
 | some x=>if zV m x.ch=true then (Cm m x.ch,.zero,0) else if (loadS m x.ch x.steps).done=false then ([],.zero,53) else if (zA m).1≠0 then ([],.zero,(zA m).1) else ([],(zA m).2,54)
def ResPost (w:World) (m:MZ) (id s:List UInt8) (e:Ending) (w':World):Prop:=
 ∃vp vr,e=.returned (.tuple #[vp,vr,.int .i64 (resF m (zx id) id s).2.2])/\za w w'/\zU w' (fun b=>w.heap.size<=b) vp (resF m (zx id) id s).1/\Ce w' (fun b=>w.heap.size<=b) vr (resF m (zx id) id s).2.1
noncomputable def resT (m:MZ) (id s:List UInt8):List (List Int)×PT×Int:=if AV m=0 then resF m (zx id) id s else ([],.zero,AV m)
theorem resT_err {m:MZ} {s:List UInt8} {x:JS} {er:Int} (h:opT m id s=(x,er)) (he:er≠0):resT m id s=([],.zero,er):=by
 unfold resT;rcases (opT_err h he).2 with ⟨h1,h2,h3⟩ | ⟨h1,h2⟩
 ·rw [if_pos h1,h3];unfold resF;rw [h2]
 ·rw [if_neg h1,h2]
def ResX (w:World) (p:List (List Int)×PT×Int) (e:Ending) (w':World):Prop:=∃vp vr,e=.returned (.tuple #[vp,vr,.int .i64 p.2.2])/\za w w'/\zU w' (fun b=>w.heap.size<=b) vp p.1/\Ce w' (fun b=>w.heap.size<=b) vr p.2.1
def MakeC (w:World) (v:Value) (m:MZ):Prop:=∀W,za w W->Calls Tryz.prog 55 #[v] W fun e w'=>∃v',e=.returned (.tuple #[v',.int .i64 (zA m).1])/\za W w'/\Ce w' (fun b=>W.heap.size<=b) v' (zA m).2
theorem res_fin {w:World} {m:MZ} {s:List UInt8} (M:za w wq) (U:w.heap.size<=gp) (o:ze wq gp 41 #[a0,a1,a2])
  (Q:zU wq (fun b=>w.heap.size<=b/\b≠gp) vp ps) (hp:Ce wq (fun b=>w.heap.size<=b/\b≠gp) (.agg #[x,y,z]) p) (G:resT m id s=(ps,p,n))
  (h4:a.tmps[4]?=some vp) (I:a.tmps[5]?=some (.pointer (some ⟨gp,0,none⟩))) (J:a.tmps[6]?=some (.int .i64 n)) (O:a.defers=[]):
  bodyPost Tryz.prog Tryz.f71 (ResX w (resT m id s)) Exit.ret a (((wq.setCell ⟨gp,0,none⟩ x).setCell ⟨gp,1,none⟩ y).setCell ⟨gp,2,none⟩ z):=by
 have D:=((o.set (k:=0) x).set (k:=1) y).set (k:=2) z;have E:zu (fun b=>b=gp) wq (((wq.setCell ⟨gp,0,none⟩ x).setCell ⟨gp,1,none⟩ y).setCell ⟨gp,2,none⟩ z):=(((zu.refl (fun b=>b=gp) _).set gp 0 _ rfl).set gp 1 _ rfl).set gp 2 _ rfl;generalize ((wq.setCell ⟨gp,0,none⟩ x).setCell ⟨gp,1,none⟩ y).setCell ⟨gp,2,none⟩ z=WZ at D E⊢;have c0:WZ.cell? ⟨gp,0,none⟩=some x:=D.cell (k:=0) rfl;have c1:WZ.cell? ⟨gp,1,none⟩=some y:=D.cell (k:=1) rfl;have c2:WZ.cell? ⟨gp,2,none⟩=some z:=D.cell (k:=2) rfl;have e4:a.tmps.getD 4 undef=vp:=by rw [Array.getD_eq_getD_getElem?,h4];rfl
 have e5:a.tmps.getD 5 undef=.pointer (some ⟨gp,0,none⟩):=by rw [Array.getD_eq_getD_getElem?,I];rfl
 have e6:a.tmps.getD 6 undef=.int .i64 n:=by rw [Array.getD_eq_getD_getElem?,J];rfl
 refine za5 (v:=.tuple #[vp,.agg #[x,y,z],.int .i64 n]) (by simp [results,Tryz.results71,go_sem,h4,I,J,e4,e5,e6,c0,c1,c2]) O ⟨vp,_,by rw [G],Below.trans M (E.below M.size fun b e=>by omega),?_,?_⟩
 ·rw [G];exact (Q.keep (E.same fun b o e=>o.2 e)).weaken fun b o=>o.1
 ·rw [G];exact hp.keepW (E.same fun b o e=>o.2 e) fun b o=>o.1
theorem EZ {ok:Nat->Prop} {m:MZ} {s:List UInt8} (w:World) (hv:zv w) (h:JP w ok v m ns) (f0:s.length<=40000000)
  (e9:AV m=0->∀x,Aa m (zx (BB (zr m ns))) (BB (zr m ns)) s=some x->zV m x.ch=false->(loadS m x.ch x.steps).done=true->MakeC w v m):
  Calls Tryz.prog 71 #[v,.string ⟨s.toArray⟩] w (ResX w (resT m (BB (zr m ns)) s)):=by
 obtain ⟨⟨x,er⟩,hp⟩:∃p,p=opT m (BB (zr m ns)) s:=⟨_,rfl⟩;have HO:Hid (∀W,za w W->Calls Tryz.prog 79 #[v,.string ⟨s.toArray⟩] W (OpX W (x,er))):=fun W hE=>by rw [hp];exact ED W (hv.ext hE) (h.below hE) f0
 have i5:=zh f0;have HM:=zh h.hm;have HL:=zh h.hl;obtain ⟨f,u,t,rfl,⟨_,⟨Af,cf,rfl,-,-⟩,-⟩,⟨Au,cu,rfl,-,-⟩,⟨-,_,⟨At,ct,rfl,-,-⟩,-⟩⟩:=_root_.id h.hm;have a5:(BB (zr m ns)).length=8:=Aw _;obtain ⟨id,hid⟩:∃x,x=BB (zr m ns):=⟨_,rfl⟩;rw [<-hid] at hp a5 e9⊢;have i1:=zh a5;have d8:=zh e9;have HP:=zh hp.symm;clear hv h f0 hid a5 e9 hp
 go_enter Tryz.func71,Tryz.ntmps71
 go_upto_region 1 with fail;obtain ⟨b6,r0,r1,r2,r3,r4,r5⟩:=CO w m Af cf Au cu At ct;have c9:(w.alloc (.cells (Fr m Af cf Au cu At ct) 32)).heap.size=w.heap.size+1:=by simp
 simp only [Fr] at b6 r0 r1 r2 r3 r4 r5 c9;generalize w.alloc _=w1 at b6 r0 r1 r2 r3 r4 r5 c9⊢;have J:=ze.new w1 #[.int .i64 0,.slice none 0 0,.slice none 0 0] 41 (g:=w1.heap.size) rfl;have o:za w1 (w1.alloc (.cells #[.int .i64 0,.slice none 0 0,.slice none 0 0] 41)):=(za.refl w1).alloc _;generalize w1.alloc _=w2 at J o⊢;rw [c9] at J;obtain ⟨gp,g6⟩:∃g,g=w.heap.size+1:=⟨_,rfl⟩;rw [<-g6] at J⊢;have a8:=zh J;have G:Hid (w.heap.size<=gp/\gp<w2.heap.size):=⟨by omega,zd J⟩;have E:Hid (za w w2):=b6.trans o;have r0:=fun W h=>r0 W (o.trans h)
 have r1:=fun W h=>r1 W (o.trans h)
 have r2:=fun W h=>r2 W (o.trans h)
 have r3:=fun W h=>r3 W (o.trans h)
 have r4:=fun W h=>r4 W (o.trans h)
 have r5:=fun W h=>r5 W (o.trans h)
 have h5:za w2 w2:=za.refl w2;clear b6 o c9 J g6
 go_wp2_with fail
 refine (HO.out _ E.out).mono ?_;rintro e w3 ⟨vc,rfl,e2,g3⟩;have h8:=zh g3;have c6:za w2 w3:=e2;obtain ⟨Ac,cc,rfl,-,-⟩:=g3;simp only [jsc];have M:za w3 (w3.alloc (.cells #[.slice Ac x.ch.length cc,.int .i64 x.steps,.int .i64 x.fin,.string ⟨x.sg.toArray⟩] 126)):=(za.refl w3).alloc _;by_cases D:er=0
 rotate_left
 ·have HR:Hid (resT m id s=([],.zero,er)):=resT_err HP.out D;have O:(er != 0)=true:=by simp [D]
  have f9:=zh (c6.trans M);have Q:=zh (a8.out.ext f9.out);have z0:=Q.out.cell (k:=0) rfl;have z1:=Q.out.cell (k:=1) rfl;have z2:=Q.out.cell (k:=2) rfl;have fz:=fun j=>Q.out.frozen j
  clear e2 M D h5 c6
  go_wp2_with fail
  exact res_fin (E.out.trans f9.out) G.out.1 Q.out (CV _ _) (Ce.zero _ _) HR.out rfl rfl rfl rfl
 ·subst D;obtain ⟨c0,ho⟩:=opT_ok HP.out;have HC:=zh c0;obtain ⟨hb,g7,j3⟩:=open_b HC.out i1.out ho;have d8:=zh (d8.out c0 x ho);have b2:Hid (resT m id s=if zV m x.ch=true then (Cm m x.ch,.zero,0) else if (loadS m x.ch x.steps).done=false then ([],.zero,53) else if (zA m).1≠0 then ([],.zero,(zA m).1) else ([],(zA m).2,54)):=by (show _=_);unfold resT;rw [if_pos c0];unfold resF;rw [ho]
  have HB:=zh hb;have i2:=zh g7;clear e2 ho hb g7 j3 c0;go_upto_region 4 with fail;have b5:=ze.new w3 #[.slice Ac x.ch.length cc,.int .i64 x.steps,.int .i64 x.fin,.string ⟨x.sg.toArray⟩] 126 (g:=w3.heap.size) rfl;generalize w3.alloc _=w4 at b5 M⊢;generalize w3.heap.size=gx at b5⊢;generalize w.heap.size=gm at r0 r1 r2 r3 r4 r5⊢;have c7:za w2 w4:=c6.trans M;obtain ⟨k0,k1,k2,k3⟩:=zR b5;have f8:Hid (za w w4):=E.out.trans c7;have HZ:Hid (w2.heap.size<=w4.heap.size):=c7.size;have h9:=zh (h8.out.below M);have f7:Hid (CZ m (loadS m x.ch x.steps)):=(BZ i2.out).2
  have f3:Hid (Calls Tryz.prog 80 #[.agg #[.int .i64 m.w,.int .i64 m.h,.int .i64 m.l,.slice Af m.free.length cf,.slice Au m.up.length cu,.slice At m.tasks.length ct],.slice Ac x.ch.length cc,.int .i64 x.steps] w4 fun e w'=>∃g,e=.returned (.tuple #[.pointer (some ⟨g,0,none⟩),.int .i64 0])/\za w4 w'/\RtB w' (fun k=>w4.heap.size<=k/\k<w'.heap.size) (fun b=>b<w4.heap.size) g m (loadS m x.ch x.steps)):=
   loadB_calls (Y:=fun b=>b<w4.heap.size) (s:=loadS m x.ch x.steps) w4 (((HM.out.maze.bound).weaken fun b hb=>zam hb.2 f8.out.size).below f8.out) HL.out h9.out (by have:=HB.out.cl;have:=i5.out;show x.ch.length<=_;omega) (fun b hb=>hb) HC.out f7.out
  clear c6 M b5 h5 k2 k3
  go_wp2_with fail
  refine f3.out.mono ?_;rintro e w5 ⟨g,rfl,e3,g5⟩;have f4:Hid (OneX w4 w5 (fun k=>w4.heap.size<=k/\k<w5.heap.size) g m (loadS m x.ch x.steps)):=⟨e3,g5,fun k hk=>hk.1,f7.out⟩;have f1:za w2 w5:=c7.trans e3;have f2:=zh f4.out.rt.found;clear e3 g5 f3 c7 k0 k1;obtain ⟨cb,O⟩:∃b,b=zV m x.ch:=⟨_,rfl⟩
  go_wp2_with fail
  refine f2.out.mono ?_;rintro e w6 ⟨vp,rfl,e4,a4⟩;rw [show zV m (loadS m x.ch x.steps).ch=cb from O.symm];have a4:zU w6 (fun b=>w5.heap.size<=b) vp (Cm m x.ch):=a4;obtain ⟨_,⟨Ap,cp,rfl,-,-⟩,-⟩:=_root_.id a4;have i0:=zh a4;have f5:=zh (f4.out.more e4);have a7:za w2 w6:=f1.trans e4;have i6:=zh f1;have U:=zh (a8.out.ext a7);clear e4 a4 f1 f2
  cases cb with
  | true=>
   have HR:Hid (resT m id s=(Cm m x.ch,.zero,0)):=by (show _=_);rw [b2.out,if_pos O.symm]
   have z0:=U.out.cell (k:=0) rfl;have z1:=U.out.cell (k:=1) rfl;have z2:=U.out.cell (k:=2) rfl;have fz:=fun j=>U.out.frozen j
   have b3:=zh a7;clear O a7
   go_wp2_with fail
   refine res_fin (E.out.trans b3.out) G.out.1 U.out (i0.out.weaken fun b hb=>?_) (Ce.zero _ _) HR.out rfl rfl rfl rfl;have h1:=G.out;have h2:=i6.out.size;have h3:=E.out.size;omega
  | false=>
   obtain ⟨dn,e7⟩:∃b,b=(loadS m x.ch x.steps).done:=⟨_,rfl⟩
   have d5:Hid (Calls Tryz.prog 83 #[.pointer (some ⟨g,0,none⟩),.int .i64 0] w6 fun e w'=>e=.returned (.bool dn)/\zu (fun k=>w4.heap.size<=k/\k<w5.heap.size) w6 w'):=by
    rw [e7];exact (f5.out.step 0 (by omega) (.inl rfl)).mono fun e w' h=>⟨h.1,h.2.2⟩
   have i9:Hid (w2.heap.size<=w4.heap.size/\w4.heap.size<=w6.heap.size):=by
    have h1:=f5.out.ext.size;have h2:=G.out;exact ⟨HZ.out,h1⟩
   have a9:=zh O;have b0:=zh e7;have b3:=zh a7;clear O e7
   go_wp2_with fail
   refine d5.out.mono ?_;rintro e w7 ⟨rfl,g0⟩;have c8:za w2 w7:=Below.trans b3.out (g0.below b3.out.size (fun b hb=>by have:=i9.out;omega));have b4:=zh c8;have V:=zh (a8.out.ext c8);have z0:=V.out.cell (k:=0) rfl;have z1:=V.out.cell (k:=1) rfl;have z2:=V.out.cell (k:=2) rfl;have fz:=fun j=>V.out.frozen j
   clear g0 d5 a7
   cases dn with
   | false=>
    have HR:Hid (resT m id s=([],.zero,53)):=by (show _=_);rw [b2.out,if_neg (by rw [<-a9.out];simp),if_pos b0.out.symm]
    clear c8
    go_wp2_with fail
    exact res_fin (E.out.trans b4.out) G.out.1 V.out (CV _ _) (Ce.zero _ _) HR.out rfl rfl rfl rfl
   | true=>
    have d7:=zh (d8.out a9.out.symm b0.out.symm w7 (E.out.trans b4.out));obtain ⟨er,e8⟩:∃e,e=(zA m).1:=⟨_,rfl⟩;rw [<-e8] at d7;have d6:=zh e8;clear e8 z0 z1 z2 fz
    go_wp2_with fail
    refine d7.out.mono ?_;rintro e w8 ⟨vq,rfl,g1,e5⟩;obtain ⟨As,cs,Ak,ck,rfl,-⟩:=e5.form;have i3:Hid (Ce w8 (fun b=>w.heap.size<=b/\b≠gp) _ (zA m).2):=e5.wk fun b hb _=>by have h1:=G.out;have h2:=b4.out.size;have h3:=E.out.size;omega
    have d9:Hid (za w2 w8):=b4.out.trans g1;have b7:za w8 (w8.alloc (.cells #[.int .i64 (zA m).2.task,.slice As (zA m).2.side.length cs,.slice Ak (zA m).2.kids.length ck] 41)):=(za.refl w8).alloc _;have I:=zh (a8.out.ext (d9.out.trans b7));have e0:Hid (za w2 _):=d9.out.trans b7;have z0:=I.out.cell (k:=0) rfl;have z1:=I.out.cell (k:=1) rfl;have z2:=I.out.cell (k:=2) rfl;have fz:=fun j=>I.out.frozen j
    clear e5 g1 d7 c8;by_cases D:er=0
    ·have j2:(er != 0)=false:=by simp [D]
     have HR:Hid (resT m id s=([],(zA m).2,54)):=by (show _=_);rw [b2.out,if_neg (by rw [<-a9.out];simp),if_neg (by rw [<-b0.out];simp),if_neg (by rw [<-d6.out,D];simp)]
     clear D;have e1:=ze.new w8 #[.int .i64 (zA m).2.task,.slice As (zA m).2.side.length cs,.slice Ak (zA m).2.kids.length ck] 41 (g:=w8.heap.size) rfl;have g8:gp≠w8.heap.size:=by have h1:=G.out;have h2:=d9.out.size;omega
     have f6:=zh (i3.out.ext b7);clear z0 z1 z2 fz;go_upto_region 15 with fail;generalize w8.alloc _=w9 at I e0 f6 e1 b7⊢;generalize w8.heap.size=g9 at e1 g8⊢;have a6:g9≠gp:=fun e=>g8 e.symm
     have h7:Hid (ze w9.drew g9 41 #[.int .i64 (zA m).2.task,.slice As (zA m).2.side.length cs,.slice Ak (zA m).2.kids.length ck]):=e1;refine Cj fun Q' hP j1=>?_;refine zB (S:=(fun W=>ze W g9 41 #[.int .i64 (zA m).2.task,.slice As (zA m).2.side.length cs,.slice Ak (zA m).2.kids.length ck])) zG (h7.out) fun zH=>?_;have b8:za w9 w9.drew:=(za.refl w9).drew;generalize w9.drew=wd at zH b8⊢;have a3:=zh (I.out.ext b8);have i7:Hid (za w2 wd):=e0.out.trans b8;have i4:=zh (f6.out.ext b8);refine rlU 0 ?v1 hP zH ?y1 ?_
     case y1=>(intro w e6;have q0:=ze.cell (k:=0) e6 rfl;have q1:=ze.cell (k:=1) e6 rfl;have q2:=ze.cell (k:=2) e6 rfl;go_simp;try with_reducible rfl)
     simp only [zc,Fv];refine AQ 1 hP zH ?_;simp only [zc,Fv];refine EM 2 fun K hK=>?_;go_simp;have z0:=a3.out.cell (k:=0) rfl;have z1:=a3.out.cell (k:=1) rfl;have z2:=a3.out.cell (k:=2) rfl;have fz:=fun j=>a3.out.frozen j
     go_simp;clear z0 z1 z2 fz;go_simp;refine zaJ hK (((ze.setOther (a:=⟨gp,0,none⟩) zH a6 _).setOther (a:=⟨gp,1,none⟩) a6 _).setOther (a:=⟨gp,2,none⟩) a6 _) fun zH=>?_;clear hK K;try simp only [zc,Fv]
     refine rlZ 3 fun K hK=>?_;go_simp;go_simp;refine hK.out _ _ ?_;clear hK K;refine zP (by kernel_rfl) ?_ _;subst j1;go_wp2;exact res_fin (E.out.trans i7.out) G.out.1 a3.out (CV _ _) i4.out HR.out rfl rfl rfl rfl
    ·have j2:(er != 0)=true:=by simp [D]
     have HR:Hid (resT m id s=([],.zero,er)):=by (show _=_);rw [b2.out,if_neg (by rw [<-a9.out];simp),if_neg (by rw [<-b0.out];simp),if_pos (by rw [<-d6.out];exact D),d6.out]
     clear D
     go_wp2_with fail
     exact res_fin (E.out.trans e0.out) G.out.1 I.out (CV _ _) (Ce.zero _ _) HR.out rfl rfl rfl rfl
theorem jResult_calls {ok:Nat->Prop} {m:MZ} {s:List UInt8} (w:World) (J:zv w) (hm:Bx w ok v m ns) (I:CP m ns) (G:Lens m) (E:AV m=0) (D:s.length<=40000000)
  (M:∀x,Aa m (zx (BB (zr m ns))) (BB (zr m ns)) s=some x->x.steps<=20000)
  (o:∀x,Aa m (zx (BB (zr m ns))) (BB (zr m ns)) s=some x->zV m x.ch=false->(loadS m x.ch x.steps).done=true->MakeC w v m):
  Calls Tryz.prog 71 #[v,.string ⟨s.toArray⟩] w (ResPost w m (BB (zr m ns)) s):=by
 refine (EZ w J ⟨hm,G,fun _=>I⟩ D fun _=>o).mono ?_;rintro e w' ⟨vp,vr,rfl,h⟩;unfold resT at h⊢;rw [if_pos E] at h⊢;exact ⟨vp,vr,rfl,h⟩
def MakeQ (w:World) (v:Value) (m:MZ):Prop:=∀W,za w W->Calls Tryz.prog 20 #[v] W fun e w'=>∃v',e=.returned (.tuple #[v',.int .i64 (zA m).1])/\za W w'/\Ce w' (fun b=>W.heap.size<=b) v' (zA m).2
theorem resq_fin {w:World} {m:MZ} {s:List UInt8} (M:za w wq) (U:w.heap.size<=gp) (o:ze wq gp 41 #[a0,a1,a2])
  (Q:zU wq (fun b=>w.heap.size<=b/\b≠gp) vp ps) (hp:Ce wq (fun b=>w.heap.size<=b/\b≠gp) (.agg #[x,y,z]) p) (G:resT m id s=(ps,p,n))
  (h4:a.tmps[4]?=some vp) (I:a.tmps[5]?=some (.pointer (some ⟨gp,0,none⟩))) (J:a.tmps[6]?=some (.int .i64 n)) (O:a.defers=[]):
  bodyPost Tryz.prog Tryz.f78 (ResX w (resT m id s)) Exit.ret a (((wq.setCell ⟨gp,0,none⟩ x).setCell ⟨gp,1,none⟩ y).setCell ⟨gp,2,none⟩ z):=by
 have D:=((o.set (k:=0) x).set (k:=1) y).set (k:=2) z;have E:zu (fun b=>b=gp) wq (((wq.setCell ⟨gp,0,none⟩ x).setCell ⟨gp,1,none⟩ y).setCell ⟨gp,2,none⟩ z):=(((zu.refl (fun b=>b=gp) _).set gp 0 _ rfl).set gp 1 _ rfl).set gp 2 _ rfl;generalize ((wq.setCell ⟨gp,0,none⟩ x).setCell ⟨gp,1,none⟩ y).setCell ⟨gp,2,none⟩ z=WZ at D E⊢;have c0:WZ.cell? ⟨gp,0,none⟩=some x:=D.cell (k:=0) rfl;have c1:WZ.cell? ⟨gp,1,none⟩=some y:=D.cell (k:=1) rfl;have c2:WZ.cell? ⟨gp,2,none⟩=some z:=D.cell (k:=2) rfl;have e4:a.tmps.getD 4 undef=vp:=by rw [Array.getD_eq_getD_getElem?,h4];rfl
 have e5:a.tmps.getD 5 undef=.pointer (some ⟨gp,0,none⟩):=by rw [Array.getD_eq_getD_getElem?,I];rfl
 have e6:a.tmps.getD 6 undef=.int .i64 n:=by rw [Array.getD_eq_getD_getElem?,J];rfl
 refine za5 (v:=.tuple #[vp,.agg #[x,y,z],.int .i64 n]) (by simp [results,Tryz.results78,go_sem,h4,I,J,e4,e5,e6,c0,c1,c2]) O ⟨vp,_,by rw [G],Below.trans M (E.below M.size fun b e=>by omega),?_,?_⟩
 ·rw [G];exact (Q.keep (E.same fun b o e=>o.2 e)).weaken fun b o=>o.1
 ·rw [G];exact hp.keepW (E.same fun b o e=>o.2 e) fun b o=>o.1
theorem mResultT_calls {ok:Nat->Prop} {m:MZ} {s:List UInt8} (w:World) (h:JP w ok v m ns) (f0:s.length<=40000000)
  (e9:AV m=0->∀x,Aa m (zx (BB (zr m ns))) (BB (zr m ns)) s=some x->zV m x.ch=false->(loadS m x.ch x.steps).done=true->MakeQ w v m):
  Calls Tryz.prog 78 #[v,.string ⟨s.toArray⟩] w (ResX w (resT m (BB (zr m ns)) s)):=by
 obtain ⟨⟨x,er⟩,hp⟩:∃p,p=opT m (BB (zr m ns)) s:=⟨_,rfl⟩;have HO:Hid (∀W,za w W->Calls Tryz.prog 87 #[v,.string ⟨s.toArray⟩] W (QOpX W (x,er))):=fun W hE=>by rw [hp];exact EE W (h.below hE) f0
 have i4:=zh f0;have HM:=zh h.hm;have HL:=zh h.hl;obtain ⟨f,u,t,rfl,⟨_,⟨Af,cf,rfl,-,-⟩,-⟩,⟨Au,cu,rfl,-,-⟩,⟨-,_,⟨At,ct,rfl,-,-⟩,-⟩⟩:=_root_.id h.hm;have a6:(BB (zr m ns)).length=8:=Aw _;obtain ⟨id,hid⟩:∃x,x=BB (zr m ns):=⟨_,rfl⟩;rw [<-hid] at hp a6 e9⊢;have h8:=zh a6;have d9:=zh e9;have HP:=zh hp.symm;clear h f0 hid a6 e9 hp
 go_enter Tryz.func78,Tryz.ntmps78
 go_upto_region 1 with fail;obtain ⟨b7,r0,r1,r2,r3,r4,r5⟩:=CO w m Af cf Au cu At ct;have c9:(w.alloc (.cells (Fr m Af cf Au cu At ct) 32)).heap.size=w.heap.size+1:=by simp
 simp only [Fr] at b7 r0 r1 r2 r3 r4 r5 c9;generalize w.alloc _=w1 at b7 r0 r1 r2 r3 r4 r5 c9⊢;have J:=ze.new w1 #[.int .i64 0,.slice none 0 0,.slice none 0 0] 41 (g:=w1.heap.size) rfl;have o:za w1 (w1.alloc (.cells #[.int .i64 0,.slice none 0 0,.slice none 0 0] 41)):=(za.refl w1).alloc _;generalize w1.alloc _=w2 at J o⊢;rw [c9] at J;obtain ⟨gp,g1⟩:∃g,g=w.heap.size+1:=⟨_,rfl⟩;rw [<-g1] at J⊢;have a9:=zh J;have G:Hid (w.heap.size<=gp/\gp<w2.heap.size):=⟨by omega,zd J⟩;have E:Hid (za w w2):=b7.trans o;have r0:=fun W h=>r0 W (o.trans h)
 have r1:=fun W h=>r1 W (o.trans h)
 have r2:=fun W h=>r2 W (o.trans h)
 have r3:=fun W h=>r3 W (o.trans h)
 have r4:=fun W h=>r4 W (o.trans h)
 have r5:=fun W h=>r5 W (o.trans h)
 have g5:za w2 w2:=za.refl w2;clear b7 o c9 J g1
 go_wp2_with fail
 refine (HO.out _ E.out).mono ?_;rintro e w3 ⟨Ac,nc,cc,rfl,e3,f9⟩;have h5:=zh f9;have c6:za w2 w3:=e3;clear f9;have M:za w3 (w3.alloc (.cells #[.slice Ac nc cc,.int .i64 x.steps,.string ⟨x.sg.toArray⟩,.int .i64 x.fin] 146)):=(za.refl w3).alloc _;by_cases D:er=0
 rotate_left
 ·have HR:Hid (resT m id s=([],.zero,er)):=resT_err HP.out D;have O:(er != 0)=true:=by simp [D]
  have b4:=zh (c6.trans M);have Q:=zh (a9.out.ext b4.out);have z0:=Q.out.cell (k:=0) rfl;have z1:=Q.out.cell (k:=1) rfl;have z2:=Q.out.cell (k:=2) rfl;have fz:=fun j=>Q.out.frozen j
  clear e3 M D g5 c6
  go_wp2_with fail
  exact resq_fin (E.out.trans b4.out) G.out.1 Q.out (CV _ _) (Ce.zero _ _) HR.out rfl rfl rfl rfl
 ·subst D;obtain ⟨c0,ho⟩:=opT_ok HP.out;have HC:=zh c0;obtain ⟨hb,g3,j5⟩:=open_b HC.out h8.out ho;have d9:=zh (d9.out c0 x ho);have b3:Hid (resT m id s=if zV m x.ch=true then (Cm m x.ch,.zero,0) else if (loadS m x.ch x.steps).done=false then ([],.zero,53) else if (zA m).1≠0 then ([],.zero,(zA m).1) else ([],(zA m).2,54)):=by (show _=_);unfold resT;rw [if_pos c0];unfold resF;rw [ho]
  have HB:=zh hb;have d7:=zh g3;clear e3 ho hb g3 j5 c0;go_upto_region 4 with fail;have b6:=ze.new w3 #[.slice Ac nc cc,.int .i64 x.steps,.string ⟨x.sg.toArray⟩,.int .i64 x.fin] 146 (g:=w3.heap.size) rfl;generalize w3.alloc _=w4 at b6 M⊢;generalize w3.heap.size=gx at b6⊢;generalize w.heap.size=gm at r0 r1 r2 r3 r4 r5⊢;have c7:za w2 w4:=c6.trans M;obtain ⟨k0,k1,k2,k3⟩:=DX (x:=x) b6;have i5:Hid (za w w4):=E.out.trans c7;have b4:=zh c7;have h6:=zh (h5.out.below M)
  have f4:Hid (Calls Tryz.prog 137 #[.agg #[.int .i64 m.w,.int .i64 m.h,.int .i64 m.l,.slice Af m.free.length cf,.slice Au m.up.length cu,.slice At m.tasks.length ct],.slice Ac nc cc,.int .i64 x.steps] w4 fun e w'=>∃g,e=.returned (.tuple #[.pointer (some ⟨g,0,none⟩),.int .i64 0])/\QI w4 w' g m (loadS m x.ch x.steps)):=by
   refine (Fi x.steps w4 (HM.out.maze.below i5.out) HL.out h6.out (by have:=HB.out.cl;have:=i4.out;show x.ch.length<=_;omega)).mono ?_;rintro e w' ⟨v',rfl,hE,hq⟩;rw [d7.out];rcases hq with ⟨h1,-⟩ | ⟨-,-,-,gq,rfl,j3,hq⟩
   ·exact absurd d7.out h1
   ·exact ⟨gq,rfl,hq.weaken (fun b hb=>hb.2) (fun h=>h rfl),hE,j3,(BZ d7.out).2⟩
  clear c6 M b6 g5 k2 k3
  go_wp2_with fail
  refine f4.out.mono ?_;rintro e w5 ⟨g,rfl,a5⟩;have i0:=zh a5;have f1:za w2 w5:=c7.trans a5.ext;have f3:=zh (qFound_calls w5 a5.rt HC.out HL.out a5.inv.ch);clear a5 f4 c7 k0 k1;obtain ⟨cb,O⟩:∃b,b=zV m x.ch:=⟨_,rfl⟩
  go_wp2_with fail
  refine f3.out.mono ?_;rintro e w6 ⟨vp,rfl,e4,a4⟩;rw [show zV m (loadS m x.ch x.steps).ch=cb from O.symm];have a4:zU w6 (fun b=>w5.heap.size<=b) vp (Cm m x.ch):=a4;obtain ⟨_,⟨Ap,cp,rfl,-,-⟩,-⟩:=_root_.id a4;have h7:=zh a4;have i1:=zh (i0.out.more e4);have a8:za w2 w6:=f1.trans e4;have i6:=zh f1;have U:=zh (a9.out.ext a8);clear e4 a4 f1 f3
  cases cb with
  | true=>
   have HR:Hid (resT m id s=(Cm m x.ch,.zero,0)):=by (show _=_);rw [b3.out,if_pos O.symm]
   have z0:=U.out.cell (k:=0) rfl;have z1:=U.out.cell (k:=1) rfl;have z2:=U.out.cell (k:=2) rfl;have fz:=fun j=>U.out.frozen j
   have f6:=zh a8;clear O a8
   go_wp2_with fail
   refine resq_fin (E.out.trans f6.out) G.out.1 U.out (h7.out.weaken fun b hb=>?_) (Ce.zero _ _) HR.out rfl rfl rfl rfl;have h1:=G.out;have h2:=i6.out.size;have h3:=E.out.size;omega
  | false=>
   obtain ⟨dn,e7⟩:∃b,b=(loadS m x.ch x.steps).done:=⟨_,rfl⟩
   have d5:Hid (Calls Tryz.prog 105 #[.pointer (some ⟨g,0,none⟩),.int .i64 0] w6 fun e w'=>e=.returned (.bool dn)/\za w4 w'):=by
    rw [e7];exact (i1.out.step (zZ.of HC.out) HL.out 0 (by omega) (.inl rfl)).mono fun e w' h=>⟨h.1,h.2.ext⟩
   have b0:=zh O;have b1:=zh e7;have f6:=zh a8;clear O e7
   go_wp2_with fail
   refine d5.out.mono ?_;rintro e w7 ⟨rfl,f7⟩;have c8:za w2 w7:=b4.out.trans f7;have b5:=zh c8;have V:=zh (a9.out.ext c8);have z0:=V.out.cell (k:=0) rfl;have z1:=V.out.cell (k:=1) rfl;have z2:=V.out.cell (k:=2) rfl;have fz:=fun j=>V.out.frozen j
   clear f7 d5 a8
   cases dn with
   | false=>
    have HR:Hid (resT m id s=([],.zero,53)):=by (show _=_);rw [b3.out,if_neg (by rw [<-b0.out];simp),if_pos b1.out.symm]
    clear c8
    go_wp2_with fail
    exact resq_fin (E.out.trans b5.out) G.out.1 V.out (CV _ _) (Ce.zero _ _) HR.out rfl rfl rfl rfl
   | true=>
    have d8:=zh (d9.out b0.out.symm b1.out.symm w7 (E.out.trans b5.out));obtain ⟨er,e8⟩:∃e,e=(zA m).1:=⟨_,rfl⟩;rw [<-e8] at d8;have d6:=zh e8;clear e8 z0 z1 z2 fz
    go_wp2_with fail
    refine d8.out.mono ?_;rintro e w8 ⟨vq,rfl,f8,e5⟩;obtain ⟨As,cs,Ak,ck,rfl,-⟩:=e5.form;have i2:Hid (Ce w8 (fun b=>w.heap.size<=b/\b≠gp) _ (zA m).2):=e5.wk fun b hb _=>by have h1:=G.out;have h2:=b5.out.size;have h3:=E.out.size;omega
    have e0:Hid (za w2 w8):=b5.out.trans f8;have b8:za w8 (w8.alloc (.cells #[.int .i64 (zA m).2.task,.slice As (zA m).2.side.length cs,.slice Ak (zA m).2.kids.length ck] 41)):=(za.refl w8).alloc _;have I:=zh (a9.out.ext (e0.out.trans b8));have e1:Hid (za w2 _):=e0.out.trans b8;have z0:=I.out.cell (k:=0) rfl;have z1:=I.out.cell (k:=1) rfl;have z2:=I.out.cell (k:=2) rfl;have fz:=fun j=>I.out.frozen j
    clear e5 f8 d8 c8;by_cases D:er=0
    ·have j2:(er != 0)=false:=by simp [D]
     have HR:Hid (resT m id s=([],(zA m).2,54)):=by (show _=_);rw [b3.out,if_neg (by rw [<-b0.out];simp),if_neg (by rw [<-b1.out];simp),if_neg (by rw [<-d6.out,D];simp)]
     clear D;have e2:=ze.new w8 #[.int .i64 (zA m).2.task,.slice As (zA m).2.side.length cs,.slice Ak (zA m).2.kids.length ck] 41 (g:=w8.heap.size) rfl;have g4:gp≠w8.heap.size:=by have h1:=G.out;have h2:=e0.out.size;omega
     have f5:=zh (i2.out.ext b8);clear z0 z1 z2 fz;go_upto_region 14 with fail;generalize w8.alloc _=w9 at I e1 f5 e2 b8⊢;generalize w8.heap.size=g9 at e2 g4⊢;have a7:g9≠gp:=fun e=>g4 e.symm
     have g8:Hid (ze w9.drew g9 41 #[.int .i64 (zA m).2.task,.slice As (zA m).2.side.length cs,.slice Ak (zA m).2.kids.length ck]):=e2;refine Cj fun Q' hP j1=>?_;refine zB (S:=(fun W=>ze W g9 41 #[.int .i64 (zA m).2.task,.slice As (zA m).2.side.length cs,.slice Ak (zA m).2.kids.length ck])) zG (g8.out) fun zH=>?_;have b9:za w9 w9.drew:=(za.refl w9).drew;generalize w9.drew=wd at zH b9⊢;have a3:=zh (I.out.ext b9);have i7:Hid (za w2 wd):=e1.out.trans b9;have i3:=zh (f5.out.ext b9);refine rlU 0 ?v1 hP zH ?y1 ?_
     case y1=>(intro w e6;have q0:=ze.cell (k:=0) e6 rfl;have q1:=ze.cell (k:=1) e6 rfl;have q2:=ze.cell (k:=2) e6 rfl;go_simp;try with_reducible rfl)
     simp only [zc,Fv];refine AQ 1 hP zH ?_;simp only [zc,Fv];refine EM 2 fun K hK=>?_;go_simp;have z0:=a3.out.cell (k:=0) rfl;have z1:=a3.out.cell (k:=1) rfl;have z2:=a3.out.cell (k:=2) rfl;have fz:=fun j=>a3.out.frozen j
     go_simp;clear z0 z1 z2 fz;go_simp;refine zaJ hK (((ze.setOther (a:=⟨gp,0,none⟩) zH a7 _).setOther (a:=⟨gp,1,none⟩) a7 _).setOther (a:=⟨gp,2,none⟩) a7 _) fun zH=>?_;clear hK K;try simp only [zc,Fv]
     refine rlZ 3 fun K hK=>?_;go_simp;go_simp;refine hK.out _ _ ?_;clear hK K;refine zP (by kernel_rfl) ?_ _;subst j1;go_wp2;exact resq_fin (E.out.trans i7.out) G.out.1 a3.out (CV _ _) i3.out HR.out rfl rfl rfl rfl
    ·have j2:(er != 0)=true:=by simp [D]
     have HR:Hid (resT m id s=([],.zero,er)):=by (show _=_);rw [b3.out,if_neg (by rw [<-b0.out];simp),if_neg (by rw [<-b1.out];simp),if_pos (by rw [<-d6.out];exact D),d6.out]
     clear D
     go_wp2_with fail
     exact resq_fin (E.out.trans e1.out) G.out.1 I.out (CV _ _) (Ce.zero _ _) HR.out rfl rfl rfl rfl
end
end Go.Proofs.YtjomnbdjajjgfaaGreatDoor
