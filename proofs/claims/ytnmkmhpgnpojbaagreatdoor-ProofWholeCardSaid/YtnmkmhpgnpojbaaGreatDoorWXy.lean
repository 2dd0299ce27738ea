import Derived.Test.YtnmkmhpgnpojbaaGreatDoorWXw
import Derived.Test.YtnmkmhpgnpojbaaGreatDoorWXx
import Derived.Laws.EntriesVeiled
set_option linter.unusedVariables false
set_option linter.unusedSimpArgs false
set_option maxRecDepth 100000
set_option maxHeartbeats 16000000
namespace Go.Proofs.YtnmkmhpgnpojbaaGreatDoor
variable {t:Int} {ch s:List Int} {m:MZ} {g g2 go gp tk:Nat} {ok okp:Nat->Prop} {p:PT} {a b c f ts u v vc vp vs:Value} {w:World}
section
open Go.RowKit
def yP:PT:=.node 1 [] []
def yCut:PT:=.node 0 [] [.node 0 [] [.node 1 [1,2,5,8] []]]
def BW:PT:=.node 0 [] [.node 0 [] [yP,yCut]]
theorem ym1:(makeX (exM 6 8)).1=51:=by decide +kernel
theorem ym2:makeX (exM 4 8)=(0,yP):=by kernel_rfl
theorem ym3:makeX (exM 1 7)=(0,BW):=by kernel_rfl
theorem yk1:Az (exM 4 8) yP=true:=by decide +kernel
theorem yk2:Az (exM 6 8) yP=false:=by decide +kernel
theorem yk3:Az (exM 1 7) BW=true:=by decide +kernel
theorem yk4:Az (exM 1 7) yP=false:=by decide +kernel
theorem yz:BW.size=6:=by decide +kernel
theorem yl0:yP.Lens:=by simp [yP,PT.Lens,PT.LensL]
theorem yl1:BW.Lens:=by simp [BW,yP,yCut,PT.Lens,PT.LensL]
theorem yd1:decR (encP BW)=(0,BW):=by kernel_rfl
theorem yd2:(decR (encP BW++[120])).1=4:=by decide +kernel
theorem yel:(encP BW).length<=1000:=by decide +kernel
theorem yok:BW.Ok:=by
 have h:∀x:Int,x∈[(1:Int),2,5,8]->I64 x:=by
  intro x d;simp only [Ef,Eo,or_false] at d;rcases d with rfl | rfl | rfl | rfl <;> exact ⟨by decide,by decide⟩
 have h0:I64 0:=⟨by decide,by decide⟩;have o:I64 1:=⟨by decide,by decide⟩;simp [BW,yP,yCut,PT.Ok,PT.OkL,h0,o];exact ⟨h 2 (by simp),h 5 (by simp),h 8 (by simp)⟩
theorem ysp:BL yP yP=true:=CS _
theorem Bn.leaf (w:World) (ok:Nat->Prop) (t:Int):Bn w ok (.agg #[.int .i64 t,.slice none 0 0,.slice none 0 0]) (.node t [] []):=
 .mk (cs:=[]) (zk.nil _ _) ⟨none,0,rfl,Dq _,AI.nil _ _ _ _⟩ (fun i d=>absurd d (by simp))
theorem Bn.one (t:Int) (d:ze w g 41 #[a,b,c]) (o:ok g) (h:Bn w ok (.agg #[a,b,c]) p):Bn w ok (.agg #[.int .i64 t,.slice none 0 0,.slice (some ⟨g,0,none⟩) 1 1]) (.node t [] [p]):=
 .mk (cs:=[a,b,c]) (zk.nil _ _) ⟨_,_,rfl,Dq _,rfl,fun _=>⟨g,0,rfl,o,fun j u B=>by rw [Nat.zero_add];exact ze.cell (cs:=#[a,b,c]) d (by simpa using B)⟩⟩ (fun i z=>by
  match i,z with
  | 0,_=>exact h)
theorem Bn.two {d e:Value} {q:PT} (t:Int) (z:ze w g 41 #[a,b,c,d,e,f]) (B:ok g) (h:Bn w ok (.agg #[a,b,c]) p) (o:Bn w ok (.agg #[d,e,f]) q):Bn w ok (.agg #[.int .i64 t,.slice none 0 0,.slice (some ⟨g,0,none⟩) 2 2]) (.node t [] [p,q]):=
 .mk (cs:=[a,b,c,d,e,f]) (zk.nil _ _) ⟨_,_,rfl,Dq _,rfl,fun _=>⟨g,0,rfl,B,fun j u E=>by rw [Nat.zero_add];exact ze.cell (cs:=#[a,b,c,d,e,f]) z (by simpa using E)⟩⟩ (fun i D=>by
  match i,D with
  | 0,_=>exact h
  | 1,_=>exact o)
theorem ywant_mem {W:World} {H:Nat} (b0:ze W H 3 #[.int .i64 1,.int .i64 2,.int .i64 5,.int .i64 8]) (b1:ze W (H+1) 41 #[.int .i64 1,.slice (some ⟨H,0,none⟩) 4 4,.slice none 0 0]) (b2:ze W (H+2) 41 #[.int .i64 0,.slice none 0 0,.slice (some ⟨H+1,0,none⟩) 1 1])
  (b4:ze W (H+4) 41 #[.int .i64 1,.slice none 0 0,.slice none 0 0,.int .i64 0,.slice none 0 0,.slice (some ⟨H+2,0,none⟩) 1 1]) (b5:ze W (H+5) 41 #[.int .i64 0,.slice none 0 0,.slice (some ⟨H+4,0,none⟩) 2 2]):
  Bn W (fun b=>H<=b) (.agg #[.int .i64 0,.slice none 0 0,.slice (some ⟨H+5,0,none⟩) 1 1]) BW:=by
 have d:Bn W (fun b=>H<=b) (.agg #[.int .i64 1,.slice (some ⟨H,0,none⟩) 4 4,.slice none 0 0]) (.node 1 [1,2,5,8] []):=
  .mk (cs:=[]) ⟨_,_,rfl,Dq _,AI.block (cs:=#[.int .i64 1,.int .i64 2,.int .i64 5,.int .i64 8]) b0 (Dq _) rfl⟩ ⟨none,0,rfl,Dq _,AI.nil _ _ _ _⟩ (fun i o=>absurd o (by simp))
 exact .one 0 b5 (by omega) (.two 0 b4 (by omega) (.leaf _ _ 1) (.one 0 b2 (by omega) (.one 0 b1 (by omega) d)))
end
section
open Go.RowKit
attribute [local go_sem ↓] Go.wp_at_zero Go.wp_at_succ
theorem indexFuncX_calls {l:List Int} (n:FuncId) (caps:Array Value) (p:Int->Bool) (w:World) (h:zk w ok v l) (hl:l.length<=20000000000000)
  (a1:∀(a:Array Value) (w:World),(callFunc n a).run Tryz.prog w=.ok (.enter n a) w)
  (hp:∀x∈l,∀w1,zb w w1->Calls Tryz.prog n (#[.int .i64 x]++caps) w1 fun e w'=>e=.returned (.bool (p x))/\zb w1 w'):
  Calls Tryz.prog 195 #[v,.func (.func n) #[] caps] w fun e w'=>∃r:Int,e=.returned (.int .i64 r)/\(0<=r↔l.any p=true)/\-1<=r/\zb w w':=by
 obtain ⟨A,c,rfl,hc,U⟩:=h;have HR:=zh U;clear U;have V:=zh hp;clear hp
 go_enter Tryz.func195,Tryz.ntmps195
 go_wp2_with fail
 go_loopw [8] (fun i wr=>∃k:Nat,k<=l.length/\i=.int .i64 k/\Hid ((l.take k).any p=false)/\Hid (zb w wr)) (fun i _=>l.length - (intOf i).toNat)
 case atStart=>exact ⟨0,DF _,rfl,by simp [Hid],zb.refl _⟩
 case round=>
  obtain ⟨k,hk,rfl,Q,K⟩:=hrel;by_cases I:k<l.length
  ·obtain ⟨b,off,rfl,_,G⟩:=Ao (HR.out.keep (zN.of_below K.out)) I I;obtain ⟨x,M⟩:=Ez (l[k]);rw [<-M] at G;have L:x∈l:=by rw [M];exact Dr _
   have B:=zh (Bm p I);rw [<-M] at B;clear M;have d:=zh (V.out x L wr K.out);by_cases z:p x=true
   ·go_wp2_with fail
    refine d.out.mono ?_;rintro e w1 ⟨rfl,o⟩;rw [z];have D:=zh (K.out.trans o);clear o;have E:=zh z;clear z
    go_wp2_with fail
    go_ret;refine ⟨_,rfl,⟨fun _=>?_,fun _=>by omega⟩,by omega,D.out⟩;rw [Eu];exact ⟨x,L,E.out⟩
   ·have J:p x=false:=by simpa using z
    clear z
    go_wp2_with fail
    refine d.out.mono ?_;rintro e w1 ⟨rfl,o⟩;rw [J];have D:=zh (K.out.trans o);clear o;have E:=zh J;clear J
    go_wp2_with fail
    go_roundw
    case rel=>exact ⟨k+1,by omega,by go_num,by
     show _=false;rw [B.out,Q.out,E.out];rfl,D⟩
    case measure=>simp [intOf];omega
  ·obtain rfl:k=l.length:=by omega
   go_wp2;go_ret;have h:=Q.out;rw [DC] at h;refine ⟨_,rfl,⟨fun O=>by omega,fun O=>?_⟩,by omega,K.out⟩;rw [h] at O
   cases O
theorem Bg {l:List (Int)} (n:FuncId) (caps:Array Value) (p:Int->Bool) (w:World) (h:zk w ok v l) (E:l.length<=20000000000000) (o:∀(a:Array Value) (w:World),(callFunc n a).run Tryz.prog w=.ok (.enter n a) w)
  (hp:∀x∈l,∀w1,zb w w1->Calls Tryz.prog n (#[.int .i64 x]++caps) w1 fun e w'=>e=.returned (.bool (p x))/\zb w1 w'):
  Calls Tryz.prog 145 #[v,.func (.func n) #[] caps] w fun e w'=>e=.returned (.bool (l.any p))/\zb w w':=by
 have H:=zh (indexFuncX_calls n caps p w h E o hp);clear hp;obtain ⟨A,c,rfl,I,d⟩:=h;clear d
 go_enter Tryz.func145,Tryz.ntmps145
 go_wp2_with fail
 refine H.out.mono ?_;rintro e w1 ⟨r,rfl,d,G,z⟩;have D:=zh d;clear d;have B:=zh z;clear z
 go_wp2_with fail
 go_ret;refine ⟨zl ?_,B.out⟩;rw [Bool.eq_iff_iff,decide_eq_true_iff];exact D.out
structure CutV (w:World) (ok okp:Nat->Prop) (g2 gp go:Nat) (m:MZ) (f u ts vc vp:Value) (ch:List Int) (t:Int) (tk:Nat) (vs:Value) (s:List Int):Prop where
 st:PSt w ok m f u ts vc vp ch
 c0:w.cell? ⟨g2,0,none⟩=some (.int .i64 m.w)
 c1:w.cell? ⟨g2,1,none⟩=some (.int .i64 m.h)
 c2:w.cell? ⟨g2,2,none⟩=some (.int .i64 m.l)
 c3:w.cell? ⟨g2,3,none⟩=some f
 c4:w.cell? ⟨g2,4,none⟩=some u
 c5:w.cell? ⟨g2,5,none⟩=some ts
 c6:w.cell? ⟨g2,6,none⟩=some vc
 c7:w.cell? ⟨g2,7,none⟩=some vp
 c8:w.cell? ⟨g2,8,none⟩=some (.int .i64 t)
 p0:w.cell? ⟨gp,0,none⟩=some (.int .i64 tk)
 p1:w.cell? ⟨gp,1,none⟩=some vs
 sd:zk w okp vs s
 o0:w.cell? ⟨go,0,none⟩=some (.func (.func 200) #[] #[.pointer (some ⟨gp,0,none⟩)])
theorem CutV.more {w w':World} {ok okp:Nat->Prop} {g2 gp go:Nat} {m:MZ} {f u ts vc vp:Value} {ch:List Int} {t:Int} {tk:Nat} {vs:Value} {s:List Int} (h:CutV w ok okp g2 gp go m f u ts vc vp ch t tk vs s) (d:zb w w'):CutV w' ok okp g2 gp go m f u ts vc vp ch t tk vs s:=
 ⟨h.st.more d,d.cell h.c0,d.cell h.c1,d.cell h.c2,d.cell h.c3,d.cell h.c4,d.cell h.c5,d.cell h.c6,d.cell h.c7,d.cell h.c8,d.cell h.p0,d.cell h.p1,h.sd.below d,d.cell h.o0⟩
theorem cut1_calls (x:Int) (w:World) (B:w.cell? ⟨gp,1,none⟩=some vs) (d:zk w ok vs s) (z:s.length<=20000000000000):
  Calls Tryz.prog 200 #[.int .i64 x,.pointer (some ⟨gp,0,none⟩)] w fun e w'=>e=.returned (.bool (!decide (x∈s)))/\w=w':=by
 have o:=zh d;obtain ⟨As,cs,rfl,-,-⟩:=d
 go_enter Tryz.func200,Tryz.ntmps200
 go_wp2_with fail
 refine (zV x w o.out z).mono ?_;rintro e w9 ⟨rfl,rfl⟩
 go_wp2_with fail
 go_ret;exact ⟨rfl,rfl⟩
theorem cut21_calls (x:Int) (w:World) (h:CutV w ok okp g2 gp go m f u ts vc vp ch t tk vs s) (g:zE m) (z:ch.length<=20000000000000) (B:tk<m.free.length) (h0:0<=x) (I:x<m.n) (E:s.length<=20000000000000):
  Calls Tryz.prog 202 #[.int .i64 x,.pointer (some ⟨g2,0,none⟩),.pointer (some ⟨gp,0,none⟩),.pointer (some ⟨go,0,none⟩)] w fun e w'=>e=.returned (.bool ((zf m tk x && !decide (x∈ch)) && !decide (x∈s)))/\zb w w':=by
 have D:=zh (popen_calls t tk x w h.st g z B h0 I);have G:Hid (∀w9,zb w w9->Calls Tryz.prog 200 #[.int .i64 x,.pointer (some ⟨gp,0,none⟩)] w9 fun e w'=>e=.returned (.bool (!decide (x∈s)))/\w9=w'):=fun w9 J=>cut1_calls x w9 (J.cell h.p1) (h.sd.below J) E
 obtain ⟨c0,c1,c2,c3,c4,c5,c6,c7,c8,p0,p1,o0⟩:=(⟨h.c0,h.c1,h.c2,h.c3,h.c4,h.c5,h.c6,h.c7,h.c8,h.p0,h.p1,h.o0⟩:_/\_/\_/\_/\_/\_/\_/\_/\_/\_/\_/\_);clear h B h0 I g z;unfold Di at D;generalize (zf m tk x && !decide (x∈ch))=b at D⊢;generalize (!decide (x∈s))=d at G⊢
 go_enter Tryz.func202,Tryz.ntmps202
 go_wp2_with fail
 refine D.out.mono ?_;rintro e w1 ⟨rfl,o⟩;have o1:=o.cell o0;clear c0 c1 c2 c3 c4 c5 c6 c7 c8 p0 p1 o0 D
 cases b with
 | false=>
  go_wp2_with fail
  go_ret;exact ⟨rfl,o⟩
 | true=>
  go_wp2_with fail
  refine (G.out w1 o).mono ?_;rintro e w2 ⟨rfl,rfl⟩
  go_wp2_with fail
  go_ret;exact ⟨by simp,o⟩
theorem cut2_calls (x:Int) (w:World) (h:CutV w ok okp g2 gp go m f u ts vc vp ch t tk vs s) (g:zE m) (K:Lens m) (o:ch.length<=20000000000000) (z:tk<m.free.length) (I:s.length<=20000000000000):
  Calls Tryz.prog 201 #[.int .i64 x,.pointer (some ⟨g2,0,none⟩),.pointer (some ⟨gp,0,none⟩),.pointer (some ⟨go,0,none⟩)] w fun e w'=>e=.returned (.bool ((BK m x).any fun k=>(zf m tk k && !decide (k∈ch)) && !decide (k∈s)))/\zb w w':=by
 have H:=zh h;have J:=zh (rNext_calls x w h.st.maze K)
 have B:Hid (∀w9 v9,zb w w9->zk w9 (fun _=>True) v9 (BK m x)->Calls Tryz.prog 145 #[v9,.func (.func 202) #[] #[.pointer (some ⟨g2,0,none⟩),.pointer (some ⟨gp,0,none⟩),.pointer (some ⟨go,0,none⟩)]] w9 fun e w'=>e=.returned (.bool ((BK m x).any fun k=>(zf m tk k && !decide (k∈ch)) && !decide (k∈s)))/\zb w9 w'):=fun w9 v9 O U=>
  Bg 202 _ _ w9 U (by have:=nextO_len m x;omega) (zX Tryz.func202 rfl rfl) fun y V w8 M=>by
   have L:=nextO_rng g V;exact cut21_calls y w8 (H.out.more (O.trans M)) g o z L.1 L.2 I
 obtain ⟨c0,c1,c2,c3,c4,c5⟩:=(⟨h.c0,h.c1,h.c2,h.c3,h.c4,h.c5⟩:_/\_/\_/\_/\_/\_);clear h g o z K;generalize Q:((BK m x).any fun k=>(zf m tk k && !decide (k∈ch)) && !decide (k∈s))=R at B⊢;clear Q
 go_enter Tryz.func201,Tryz.ntmps201
 go_wp2_with fail
 refine J.out.mono ?_;rintro e w1 ⟨v1,rfl,d⟩;have E:=zh d.ext;have D:=zh (B.out w1 v1 d.ext (d.ints.weaken fun _ _=>trivial));obtain ⟨A1,k1,rfl,-⟩:=d.slice;clear d B J H c0 c1 c2 c3 c4 c5
 go_wp2_with fail
 refine D.out.mono ?_;rintro e w2 ⟨rfl,G⟩
 go_wp2_with fail
 go_ret;exact ⟨rfl,E.out.trans G⟩
theorem step_last {N:Int} {tg:List Int} {k:Nat} (D:∀j,j<k->Cv N tg s j):Cv N tg s k↔((-1:Int) :: s).getD k 0<s.getD k 0/\s.getD k 0<N/\s.getD k 0∉tg:=by
 unfold Cv
 cases k with
 | zero=>
  rw [List.getD_cons_zero];constructor
  ·rintro ⟨z,d,-,B⟩;exact ⟨by omega,d,B⟩
  ·rintro ⟨z,d,o⟩;exact ⟨by omega,d,fun h=>by omega,o⟩
 | succ k=>
  rw [List.getD_cons_succ];have h0:=(D k (by omega)).1;constructor
  ·rintro ⟨z,d,o,B⟩;exact ⟨o (by omega),d,B⟩
  ·rintro ⟨z,d,o⟩;exact ⟨by omega,d,fun _=>z,o⟩
theorem wall_any (m:MZ) (ch:List Int) (t:Nat) (s:List Int):wallB m ch t s=!(s.any fun n=>(BK m n).any fun k=>(zf m t k && !decide (k∈ch)) && !decide (k∈s)):=by
 unfold wallB;rw [List.not_any_eq_all_not];congr 1;funext n;rw [List.not_any_eq_all_not];congr 1;funext k
 cases (zf m t k && !decide (k∈ch)) <;> simp
theorem pcut_calls {vpr:Value} (w:World) (h:PSt w ok m f u ts vc vp ch) (hl:Lens m) (hc:AS m=0) (hi:zr m ch) (hp:Bn w okp vpr p) (a5:p.side.length<=20000000000000):
  Calls Tryz.prog 148 #[Di m f u ts vc vp (zO m ch),vpr] w fun e w'=>e=.returned (.bool (cutB m ch p.task p.side p.kids.length))/\zb w w':=by
 have H:=zh h;have HL:=zh hl;have HC:=zh hc;have HI:=zh hi;have G:=zh (zE.of hc);have j7:=(AN hc hi).2.2.1;obtain ⟨Af,cf,Au,cu,At,ct,Ac,cc,Ap,cp,rfl,rfl,rfl,rfl,rfl,-,f2⟩:=h.parts;have h8:=zh f2;obtain ⟨As,cs,Ak,ck,rfl,M⟩:=hp.form;have U:=zh M;have k3:=hl.ts;clear h hl hc hi hp f2;obtain ⟨R,hR⟩:=Ez (cutB m ch p.task p.side p.kids.length);rw [<-hR];have a0:=zh hR;obtain ⟨tk,d4⟩:=Ez p.task;obtain ⟨s,hs⟩:=Ez p.side;obtain ⟨nk,c0⟩:=Ez p.kids.length;rw [<-d4,<-hs,<-c0] at a0;rw [<-hs] at U M a5;rw [<-d4,<-hs,<-c0];clear hR d4 hs c0;obtain ⟨c,b6⟩:=Ez (zO m ch);rw [<-b6];have d8:=zh b6;obtain ⟨PL,a8⟩:=Ez ((zp m ch).length);rw [<-a8] at H⊢;clear b6 a8;have h6:=zh (show AI w okp 1 As s.length (s.map (Value.int .i64)) from by obtain ⟨A',c',e,-,h⟩:=U.out;injection e with e1 e2 e3;rw [e1];exact h);clear M;unfold Di
 go_enter Tryz.func148,Tryz.ntmps148
 go_upto_region 1 with fail;obtain ⟨J,r0,r1,r2,r3,r4,r5,r6,r7,r8⟩:=box9 w (.int .i64 m.w) (.int .i64 m.h) (.int .i64 m.l) (.slice Af m.free.length cf) (.slice Au m.up.length cu) (.slice At m.tasks.length ct) (.slice Ac ch.length cc) (.slice Ap PL cp) (.int .i64 c);have c9:(w.alloc (.cells #[.int .i64 m.w,.int .i64 m.h,.int .i64 m.l,.slice Af m.free.length cf,.slice Au m.up.length cu,.slice At m.tasks.length ct,.slice Ac ch.length cc,.slice Ap PL cp,.int .i64 c] 128)).heap.size=w.heap.size+1:=by simp
 generalize w.alloc _=w0 at J r0 r1 r2 r3 r4 r5 r6 r7 r8 c9⊢;obtain ⟨L,p0,p1,p2⟩:=box3 w0 (.int .i64 tk) (.slice As s.length cs) (.slice Ak nk ck);generalize w0.alloc _=w1 at L p0 p1 p2⊢;rw [c9] at p0 p1 p2;obtain ⟨gm,e4⟩:=Ez w.heap.size;rw [<-e4] at r0 r1 r2 r3 r4 r5 r6 r7 r8 p0 p1 p2⊢;have B:=zh L;have O:=zh (J.trans L);have r0:=fun W h=>r0 W (B.out.trans h)
 have r1:=fun W h=>r1 W (B.out.trans h)
 have r2:=fun W h=>r2 W (B.out.trans h)
 have r3:=fun W h=>r3 W (B.out.trans h)
 have r4:=fun W h=>r4 W (B.out.trans h)
 have r5:=fun W h=>r5 W (B.out.trans h)
 have r6:=fun W h=>r6 W (B.out.trans h)
 have r7:=fun W h=>r7 W (B.out.trans h)
 have r8:=fun W h=>r8 W (B.out.trans h)
 clear e4 J L c9;have hx:zb w1 w1:=zb.refl w1;obtain ⟨bad,a9⟩:∃bad:Bool,bad=decide (tk<c\/(m.tasks.length:Int)<=tk\/(tk=c/\s=[])\/nk≠0):=⟨_,rfl⟩;have z:=zh a9;clear a9;go_cut [41] (fun v wx=>v=.bool bad/\w1=wx)
 case first=>
  by_cases h1:tk<(c:Int)
  ·have E:Hid (bad=true):=by (show _=_);rw [z.out];exact Du (.inl h1)
   go_wp2_with fail
   go_meet;exact ⟨by rw [E.out],rfl⟩
  ·by_cases h2:(m.tasks.length:Int)<=tk
   ·have E:Hid (bad=true):=by (show _=_);rw [z.out];exact Du (.inr (.inl h2))
    go_wp2_with fail
    go_meet;exact ⟨by rw [E.out],rfl⟩
   ·by_cases h3:tk=(c:Int)
    ·have i0:(tk==(c:Int))=true:=by rw [beq_iff_eq];exact h3
     by_cases h4:s=[]
     ·have E:Hid (bad=true):=by (show _=_);rw [z.out];exact Du (.inr (.inr (.inl ⟨h3,h4⟩)))
      have i1:((s.length:Int)==0)=true:=by rw [h4];rfl
      clear h3 h4
      go_wp2_with fail
      go_meet;exact ⟨by rw [E.out],rfl⟩
     ·have E:Hid (bad=decide (0<nk)):=by
       (show _=_)
       rw [z.out,decide_eq_decide];constructor
       ·rintro (h | h | h | h)
        ·exact absurd h h1
        ·exact absurd h h2
        ·exact absurd h.2 h4
        ·omega
       ·intro h;exact .inr (.inr (.inr (by omega)))
      have i1:((s.length:Int)==0)=false:=by
       rw [DE];intro h;exact h4 (DJ (by omega))
      clear h3 h4
      go_wp2_with fail
      go_meet;refine ⟨?_,rfl⟩;rw [E.out]
      all_goals (first | rfl | (congr 1;done) | (congr 1;rw [decide_eq_decide];omega))
    ·have i0:(tk==(c:Int))=false:=by rw [DE];exact h3
     have E:Hid (bad=decide (0<nk)):=by
      (show _=_)
      rw [z.out,decide_eq_decide];constructor
      ·rintro (h | h | h | h)
       ·exact absurd h h1
       ·exact absurd h h2
       ·exact absurd h.1 h3
       ·omega
      ·intro h;exact .inr (.inr (.inr (by omega)))
     clear h3
     go_wp2_with fail
     go_meet;refine ⟨?_,rfl⟩;rw [E.out]
     all_goals (first | rfl | (congr 1;done) | (congr 1;rw [decide_eq_decide];omega))
 case rest=>
  obtain ⟨rfl,rfl⟩:=hcut
  cases bad with
  | true=>
   have HF:Hid (R=false):=by
    (show _=_)
    have:=Ew z.out.symm;rw [d8.out] at this;rw [a0.out];unfold cutB;rw [if_pos this]
   go_wp2_with fail
   go_ret;exact ⟨zl HF.out.symm,O.out⟩
  | false=>
   have e7:=of_decide_eq_false z.out.symm
   have HF:Hid (R=(incB m.n (-1) s && (!(s.any fun n=>decide (n∈(m.tasks.getD tk.toNat ([],[])).2)) && ((zZ m ch tk.toNat).all (fun n=>decide (n∈s)) && wallB m ch tk.toNat s)))):=by
    (show _=_)
    have:=e7;rw [d8.out] at this;rw [a0.out];unfold cutB;rw [if_neg this]
   obtain ⟨t,ht⟩:∃t:Nat,tk=t:=⟨tk.toNat,by omega⟩;subst ht;rw [Eh] at HF;have f1:t<m.tasks.length:=by omega
   have D:=zh f1;have k1:(t:Int)<(m.tasks.length:Int):=by omega
   have k0:(0:Int)<=(t:Int):=by omega
   clear e7 z a0;have k2:=G.out.dim.n1;have j1:=G.out.dim.layer;have j3:IntKind.i64.wrap (m.w*m.h)=m.w*m.h:=by rw [DN];omega
   have j4:IntKind.i64.wrap (m.w*m.h*m.l)=m.w*m.h*m.l:=by rw [DN];omega
   have a1:Hid ((incB m.n (-1) s && !(s.any fun n=>decide (n∈(m.tasks.getD t ([],[])).2)))=true↔∀i,i<s.length->Cv m.n (m.tasks.getD t ([],[])).2 s i):=side_iff;obtain ⟨bt,offt,sn,u1,u2,rfl,-,-,-,b0,-,b9⟩:=BR h8.out D.out;have j0:=(HL.out.tl _ (Dr D.out)).2;have d9:Hid ((m.tasks.getD t ([],[])).2=(m.tasks[t]'D.out).2):=by (show _=_);rw [Dp,Do D.out];rfl
   obtain ⟨tg,e9⟩:=Ez ((m.tasks[t]'D.out).2);rw [<-e9] at b9 j0 d9;rw [d9.out] at a1 HF;have h7:=zh (b9.below O.out);obtain ⟨Atg,ctg,rfl,-,-⟩:=b9;have rtg:=zb.rule (O.out.cell b0);clear e9 b0
   go_wp2_with fail
   go_loopw [5,45] (fun lv i wr=>∃k:Nat,k<=s.length/\i=.int .i64 k/\lv=.int .i64 (((-1:Int) :: s).getD k 0)/\Hid (∀j,j<k->Cv m.n tg s j)/\w1=wr) (fun _ i _=>s.length - (intOf i).toNat)
   case atStart=>exact ⟨0,DF _,rfl,rfl,fun j hj=>by omega,rfl⟩
   case round=>
    obtain ⟨k,hk,rfl,rfl,a4,rfl⟩:=hrel;by_cases a3:k<s.length
    ·have j2:(k:Int)<(s.length:Int):=by omega
     have kk0:(0:Int)<=(k:Int):=by omega
     obtain ⟨bs,offs,rfl,-,b7⟩:=Ao h6.out a3 a3;have b8:s.getD k 0=s[k]:=zgd a3
     have a6:=step_last a4.out;have c7:((-1:Int) :: s).getD (k+1) 0=s.getD k 0:=List.getD_cons_succ ..;obtain ⟨x,f4⟩:=Ez (s[k]);rw [<-f4] at b7 b8;rw [b8] at a6 c7;obtain ⟨y,f5⟩:=Ez (((-1:Int) :: s).getD k 0);rw [<-f5] at a6⊢;have g9:=zh c7;have rx:=zb.rule (O.out.cell b7)
     obtain ⟨ob,c8⟩:∃ob:Bool,ob=true↔Cv m.n tg s k:=by
      by_cases h:Cv m.n tg s k
      ·exact ⟨true,by simp [h]⟩
      ·exact ⟨false,by simp [h]⟩
     have b4:Hid (ob=true↔y<x/\x<m.n/\x∉tg):=c8.trans a6;have a7:=zh c8;clear b7 b8 f4 c8 a6 c7 f5;go_upto_region 7 with fail;go_cut [78] (fun v wx=>v=.bool (!ob)/\w1=wx)
     case first=>
      by_cases h1:x<=y
      ·have E:Hid (ob=false):=by (show _=_);rw [<-Bool.not_eq_true,b4.out];omega
       go_wp2_with fail
       go_meet;exact ⟨by rw [E.out];rfl,rfl⟩
      ·by_cases h2:m.w*m.h*m.l<=x
       ·have E:Hid (ob=false):=by (show _=_);rw [<-Bool.not_eq_true,b4.out];unfold MZ.n;omega
        go_wp2_with fail
        go_meet;exact ⟨by rw [E.out];rfl,rfl⟩
       ·have E:Hid (ob=!decide (x∈tg)):=by
         (show _=_)
         rw [Bool.eq_iff_iff,b4.out,Bool.not_eq_true',DP];exact ⟨fun h=>h.2.2,fun h=>⟨by omega,by unfold MZ.n;omega,h⟩⟩
        go_wp2_with fail
        refine (zV x w1 h7.out (by omega)).mono ?_;rintro e w9 ⟨rfl,rfl⟩
        go_wp2_with fail
        go_meet;exact ⟨by rw [E.out];simp,rfl⟩
     case rest=>
      obtain ⟨rfl,rfl⟩:=hcut
      cases ob with
      | false=>
       have Q:Hid (R=false):=by
        (show _=_)
        have h:¬ ∀i,i<s.length->Cv m.n tg s i:=fun h=>absurd (a7.out.2 (h k a3)) (by simp)
        rw [HF.out,<-Bool.and_assoc,Bool.eq_false_iff.2 (fun h2=>h (a1.out.1 h2)),Bool.false_and]
       go_wp2_with fail
       go_ret;exact ⟨zl Q.out.symm,O.out⟩
      | true=>
       have e8:Hid (∀j,j<k+1->Cv m.n tg s j):=fun j hj=>by
        rcases DO j k with h | h
        ·exact a4.out j h
        ·obtain rfl:j=k:=by omega
         exact a7.out.1 rfl
       go_wp2_with fail
       go_roundw
       case rel=>exact ⟨k+1,by omega,by go_num,by rw [g9.out],e8,trivial⟩
       case measure=>simp [intOf];omega
    ·obtain rfl:k=s.length:=by omega
     have V:Hid (R=((zZ m ch t).all (fun n=>decide (n∈s)) && wallB m ch t s)):=by
      (show _=_)
      rw [HF.out,<-Bool.and_assoc,a1.out.2 a4.out,Bool.true_and]
     clear a4 HF a1;have g7:=zh (headP_le HL.out (ch:=ch) D.out);generalize ((-1:Int) :: s).getD s.length 0=lst;go_upto_region 12 with fail;have a2:=ze.new w1 #[.func (.func 200) #[] #[.pointer (some ⟨gm+1,0,none⟩)]] 74 (g:=w1.heap.size) rfl;have d:zb w1 (w1.alloc (.cells #[.func (.func 200) #[] #[.pointer (some ⟨gm+1,0,none⟩)]] 74)):=(zb.refl w1).alloc _;generalize w1.alloc _=w5 at a2 d⊢;obtain ⟨go,e5⟩:∃g,g=w1.heap.size:=⟨_,rfl⟩;rw [<-e5] at a2⊢;clear e5;have g0:=zb.rule (a2.cell (k:=0) rfl);have I:Hid (zb w w5):=O.out.trans d;have r0:=fun W h=>r0 W (d.trans h)
     have r1:=fun W h=>r1 W (d.trans h)
     have r2:=fun W h=>r2 W (d.trans h)
     have r3:=fun W h=>r3 W (d.trans h)
     have r4:=fun W h=>r4 W (d.trans h)
     have r5:=fun W h=>r5 W (d.trans h)
     have r6:=fun W h=>r6 W (d.trans h)
     have r7:=fun W h=>r7 W (d.trans h)
     have r8:=fun W h=>r8 W (d.trans h)
     have p0:=fun W h=>p0 W (d.trans h)
     have p1:=fun W h=>p1 W (d.trans h)
     have o:zb w5 w5:=zb.refl w5;have f0:t<m.free.length:=by rw [G.out.fl];exact D.out
     have g5:Hid (CutV w5 ok okp gm (gm+1) go m _ _ _ _ _ ch (c:Int) t _ s):=⟨H.out.more I.out,r0 _ o,r1 _ o,r2 _ o,r3 _ o,r4 _ o,r5 _ o,r6 _ o,r7 _ o,r8 _ o,p0 _ o,p1 _ o,U.out.below I.out,g0 _ o⟩;have h5:=zh p1
     have g6:Hid (∀W,zb w5 W->Calls Tryz.prog 157 #[.agg #[.int .i64 m.w,.int .i64 m.h,.int .i64 m.l,.slice Af m.free.length cf,.slice Au m.up.length cu,.slice (some ⟨bt,offt,none⟩) m.tasks.length ct,.slice Ac ch.length cc,.slice Ap PL cp,.int .i64 (c:Nat)],.int .i64 (t:Nat)] W fun e w'=>∃A c',e=.returned (.slice A (zZ m ch t).length c')/\zb W w'/\zk w' (fun _=>True) (.slice A (zZ m ch t).length c') (zZ m ch t)):=fun W hW=>by
      refine (phead_calls (c:Int) t W (H.out.more (I.out.trans hW)) HL.out HC.out HI.out D.out).mono ?_;rintro e w' ⟨v',rfl,i2,hv⟩;obtain ⟨A,c',rfl,-,-⟩:=id hv;exact ⟨A,c',rfl,i2,hv⟩
     obtain ⟨b1,J⟩:=Ez ((zZ m ch t).all fun n=>decide (n∈s))
     have g4:Hid (∀(W:World) (v9:Value),zb w5 W->zk W (fun _=>True) v9 (zZ m ch t)->Calls Tryz.prog 145 #[v9,.func (.func 200) #[] #[.pointer (some ⟨gm+1,0,none⟩)]] W fun e w'=>e=.returned (.bool (!b1))/\zb W w'):=fun W v9 hW hv=>by
      have h:=Bg 200 #[.pointer (some ⟨gm+1,0,none⟩)] (fun x=>!decide (x∈s)) W hv g7.out (zX Tryz.func200 rfl rfl) (fun x _ w9 h9=>by
       refine (cut1_calls x w9 (h5.out w9 (hW.trans h9)) (U.out.below (I.out.trans (hW.trans h9))) a5).mono ?_;rintro e w' ⟨rfl,rfl⟩;exact ⟨rfl,zb.refl _⟩)
      rw [<-List.not_all_eq_any_not,<-J] at h;exact h
     have d7:Hid (∀W,zb w5 W->Calls Tryz.prog 145 #[.slice As s.length cs,.func (.func 201) #[] #[.pointer (some ⟨gm,0,none⟩),.pointer (some ⟨gm+1,0,none⟩),.pointer (some ⟨go,0,none⟩)]] W fun e w'=>e=.returned (.bool (!wallB m ch t s))/\zb W w'):=fun W hW=>by
      have h:=Bg 201 #[.pointer (some ⟨gm,0,none⟩),.pointer (some ⟨gm+1,0,none⟩),.pointer (some ⟨go,0,none⟩)] (fun n=>(BK m n).any fun k=>(zf m t k && !decide (k∈ch)) && !decide (k∈s)) W (U.out.below (I.out.trans hW)) a5 (zX Tryz.func201 rfl rfl) (fun x _ w9 h9=>cut2_calls x w9 (g5.out.more (hW.trans h9)) G.out HL.out (by omega) f0 a5);rw [wall_any,Bool.not_not];exact h
     rw [<-J] at V;obtain ⟨b2,L⟩:=Ez (wallB m ch t s);rw [<-L] at d7 V;clear J L d a2;have j9:∀(fn:Fn) (first cap:Array Value) (w:World),(Instr.makeFunc fn first cap).run Tryz.prog w=.ok (.func fn first cap) w:=fun _ _ _ _=>rfl
     refine DH (S:=(fun W=>zb w5 W)) AB (o.drew) fun zH=>?_;have i6:zb w5 w5.drew:=zH;clear i6;generalize w5.drew=wd at zH⊢;refine zo 0 zH ?_;refine zo 1 zH ?_;simp only [zc,Dn];refine zo 2 zH ?_;refine zo 4 zH ?_;simp only [zc,Dn];refine zK 3 fun K hK=>?_;go_simp;go_at_call 157;refine (g6.out _ zH).mono ?_;rintro e w6 ⟨A6,c6,rfl,i3,e6⟩;have g8:=zh e6;clear e6;go_simp;refine EA hK (zH.trans i3) fun zH=>?_;clear hK K;try simp only [zc,Dn]
     refine zK 5 fun K hK=>?_;go_simp;go_at_call 145;refine (g4.out _ _ zH g8.out).mono ?_;rintro e w7 ⟨rfl,i4⟩;go_simp;refine EA hK (zH.trans i4) fun zH=>?_;clear hK K;try simp only [zc,Dn]
     refine DV (by kernel_rfl) ?_ _
     cases b1 with
     | false=>
      have Q:Hid (R=false):=by (show _=_);rw [V.out];rfl
      go_wp2_with fail
      go_ret;exact ⟨zl Q.out.symm,I.out.trans zH⟩
     | true=>
      have Q:Hid (R=b2):=by (show _=_);rw [V.out];rfl
      have f3:zb w5 w7:=zH
      go_wp2_with fail
      refine (d7.out _ f3).mono ?_;rintro e w8 ⟨rfl,i5⟩
      go_wp2_with fail
      go_ret;exact ⟨zl Q.out.symm,(I.out.trans f3).trans i5⟩
theorem pholds_calls {m:MZ} (hl:Lens m) (hc:AS m=0):∀(N:Nat) (ok okp:Nat->Prop) (f u ts vc vp vpr:Value) (ch:List Int) (p:PT) (w:World),PSt w ok m f u ts vc vp ch->zr m ch->Bn w okp vpr p->p.size<=N->p.Lens->
  Calls Tryz.prog 79 #[Di m f u ts vc vp (zO m ch),vpr] w fun e w'=>e=.returned (.bool (AE m p ch))/\zb w w'
 | 0,ok,okp,f,u,ts,vc,vp,vpr,ch,.node t s ks,w,_,_,_,hN,_=>by unfold PT.size at hN;omega
 | N+1,ok,okp,f,u,ts,vc,vp,vpr,ch,.node tk s ks,w,h,hi,hp,hN,f8=>by
  have IH:=zh (pholds_calls hl hc N);have H:=zh h;have HL:=zh hl;have HC:=zh hc;have HI:=zh hi;have HP:=zh hp;have j3:=zh (AN hc hi);have J:Hid (∀W,zb w W->Calls Tryz.prog 147 #[Di m f u ts vc vp (zO m ch)] W fun e w'=>e=.returned (.bool (decide ((m.tasks.length:Int)<=(zO m ch:Int))))/\zb W w'):=fun W hW=>CW _ W (h.more hW)
  unfold PT.Lens at f8;obtain ⟨i2,j7,f7⟩:=f8;have M:Hid (∀W,zb w W->Calls Tryz.prog 148 #[Di m f u ts vc vp (zO m ch),vpr] W fun e w'=>e=.returned (.bool (cutB m ch tk s ks.length))/\zb W w'):=fun W hW=>pcut_calls W (h.more hW) hl hc hi (hp.ext hW) i2
  have a9:Hid (∀n,zr m (ch++[n])->∀W,zb w W->Calls Tryz.prog 150 #[Di m f u ts vc vp (zO m ch),.int .i64 n] W fun e w'=>∃vc' vp',e=.returned (Di m f u ts vc' vp' (zO m (ch++[n])))/\zb W w'/\PSt w' (fun b=>ok b\/W.heap.size<=b) m f u ts vc' vp' (ch++[n])):=fun n hn W hW=>Dc _ n W (h.more hW) hl hc hn (AN hc hi).2.2.1
  have e2:Hid (∀W,zb w W->Calls Tryz.prog 149 #[.agg #[.int .i64 m.w,.int .i64 m.h,.int .i64 m.l,f,u,ts],vc] W fun e w'=>∃v',e=.returned v'/\Mk W w' v' (zQ m ch)):=fun W hW=>Ct W ((h.more hW).maze) hl ((h.more hW).chs) (by have:=(AN hc hi).2.2.1;omega)
  unfold Di at J M a9;obtain ⟨Af,cf,Au,cu,At,ct,Ac,cc,Ap,cp,rfl,rfl,rfl,rfl,rfl,-,-⟩:=h.parts;obtain ⟨R,hR⟩:=Ez (AE m (.node tk s ks) ch);rw [<-hR];have c8:=zh hR;have g6:=zh (lensL_mem f7);have g9:Hid (∀k∈ks,k.size<=PT.sizeL ks):=size_mem;unfold PT.size at hN
  cases hp with
  | mk hs hk he=>
   rename_i vs vk cs
   obtain ⟨As,cs',rfl,-,-⟩:=hs;obtain ⟨Ak,ck,rfl,j5,f9⟩:=hk;have g7:=zh f9;have g4:=zh he;clear h hl hc hi hR f7 f9 he;obtain ⟨c,d5⟩:=Ez (zO m ch);have b9:=zh d5;rw [<-d5] at J M a9⊢;obtain ⟨PL,b4⟩:=Ez ((zp m ch).length);rw [<-b4] at J M a9⊢;clear d5 b4 H;unfold Di
   go_enter Tryz.func79,Tryz.ntmps79
   go_upto_region 1 with fail;obtain ⟨d4,r0,r1,r2,r3,r4,r5,r6,r7,r8⟩:=box9 w (.int .i64 m.w) (.int .i64 m.h) (.int .i64 m.l) (.slice Af m.free.length cf) (.slice Au m.up.length cu) (.slice At m.tasks.length ct) (.slice Ac ch.length cc) (.slice Ap PL cp) (.int .i64 c);have d8:(w.alloc (.cells #[.int .i64 m.w,.int .i64 m.h,.int .i64 m.l,.slice Af m.free.length cf,.slice Au m.up.length cu,.slice At m.tasks.length ct,.slice Ac ch.length cc,.slice Ap PL cp,.int .i64 c] 128)).heap.size=w.heap.size+1:=by simp
   generalize w.alloc _=w0 at d4 r0 r1 r2 r3 r4 r5 r6 r7 r8 d8⊢;obtain ⟨b1,p0,p1,p2⟩:=box3 w0 (.int .i64 tk) (.slice As s.length cs') (.slice Ak ks.length ck);generalize w0.alloc _=w1 at b1 p0 p1 p2⊢;rw [d8] at p0 p1 p2;obtain ⟨gm,f5⟩:=Ez w.heap.size;rw [<-f5] at r0 r1 r2 r3 r4 r5 r6 r7 r8 p0 p1 p2⊢;have z:=zh b1;have d:=zh (d4.trans b1);have r0:=fun W h=>r0 W (z.out.trans h)
   have r1:=fun W h=>r1 W (z.out.trans h)
   have r2:=fun W h=>r2 W (z.out.trans h)
   have r3:=fun W h=>r3 W (z.out.trans h)
   have r4:=fun W h=>r4 W (z.out.trans h)
   have r5:=fun W h=>r5 W (z.out.trans h)
   have r6:=fun W h=>r6 W (z.out.trans h)
   have r7:=fun W h=>r7 W (z.out.trans h)
   have r8:=fun W h=>r8 W (z.out.trans h)
   clear f5 d4 b1 d8;have I:zb w1 w1:=zb.refl w1
   go_wp2_with fail
   refine (J.out w1 d.out).mono ?_;rintro e w2 ⟨rfl,f1⟩;clear I;have I:zb w1 w2:=f1;clear f1 J;by_cases B:m.tasks.length<=c
   ·have hd:decide ((m.tasks.length:Int)<=(c:Int))=true:=Du (by omega);have HF:Hid (R=false):=by (show _=_);rw [c8.out];exact holdsT_done (by rw [<-b9.out];exact B)
    rw [hd];clear B hd
    go_wp2_with fail
    go_ret;exact ⟨zl HF.out.symm,d.out.trans I⟩
   ·have hd:decide ((m.tasks.length:Int)<=(c:Int))=false:=Dv (by omega)
    have E:Hid (R=if tk≠(c:Int)\/s≠[] then cutB m ch tk s ks.length else AA m ks ch (zQ m ch)):=by
     (show _=_)
     rw [c8.out,holdsT_node (by rw [<-b9.out];exact B),b9.out]
    rw [hd];clear B hd c8;go_upto_region 3 with fail;obtain ⟨bq,f4⟩:∃bq:Bool,bq=decide (tk≠(c:Int)\/s≠[]):=⟨_,rfl⟩;have o:=zh f4;clear f4;go_cut [20] (fun v wx=>v=.bool bq/\w2=wx)
    case first=>
     by_cases G:tk=(c:Int)
     ·have hd:(tk != (c:Int))=false:=by rw [G];simp
      have b7:Hid (bq=decide (0<s.length)):=by
       (show _=_)
       rw [o.out,decide_eq_decide];constructor
       ·rintro (h | h)
        ·exact absurd G h
        ·exact List.length_pos_iff.2 h
       ·intro h;exact .inr (List.length_pos_iff.1 h)
      clear G
      go_wp2_with fail
      go_meet;refine ⟨?_,rfl⟩;rw [b7.out]
      all_goals (first | rfl | (congr 1;done) | (congr 1;rw [decide_eq_decide];omega))
     ·have hd:(tk != (c:Int))=true:=by rw [bne_iff_ne];exact G
      have b7:Hid (bq=true):=by (show _=_);rw [o.out];exact Du (.inl G)
      clear G
      go_wp2_with fail
      go_meet;exact ⟨by rw [b7.out],rfl⟩
    case rest=>
     obtain ⟨rfl,rfl⟩:=hcut
     cases bq with
     | true=>
      have HF:Hid (R=cutB m ch tk s ks.length):=by (show _=_);rw [E.out,if_pos (Ew o.out.symm)]
      clear o E
      go_wp2_with fail
      refine (M.out w2 (d.out.trans I)).mono ?_;rintro e w4 ⟨rfl,h4⟩
      go_wp2_with fail
      go_ret;exact ⟨zl HF.out.symm,(d.out.trans I).trans h4⟩
     | false=>
      have HF:Hid (R=AA m ks ch (zQ m ch)):=by (show _=_);rw [E.out,if_neg (of_decide_eq_false o.out.symm)]
      clear o E M
      go_wp2_with fail
      refine (e2.out w2 (d.out.trans I)).mono ?_;rintro e w4 ⟨vl,rfl,c9⟩;have e3:=zh c9.ints;have d9:zb w1 w4:=I.trans c9.ext;have b8:Hid (zQ m ch=cand m ch):=by (show _=_);unfold zQ;rw [if_pos (okC_of HC.out HI.out)]
      have e4:Hid (∀n∈zQ m ch,zr m (ch++[n])):=fun n hn=>by
       rw [b8.out] at hn;exact .snoc HI.out hn
      have h6:(zQ m ch).length<=400000000000:=by rw [b8.out];exact Cy HL.out ch
      obtain ⟨L,hL⟩:=Ez (zQ m ch);rw [<-hL] at e3 HF e4 h6;obtain ⟨AL,cL,rfl,-,g0⟩:=e3.out;have g8:=zh g0;have e8:=zh d9;clear c9 I hL g0 b8 e2;by_cases V:L.length=ks.length
      ·have hd:((L.length:Int) != (ks.length:Int))=false:=by rw [V];simp
       have e5:=zh V;clear V;have e9:=zh (zb.refl w4)
       go_wp2_with fail
       clear d9;go_loopw [37] (fun i wr=>∃j:Nat,j<=L.length/\i=.int .i64 j/\Hid (R=AA m (ks.drop j) ch (L.drop j))/\Hid (zb w4 wr)) (fun i _=>L.length - (intOf i).toNat)
       case atStart=>exact ⟨0,DF _,rfl,HF.out,e9.out⟩
       case round=>
        obtain ⟨j,hj,rfl,hr,hE⟩:=hrel;obtain ⟨wj,rfl⟩:∃wj:World,wj=wr:=⟨_,rfl⟩;have I:zb w1 wj:=e8.out.trans hE.out;by_cases U:j<L.length
        ·have j0:(j:Int)<(L.length:Int):=by omega
         have kk0:(0:Int)<=(j:Int):=by omega
         have D:j<ks.length:=by rw [<-e5.out];exact U
         have i1:(j:Int)<(ks.length:Int):=by omega
         obtain ⟨bl,offl,rfl,-,b6⟩:=Ao g8.out U U;have i0:wj.cell? ⟨bl,offl+j,none⟩=some (.int .i64 L[j]):=hE.out.cell b6;have c6:Hid (zr m (ch++[L[j]])):=e4.out _ (Dr U);have O:=zh (holdsL_drop (m:=m) (ch:=ch) D U);obtain ⟨b,off,rfl,h0,h1,h2⟩:=kidsAt g7.out D;have q0:=zb.rule (d.out.cell h0);have q1:=zb.rule (d.out.cell h1);have q2:=zb.rule (d.out.cell h2);have e7:=zh (g4.out j D);have c7:Hid ((ks[j]).Lens/\(ks[j]).size<=N):=⟨g6.out _ (Dr D),by have:=g9.out _ (Dr D);omega⟩;obtain ⟨n,hn⟩:=Ez (L[j]);obtain ⟨kd,f6⟩:=Ez (ks[j]);rw [<-hn] at i0 c6 O;rw [<-f6] at O e7 c7;obtain ⟨hb,d6⟩:=Ez (AE m kd (ch++[n]));rw [<-d6] at O
         have e6:Hid (∀W,zb w1 W->Calls Tryz.prog 150 #[.agg #[.int .i64 m.w,.int .i64 m.h,.int .i64 m.l,.slice Af m.free.length cf,.slice Au m.up.length cu,.slice At m.tasks.length ct,.slice Ac ch.length cc,.slice Ap PL cp,.int .i64 c],.int .i64 n] W fun e w'=>∃a0 a1 a2 a3 a4 a5 a6 a7 a8,e=.returned (.agg #[a0,a1,a2,a3,a4,a5,a6,a7,a8])/\zb W w'/\∀W',zb w' W'->Calls Tryz.prog 79 #[.agg #[a0,a1,a2,a3,a4,a5,a6,a7,a8],.agg #[cs.getD (j*3) undef,cs.getD (j*3+1) undef,cs.getD (j*3+2) undef]] W' fun e w'=>e=.returned (.bool hb)/\zb W' w'):=fun W hW=>by
          refine (a9.out n c6.out W (d.out.trans hW)).mono ?_;rintro e w' ⟨vc',vp',rfl,f0,hS⟩;refine ⟨_,_,_,_,_,_,_,_,_,rfl,f0,fun W' hW'=>?_⟩;rw [d6];exact IH.out _ _ _ _ _ _ _ _ _ _ W' (hS.more hW') c6.out (e7.out.ext (d.out.trans (hW.trans (f0.trans hW')))) c7.out.2 c7.out.1
         have g3:=zh hE.out;have i5:zb w1 wj:=I;clear b6 h0 h1 h2 hn f6 d6 I;go_upto_region 11 with fail;go_cut [51] (fun v wx=>v=.bool (!hb)/\zb wj wx)
         case first=>
          refine DH (S:=(fun W=>zb w1 W)) AB (i5.drew) fun zH=>?_;have h5:zb w1 wj.drew:=zH;have f2:zb wj wj.drew:=(zb.refl wj).drew;generalize wj.drew=wd at zH h5 f2⊢;refine zo 0 zH ?_;refine zo 1 zH ?_;simp only [zc,Dn];refine zo 3 zH ?_;refine zo 4 zH ?_;simp only [zc,Dn];refine zo 5 zH ?_;refine zo 6 zH ?_;simp only [zc,Dn];refine zo 7 zH ?_;simp only [zc,Dn];refine zK 2 fun K hK=>?_;go_simp;go_at_call 150;refine (e6.out _ zH).mono ?_;rintro e w9 ⟨a0,a1,a2,a3,a4,a5,a6,a7,a8,rfl,b0,HK⟩;have g5:=zh HK;clear HK;go_simp;refine EA hK (zH.trans b0) fun zH=>?_;clear hK K;try simp only [zc,Dn]
          refine zK 8 fun K hK=>?_;go_simp;go_at_call 79;refine (g5.out _ (zb.refl _)).mono ?_;rintro e w10 ⟨rfl,b3⟩;go_simp;refine EA hK (zH.trans b3) fun zH=>?_;clear hK K;try simp only [zc,Dn]
          refine zo 9 zH ?_;simp only [zc,Dn];refine DV (by kernel_rfl) ?_ _;go_wp2;go_meet;exact ⟨by first | rfl | simp,(f2.trans b0).trans b3⟩
         case rest=>
          obtain ⟨rfl,b0⟩:=hcut;have g1:zb w4 wc:=g3.out.trans b0
          cases hb with
          | false=>
           have Q:Hid (R=false):=by (show _=_);rw [hr.out,O.out,Bool.false_and]
           go_wp2_with fail
           go_ret;exact ⟨zl Q.out.symm,d.out.trans (e8.out.trans g1)⟩
          | true=>
           have i4:Hid (R=AA m (ks.drop (j+1)) ch (L.drop (j+1))):=by (show _=_);rw [hr.out,O.out,Bool.true_and]
           go_wp2_with fail
           go_roundw
           case rel=>exact ⟨j+1,by omega,by go_num,i4,g1⟩
           case measure=>simp [intOf];omega
        ·obtain rfl:j=L.length:=by omega
         have Q:Hid (R=true):=by
          (show _=_)
          rw [hr.out,List.drop_length,e5.out,List.drop_length];unfold AA;rfl
         go_wp2_with fail
         go_ret;exact ⟨zl Q.out.symm,d.out.trans I⟩
      ·have hd:((L.length:Int) != (ks.length:Int))=true:=by rw [bne_iff_ne];omega
       have Q:Hid (R=false):=by (show _=_);rw [HF.out];exact holdsL_len (fun h=>V h.symm)
       clear V
       go_wp2_with fail
       go_ret;exact ⟨zl Q.out.symm,d.out.trans d9⟩
end
end Go.Proofs.YtnmkmhpgnpojbaaGreatDoor
