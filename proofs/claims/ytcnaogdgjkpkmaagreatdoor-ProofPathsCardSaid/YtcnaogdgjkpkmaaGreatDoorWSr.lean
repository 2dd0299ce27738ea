import Derived.Test.YtcnaogdgjkpkmaaGreatDoorWSq
import Derived.Deep.RegionHeld
import Derived.Test.YtcnaogdgjkpkmaaGreatDoorRows
set_option linter.unusedVariables false
set_option linter.unusedSimpArgs false
set_option maxRecDepth 100000
set_option maxHeartbeats 16000000
namespace Go.Proofs.YtcnaogdgjkpkmaaGreatDoor
variable {l:Array Bool} {t t':Int} {ch s s':List Int} {xs:List Value} {m:MZ} {f g i k n sz:Nat} {ok ok':Nat->Prop} {oi:Oper} {w w':World}
section
open Go.RowKit
attribute [local go_sem ↓] Go.wp_at_zero Go.wp_at_succ
attribute [local go_sem] Oper.semAt_some
theorem PSt.weaken {w:World} {ok ok':Nat->Prop} {m:MZ} {f u ts vc vp:Value} {ch:List Int} (h:PSt w ok m f u ts vc vp ch) (d:∀b,ok b->ok' b):PSt w ok' m f u ts vc vp ch:=⟨h.maze.weaken d,h.chs.weaken d,h.ps.weaken d⟩
theorem PSt.keep {w w':World} {ok:Nat->Prop} {m:MZ} {f u ts vc vp:Value} {ch:List Int} (h:PSt w ok m f u ts vc vp ch) (d:zW ok w w'):PSt w' ok m f u ts vc vp ch:=⟨h.maze.keep d,h.chs.keep d,h.ps.keep d⟩
theorem Dq {f u ts vc vp:Value} (t n:Int) (w:World) (h:PSt w ok m f u ts vc vp ch) (hl:Lens m) (hc:Br m=0) (hi:zw m (ch++[n])) (g0:ch.length<=300):
  Calls Tryz.prog 78 #[Dw m f u ts vc vp t,.int .i64 n] w fun e w'=>∃vc' vp',e=.returned (Dw m f u ts vc' vp' (zS m (ch++[n])))/\zc w w'/\PSt w' (fun b=>ok b\/w.heap.size<=b) m f u ts vc' vp' (ch++[n]):=by
 have H:=zh h;have HL:=zh hl;have HC:=zh hc;have HI:=zh hi;obtain ⟨Af,cf,Au,cu,At,ct,Ac,cc,Ap,cp,rfl,rfl,rfl,rfl,rfl,-,-⟩:=h.parts;obtain ⟨PL,hP⟩:=EH ((zq m ch).length);rw [<-hP] at H⊢;clear h hl hc hi hP;unfold Dw
 go_enter Tryz.func78,Tryz.ntmps78
 go_upto_region 1 with fail;have a0:=zj.new w #[.int .i64 m.w,.int .i64 m.h,.int .i64 m.l,.slice Af m.free.length cf,.slice Au m.up.length cu,.slice At m.tasks.length ct,.slice Ac ch.length cc,.slice Ap PL cp,.int .i64 t] 70 (g:=w.heap.size) rfl;have b4:zc w (w.alloc (.cells #[.int .i64 m.w,.int .i64 m.h,.int .i64 m.l,.slice Af m.free.length cf,.slice Au m.up.length cu,.slice At m.tasks.length ct,.slice Ac ch.length cc,.slice Ap PL cp,.int .i64 t] 70)):=(zc.refl w).alloc _;have c0:(w.alloc (.cells #[.int .i64 m.w,.int .i64 m.h,.int .i64 m.l,.slice Af m.free.length cf,.slice Au m.up.length cu,.slice At m.tasks.length ct,.slice Ac ch.length cc,.slice Ap PL cp,.int .i64 t] 70)).heap.size=w.heap.size+1:=by simp
 generalize w.alloc _=w1 at a0 b4 c0⊢;have d:=zj.new w1 #[.int .i64 0,.int .i64 0,.int .i64 0,.slice none 0 0,.slice none 0 0,.slice none 0 0,.slice none 0 0,.slice none 0 0,.int .i64 0] 70 (g:=w1.heap.size) rfl;have a6:zc w1 (w1.alloc (.cells #[.int .i64 0,.int .i64 0,.int .i64 0,.slice none 0 0,.slice none 0 0,.slice none 0 0,.slice none 0 0,.slice none 0 0,.int .i64 0] 70)):=(zc.refl w1).alloc _;generalize w1.alloc _=w2 at d a6⊢;rw [c0] at d;obtain ⟨gm,b5⟩:=EH w.heap.size;rw [<-b5] at a0 d⊢;have U:Hid (gm=w.heap.size):=b5;have HZ:=zh d;have J:zj w2 gm 70 _:=a0.ext a6;have rul:∀{j:Nat} {v:Value},w2.cell? ⟨gm,j,none⟩=some v->∀W,Below (gm+1) w2 W->W.cell? ⟨gm,j,none⟩=some v:=fun h W hW=>(hW.cell (p:=⟨gm,_,none⟩) (Nat.lt_succ_self gm)).trans h
 have r0:=rul (J.cell (k:=0) rfl);have r1:=rul (J.cell (k:=1) rfl);have r2:=rul (J.cell (k:=2) rfl);have r3:=rul (J.cell (k:=3) rfl);have r4:=rul (J.cell (k:=4) rfl);have r5:=rul (J.cell (k:=5) rfl);have r6:=rul (J.cell (k:=6) rfl);have e4:=zh (b4.trans a6);have e3:Hid (gm+1<w2.heap.size):=zb d;clear a0 b4 c0 d a6 J rul b5;refine DT (S:=(fun W=>Below (gm+1) w2 W)) zN ((Below.refl (gm+1) w2).drew) fun zH=>?_;have G:Below (gm+1) w2 w2.drew:=(Below.refl (gm+1) w2).drew;have HD:Hid (zc w2 w2.drew):=(zc.refl w2).drew;generalize w2.drew=wd at zH G HD⊢;have I:Hid (zc w wd):=e4.out.trans HD.out;have E:Hid (gm+1<wd.heap.size):=Ee e3.out HD.out.size;refine ze 0 zH ?_;refine ze 1 zH ?_;simp only [za,Dz];refine ze 2 zH ?_;refine ze 3 zH ?_;simp only [za,Dz];refine ze 5 zH ?_;simp only [za,Dz];refine rdA [4,6] ?_;refine Ed rfl (fun K r=>?_) ?_
 ·go_simp;go_at_call 55;refine (BD wd ((H.out.chs.below I.out).below (zc.refl wd)) (by omega)).mono ?_;rintro e w1 ⟨v1,rfl,b3⟩;have b1:zc wd w1:=b3.ext;have c8:Hid (zF w1 wd.heap.size v1 ch):=b3.own.mono ((zc.refl wd)).size;obtain ⟨A1,n1,c1,rfl⟩:=Db c8.out;clear b3;refine r.out _ _ (Below.trans G (Below.mono b1 (by have:=E.out;omega))) fun zH=>?_;clear r K;try simp only [za,Dz]
  refine zC 6 fun K r=>?_;go_simp;have hA2:zc w1 (w1.alloc (.cells #[.int .i64 n] 3)):=(zc.refl w1).alloc _;have a8:Hid ((w1.alloc (.cells #[.int .i64 n] 3)).cell? ⟨w1.heap.size,0,none⟩=some (.int .i64 n)):=zQ _ _ _ rfl;generalize w1.heap.size=g2 at a8⊢;generalize w1.alloc _=w2 at hA2 a8⊢;have c9:=zh (c8.out.ext hA2);have a1:zc wd w2:=Below.trans b1 (hA2.mono (b1).size);refine r.out _ _ (Below.trans G (Below.mono a1 (by have:=E.out;omega))) fun zH=>?_;clear r K;try simp only [za,Dz]
  refine zC 7 fun K r=>?_;refine CS (ok:=fun _=>True) (by rfl) _ _ _ (by rfl) wd.heap.size ch [n] _ _ (by rfl) (by rfl) c9.out (ints_one a8.out) (a1).size (by simp;omega) ?_;intro v3 w3 b8 d8 d6;have L:zc wd w3:=AX a1 d8 (a1).size (fun k hk=>CQ c9.out hk);have e1:=zh b8;obtain ⟨A3,n3,cc3,rfl⟩:=Db b8;clear b8 d8 d6;refine r.out _ _ (Below.trans G (Below.mono L (by have:=E.out;omega))) fun zH=>?_;clear r K;try simp only [za,Dz]
  refine zC 8 fun K r=>?_;go_simp;go_at_call 32;refine (of_calls (ok:=fun b=>(ok b/\b<w.heap.size)\/wd.heap.size<=b) w3 (((H.out.maze.bound.below I.out).below L).weaken (fun b hb=>.inl hb)) HL.out HC.out ((Mk.ints ⟨e1.out,L⟩).weaken (fun b hb=>.inr hb)) HI.out).mono ?_;rintro e w4 ⟨vp4,rfl,e5,e7⟩;have a4:zc wd w4:=Below.trans L (e5.mono (L).size);have d4:Hid (PSt w4 (fun b=>(ok b\/w.heap.size<=b)/\b≠gm+1) m (.slice Af m.free.length cf) (.slice Au m.up.length cu) (.slice At m.tasks.length ct) (.slice A3 n3 cc3) vp4 (ch++[n])):=e7.weaken (fun b hb=>by have h1:=E.out;have h2:=U.out;have h3:=I.out.size;have h4:=(L).size;rcases hb with (hb | hb) | hb;exact ⟨.inl hb.1,by omega⟩;exact ⟨.inr (by omega),by omega⟩;exact ⟨.inr (by omega),by omega⟩);obtain ⟨_,_,_,_,_,_,_,_,Ap4,cp4,-,-,-,-,rfl,-,-⟩:=d4.out.parts;unfold Dw;refine r.out _ _ (Below.trans G (Below.mono a4 (by have:=E.out;omega))) fun zH=>?_;clear r K;try simp only [za,Dz]
  refine zC 9 fun K r=>?_;have d:zj w4 (gm+1) 70 _:=(HZ.out.ext HD.out).ext a4;have z0:=d.cell (k:=0) rfl;have z1:=d.cell (k:=1) rfl;have z2:=d.cell (k:=2) rfl;have z3:=d.cell (k:=3) rfl;have z4:=d.cell (k:=4) rfl;have z5:=d.cell (k:=5) rfl;have z6:=d.cell (k:=6) rfl;have z7:=d.cell (k:=7) rfl;have z8:=d.cell (k:=8) rfl;have hfz:∀j,w4.frozen? ⟨gm+1,j,none⟩=false:=fun j=>d.frozen j
  have a7:=zh d;clear d;go_simp;refine r.out _ _ (Below.trans (Below.trans G (Below.mono a4 (by have:=E.out;omega))) (BW (gm+1) [.int .i64 m.w,.int .i64 m.h,.int .i64 m.l,.slice Af m.free.length cf,.slice Au m.up.length cu,.slice At m.tasks.length ct,.slice A3 n3 cc3,.slice Ap4 (zq m (ch++[n])).length cp4,.int .i64 (zS m (ch++[n]))] 0 w4)) fun zH=>?_;clear r K;try simp only [za,Dz]
  refine Eg (by kernel_rfl) ?_ _;go_wp2;refine BR (P:=fun W=>bodyPost Tryz.prog Tryz.f78 _ Exit.ret _ W) (g2:=gm+1) ?_ a7.out;intro WZ o b2 b6;have y0:=o.cell (k:=0) rfl;have y1:=o.cell (k:=1) rfl;have y2:=o.cell (k:=2) rfl;have y3:=o.cell (k:=3) rfl;have y4:=o.cell (k:=4) rfl;have y5:=o.cell (k:=5) rfl;have y6:=o.cell (k:=6) rfl;have y7:=o.cell (k:=7) rfl;have y8:=o.cell (k:=8) rfl;refine Eu (v:=Dw m (.slice Af m.free.length cf) (.slice Au m.up.length cu) (.slice At m.tasks.length ct) (.slice A3 n3 cc3) (.slice Ap4 (zq m (ch++[n])).length cp4) (zS m (ch++[n]))) (by simp [results,Tryz.results78,go_sem,y0,y1,y2,y3,y4,y5,y6,y7,y8,Dw]) rfl ⟨_,_,rfl,?_,?_⟩
  ·exact Below.trans (I.out.trans (Below.mono a4 (DC _))) (b2.mono (by have:=U.out;omega))
  ·exact (d4.out.keep (fun b hb b7=>b6 b b7 hb.2)).weaken (fun b hb=>hb.1)
 refine Ed rfl (fun K r=>?_) .nil;go_simp;have hA6:zc wd (wd.alloc (.cells #[.int .i64 n] 3)):=(zc.refl wd).alloc _;have a9:Hid ((wd.alloc (.cells #[.int .i64 n] 3)).cell? ⟨wd.heap.size,0,none⟩=some (.int .i64 n)):=zQ _ _ _ rfl;generalize wd.heap.size=g6 at a9⊢;generalize wd.alloc _=w6 at hA6 a9⊢;have O:zc wd w6:=Below.trans (zc.refl wd) (hA6.mono ((zc.refl wd)).size);refine r.out _ _ (Below.trans G (Below.mono O (by have:=E.out;omega))) fun zH=>?_;clear r K;try simp only [za,Dz]
 refine zC 4 fun K r=>?_;go_simp;go_at_call 55;refine (BD w6 ((H.out.chs.below I.out).below O) (by omega)).mono ?_;rintro e w7 ⟨v7,rfl,a3⟩;have a2:zc wd w7:=Below.trans O (a3.ext.mono (O).size);have b0:Hid (zF w7 wd.heap.size v7 ch):=a3.own.mono (O).size;have e0:Hid (w7.cell? ⟨g6,0,none⟩=some (.int .i64 n)):=zc.cell a9.out a3.ext;obtain ⟨A7,n7,c7,rfl⟩:=Db b0.out;clear a3;refine r.out _ _ (Below.trans G (Below.mono a2 (by have:=E.out;omega))) fun zH=>?_;clear r K;try simp only [za,Dz]
 refine zC 7 fun K r=>?_;refine CS (ok:=fun _=>True) (by rfl) _ _ _ (by rfl) wd.heap.size ch [n] _ _ (by rfl) (by rfl) b0.out (ints_one e0.out) (a2).size (by simp;omega) ?_;intro v8 w8 b9 d9 d7;have M:zc wd w8:=AX a2 d9 (a2).size (fun k hk=>CQ b0.out hk);have e2:=zh b9;obtain ⟨A8,n8,cc8,rfl⟩:=Db b9;clear b9 d9 d7;refine r.out _ _ (Below.trans G (Below.mono M (by have:=E.out;omega))) fun zH=>?_;clear r K;try simp only [za,Dz]
 refine zC 8 fun K r=>?_;go_simp;go_at_call 32;refine (of_calls (ok:=fun b=>(ok b/\b<w.heap.size)\/wd.heap.size<=b) w8 (((H.out.maze.bound.below I.out).below M).weaken (fun b hb=>.inl hb)) HL.out HC.out ((Mk.ints ⟨e2.out,M⟩).weaken (fun b hb=>.inr hb)) HI.out).mono ?_;rintro e w9 ⟨vp9,rfl,e6,e8⟩;have a5:zc wd w9:=Below.trans M (e6.mono (M).size);have d5:Hid (PSt w9 (fun b=>(ok b\/w.heap.size<=b)/\b≠gm+1) m (.slice Af m.free.length cf) (.slice Au m.up.length cu) (.slice At m.tasks.length ct) (.slice A8 n8 cc8) vp9 (ch++[n])):=e8.weaken (fun b hb=>by have h1:=E.out;have h2:=U.out;have h3:=I.out.size;have h4:=(M).size;rcases hb with (hb | hb) | hb;exact ⟨.inl hb.1,by omega⟩;exact ⟨.inr (by omega),by omega⟩;exact ⟨.inr (by omega),by omega⟩);obtain ⟨_,_,_,_,_,_,_,_,Ap9,cp9,-,-,-,-,rfl,-,-⟩:=d5.out.parts;unfold Dw;refine r.out _ _ (Below.trans G (Below.mono a5 (by have:=E.out;omega))) fun zH=>?_;clear r K;try simp only [za,Dz]
 refine zC 9 fun K r=>?_;have d:zj w9 (gm+1) 70 _:=(HZ.out.ext HD.out).ext a5;have z0:=d.cell (k:=0) rfl;have z1:=d.cell (k:=1) rfl;have z2:=d.cell (k:=2) rfl;have z3:=d.cell (k:=3) rfl;have z4:=d.cell (k:=4) rfl;have z5:=d.cell (k:=5) rfl;have z6:=d.cell (k:=6) rfl;have z7:=d.cell (k:=7) rfl;have z8:=d.cell (k:=8) rfl;have hfz:∀j,w9.frozen? ⟨gm+1,j,none⟩=false:=fun j=>d.frozen j
 have a7:=zh d;clear d;go_simp;refine r.out _ _ (Below.trans (Below.trans G (Below.mono a5 (by have:=E.out;omega))) (BW (gm+1) [.int .i64 m.w,.int .i64 m.h,.int .i64 m.l,.slice Af m.free.length cf,.slice Au m.up.length cu,.slice At m.tasks.length ct,.slice A8 n8 cc8,.slice Ap9 (zq m (ch++[n])).length cp9,.int .i64 (zS m (ch++[n]))] 0 w9)) fun zH=>?_;clear r K;try simp only [za,Dz]
 refine Eg (by kernel_rfl) ?_ _;go_wp2;refine BR (P:=fun W=>bodyPost Tryz.prog Tryz.f78 _ Exit.ret _ W) (g2:=gm+1) ?_ a7.out;intro WZ o b2 b6;have y0:=o.cell (k:=0) rfl;have y1:=o.cell (k:=1) rfl;have y2:=o.cell (k:=2) rfl;have y3:=o.cell (k:=3) rfl;have y4:=o.cell (k:=4) rfl;have y5:=o.cell (k:=5) rfl;have y6:=o.cell (k:=6) rfl;have y7:=o.cell (k:=7) rfl;have y8:=o.cell (k:=8) rfl;refine Eu (v:=Dw m (.slice Af m.free.length cf) (.slice Au m.up.length cu) (.slice At m.tasks.length ct) (.slice A8 n8 cc8) (.slice Ap9 (zq m (ch++[n])).length cp9) (zS m (ch++[n]))) (by simp [results,Tryz.results78,go_sem,y0,y1,y2,y3,y4,y5,y6,y7,y8,Dw]) rfl ⟨_,_,rfl,?_,?_⟩
 ·exact Below.trans (I.out.trans (Below.mono a5 (DC _))) (b2.mono (by have:=U.out;omega))
 ·exact (d5.out.keep (fun b hb b7=>b6 b b7 hb.2)).weaken (fun b hb=>hb.1)
end
section
open Go.RowKit
attribute [local go_sem ↓] Go.wp_at_zero Go.wp_at_succ
theorem Tryz.infoProof:(Tryz.prog.info? 27).map (fun i=>(i.zero,i.size,i.bytes))=some (some (.agg #[.int .i64 0,.slice none 0 0,.slice none 0 0]),3,56):=by kernel_rfl
theorem eProof:ElemI 25 27 (.agg #[.int .i64 0,.slice none 0 0,.slice none 0 0]) 3 56:=⟨Tryz.underlying25,Tryz.infoProof,rfl,by decide⟩
inductive Ay (w:World) (ok:Nat->Prop):Value->PT->Prop
 | mk {t:Int} {side:List Int} {kids:List PT} {vs vk:Value} {cs:List Value} (hs:zn w ok vs side) (hk:An w ok 3 vk kids.length cs)
  (he:∀(i:Nat) (hi:i<kids.length),Ay w ok (.agg #[cs.getD (i*3) undef,cs.getD (i*3+1) undef,cs.getD (i*3+2) undef]) kids[i]):Ay w ok (.agg #[.int .i64 t,vs,vk]) (.node t side kids)
theorem Ay.keepW {v:Value} {p:PT} (h:Ay w ok v p) (d:zW ok w w') (o:∀b,ok b->ok' b):Ay w' ok' v p:=by
 induction h with
 | mk h1 h2 _ ih=>exact .mk ((h1.keep d).weaken o) ((h2.keep d).weaken o) ih
theorem Ay.ext {v:Value} {p:PT} (h:Ay w ok v p) (d:zc w w'):Ay w' ok v p:=h.keepW (zW.of_below d) (fun _ h=>h)
theorem Ay.zero (w:World) (ok:Nat->Prop):Ay w ok (.agg #[.int .i64 0,.slice none 0 0,.slice none 0 0]) PT.zero:=
 .mk (cs:=[]) (zn.nil _ _) ⟨none,0,rfl,DC _,AG.nil _ _ _ _⟩ (fun i d=>absurd d (by simp))
theorem Ay.form {v:Value} {p:PT} (h:Ay w ok v p):∃As cs Ak ck,v=.agg #[.int .i64 p.task,.slice As p.side.length cs,.slice Ak p.kids.length ck]/\zn w ok (.slice As p.side.length cs) p.side:=by
 cases h with
 | mk h1 h2 _=>
  have d:=h1;obtain ⟨As,cs,rfl,-,-⟩:=h1;obtain ⟨Ak,ck,rfl,-,-⟩:=h2;exact ⟨As,cs,Ak,ck,rfl,d⟩
theorem prove1_calls {gs gt:Nat} {At:Option Addr} {ct tk:Nat} (x:Int) (w:World) (L:w.cell? ⟨gs,5,none⟩=some (.slice At m.tasks.length ct)) (ht:w.cell? ⟨gt,0,none⟩=some (.int .i64 tk)) (r:BA w ok (.slice At m.tasks.length ct) m.tasks) (G:Lens m) (d:tk<m.tasks.length):
  Calls Tryz.prog 89 #[.int .i64 x,.pointer (some ⟨gs,0,none⟩),.pointer (some ⟨gt,0,none⟩)] w fun e w'=>e=.returned (.bool (decide (x∈(m.tasks.getD tk ([],[])).2)))/\w=w':=by
 obtain ⟨bt,offt,sn,u1,u2,rfl,-,-,-,J,-,o⟩:=BK r d;have K:=(G.tl _ (DD d)).2;have E:(m.tasks.getD tk ([],[])).2=(m.tasks[tk]).2:=by rw [zgd d]
 rw [E];have I:=zh o;obtain ⟨Au,cu,rfl,-,-⟩:=o;have k0:(0:Int)<=(tk:Int):=by omega
 have k1:(tk:Int)<(m.tasks.length:Int):=by omega
 clear G r E
 go_enter Tryz.func89,Tryz.ntmps89
 go_wp2_with fail
 refine (zt x w I.out (by omega)).mono ?_;rintro e w9 ⟨rfl,rfl⟩
 go_wp2_with fail
 go_ret;exact ⟨rfl,rfl⟩
end
section
open Go.RowKit
theorem find_at {p:Nat->Bool} {c:Nat} (E:i<n) (hp:p (c+i)=true) (o:∀j,j<i->p (c+j)=false):((List.range n).map (c+·)).find? p=some (c+i):=by
 have h:List.range n=List.range i++([i]++(List.range (n - i - 1)).map (i+1+·)):=by
  have h1:n=(i+1)+(n - i - 1):=by omega
  conv=>lhs;rw [h1,List.range_add,List.range_succ,List.append_assoc]
 rw [h,Es,List.find?_append]
 have h0:((List.range i).map (c+·)).find? p=none:=by
  rw [List.find?_eq_none];intro x r;obtain ⟨j,d,rfl⟩:=Ey.1 r;rw [o j (Ez.1 d)];simp
 rw [h0];simp [hp]
theorem find_no {p:Nat->Bool} {c:Nat} (o:∀j,j<n->p (c+j)=false):((List.range n).map (c+·)).find? p=none:=by
 rw [List.find?_eq_none];intro x r;obtain ⟨j,d,rfl⟩:=Ey.1 r;rw [o j (Ez.1 d)];simp
theorem cutT_at {t:Nat} (h0:zS m ch<=t) (h1:t<m.tasks.length) (hp:offB m ch t=true) (d:∀j,zS m ch<=j->j<t->offB m ch j=false):cutT m ch=some t:=by
 unfold cutT;have:=find_at (p:=offB m ch) (c:=zS m ch) (n:=m.tasks.length - zS m ch) (i:=t - zS m ch) (by omega) (by rw [show zS m ch+(t - zS m ch)=t from by omega];exact hp) (fun j o=>d _ (by omega) (by omega));rw [this,show zS m ch+(t - zS m ch)=t from by omega]
theorem cutT_no (d:∀j,zS m ch<=j->j<m.tasks.length->offB m ch j=false):cutT m ch=none:=by
 unfold cutT;exact find_no fun j o=>d _ (by omega) (by omega)
theorem proveP_end (h:m.tasks.length<=zS m ch):zr m (f+1) ch k=(51,.zero,k):=by
 conv=>lhs;unfold zr
 rw [if_pos h]
theorem proveP_many (h:¬ m.tasks.length<=zS m ch) (d:3000<k+1):zr m (f+1) ch k=(53,.zero,k+1):=by
 conv=>lhs;unfold zr
 rw [if_neg h,if_pos d]
theorem proveP_cut {t:Nat} (h:¬ m.tasks.length<=zS m ch) (o:¬ 3000<k+1) (d:cutT m ch=some t):zr m (f+1) ch k=(0,.node t (BJ m ch t) [],k+1):=by
 conv=>lhs;unfold zr
 rw [if_neg h,if_neg o,d]
theorem proveP_kids (h:¬ m.tasks.length<=zS m ch) (o:¬ 3000<k+1) (d:cutT m ch=none):zr m (f+1) ch k=if (zO (fun n k=>zr m f (ch++[n]) k) (zT m ch) (k+1) []).1=0 then (0,.node (zS m ch) [] (zO (fun n k=>zr m f (ch++[n]) k) (zT m ch) (k+1) []).2.1,(zO (fun n k=>zr m f (ch++[n]) k) (zT m ch) (k+1) []).2.2) else ((zO (fun n k=>zr m f (ch++[n]) k) (zT m ch) (k+1) []).1,.zero,(zO (fun n k=>zr m f (ch++[n]) k) (zT m ch) (k+1) []).2.2):=by
 conv=>lhs;unfold zr
 rw [if_neg h,if_neg o,d]
theorem Da {f:Int->Nat->Int×PT×Nat} {n:Int} {l:List Int} {acc:List PT} (h:(f n k).1=0):zO f (n :: l) k acc=zO f l (f n k).2.2 (acc++[(f n k).2.1]):=by
 conv=>lhs;unfold zO
 rw [if_pos h]
theorem kidsR_stop {f:Int->Nat->Int×PT×Nat} {n:Int} {l:List Int} {acc:List PT} (h:(f n k).1≠0):zO f (n :: l) k acc=((f n k).1,[],(f n k).2.2):=by
 conv=>lhs;unfold zO
 rw [if_neg h]
theorem Ay.bound {w:World} {ok:Nat->Prop} {v:Value} {p:PT} (h:Ay w ok v p):Ay w (fun b=>ok b/\b<w.heap.size) v p:=by
 induction h with
 | mk h1 h2 _ ih=>exact .mk h1.bound (h2.bound (by decide)) ih
theorem own_chg {W W':World} {X:Nat->Prop} {B:Nat} {e:TypeId} {v:Value} (h:W.ownsRow B e sz v n xs) (r:zm X W W') (E:∀b,B<=b->¬ X b):W'.ownsRow B e sz v n xs:=by
 refine ⟨h.1,?_⟩;rcases h.2 with h | ⟨g,cap,cur,h1,h2,d,o⟩
 ·exact .inl h
 ·exact .inr ⟨g,cap,cur,h1,h2,(r.block g (zb d) (E g h2)).trans d,o⟩
structure AA (W:World) (B:Nat) (v:Value) (acc:List PT) (cs:List Value):Prop where
 own:W.ownsRow B 27 3 v acc.length cs
 each:∀(i:Nat) (hi:i<acc.length),Ay W (fun b=>B<=b/\v.ownBlock≠some b) (.agg #[cs.getD (i*3) undef,cs.getD (i*3+1) undef,cs.getD (i*3+2) undef]) acc[i]
section
variable {W W':World} {B lo:Nat} {v v':Value} {acc:List PT} {cs:List Value} {p:PT} {a b c:Value} {X:Nat->Prop}
theorem AA.nil (W:World) (B:Nat):AA W B (.slice none 0 0) [] []:=⟨World.ownsRow_nil _ _ _ _,fun i d=>absurd d (by simp)⟩
theorem AA.chg (h:AA W B v acc cs) (o:zm X W W') (r:∀b,B<=b->¬ X b):AA W' B v acc cs:=
 ⟨own_chg h.own o r,fun i G=>(h.each i G).keepW (fun b E d=>o.block b d (r b E.1)) (fun _ h=>h)⟩
theorem AA.lt (h:AA W B v acc cs) (d:v.ownBlock=some k):B<=k/\k<W.heap.size:=by
 rcases h.own.2 with ⟨rfl,-⟩ | ⟨g,cap,cur,rfl,h1,h2,-⟩
 ·cases d
 ·have:g=k:=by simpa [Value.ownBlock] using d
  subst this;exact ⟨h1,zb h2⟩
theorem Cl {l l2:List Value} (h:i<l.length):(l++l2).getD i undef=l.getD i undef:=by
 rw [DB,DB,DH h]
theorem AA.app (h:AA W B v acc cs) (hp:Ay W (fun b=>lo<=b) (.agg #[a,b,c]) p) (E:∀k,v.ownBlock=some k->k<lo) (U:B<=lo) (M:W'.ownsRow B 27 3 v' (acc.length+1) (cs++[a,b,c])) (J:W.grownBy W' v.ownBlock)
  (O:v'.ownBlock=v.ownBlock\/v'.ownBlock=some W.heap.size):AA W' B v' (acc++[p]) (cs++[a,b,c]):=by
 have o:cs.length=acc.length*3:=h.own.1
 have G:∀k,k<W.heap.size->v.ownBlock≠some k->v'.ownBlock≠some k:=fun k d h1=>by
  rcases O with h2 | h2
  ·rw [h2];exact h1
  ·rw [h2];intro e;injection e with e;omega
 refine ⟨by rw [DK];exact M,fun i K=>?_⟩;by_cases L:i<acc.length
 ·rw [Cl (by omega),Cl (by omega),Cl (by omega),List.getElem_append_left L];exact (h.each i L).bound.keepW (fun k d r=>J.block k r (fun e=>d.1.2 e.symm)) (fun k d=>⟨d.1.1,G k d.2 d.1.2⟩)
 ·have I:i=acc.length:=by rw [DK,Ec] at K;omega
  subst I;have e0:(cs++[a,b,c]).getD (acc.length*3) undef=a:=by rw [DB,DI (by omega),o,Nat.sub_self];rfl
  have e1:(cs++[a,b,c]).getD (acc.length*3+1) undef=b:=by rw [DB,DI (by omega),o,Nat.add_sub_cancel_left];rfl
  have e2:(cs++[a,b,c]).getD (acc.length*3+2) undef=c:=by rw [DB,DI (by omega),o,Nat.add_sub_cancel_left];rfl
  rw [e0,e1,e2];have:(acc++[p])[acc.length]'K=p:=by simp
  rw [this];exact hp.bound.keepW (fun k d r=>J.block k r (fun e=>by have:=E k e.symm;omega)) (fun k d=>⟨by omega,G k d.2 (fun e=>by have:=E k e;omega)⟩)
theorem AA.kids (h:AA W B v acc cs) (t:Int):Ay W (fun b=>B<=b) (.agg #[.int .i64 t,.slice none 0 0,v]) (.node t [] acc):=
 .mk (cs:=cs) (zn.nil _ _) (An.of_own h.own) (fun i d=>(h.each i d).keepW (fun _ _ _=>rfl) (fun _ h=>h.1))
end
theorem zm.wide {X X':Nat->Prop} {a b:World} (h:zm X a b) (d:∀k,X k->X' k):zm X' a b:=⟨h.os,h.tape,h.output,h.size,fun b o r=>h.block b o fun e=>r (d b e)⟩
theorem zm.set {X:Nat->Prop} {a b:World} (h:zm X a b) (g k:Nat) (v:Value) (o:X g):zm X a (b.setCell ⟨g,k,none⟩ v):=
 ⟨h.os,h.tape,h.output,by simpa using h.size,fun i r d=>(DL b ⟨g,k,none⟩ v i (fun e=>d (by rw [e];exact o))).trans (h.block i r d)⟩
theorem zm.grown {X:Nat->Prop} {a b c:World} {r:Option Nat} (h:zm X a b) (d:b.grownBy c r) (G:∀k,r=some k->k<a.heap.size->X k):zm X a c:=
 ⟨d.os.trans h.os,d.tape.trans h.tape,d.output.trans h.output,DE h.size d.size,fun i o E=>(d.block i (Ee o h.size) (fun e=>E (G i e.symm o))).trans (h.block i o E)⟩
theorem zm.blk {X:Nat->Prop} {a b:World} {t:TypeId} {cs:Array Value} (h:zm X a b) (d:zj a g t cs) (o:¬ X g):zj b g t cs:=(h.block g (zb d) o).trans d
theorem zm.cellk {X:Nat->Prop} {a b:World} {p:Addr} {v:Value} (h:zm X a b) (d:a.cell? p=some v) (o:¬ X p.block):b.cell? p=some v:=(CN (h.block _ (zp d) o)).trans d
theorem zc.cellB {W:World} {t:TypeId} {cs:Array Value} (d:zc w W) (h:zj w g t cs):zj W g t cs:=h.ext d
theorem prove_err {F:Int->Nat->Int×PT×Nat} {n:Int} {l L:List Int} {k0:Nat} {acc:List PT} (h:(F n k).1≠0) (d:zO F L k0 []=zO F (n :: l) k acc) {a:Int×PT×Nat} {b:PT×Nat}:(if (zO F L k0 []).1=0 then a else ((zO F L k0 []).1,b)).1=(F n k).1:=by
 rw [d,kidsR_stop h,if_neg h]
theorem Cc {W:World} {a b c:Value} (d:zj W g 27 #[a,b,c]):An W (fun _=>True) 3 (.slice (some ⟨g,0,none⟩) 1 1) 1 [a,b,c]:=
 ⟨_,1,rfl,DC _,by simp,fun _=>⟨g,0,rfl,trivial,fun j u o=>by rw [Nat.zero_add];exact d.cell (by simpa using o)⟩⟩
structure JB (V:Nat->Value->World->Prop) (D:Nat->List Nat) (w9:World) (A:List Nat) (js:Nat) (X:(Nat->Bool)->(Nat->Value)->World->Prop) (PS:(Nat->Value)->World->Prop) (e:Nat->Bool) (v:Nat->Value) (W:World):Prop where
 g:e js=false->zc w9 W
 gv:e js=false->∀j∈A,e j=true->V j (v j) W
 x:e js=false->X e v W
 d:e js=true->(∀j∈A,e j=true)/\PS v W
 c:∀j∈A,e j=true->∀d∈D j,d∈A/\e d=true
section
variable {V:Nat->Value->World->Prop} {D:Nat->List Nat} {w9 W W':World} {A:List Nat} {js:Nat} {X:(Nat->Bool)->(Nat->Value)->World->Prop} {PS:(Nat->Value)->World->Prop} {e:Nat->Bool} {v:Nat->Value} {j:Nat} {x:Value}
theorem JB.notS (h:JB V D w9 A js X PS e v W) (r:j∈A) (he:e j=false):e js=false:=by
 cases o:e js with
 | false=>rfl
 | true=>have:=(h.d o).1 j r;rw [he] at this;cases this
theorem JB.init (r:zc w9 W) (he:∀j,j∈js :: A->e j=false) (E:X e v W):JB V D w9 A js X PS e v W:=by
 refine ⟨fun _=>r,fun _ j o d=>?_,fun _=>E,fun h=>?_,fun j o d=>?_⟩
 ·rw [he j (by simp [o])] at d;cases d
 ·rw [he js (by simp)] at h;cases h
 ·rw [he j (by simp [o])] at d;cases d
theorem JB.step (h:JB V D w9 A js X PS e v W) (O:j∈A) (he:e j=false) (hV:StV V) (U:j≠js) (L:∀d∈D j,d∈A/\e d=true) (J:zc W W') (hx:V j x W') (M:X (zV e j true) (zV v j x) W'):JB V D w9 A js X PS (zV e j true) (zV v j x) W':=by
 have E:=h.notS O he;have G:zV e j true js=false:=by rw [Az e true (fun e=>U e.symm)];exact E
 refine ⟨fun _=>(h.g E).trans J,fun _ k I r=>?_,fun _=>M,fun h=>(by rw [G] at h;cases h),fun k I r d K=>?_⟩
 ·by_cases o:k=j
  ·subst o;rw [Bh];exact hx
  ·rw [Az v x o];rw [Az e true o] at r;exact hV.ext J (h.gv E k I r)
 ·have h1:d∈A/\e d=true:=by
   by_cases o:k=j
   ·subst o;exact L d K
   ·rw [Az e true o] at r;exact h.c k I r d K
  exact ⟨h1.1,upd_true h1.2⟩
theorem JB.store (h:JB V D w9 A js X PS e v W) (hA:js∉A) (G:∀j∈A,e j=true) (I:PS (zV v js x) W'):JB V D w9 A js X PS (zV e js true) (zV v js x) W':=by
 refine ⟨fun a=>?_,fun a=>?_,fun a=>?_,fun _=>⟨fun k r=>upd_true (G k r),I⟩,fun k r o d E=>by
  rw [Az (j:=js) (k:=k) e true (fun q=>hA (q ▸ r))] at o;obtain ⟨h1,h2⟩:=h.c k r o d E;exact ⟨h1,upd_true h2⟩⟩
 all_goals (rw [Bh] at a;cases a)
end
theorem AT {W:World} {x:Value}:∀b,b≠g->(W.setCell ⟨g,k,none⟩ x).heap[b]?=W.heap[b]?:=fun b d=>DL W ⟨g,k,none⟩ _ b d
end
section
open Go.RowKit
attribute [local go_sem ↓] Go.wp_at_zero Go.wp_at_succ
def exFree:List Bool:=[true,true,true,true,false,true,true,true,true]
def exM (a b:Int):MZ:=⟨3,3,1,[exFree,exFree],List.replicate 9 false,[([0],[2]),([a],[b])]⟩
theorem CU:∀(os:List Obj) (w:World),zc w (os.foldl World.alloc w)
 | [],w=>zc.refl w
 | o :: os,w=>((zc.refl w).alloc o).trans (CU os (w.alloc o))
theorem allocs_at:∀(os:List Obj) (w:World) (i:Nat) (o:Obj),os[i]?=some o->(os.foldl World.alloc w).heap[w.heap.size+i]?=some o
 | o :: os,w,0,o',h=>by
  have:o=o':=by simpa using h
  subst this;exact ((CU os (w.alloc o)).block _ (by simp)).trans (Eo w o)
 | o :: os,w,i+1,o',h=>by
  have:=allocs_at os (w.alloc o) i o' (by simpa using h);rw [show w.heap.size+(i+1)=(w.alloc o).heap.size+i from by simp;omega];exact this
end
section
open Go.RowKit
theorem below_le {B:Nat} {a b c:World} (h:Below B a b) (d:Below g b c) (o:B<=g):Below B a c:=h.trans ⟨d.os,d.tape,d.output,d.size,fun k r=>d.block k (by omega)⟩
theorem Ay.wk {v:Value} {p:PT} (h:Ay w ok v p) (o:∀b,ok b->b<w.heap.size->ok' b):Ay w ok' v p:=h.bound.keepW (fun b d r=>rfl) (fun b d=>o b d.1 d.2)
theorem case_fin29 {P:World->Prop} {W:World} {g2:Nat} {t:TypeId} {a0 a1 a2 z0 z1 z2:Value} (h:∀WZ,zj WZ g2 t #[a0,a1,a2]->Below g2 W WZ->(∀k,k<W.heap.size->k≠g2->WZ.heap[k]?=W.heap[k]?)->P WZ) (o:zj W g2 t #[z0,z1,z2]):
  P (((W.setCell ⟨g2,0,none⟩ a0).setCell ⟨g2,1,none⟩ a1).setCell ⟨g2,2,none⟩ a2):=
 h (setL g2 0 [a0,a1,a2] W) (setL_blk [a0,a1,a2] [z0,z1,z2] [] W rfl o) (BW g2 _ 0 W) (fun k _ d=>BX g2 k d _ 0 W)
theorem size_mem29:∀{ks:List PT},∀k∈ks,k.size<=PT.sizeL ks
 | [],k,hk=>by cases hk
 | a :: ks,k,hk=>by
  unfold PT.sizeL;rcases Ep.1 hk with rfl | hk
  ·omega
  ·have:=size_mem29 k hk;omega
theorem fin_wp29 {P:Program} {c:Code} {Q:Exit->Act->World->Prop} {a:Act} (w:World) (os:List Obj) (h:∀W,zc w W->(∀(i:Nat) o,os[i]?=some o->W.heap[w.heap.size+i]?=some o)->c.wp P Q a W):c.wp P Q a (os.foldl World.alloc w):=h _ (CU os w) (fun i o d=>allocs_at os w i o d)
mutual
def PT.LenN (c:Nat):PT->Prop
 | .node _ s ks=>s.length<=c/\ks.length<=c/\PT.LenNL c ks
def PT.LenNL (c:Nat):List PT->Prop
 | []=>True
 | k :: ks=>k.LenN c/\PT.LenNL c ks
end
theorem lenNL_mem {c:Nat}:∀{ks:List PT},PT.LenNL c ks->∀k∈ks,k.LenN c
 | [],_,k,hk=>by cases hk
 | a :: ks,h,k,hk=>by
  unfold PT.LenNL at h;rcases Ep.1 hk with rfl | hk
  ·exact h.1
  ·exact lenNL_mem h.2 k hk
theorem BS {c:Nat}:∀{ks:List PT},(∀k∈ks,k.LenN c)->PT.LenNL c ks
 | [],_=>by unfold PT.LenNL;exact True.intro
 | k :: ks,h=>by
  unfold PT.LenNL;exact ⟨h k (En ..),BS fun x d=>h x (DX _ d)⟩
mutual
theorem lenN_mono {c d:Nat} (o:c<=d):∀(p:PT),p.LenN c->p.LenN d
 | .node _ s ks,h=>by
  unfold PT.LenN at h⊢;exact ⟨by omega,by omega,lenNL_mono o ks h.2.2⟩
theorem lenNL_mono {c d:Nat} (o:c<=d):∀(ks:List PT),PT.LenNL c ks->PT.LenNL d ks
 | [],_=>by unfold PT.LenNL;exact True.intro
 | k :: ks,h=>by
  unfold PT.LenNL at h⊢;exact ⟨lenN_mono o k h.1,lenNL_mono o ks h.2⟩
end
def OddP (c:Nat) (p p':PT):Prop:=p'.LenN (c+1)/\p'.size<=p.size+1
theorem sizeL_set:∀(ks:List PT) (i:Nat) (q:PT) (d:i<ks.length),PT.sizeL (ks.set i q)+ks[i].size=PT.sizeL ks+q.size
 | [],i,q,d=>absurd d (by simp)
 | k :: ks,0,q,d=>by simp [PT.sizeL];omega
 | k :: ks,i+1,q,d=>by
  have:=sizeL_set ks i q (by simpa using d);simp [PT.sizeL];omega
theorem sizeL_drop1:∀(ks:List PT),PT.sizeL (ks.drop 1)<=PT.sizeL ks
 | []=>by simp [PT.sizeL]
 | k :: ks=>by simp [PT.sizeL]
theorem odd_kid {c:Nat} {ks:List PT} {q:PT} (h:(PT.node t s ks).LenN c) (r:i<ks.length) (o:OddP c ks[i] q):OddP c (.node t s ks) (.node t s (ks.set i q)):=by
 unfold PT.LenN at h;refine ⟨?_,?_⟩
 ·unfold PT.LenN;refine ⟨by omega,by simp;omega,BS fun k d=>?_⟩;rcases List.mem_or_eq_of_mem_set d with d | rfl
  ·exact lenN_mono (by omega) _ (lenNL_mem h.2.2 k d)
  ·exact o.1
 ·have h1:=sizeL_set ks i q r;have h2:=o.2;unfold PT.size;omega
theorem odd_top {c:Nat} {ks:List PT} (h:(PT.node t s ks).LenN c) (d:s'.length<=s.length+1):OddP c (.node t s ks) (.node t' s' ks):=by
 unfold PT.LenN at h;refine ⟨?_,by unfold PT.size;omega⟩;unfold PT.LenN;exact ⟨by omega,by omega,lenNL_mono (by omega) _ h.2.2⟩
theorem odd_kids {c:Nat} {ks ks':List PT} (h:(PT.node t s ks).LenN c) (r:s'.length<=s.length+1) (d:∀k∈ks',k.LenN (c+1)) (o:ks'.length<=ks.length+1) (E:PT.sizeL ks'<=PT.sizeL ks+1):OddP c (.node t s ks) (.node t' s' ks'):=by
 unfold PT.LenN at h;refine ⟨?_,by unfold PT.size;omega⟩;unfold PT.LenN;exact ⟨by omega,by omega,BS d⟩
theorem leaf_lenN (c:Nat) (t:Int):(PT.node t [] []).LenN c:=by
 unfold PT.LenN;exact ⟨by simp,by simp,BS fun k d=>absurd d (Ew)⟩
theorem Ag {W W':World} {B:Nat} {e:TypeId} {v:Value} (h:W.ownsRow B e sz v n xs) (d:zc W W'):W'.ownsRow B e sz v n xs:=zy h fun g o=>d.block g (World.ownsRow.lt h g o).2
end
section
open Go
section
variable {P:Program} {ops:Array Oper} {Q:Exit->Act->World->Prop} {md:Region.Mode} {S:World->Prop}
def Ce (P:Program) (md:Region.Mode) (ops:Array Oper) (Q:Exit->Act->World->Prop) (S:World->Prop):Nat->Array Bool->Act->World->Prop
 | 0,l,a,w=>Region.ready md ops l=[]/\Q .normal a w
 | n+1,l,a,w=>(Region.ready md ops l=[]->Q .normal a w)/\
  ∀i∈Region.ready md ops l,wpOp P ops Q i (fun a' w'=>((∀k,(l.setIfInBounds i true).getD k true=true)\/S w')/\Ce P md ops Q S n (l.setIfInBounds i true) a' w') a w
theorem wpAny_of_last:∀(n:Nat) (l:Array Bool) (a:Act) (w:World),Ce P md ops Q S n l a w->wpAny P md ops Q n l a w
 | 0,_,_,_,h=>h
 | n+1,_,_,_,h=>⟨h.1,fun i o=>wpOp_mono (fun a' w' d=>wpAny_of_last n _ a' w' d.2) (h.2 i o)⟩
def waitB (md:Region.Mode) (ops:Array Oper) (l:Array Bool) (i:Nat):Bool:=(List.range ops.size).any fun k=>!(l.getD k true) && (match ops[k]? with | some o=>o.after.any (fun e=>Region.binds md e && e.on==i) | none=>false)
theorem wpAnyL_first {ok:Oper} {v:Value} (hi:ops[i]?=some oi) (hk:ops[k]?=some ok) (hw:∃e∈ok.after,Region.binds md e=true/\e.on=i)
  (J:∀(j:Nat) (o:Oper) cs b,ops[j]?=some o->o.op≠.select cs b) (hQ:∀c a w,Q (.panic c) (a.put oi.dst v) w->Q (.panic c) a w):
  ∀(n:Nat) (l:Array Bool) (a:Act) (w:World),l.getD k true=false->k≠i->
   (∀j oj,ops[j]?=some oj->j≠i->l.getD j true=false->(∀e∈oj.after,Region.binds md e=true->e.on≠i)->oi.apart ops oj=true)->
   i∈Region.ready md ops l->YieldsIf P ops S oi v a->S w->Ce P md ops Q S n (l.setIfInBounds i true) (a.put oi.dst v) w->Ce P md ops Q S (n+1) l a w:=by
 intro n
 induction n with
 | zero=>
  intro l a w _ _ _ K hy L H;refine ⟨fun h=>(by rw [h] at K;cases K),fun j hj=>?_⟩;by_cases d:j=i
  ·subst d;exact hy.wpOp hi L ⟨.inr L,H⟩
  ·have h:=ready_mono hj d;rw [H.1] at h;cases h
 | succ n ih=>
  intro l a w a3 a0 r K hy L H;refine ⟨fun h=>(by rw [h] at K;cases K),fun j hj=>?_⟩;by_cases d:j=i
  ·subst d;exact hy.wpOp hi L ⟨.inr L,H⟩
  ·have h1:=H.2 j (ready_mono hj d);obtain ⟨G,oj,E,O⟩:=mem_ready.1 hj
   have I:∀e∈oj.after,Region.binds md e=true->e.on≠i:=fun e he hb q=>by
    have h1:=O e he hb;have h0:=(mem_ready.1 K).1;rw [q] at h1;rcases DZ i l.size with h' | h'
    ·simp [h'] at h0 h1;rw [h0] at h1;cases h1
    ·simp [Array.getElem?_eq_none h'] at h1
   have a1:j≠k:=fun q=>by
    subst q;obtain ⟨e,he,hb,ho⟩:=hw;rw [hk] at E;injection E with E;subst E;exact I e he hb ho
   have h2:=wpOp_putIf E (r j oj E d G I) (fun cs b=>J i oi cs b hi) (fun cs b=>J j oj cs b E) hQ hy h1;have a4:(l.setIfInBounds j true).getD k true=false:=by rw [getD_set_ne true a1];exact a3
   refine wpOp_mono (fun a' w' h3=>?_) h2
   have M:S w':=h3.2.1.resolve_left fun q=>by
    have h:=q k;rw [getD_set_ne true a1,getD_set_ne true (Ne.symm a0),a3] at h;cases h
   refine ⟨.inr M,ih (l.setIfInBounds j true) a' w' a4 a0 (fun x ox hx a5 a6 a2=>?_) (ready_mono K (Ne.symm d)) h3.1 M ?_⟩
   ·by_cases U:j=x
    ·subst U;exact r j ox hx a5 G a2
    ·rw [getD_set_ne true U] at a6;exact r x ox hx a5 a6 a2
   ·rw [Array.setIfInBounds_comm _ _ d];exact h3.2.2
theorem zd {v:Value} {a:Act} (L:ops[i]?=some oi) (hs:Region.noSelect ops=true) (hf:Region.free md ops l i=true) (O:(Region.ready md ops l).contains i=true) (K:waitB md ops l i=true)
  (hQ:∀c a w,Q (.panic c) (a.put oi.dst v) w->Q (.panic c) a w) (hy:YieldsIf P ops S oi v a) (hS:S w) (h:Ce P md ops Q S n (l.setIfInBounds i true) (a.put oi.dst v) w):Ce P md ops Q S (n+1) l a w:=by
 unfold waitB at K;obtain ⟨k,-,M⟩:=EC.1 K;rw [DO,Bool.not_eq_true'] at M;obtain ⟨h1,h2⟩:=M
 cases E:ops[k]? with
 | none=>rw [E] at h2;cases h2
 | some ok=>
  rw [E] at h2
  have U:∃e∈ok.after,Region.binds md e=true/\e.on=i:=by
   obtain ⟨x,J,o,h4⟩:=(by simpa using h2:∃x,∃h:x<ok.after.size,Region.binds md ok.after[x]=true/\ok.after[x].on=i);exact ⟨_,Array.getElem_mem J,o,h4⟩
  have G:k≠i:=fun q=>by
   subst q;have I:k∈Region.ready md ops l:=by simpa using O
   obtain ⟨h0,oj,d,r⟩:=mem_ready.1 I;rw [E] at d;injection d with d;subst d;obtain ⟨e,he,hb,J⟩:=U;have o:=r e he hb;rw [J] at o;rcases DZ k l.size with h' | h'
   ·simp [h'] at h0 o;rw [h0] at o;cases o
   ·simp [Array.getElem?_eq_none h'] at o
  exact wpAnyL_first L E U (Region.noSelect_spec hs) hQ n l a w h1 G (Region.free_spec L hf) (by simpa using O) hy hS h
def zv (P:Program) (md:Region.Mode) (ops:Array Oper) (Q:Exit->Act->World->Prop) (S:World->Prop) (n:Nat) (l:Array Bool) (a:Act) (w:World) (rs:List Nat):Prop:=
 ∀i∈rs,wpOp P ops Q i (fun a' w'=>((∀k,(l.setIfInBounds i true).getD k true=true)\/S w')/\Ce P md ops Q S n (l.setIfInBounds i true) a' w') a w
theorem zv.nil {a:Act}:zv P md ops Q S n l a w []:=fun _ h=>by cases h
theorem zv.cons {n:Nat} {l:Array Bool} {a:Act} {w:World} {i:Nat} {o:Oper} {rs:List Nat} (E:ops[i]?=some o)
  (h:∀K':Act->World->Prop,Shut (∀a w,S w->(S w->Ce P md ops Q S n (l.setIfInBounds i true) a w)->K' a w)->if Region.wanted o (yielded ops a.tmps)=true then Oper.wp P o a w K' Q else K' (a.put o.dst undef) w)
  (G:zv P md ops Q S n l a w rs):zv P md ops Q S n l a w (i :: rs):=fun j hj=>by
 rcases Ep.1 hj with rfl | hj
 ·exact wpOp_step E (fun K' r=>h K' (fun a w d hW=>r a w ⟨.inr d,hW d⟩))
 ·exact G j hj
theorem zv.last {a:Act} {o:Oper} (G:ops[i]?=some o) (d:(l.setIfInBounds i true).all (fun b=>b)=true)
  (h:∀K':Act->World->Prop,Shut (∀a w,Ce P md ops Q S n (l.setIfInBounds i true) a w->K' a w)->if Region.wanted o (yielded ops a.tmps)=true then Oper.wp P o a w K' Q else K' (a.put o.dst undef) w):zv P md ops Q S n l a w [i]:=fun j E=>by
 obtain rfl:=Ej.1 E;refine wpOp_step G (fun K' r=>h K' (fun a w hW=>r a w ⟨.inl fun k=>?_,hW⟩));rw [Array.all_eq_true] at d;rcases DZ k (l.setIfInBounds j true).size with h' | h'
 ·rw [Array.getD_eq_getD_getElem?,Array.getElem?_eq_getElem h'];exact d k h'
 ·rw [Array.getD_eq_getD_getElem?,Array.getElem?_eq_none h'];rfl
theorem zY {rs:List Nat} {a:Act} (o:Region.ready md ops l=rs) (d:rs≠[]) (h:zv P md ops Q S n l a w rs):Ce P md ops Q S (n+1) l a w:=
 ⟨fun h0=>absurd (o ▸ h0) d,o ▸ h⟩
theorem CG {a:Act} (d:Region.ready md ops l=[]) (h:Q .normal a w):∀n,Ce P md ops Q S n l a w
 | 0=>⟨d,h⟩
 | _+1=>⟨fun _=>h,by rw [d];simp⟩
theorem wp_dark {c:Code} {a:Act} (h:∀Q':Exit->Act->World->Prop,(∀c (a a':Act) w,a.defers=a'.defers->Q' (.panic c) a w->Q' (.panic c) a' w)->Q'=Q->c.wp P Q' a w) (hp:∀c (a a':Act) w,a.defers=a'.defers->Q (.panic c) a w->Q (.panic c) a' w):c.wp P Q a w:=h Q hp rfl
theorem CB {id:Nat} {a:Act} (hm:P.follows .mixedOrders=true) (d:S w.drew) (h:S w.drew->Ce P .any ops Q S ops.size (Array.replicate ops.size false) a w.drew):(Code.region id ops true).wp P Q a w:=
 wp_region_any hm (wpAny_of_last _ _ _ _ (h d))
end
end
end Go.Proofs.YtcnaogdgjkpkmaaGreatDoor
