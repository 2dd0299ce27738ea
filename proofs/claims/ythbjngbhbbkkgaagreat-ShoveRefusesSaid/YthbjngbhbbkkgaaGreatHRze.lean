import Derived.Test.YthbjngbhbbkkgaaGreatHRza
set_option linter.unusedVariables false
set_option linter.unusedSimpArgs false
set_option maxRecDepth 100000
set_option maxHeartbeats 16000000
namespace Go.Proofs.YthbjngbhbbkkgaaGreat
variable {ps:List (List Int)} {ns:List ByteArray} {B g7 k n t:Nat} {v:Value} {W:World}
section
open Go.RowKit
attribute [local go_sem ↓] Go.wp_at_zero Go.wp_at_succ
def subN (m:MZ) (ps:List (List Int)) (t:Int) (ns:List ByteArray):List ByteArray:=if (By m ps && AM m t)=true then (keepL ps t.toNat).map (ns.getD · ⟨#[]⟩) else []
def AA (ps:List (List Int)) (t k:Nat):List Nat:=(List.range k).filter (BG ps t)
theorem keepTo_t (h:BG ps t k=true):AA ps t (k+1)=AA ps t k++[k]:=by
 unfold AA;rw [List.range_succ,Fv,FB h];rfl
theorem keepTo_f (h:BG ps t k=false):AA ps t (k+1)=AA ps t k:=by
 unfold AA;rw [List.range_succ,Fv,Fp (by simp [h])];simp
theorem keepTo_len (ps:List (List Int)) (t k:Nat):(AA ps t k).length<=k:=EI (Fi _ _) (by simp)
def SubL (w0 wr:World) (g7:Nat) (m:MZ) (ns:List ByteArray) (vU:Value) (l:List Nat):Prop:=
 ∃vF vT,SubI w0 wr g7 m.w m.h m.l m.up vF vU vT vF vT (l.map (m.free.getD · [])) (l.map (m.tasks.getD · ([],[]))) (l.map (ns.getD · ⟨#[]⟩))
theorem tasksNAt {w:World} {ok:Nat->Prop} {A:Option Addr} {c:Nat} {l:List (List Int×List Int)} (h:TasksN w ok (.slice A n c) l ns) (D:k<l.length):
  ∃b off u1 u2,A=some ⟨b,off,none⟩/\w.cell? ⟨b,off+k*3,none⟩=some (.string (ns.getD k ⟨#[]⟩))/\w.cell? ⟨b,off+k*3+1,none⟩=some u1/\w.cell? ⟨b,off+k*3+2,none⟩=some u2/\zj w ok u1 l[k].1/\zj w ok u2 l[k].2:=by
 obtain ⟨J,vs,⟨A',c',E,_,I,o⟩,he⟩:=h;injection E with e1 e2 e3;subst e1;obtain ⟨b,off,rfl,G,o⟩:=o (by omega);have z:k<ns.length:=by omega
 obtain ⟨u1,u2,h0,h1,h2,i1,i2⟩:=he k _ _ (EE D) (EE z);have e:ns.getD k ⟨#[]⟩=ns[k]:=zgd z
 rw [e];exact ⟨b,off,u1,u2,rfl,o _ _ h0,by rw [Nat.add_assoc];exact o _ _ h1,by rw [Nat.add_assoc];exact o _ _ h2,i1,i2⟩
def V8 (B g7 g9:Nat) (vT u1 u2:Value) (s:ByteArray) (l1 l2:List Int) (j:Nat) (x:Value) (W:World):Prop:=match j with
 | 0=>x=.pointer (some ⟨g7,5,none⟩) | 1=>x=vT | 2=>x=.pointer (some ⟨g9,0,none⟩) | 3=>x=.string s | 4=>x=.pointer (some ⟨g9,1,none⟩) | 5=>x=u1
 | 6=>zD W B x l1 | 7=>x=.pointer (some ⟨g9,2,none⟩) | 8=>x=u2 | 9=>zD W B x l2
 | 10=>∃y1 y2,x=.agg #[.string s,y1,y2]/\zD W B y1 l1/\zD W B y2 l2
 | 11=>∃g y1 y2,x=.slice (some ⟨g,0,none⟩) 1 1/\zk W g 56 #[.string s,y1,y2]/\zD W B y1 l1/\zD W B y2 l2
 | _=>True
theorem Bi {W':World} {sz:Nat} {e:TypeId} {xs:List Value} (h:W.ownsRow B e sz v n xs) (o:zb W W'):W'.ownsRow B e sz v n xs:=AB h (grown_ext o) (fun b z=>by cases z)
theorem V8.st {g9:Nat} {vT u1 u2:Value} {s:ByteArray} {l1 l2:List Int}:StV (V8 B g7 g9 vT u1 u2 s l1 l2):=fun j x W W' o h=>
 match j,h with
 | 0,h | 1,h | 2,h | 3,h | 4,h | 5,h | 7,h | 8,h=>h
 | 6,h | 9,h=>Bi h o
 | 10,⟨y1,y2,e,h1,h2⟩=>⟨y1,y2,e,Bi h1 o,Bi h2 o⟩
 | 11,⟨g,y1,y2,e,z,h1,h2⟩=>⟨g,y1,y2,e,z.ext o,Bi h1 o,Bi h2 o⟩
 | _+12,_=>trivial
def D8 (j:Nat):List Nat:=match j with | 1=>[0] | 3=>[2] | 5=>[4] | 6=>[5] | 8=>[7] | 9=>[8,6] | 10=>[3,6,9] | 11=>[10] | _=>[]
def V9 (B g7 gm:Nat) (vF fs:Value) (k:Nat) (af:Addr) (uf:Value) (l:List Bool) (j:Nat) (x:Value) (W:World):Prop:=match j with
 | 0=>x=.pointer (some ⟨g7,3,none⟩) | 1=>x=vF | 2=>x=.pointer (some ⟨gm,3,none⟩) | 3=>x=fs | 4=>x=.int .i64 k | 5=>x=.pointer (some af) | 6=>x=uf
 | 7=>Cs W B x l
 | 8=>∃g y,x=.slice (some ⟨g,0,none⟩) 1 1/\zk W g 29 #[y]/\Cs W B y l
 | _=>True
theorem V9.st {gm:Nat} {vF fs:Value} {af:Addr} {uf:Value} {l:List Bool}:StV (V9 B g7 gm vF fs k af uf l):=fun j x W W' o h=>
 match j,h with
 | 0,h | 1,h | 2,h | 3,h | 4,h | 5,h | 6,h=>h
 | 7,h=>Bi h o
 | 8,⟨g,y,e,z,h1⟩=>⟨g,y,e,z.ext o,Bi h1 o⟩
 | _+9,_=>trivial
def D9 (j:Nat):List Nat:=match j with | 1=>[0] | 3=>[2] | 5=>[3,4] | 6=>[5] | 7=>[6] | 8=>[7] | _=>[]
theorem row1 {g:Nat} {t:TypeId} {cs:List Value} (o:zk W g t cs.toArray) (D:cs.length=n):AI W (fun _=>True) n (.slice (some ⟨g,0,none⟩) 1 1) 1 cs:=
 ⟨_,1,rfl,EG _,by omega,fun _=>⟨g,0,rfl,trivial,fun j u z=>by rw [Nat.zero_add];exact o.cell (by simpa using z)⟩⟩
theorem map_snoc' {α β:Type} (f:α->β) (l:List α) (x:α):(l++[x]).map f=l.map f++[f x]:=by simp
theorem sub_calls {okm okf:Nat->Prop} {vf:Value} {m:MZ} (t:Int) (w:World) (hm:MazeN w okm v m ns) (hl:Lens m) (hf:zv w okf vf ps) (t6:ps.length<=20000000000000) (o0:∀x∈ps,x.length<=20000000000000):
  Calls Tryz.prog 15 #[v,vf,.int .i64 t] w fun e w'=>∃v',e=.returned v'/\zb w w'/\MazeN w' (fun b=>w.heap.size<=b) v' (subO m ps t) (subN m ps t ns):=by
 have m6:=zh hm.maze;have HL:=zh hl;have r7:=zh o0;have r6:=zh hf;obtain ⟨_,_,_,rfl,p3,p5,p4⟩:=hm;have s2:=zh p3;have l9:=zh p5;have s3:=zh p4;obtain ⟨_,⟨Af,cf,rfl,x7,-⟩,-⟩:=p3;obtain ⟨Au,cu,rfl,y6,-⟩:=p5;obtain ⟨-,_,⟨At,ct,rfl,x9,-⟩,-⟩:=p4;obtain ⟨vfs,⟨A,c,rfl,t5,hr⟩,n4⟩:=hf;have HR:=zh hr;have q9:=zh n4;have w8:=hl.ts;clear hl hr n4 o0
 go_enter Tryz.func15,Tryz.ntmps15
 go_wp2_with fail
 obtain ⟨k7,r0,r1,r2,r3,r4,r5⟩:=box6 w (.int .i64 m.w) (.int .i64 m.h) (.int .i64 m.l) (.slice Af m.free.length cf) (.slice Au m.up.length cu) (.slice At m.tasks.length ct);have b8:(w.alloc (.cells #[.int .i64 m.w,.int .i64 m.h,.int .i64 m.l,.slice Af m.free.length cf,.slice Au m.up.length cu,.slice At m.tasks.length ct] 32)).heap.size=w.heap.size+1:=by simp
 generalize w.alloc _=w1 at k7 r0 r1 r2 r3 r4 r5 b8⊢;have L:=zk.new w1 #[.int .i64 0,.int .i64 0,.int .i64 0,.slice none 0 0,.slice none 0 0,.slice none 0 0] 32 (g:=w1.heap.size) rfl;have h8:zb w1 (w1.alloc (.cells #[.int .i64 0,.int .i64 0,.int .i64 0,.slice none 0 0,.slice none 0 0,.slice none 0 0] 32)):=(zb.refl w1).alloc _;have d8:(w1.alloc (.cells #[.int .i64 0,.int .i64 0,.int .i64 0,.slice none 0 0,.slice none 0 0,.slice none 0 0] 32)).heap.size=w1.heap.size+1:=by simp
 generalize w1.alloc _=w2 at L h8 d8⊢;obtain ⟨gm,o4⟩:=zad w.heap.size;rw [<-o4] at r0 r1 r2 r3 r4 r5 b8⊢;obtain ⟨gz,o5⟩:=zad (gm+1);rw [<-o5] at b8⊢;rw [b8] at L d8;have HZ:=zh L;have g5:Hid (gz=w.heap.size+1/\w2.heap.size=gz+1):=⟨by omega,d8⟩;have a1:=zh h8;have c6:=zh (k7.trans h8);have r0:=fun W h=>r0 W (a1.out.trans h)
 have r1:=fun W h=>r1 W (a1.out.trans h)
 have r2:=fun W h=>r2 W (a1.out.trans h)
 have r3:=fun W h=>r3 W (a1.out.trans h)
 have r4:=fun W h=>r4 W (a1.out.trans h)
 have r5:=fun W h=>r5 W (a1.out.trans h)
 clear o4 o5 b8 d8 L k7 h8;have V:zb w2 w2:=zb.refl w2
 go_wp2_with fail
 refine (laid_calls w2 (m6.out.below c6.out) HL.out (r6.out.below c6.out) t6 r7.out).mono ?_;rintro e w3 ⟨rfl,t0⟩;clear V;have V:zb w2 w3:=t0
 cases a7:By m ps with
 | false=>
  have HO:Hid (subO m ps t=zeroM/\subN m ps t ns=[]):=⟨by unfold subO;rw [a7];rfl,by unfold subN;rw [a7];rfl⟩;clear a7;have L:zk w3 gz 32 #[.int .i64 0,.int .i64 0,.int .i64 0,.slice none 0 0,.slice none 0 0,.slice none 0 0]:=HZ.out.ext V;have z0:w3.cell? ⟨gz,0,none⟩=some (.int .i64 0):=L.cell (k:=0) rfl;have z1:w3.cell? ⟨gz,1,none⟩=some (.int .i64 0):=L.cell (k:=1) rfl;have z2:w3.cell? ⟨gz,2,none⟩=some (.int .i64 0):=L.cell (k:=2) rfl;have z3:w3.cell? ⟨gz,3,none⟩=some (.slice none 0 0):=L.cell (k:=3) rfl;have z4:w3.cell? ⟨gz,4,none⟩=some (.slice none 0 0):=L.cell (k:=4) rfl;have z5:w3.cell? ⟨gz,5,none⟩=some (.slice none 0 0):=L.cell (k:=5) rfl;have hfz:∀j,w3.frozen? ⟨gz,j,none⟩=false:=fun j=>L.frozen j
  have f0:=zh L;have j9:=zh (c6.out.trans V);clear L V
  go_wp2_with fail
  refine DF (P:=fun W=>bodyPost Tryz.prog Tryz.f15 _ Exit.ret _ W) (g2:=gz) ?_ f0.out;intro WZ Q f5 hk;have y0:WZ.cell? ⟨gz,0,none⟩=some (.int .i64 0):=Q.cell (k:=0) rfl;have y1:WZ.cell? ⟨gz,1,none⟩=some (.int .i64 0):=Q.cell (k:=1) rfl;have y2:WZ.cell? ⟨gz,2,none⟩=some (.int .i64 0):=Q.cell (k:=2) rfl;have y3:WZ.cell? ⟨gz,3,none⟩=some (.slice none 0 0):=Q.cell (k:=3) rfl;have y4:WZ.cell? ⟨gz,4,none⟩=some (.slice none 0 0):=Q.cell (k:=4) rfl;have y5:WZ.cell? ⟨gz,5,none⟩=some (.slice none 0 0):=Q.cell (k:=5) rfl;refine FC (v:=.agg #[.int .i64 0,.int .i64 0,.int .i64 0,.slice none 0 0,.slice none 0 0,.slice none 0 0]) (by simp [results,Tryz.results15,go_sem,y0,y1,y2,y3,y4,y5]) rfl ⟨_,rfl,Below.trans j9.out (f5.mono (by have:=g5.out.1;omega)),?_⟩;rw [HO.out.1,HO.out.2];exact ⟨_,_,_,rfl,⟨[],⟨none,0,rfl,EG _,Ae.nil _ _ _ _⟩,fun i x V=>by simp [zeroM] at V⟩,⟨none,0,rfl,EG _,Ae.nil _ _ _ _⟩,rfl,[],⟨none,0,rfl,EG _,Ae.nil _ _ _ _⟩,fun i x s V=>by simp [zeroM] at V⟩
 | true=>
  go_wp2_with fail
  refine (Ek t w3 (m6.out.below (c6.out.trans V)) HL.out).mono ?_;rintro e w4 ⟨rfl,t1⟩;have V:zb w2 w4:=V.trans t1
  cases b1:AM m t with
  | false=>
   have HO:Hid (subO m ps t=zeroM/\subN m ps t ns=[]):=⟨by unfold subO;rw [b1,Bool.and_false];rfl,by unfold subN;rw [b1,Bool.and_false];rfl⟩;clear a7 b1;have L:zk w4 gz 32 #[.int .i64 0,.int .i64 0,.int .i64 0,.slice none 0 0,.slice none 0 0,.slice none 0 0]:=HZ.out.ext V;have z0:w4.cell? ⟨gz,0,none⟩=some (.int .i64 0):=L.cell (k:=0) rfl;have z1:w4.cell? ⟨gz,1,none⟩=some (.int .i64 0):=L.cell (k:=1) rfl;have z2:w4.cell? ⟨gz,2,none⟩=some (.int .i64 0):=L.cell (k:=2) rfl;have z3:w4.cell? ⟨gz,3,none⟩=some (.slice none 0 0):=L.cell (k:=3) rfl;have z4:w4.cell? ⟨gz,4,none⟩=some (.slice none 0 0):=L.cell (k:=4) rfl;have z5:w4.cell? ⟨gz,5,none⟩=some (.slice none 0 0):=L.cell (k:=5) rfl;have hfz:∀j,w4.frozen? ⟨gz,j,none⟩=false:=fun j=>L.frozen j
   have f0:=zh L;have j9:=zh (c6.out.trans V);clear L V
   go_wp2_with fail
   refine DF (P:=fun W=>bodyPost Tryz.prog Tryz.f15 _ Exit.ret _ W) (g2:=gz) ?_ f0.out;intro WZ Q f5 hk;have y0:WZ.cell? ⟨gz,0,none⟩=some (.int .i64 0):=Q.cell (k:=0) rfl;have y1:WZ.cell? ⟨gz,1,none⟩=some (.int .i64 0):=Q.cell (k:=1) rfl;have y2:WZ.cell? ⟨gz,2,none⟩=some (.int .i64 0):=Q.cell (k:=2) rfl;have y3:WZ.cell? ⟨gz,3,none⟩=some (.slice none 0 0):=Q.cell (k:=3) rfl;have y4:WZ.cell? ⟨gz,4,none⟩=some (.slice none 0 0):=Q.cell (k:=4) rfl;have y5:WZ.cell? ⟨gz,5,none⟩=some (.slice none 0 0):=Q.cell (k:=5) rfl;refine FC (v:=.agg #[.int .i64 0,.int .i64 0,.int .i64 0,.slice none 0 0,.slice none 0 0,.slice none 0 0]) (by simp [results,Tryz.results15,go_sem,y0,y1,y2,y3,y4,y5]) rfl ⟨_,rfl,Below.trans j9.out (f5.mono (by have:=g5.out.1;omega)),?_⟩;rw [HO.out.1,HO.out.2];exact ⟨_,_,_,rfl,⟨[],⟨none,0,rfl,EG _,Ae.nil _ _ _ _⟩,fun i x V=>by simp [zeroM] at V⟩,⟨none,0,rfl,EG _,Ae.nil _ _ _ _⟩,rfl,[],⟨none,0,rfl,EG _,Ae.nil _ _ _ _⟩,fun i x s V=>by simp [zeroM] at V⟩
  | true=>
   have HO:Hid (subO m ps t=Bx m ps t.toNat/\subN m ps t ns=(keepL ps t.toNat).map (ns.getD · ⟨#[]⟩)):=⟨by unfold subO;rw [a7,b1];rfl,by unfold subN;rw [a7,b1];rfl⟩;obtain ⟨k9,p8,-⟩:=AN.1 a7;obtain ⟨-,z7,z8⟩:=AX.1 b1;have HC:=zh k9;have G:=zh (zC.of k9);have t9:=G.out.dim.n1;have l6:m.up.length<=300:=by have:=G.out.dim.up;omega
   have z9:=G.out.tk;have y9:ps.length<=6:=by omega
   have m7:=zh p8;clear k9 a7 b1 t9 p8
   go_wp2_with fail
   have a4:=zh V;have a3:=zh (c6.out.trans V);have k0:∀W,zb w4 W->W.cell? ⟨gm,0,none⟩=some (.int .i64 m.w):=fun W h=>r0 W (a4.out.trans h)
   have k1:∀W,zb w4 W->W.cell? ⟨gm,1,none⟩=some (.int .i64 m.h):=fun W h=>r1 W (a4.out.trans h)
   have k2:∀W,zb w4 W->W.cell? ⟨gm,2,none⟩=some (.int .i64 m.l):=fun W h=>r2 W (a4.out.trans h)
   have k3:∀W,zb w4 W->W.cell? ⟨gm,3,none⟩=some (.slice Af m.free.length cf):=fun W h=>r3 W (a4.out.trans h)
   have k4:∀W,zb w4 W->W.cell? ⟨gm,4,none⟩=some (.slice Au m.up.length cu):=fun W h=>r4 W (a4.out.trans h)
   have k5:∀W,zb w4 W->W.cell? ⟨gm,5,none⟩=some (.slice At m.tasks.length ct):=fun W h=>r5 W (a4.out.trans h)
   clear r0 r1 r2 r3 r4 r5 V;go_cut [7] (fun v wx=>∃g7 vU,v=.pointer (some ⟨g7,0,none⟩)/\Hid (SubI w4 wx g7 m.w m.h m.l m.up (.slice none 0 0) vU (.slice none 0 0) (.slice none 0 0) (.slice none 0 0) [] [] []))
   case first=>
    refine EW (S:=(fun W=>zb w4 W)) Ag ((zb.refl w4).drew) fun zH=>?_;have d4:zb w4 w4.drew:=zH;generalize w4.drew=wd at zH d4⊢;refine zf 0 zH ?_;refine zf 1 zH ?_;simp only [za,ED];refine zf 2 zH ?_;refine zf 3 zH ?_;simp only [za,ED];refine zf 4 zH ?_;refine zf 5 zH ?_;simp only [za,ED];refine zf 6 zH ?_;refine zf 7 zH ?_;simp only [za,ED];refine rdA [8,10] ?_;refine Fg rfl (fun K D=>?_) ?_
    ·go_simp;go_at_call 45;refine (DP wd (l9.out.below (a3.out.trans d4)) (by omega)).mono ?_;rintro e wc ⟨vU,rfl,c8,b2⟩;obtain ⟨AU,nU,cU,rfl⟩:∃A n c,vU=.slice A n c:=by obtain ⟨A,c,e,-⟩:=AI.of_own b2;exact ⟨A,_,c,e⟩
     have g4:Hid (Cs wc w4.heap.size (.slice AU nU cU) m.up):=b2.mono (Below.size (d4));have a0:zb w4 wc:=zb.trans (d4) c8;clear b2 c8;refine zae D (a0) fun zH=>?_;clear D K;try simp only [za,ED]
     refine rdA [9,10] ?_;refine Fg rfl (fun K D=>?_) ?_
     ·go_simp;refine zae D (a0) fun zH=>?_;clear D K;try simp only [za,ED]
      refine zE 10 fun K D=>?_;go_simp;have O:=zk.new wc #[.int .i64 0,.int .i64 0,.int .i64 0,.slice none 0 0,.slice none 0 0,.slice none 0 0] 32 (g:=wc.heap.size) rfl;have U:zb w4 (wc.alloc (.cells #[.int .i64 0,.int .i64 0,.int .i64 0,.slice none 0 0,.slice none 0 0,.slice none 0 0] 32)):=zb.alloc (a0) _;have f6:w4.heap.size<=wc.heap.size:=Below.size (a0);have j5:Hid (Cs (wc.alloc (.cells #[.int .i64 0,.int .i64 0,.int .i64 0,.slice none 0 0,.slice none 0 0,.slice none 0 0] 32)) w4.heap.size (.slice AU nU cU) m.up):=AB g4.out (grown_ext ((zb.refl _).alloc _)) (fun b hb=>by cases hb);generalize (wc.alloc (.cells #[.int .i64 0,.int .i64 0,.int .i64 0,.slice none 0 0,.slice none 0 0,.slice none 0 0] 32))=wa at*;generalize wc.heap.size=g7 at*;refine zae D (U) fun zH=>?_;clear D K;try simp only [za,ED]
      refine zE 11 fun K D=>?_;have c0:=O.cell (k:=0) rfl;have c1:=O.cell (k:=1) rfl;have c2:=O.cell (k:=2) rfl;have c3:=O.cell (k:=3) rfl;have c4:=O.cell (k:=4) rfl;have c5:=O.cell (k:=5) rfl;have n6:=fun j=>O.frozen j
      go_simp;obtain ⟨f4,a6⟩:=sto6 (a:=.int .i64 m.w) (b:=.int .i64 m.h) (c:=.int .i64 m.l) (d:=.slice none 0 0) (e:=.slice AU nU cU) (f:=.slice none 0 0) O;have a5:=Below.grown (U) a6 (Below.size (U)) (fun k hk=>by injection hk with hk;omega);have f2:=zh (AB j5.out a6 (fun b hb=>by injection hb with hb;subst hb;exact ⟨_,_,O,by decide⟩));refine zae D (a5) fun zH=>?_;clear D K;try simp only [za,ED]
      refine Fk (by kernel_rfl) ?_ _;go_wp2;go_meet;exact ⟨_,_,rfl,SubI.start a5 f6 f4 f2.out⟩
     refine Fg rfl (fun K D=>?_) .nil;go_simp;have O:=zk.new wc #[.int .i64 0,.int .i64 0,.int .i64 0,.slice none 0 0,.slice none 0 0,.slice none 0 0] 32 (g:=wc.heap.size) rfl;have U:zb w4 (wc.alloc (.cells #[.int .i64 0,.int .i64 0,.int .i64 0,.slice none 0 0,.slice none 0 0,.slice none 0 0] 32)):=zb.alloc (a0) _;have f6:w4.heap.size<=wc.heap.size:=Below.size (a0);have j5:Hid (Cs (wc.alloc (.cells #[.int .i64 0,.int .i64 0,.int .i64 0,.slice none 0 0,.slice none 0 0,.slice none 0 0] 32)) w4.heap.size (.slice AU nU cU) m.up):=AB g4.out (grown_ext ((zb.refl _).alloc _)) (fun b hb=>by cases hb);generalize (wc.alloc (.cells #[.int .i64 0,.int .i64 0,.int .i64 0,.slice none 0 0,.slice none 0 0,.slice none 0 0] 32))=wa at*;generalize wc.heap.size=g7 at*;refine zae D (U) fun zH=>?_;clear D K;try simp only [za,ED]
     refine zE 9 fun K D=>?_;go_simp;refine zae D (U) fun zH=>?_;clear D K;try simp only [za,ED]
     refine zE 11 fun K D=>?_;have c0:=O.cell (k:=0) rfl;have c1:=O.cell (k:=1) rfl;have c2:=O.cell (k:=2) rfl;have c3:=O.cell (k:=3) rfl;have c4:=O.cell (k:=4) rfl;have c5:=O.cell (k:=5) rfl;have n6:=fun j=>O.frozen j
     go_simp;obtain ⟨f4,a6⟩:=sto6 (a:=.int .i64 m.w) (b:=.int .i64 m.h) (c:=.int .i64 m.l) (d:=.slice none 0 0) (e:=.slice AU nU cU) (f:=.slice none 0 0) O;have a5:=Below.grown (U) a6 (Below.size (U)) (fun k hk=>by injection hk with hk;omega);have f2:=zh (AB j5.out a6 (fun b hb=>by injection hb with hb;subst hb;exact ⟨_,_,O,by decide⟩));refine zae D (a5) fun zH=>?_;clear D K;try simp only [za,ED]
     refine Fk (by kernel_rfl) ?_ _;go_wp2;go_meet;exact ⟨_,_,rfl,SubI.start a5 f6 f4 f2.out⟩
    refine Fg rfl (fun K D=>?_) .nil;go_simp;have O:=zk.new wd #[.int .i64 0,.int .i64 0,.int .i64 0,.slice none 0 0,.slice none 0 0,.slice none 0 0] 32 (g:=wd.heap.size) rfl;have U:zb w4 (wd.alloc (.cells #[.int .i64 0,.int .i64 0,.int .i64 0,.slice none 0 0,.slice none 0 0,.slice none 0 0] 32)):=zb.alloc (d4) _;have f6:w4.heap.size<=wd.heap.size:=Below.size (d4);generalize (wd.alloc (.cells #[.int .i64 0,.int .i64 0,.int .i64 0,.slice none 0 0,.slice none 0 0,.slice none 0 0] 32))=wa at*;generalize wd.heap.size=g7 at*;refine zae D (U) fun zH=>?_;clear D K;try simp only [za,ED]
    refine zE 8 fun K D=>?_;go_simp;go_at_call 45;refine (DP wa (l9.out.below (a3.out.trans U)) (by omega)).mono ?_;rintro e wc ⟨vU,rfl,c8,b2⟩;obtain ⟨AU,nU,cU,rfl⟩:∃A n c,vU=.slice A n c:=by obtain ⟨A,c,e,-⟩:=AI.of_own b2;exact ⟨A,_,c,e⟩
    have g4:Hid (Cs wc w4.heap.size (.slice AU nU cU) m.up):=b2.mono (Below.size (U));have a0:zb w4 wc:=zb.trans (U) c8;have a2:=O.ext c8;clear b2 c8;refine zae D (a0) fun zH=>?_;clear D K;try simp only [za,ED]
    refine zE 9 fun K D=>?_;go_simp;refine zae D (a0) fun zH=>?_;clear D K;try simp only [za,ED]
    refine zE 11 fun K D=>?_;have c0:=a2.cell (k:=0) rfl;have c1:=a2.cell (k:=1) rfl;have c2:=a2.cell (k:=2) rfl;have c3:=a2.cell (k:=3) rfl;have c4:=a2.cell (k:=4) rfl;have c5:=a2.cell (k:=5) rfl;have n6:=fun j=>a2.frozen j
    go_simp;obtain ⟨f4,a6⟩:=sto6 (a:=.int .i64 m.w) (b:=.int .i64 m.h) (c:=.int .i64 m.l) (d:=.slice none 0 0) (e:=.slice AU nU cU) (f:=.slice none 0 0) a2;have a5:=Below.grown (a0) a6 (Below.size (a0)) (fun k hk=>by injection hk with hk;omega);have f2:=zh (AB g4.out a6 (fun b hb=>by injection hb with hb;subst hb;exact ⟨_,_,a2,by decide⟩));refine zae D (a5) fun zH=>?_;clear D K;try simp only [za,ED]
    refine Fk (by kernel_rfl) ?_ _;go_wp2;go_meet;exact ⟨_,_,rfl,SubI.start a5 f6 f4 f2.out⟩
   case rest=>
    obtain ⟨g7,vU,rfl,hS⟩:=hcut;have w5:zb w4 wc:=hS.out.ext
    go_wp2_with fail
    clear w5;have n0:Hid (SubL w4 wc g7 m ns vU (AA ps t.toNat 0)):=⟨_,_,hS.out⟩;clear hS;go_loopw [34] (fun i wr=>∃k:Nat,k<=m.tasks.length/\i=.int .i64 (k:Nat)/\Hid (SubL w4 wr g7 m ns vU (AA ps t.toNat k))) (fun i _=>m.tasks.length - (intOf i).toNat)
    case atStart=>exact ⟨0,EU _,rfl,n0⟩
    clear n0
    case round=>
     obtain ⟨k,hk,rfl,hS⟩:=hrel;obtain ⟨wk,rfl⟩:∃wk:World,wk=wr:=⟨_,rfl⟩;have i6:zb w4 wk:=by obtain ⟨_,_,h⟩:=hS.out;exact h.ext
     have g8:=zh (a3.out.trans i6);have m9:=zh i6;by_cases b4:k<m.tasks.length
     ·obtain ⟨bt,offt,u1,u2,rfl,p9,b8,d8,l0,l1⟩:=tasksNAt (s3.out.below g8.out) b4;have q3:=HL.out.tl _ (EH b4);have j0:m.tasks.getD k ([],[])=m.tasks[k]:=zgd b4
      have l8:=zh j0;clear j0;obtain ⟨tk,j1⟩:∃tk,tk=m.tasks[k]:=⟨_,rfl⟩;rw [<-j1] at l0 l1 q3 l8;clear j1;obtain ⟨s,l4⟩:=zad (ns.getD k ⟨#[]⟩);rw [<-l4] at p9;have s5:=zh l4;clear l4;have r8:=zh l0;have r9:=zh l1;obtain ⟨A1,c1,rfl,-,-⟩:=l0;obtain ⟨A2,c2,rfl,-,-⟩:=l1;have l2:k<ps.length:=by have:=m7.out;omega
      obtain ⟨bp,offp,up,rfl,_,i9,l6⟩:=Ai HR.out q9.out l2 l2;have n2:wk.cell? ⟨bp,offp+k,none⟩=some up:=g8.out.cell i9;have p7:ps.getD k []=ps[k]:=zgd l2
      have f1:Hid (BG ps t.toNat k=(decide ((k:Int)=t) || decide (0<ps[k].length))):=by
       show _=_;unfold BG;rw [p7];congr 1
       ·rw [decide_eq_decide];omega
       ·rw [decide_eq_decide,Ne,<-List.length_eq_zero_iff];omega
      obtain ⟨q,hq⟩:=zad (ps[k]);rw [<-hq] at l6 f1;obtain ⟨Ap,cp,rfl,x8,-⟩:=l6;obtain ⟨x2,x3⟩:=q3;have y7:(k:Int)<(ps.length:Int):=by omega
      have w7:ps.length<=c:=t5;clear i9 p7 hq;go_upto_region 7 with fail;have h5:=zk.new wk #[.string s,.slice A1 tk.1.length c1,.slice A2 tk.2.length c2] 56 (g:=wk.heap.size) rfl;have h6:zb wk (wk.alloc (.cells #[.string s,.slice A1 tk.1.length c1,.slice A2 tk.2.length c2] 56)):=(zb.refl wk).alloc _;generalize wk.alloc _=w9 at h5 h6⊢;obtain ⟨g9,o2⟩:=zad wk.heap.size;rw [<-o2] at h5⊢;clear o2;have n3:w9.cell? ⟨bp,offp+k,none⟩=some (.slice Ap q.length cp):=h6.cell n2;have j4:=zh h5;have c7:=zh h6;clear p9 b8 d8 n2 i6 h5 h6;go_cut [49] (fun v wx=>v=.bool (BG ps t.toNat k)/\w9=wx)
      case first=>
       by_cases d5:(k:Int)=t
       ·have J:((k:Int)==t)=true:=by simp [d5]
        have HD:Hid (BG ps t.toNat k=true):=by show _=_;rw [f1.out,EJ d5];rfl
        clear d5;go_wp2;go_meet;exact ⟨by rw [HD.out],rfl⟩
       ·have J:((k:Int)==t)=false:=by simp [d5]
        have HD:Hid (BG ps t.toNat k=decide (0<q.length)):=by show _=_;rw [f1.out,EK d5];rfl
        clear d5;go_wp2;go_meet;refine ⟨?_,rfl⟩;rw [HD.out]
        all_goals (first | rfl | (congr 1;done) | (congr 1;rw [decide_eq_decide];omega))
      case rest=>
       obtain ⟨rfl,rfl⟩:=hcut;clear n3
       cases i3:BG ps t.toNat k with
       | false=>
        have HK:=zh (keepTo_f i3);clear i3 f1;have k6:Hid (SubL w4 w9 g7 m ns vU (AA ps t.toNat (k+1))):=by obtain ⟨a,b,h⟩:=hS.out;rw [HK.out];exact ⟨a,b,h.more c7.out⟩
        go_wp2;go_roundw
        case rel=>exact ⟨k+1,by omega,by go_num,k6⟩
        case measure=>simp [intOf];omega
       | true=>
        have HK:=zh (keepTo_t i3);clear i3 f1
        go_wp2_with fail
        obtain ⟨vF,vT,T⟩:=hS.out;have a8:=zh (T.more c7.out);clear hS T;have y8:=keepTo_len ps t.toNat k;obtain ⟨us,f9,p6,q5⟩:=a8.out.tk;have g6:=zh f9;have s4:=zh p6;have s6:=zh q5;clear f9 p6 q5;obtain ⟨AT,nT,cT,rfl⟩:∃A n c,vT=.slice A n c:=by obtain ⟨A,c,e,-⟩:=AI.of_own g6.out;exact ⟨A,_,c,e⟩
        obtain ⟨vs,b0,i5⟩:=a8.out.fr;obtain ⟨AF,nF,cF,rfl⟩:∃A n c,vF=.slice A n c:=by obtain ⟨A,c,e,-⟩:=AI.of_own b0;exact ⟨A,_,c,e⟩
        clear b0 i5 vs;have b3:=zb.rule (a8.out.box.cell (k:=3) rfl);have b5:=zb.rule (a8.out.box.cell (k:=5) rfl);have q0:=zb.rule (j4.out.cell (k:=0) rfl);have q1:=zb.rule (j4.out.cell (k:=1) rfl);have q2:=zb.rule (j4.out.cell (k:=2) rfl);have x6:=zh (g8.out.trans c7.out);have j8:=zh (m9.out.trans c7.out);refine EW (S:=(fun _=>True)) (by kernel_rfl) (trivial) fun zH=>?_;refine BJ [0,1,2,3,4,5,6,7,8,9,10,11,12,13,14] (fun e v W=>JA (V8 w4.heap.size g7 g9 (.slice AT nT cT) (.slice A1 tk.1.length c1) (.slice A2 tk.2.length c2) s tk.1 tk.2) D8 w9 [0,1,2,3,4,5,6,7,8,9,10,11] 12 13 14 (.pointer (some ⟨g7,5,none⟩)) (fun x W=>SubI w4 W g7 m.w m.h m.l m.up (.slice AF nF cF) vU (.slice AT nT cT) (.slice AF nF cF) x ((AA ps t.toNat k).map (m.free.getD · [])) (((AA ps t.toNat k).map (m.tasks.getD · ([],[])))++[tk]) (((AA ps t.toNat k).map (ns.getD · ⟨#[]⟩))++[s])) (fun W=>∃vT',SubI w4 W g7 m.w m.h m.l m.up (.slice AF nF cF) vU vT' (.slice AF nF cF) vT' ((AA ps t.toNat k).map (m.free.getD · [])) (((AA ps t.toNat k).map (m.tasks.getD · ([],[])))++[tk]) (((AA ps t.toNat k).map (ns.getD · ⟨#[]⟩))++[s])) e v W) (F:=?F9) (by kernel_rfl) (by kernel_rfl) (by decide) zH (fun v=>?hF9) ?init9 (by kernel_rfl) ?steps9 ?fin9
        case hF9=>(simp only [zM,Cc,List.getElem?_toArray,List.getElem?_cons_succ,List.getElem?_cons_zero,Option.bind,Act.put,List.setIfInBounds_toArray,List.set_cons_succ,List.set_cons_zero];rfl)
        case init9=>(intro e v he;exact JA.init (zb.refl w9).drew (by decide) (fun j hj=>he j (by simp at hj⊢;omega)))
        case steps9=>
         refine zg.cons rfl (fun e v W K o hW he J D=>?_) ?_
         ·simp only [za] at J D⊢;have M:=o.notA (j:=0) (by simp) he;have I:zb w9 W:=o.g M;go_simp;exact D.out _ _ _ (by rfl) trivial (o.step (j:=0) (by simp) he V8.st (by decide) (by simp [D8]) (zb.refl _) rfl)
         refine zg.cons rfl (fun e v W K o hW he J D=>?_) ?_
         ·simp only [za] at J D⊢;have M:=o.notA (j:=1) (by simp) he;have I:zb w9 W:=o.g M;have z:=zn J [0] (by kernel_rfl);have v0:v 0=.pointer (some ⟨g7,5,none⟩):=o.gv M 0 (by simp) (z 0 (by simp));go_simp;exact D.out _ _ _ (by simp [Act.put,v0]) trivial (o.step (j:=1) (by simp) he V8.st (by decide) (fun d E=>⟨by simp [D8] at E⊢;omega,z d (by simp [D8] at E⊢;omega)⟩) (zb.refl _) rfl)
         refine zg.cons rfl (fun e v W K o hW he J D=>?_) ?_
         ·simp only [za] at J D⊢;have M:=o.notA (j:=2) (by simp) he;have I:zb w9 W:=o.g M;go_simp;exact D.out _ _ _ (by rfl) trivial (o.step (j:=2) (by simp) he V8.st (by decide) (by simp [D8]) (zb.refl _) rfl)
         refine zg.cons rfl (fun e v W K o hW he J D=>?_) ?_
         ·simp only [za] at J D⊢;have M:=o.notA (j:=3) (by simp) he;have I:zb w9 W:=o.g M;have z:=zn J [2] (by kernel_rfl);have v2:v 2=.pointer (some ⟨g9,0,none⟩):=o.gv M 2 (by simp) (z 2 (by simp));go_simp;exact D.out _ _ _ (by simp [Act.put,v2]) trivial (o.step (j:=3) (by simp) he V8.st (by decide) (fun d E=>⟨by simp [D8] at E⊢;omega,z d (by simp [D8] at E⊢;omega)⟩) (zb.refl _) rfl)
         refine zg.cons rfl (fun e v W K o hW he J D=>?_) ?_
         ·simp only [za] at J D⊢;have M:=o.notA (j:=4) (by simp) he;have I:zb w9 W:=o.g M;go_simp;exact D.out _ _ _ (by rfl) trivial (o.step (j:=4) (by simp) he V8.st (by decide) (by simp [D8]) (zb.refl _) rfl)
         refine zg.cons rfl (fun e v W K o hW he J D=>?_) ?_
         ·simp only [za] at J D⊢;have M:=o.notA (j:=5) (by simp) he;have I:zb w9 W:=o.g M;have z:=zn J [4] (by kernel_rfl);have v4:v 4=.pointer (some ⟨g9,1,none⟩):=o.gv M 4 (by simp) (z 4 (by simp));go_simp;exact D.out _ _ _ (by simp [Act.put,v4]) trivial (o.step (j:=5) (by simp) he V8.st (by decide) (fun d E=>⟨by simp [D8] at E⊢;omega,z d (by simp [D8] at E⊢;omega)⟩) (zb.refl _) rfl)
         refine zg.cons rfl (fun e v W K o hW he J D=>?_) ?_
         ·simp only [za] at J D⊢;have M:=o.notA (j:=6) (by simp) he;have I:zb w9 W:=o.g M;have z:=zn J [5] (by kernel_rfl);have v5:v 5=.slice A1 tk.1.length c1:=o.gv M 5 (by simp) (z 5 (by simp));go_simp;go_at_call 46;refine (Bw W (r8.out.below (c7.out.trans I)) (by omega)).mono ?_;rintro e9 wn ⟨vn,rfl,f7⟩;go_simp;exact D.out _ _ _ (by simp [Act.put,v5]) trivial (o.step (j:=6) (by simp) he V8.st (by decide) (fun d E=>⟨by simp [D8] at E⊢;omega,z d (by simp [D8] at E⊢;omega)⟩) f7.ext (f7.own.mono (Below.size (j8.out.trans I))))
         refine zg.cons rfl (fun e v W K o hW he J D=>?_) ?_
         ·simp only [za] at J D⊢;have M:=o.notA (j:=7) (by simp) he;have I:zb w9 W:=o.g M;go_simp;exact D.out _ _ _ (by rfl) trivial (o.step (j:=7) (by simp) he V8.st (by decide) (by simp [D8]) (zb.refl _) rfl)
         refine zg.cons rfl (fun e v W K o hW he J D=>?_) ?_
         ·simp only [za] at J D⊢;have M:=o.notA (j:=8) (by simp) he;have I:zb w9 W:=o.g M;have z:=zn J [7] (by kernel_rfl);have v7:v 7=.pointer (some ⟨g9,2,none⟩):=o.gv M 7 (by simp) (z 7 (by simp));go_simp;exact D.out _ _ _ (by simp [Act.put,v7]) trivial (o.step (j:=8) (by simp) he V8.st (by decide) (fun d E=>⟨by simp [D8] at E⊢;omega,z d (by simp [D8] at E⊢;omega)⟩) (zb.refl _) rfl)
         refine zg.cons rfl (fun e v W K o hW he J D=>?_) ?_
         ·simp only [za] at J D⊢;have M:=o.notA (j:=9) (by simp) he;have I:zb w9 W:=o.g M;have z:=zn J [8,6] (by kernel_rfl);have v8:v 8=.slice A2 tk.2.length c2:=o.gv M 8 (by simp) (z 8 (by simp));go_simp;go_at_call 46;refine (Bw W (r9.out.below (c7.out.trans I)) (by omega)).mono ?_;rintro e9 wn ⟨vn,rfl,f7⟩;go_simp;exact D.out _ _ _ (by simp [Act.put,v8]) trivial (o.step (j:=9) (by simp) he V8.st (by decide) (fun d E=>⟨by simp [D8] at E⊢;omega,z d (by simp [D8] at E⊢;omega)⟩) f7.ext (f7.own.mono (Below.size (j8.out.trans I))))
         refine zg.cons rfl (fun e v W K o hW he J D=>?_) ?_
         ·simp only [za] at J D⊢;have M:=o.notA (j:=10) (by simp) he;have I:zb w9 W:=o.g M;have z:=zn J [3,6,9] (by kernel_rfl);have v3:v 3=.string s:=o.gv M 3 (by simp) (z 3 (by simp));have o6:zD W w4.heap.size (v 6) tk.1:=o.gv M 6 (by simp) (z 6 (by simp));have o9:zD W w4.heap.size (v 9) tk.2:=o.gv M 9 (by simp) (z 9 (by simp));obtain ⟨B6,d6,v6,-⟩:=Bd o6;obtain ⟨B9,d9,v9,-⟩:=Bd o9;rw [v6] at o6;rw [v9] at o9;go_simp;exact D.out _ _ _ (by simp [Act.put,v3,v6,v9]) trivial (o.step (j:=10) (by simp) he V8.st (by decide) (fun d E=>⟨by simp [D8] at E⊢;omega,z d (by simp [D8] at E⊢;omega)⟩) (zb.refl _) ⟨_,_,rfl,o6,o9⟩)
         refine zg.cons rfl (fun e v W K o hW he J D=>?_) ?_
         ·simp only [za] at J D⊢;have M:=o.notA (j:=11) (by simp) he;have I:zb w9 W:=o.g M;have z:=zn J [10] (by kernel_rfl);obtain ⟨y1,y2,v10,o6,o9⟩:=(show ∃y1 y2,v 10=.agg #[.string s,y1,y2]/\zD W w4.heap.size y1 tk.1/\zD W w4.heap.size y2 tk.2 from o.gv M 10 (by simp) (z 10 (by simp)));go_simp;exact D.out _ _ _ (by simp [Act.put,v10]) trivial (o.step (j:=11) (by simp) he V8.st (by decide) (fun d E=>⟨by simp [D8] at E⊢;omega,z d (by simp [D8] at E⊢;omega)⟩) ((zb.refl W).alloc _) ⟨W.heap.size,y1,y2,rfl,zk.new _ _ _ rfl,Bi o6 ((zb.refl W).alloc _),Bi o9 ((zb.refl W).alloc _)⟩)
         refine zg.cons rfl (fun e v W K o hW he J D=>?_) ?_
         ·simp only [za] at J D⊢;have z:=zn J [1,11] (by kernel_rfl);have I:zb w9 W:=o.g he;have v1:v 1=.slice AT nT cT:=o.gv he 1 (by simp) (z 1 (by simp));obtain ⟨g,y1,y2,v11,k8,o6,o9⟩:=(show ∃g y1 y2,v 11=.slice (some ⟨g,0,none⟩) 1 1/\zk W g 56 #[.string s,y1,y2]/\zD W w4.heap.size y1 tk.1/\zD W w4.heap.size y2 tk.2 from o.gv he 11 (by simp) (z 11 (by simp)));have e1:=z 1 (by simp);have e11:=z 11 (by simp);have e0:=(o.c 1 (by simp) e1 0 (by simp [D8])).2;have e10:=(o.c 11 (by simp) e11 10 (by simp [D8])).2;have e3:=(o.c 10 (by simp) e10 3 (by simp [D8])).2;have e6:=(o.c 10 (by simp) e10 6 (by simp [D8])).2;have e9:=(o.c 10 (by simp) e10 9 (by simp [D8])).2;have e2:=(o.c 3 (by simp) e3 2 (by simp [D8])).2;have e5:=(o.c 6 (by simp) e6 5 (by simp [D8])).2;have e4:=(o.c 5 (by simp) e5 4 (by simp [D8])).2;have e8:=(o.c 9 (by simp) e9 8 (by simp [D8])).2;have e7:=(o.c 8 (by simp) e8 7 (by simp [D8])).2;have f8:∀j∈[0,1,2,3,4,5,6,7,8,9,10,11],e j=true:=fun j hj=>by simp at hj;rcases hj with rfl | rfl | rfl | rfl | rfl | rfl | rfl | rfl | rfl | rfl | rfl | rfl <;> assumption
          rw [if_pos (by simp [Region.wanted])];have b6:W.ownsRow w4.heap.size 56 3 (v 1) ((AA ps t.toNat k).map (m.tasks.getD · ([],[]))).length us:=by rw [v1];exact Bi g6.out I
          have b7:AI W (fun _=>True) 3 (v 11) 1 [.string s,y1,y2]:=by rw [v11];exact row1 k8 rfl
          refine CO (ok:=fun _=>True) W (.tmp 51) (.tmp 61) eTask rfl w4.heap.size ((AA ps t.toNat k).map (m.tasks.getD · ([],[]))).length 1 us [.string s,y1,y2] (v 1) (v 11) rfl rfl b6 b7 (fun u hu=>by simp at hu;rcases hu with rfl | rfl | rfl;rfl;exact DV (AI.of_own o6:zj W _ _ tk.1);exact DV (AI.of_own o9:zj W _ _ tk.2)) (Below.size (j8.out.trans I)) (by rw [Fr];unfold maxLen;omega) (by rw [Fr];omega) ?_;intro x w' ho hg _;exact D.out _ _ _ (by simp [Act.put]) trivial (o.app he (by decide) (by decide) f8 ((a8.out.more I).addT (fun i x s V hs=>by obtain ⟨a,b,q0,q1,q2,i1,i2⟩:=s6.out i x s V hs;exact ⟨a,b,q0,q1,q2,Bi i1 I,Bi i2 I⟩) s4.out g6.out.1 (Bi g6.out I) o6 o9 ho (by rw [v1] at hg;exact hg)))
         refine zg.cons rfl (fun e v W K o hW he J D=>?_) ?_
         ·simp only [za] at J D⊢;have z:=zn J [12] (by kernel_rfl);go_simp;exact D.out _ _ _ (by rfl) trivial (o.addr (by decide) (by decide) rfl)
         refine zg.cons rfl (fun e v W K o hW he J D=>?_) ?_
         ·simp only [za] at J D⊢;have z:=zn J [13,12] (by kernel_rfl);have M:=z 12 (by simp);have v13:=o.f (z 13 (by simp));have hm:=o.m M he;have c5:=hm.box.cell (k:=5) rfl;have hf:=hm.box.frozen 5;obtain ⟨A12,n12,c12,j2⟩:∃A n c,v 12=.slice A n c:=by obtain ⟨_,ho,-,-⟩:=hm.tk;obtain ⟨A,c,e,-⟩:=AI.of_own ho;exact ⟨A,_,c,e⟩
          rw [j2] at hm;go_simp;exact D.out _ undef _ (by simp [Act.put,v13,j2]) trivial (o.store (by decide) (by decide) M ⟨_,hm.sto rfl⟩)
         exact zg.nil
        case fin9=>
         intro v W5 o _;obtain ⟨vT',hT⟩:=(o.s rfl).2;have h7:=zh hT;clear o hT;obtain ⟨vs,b0,i5⟩:=h7.out.fr;have j7:=zh b0;have s8:=zh i5;clear b0 i5 b3 b5 q0 q1 q2;have i4:k<m.free.length:=by rw [G.out.fl];exact b4
         obtain ⟨bf,offf,uf,rfl,_,i8,l5⟩:=(show ∃b off u,Af=some ⟨b,off,none⟩/\okm b/\w.cell? ⟨b,off+k,none⟩=some u/\BB w okm u m.free[k] from by obtain ⟨vsf,⟨A0,c0,e,_,w0⟩,n5⟩:=s2.out;injection e with e1 e2 e3;subst e1;exact Ai w0 n5 i4 i4);have h9:(m.free[k]).length<=300:=by have:=G.out.fn _ (EH i4);have:=G.out.dim.n1;unfold MZ.n at *;omega
         have o3:m.free.getD k []=m.free[k]:=zgd i4
         have l7:=zh o3;clear o3;obtain ⟨fk,n8⟩:=zad (m.free[k]);rw [<-n8] at l5 h9 l7;clear n8;have s7:=zh l5;obtain ⟨Ab,cb,rfl,-,-⟩:=l5;have g0:zb w4 W5:=h7.out.ext;have f3:=zh g0;have m8:=zh (a3.out.trans g0);have j3:∀W,zb W5 W->W.cell? ⟨gm,3,none⟩=some (.slice (some ⟨bf,offf,none⟩) m.free.length cf):=fun W h=>k3 W (f3.out.trans h)
         have j6:=zb.rule (m8.out.cell i8);have b3:=zb.rule (h7.out.box.cell (k:=3) rfl);clear i8 g0;have p1:(k:Int)<(m.free.length:Int):=by omega
         have o8:(0:Int)<=(k:Int):=by omega
         go_wp2_with fail
         refine EW (S:=(fun _=>True)) (by kernel_rfl) (trivial) fun zH=>?_;refine BJ [0,1,2,3,4,5,6,7,8,9,10,11] (fun e v W=>JA (V9 w4.heap.size g7 gm (.slice AF nF cF) (.slice (some ⟨bf,offf,none⟩) m.free.length cf) k ⟨bf,offf+k,none⟩ (.slice Ab fk.length cb) fk) D9 W5 [0,1,2,3,4,5,6,7,8] 9 10 11 (.pointer (some ⟨g7,3,none⟩)) (fun x W=>SubI w4 W g7 m.w m.h m.l m.up (.slice AF nF cF) vU vT' x vT' (((AA ps t.toNat k).map (m.free.getD · []))++[fk]) (((AA ps t.toNat k).map (m.tasks.getD · ([],[])))++[tk]) (((AA ps t.toNat k).map (ns.getD · ⟨#[]⟩))++[s])) (fun W=>∃vF',SubI w4 W g7 m.w m.h m.l m.up vF' vU vT' vF' vT' (((AA ps t.toNat k).map (m.free.getD · []))++[fk]) (((AA ps t.toNat k).map (m.tasks.getD · ([],[])))++[tk]) (((AA ps t.toNat k).map (ns.getD · ⟨#[]⟩))++[s])) e v W) (F:=?F10) (by kernel_rfl) (by kernel_rfl) (by decide) zH (fun v=>?hF10) ?init10 (by kernel_rfl) ?steps10 ?fin10
         case hF10=>(simp only [zM,Cc,List.getElem?_toArray,List.getElem?_cons_succ,List.getElem?_cons_zero,Option.bind,Act.put,List.setIfInBounds_toArray,List.set_cons_succ,List.set_cons_zero];rfl)
         case init10=>(intro e v he;exact JA.init (zb.refl W5).drew (by decide) (fun j hj=>he j (by simp at hj⊢;omega)))
         case steps10=>
          refine zg.cons rfl (fun e v W K o hW he J D=>?_) ?_
          ·simp only [za] at J D⊢;have M:=o.notA (j:=0) (by simp) he;have I:zb W5 W:=o.g M;go_simp;exact D.out _ _ _ (by rfl) trivial (o.step (j:=0) (by simp) he V9.st (by decide) (by simp [D9]) (zb.refl _) rfl)
          refine zg.cons rfl (fun e v W K o hW he J D=>?_) ?_
          ·simp only [za] at J D⊢;have M:=o.notA (j:=1) (by simp) he;have I:zb W5 W:=o.g M;have z:=zn J [0] (by kernel_rfl);have v0:v 0=.pointer (some ⟨g7,3,none⟩):=o.gv M 0 (by simp) (z 0 (by simp));go_simp;exact D.out _ _ _ (by simp [Act.put,v0]) trivial (o.step (j:=1) (by simp) he V9.st (by decide) (fun d E=>⟨by simp [D9] at E⊢;omega,z d (by simp [D9] at E⊢;omega)⟩) (zb.refl _) rfl)
          refine zg.cons rfl (fun e v W K o hW he J D=>?_) ?_
          ·simp only [za] at J D⊢;have M:=o.notA (j:=2) (by simp) he;have I:zb W5 W:=o.g M;go_simp;exact D.out _ _ _ (by rfl) trivial (o.step (j:=2) (by simp) he V9.st (by decide) (by simp [D9]) (zb.refl _) rfl)
          refine zg.cons rfl (fun e v W K o hW he J D=>?_) ?_
          ·simp only [za] at J D⊢;have M:=o.notA (j:=3) (by simp) he;have I:zb W5 W:=o.g M;have z:=zn J [2] (by kernel_rfl);have v2:v 2=.pointer (some ⟨gm,3,none⟩):=o.gv M 2 (by simp) (z 2 (by simp));go_simp;exact D.out _ _ _ (by simp [Act.put,v2]) trivial (o.step (j:=3) (by simp) he V9.st (by decide) (fun d E=>⟨by simp [D9] at E⊢;omega,z d (by simp [D9] at E⊢;omega)⟩) (zb.refl _) rfl)
          refine zg.cons rfl (fun e v W K o hW he J D=>?_) ?_
          ·simp only [za] at J D⊢;have M:=o.notA (j:=4) (by simp) he;have I:zb W5 W:=o.g M;go_simp;exact D.out _ _ _ (by rfl) trivial (o.step (j:=4) (by simp) he V9.st (by decide) (by simp [D9]) (zb.refl _) rfl)
          refine zg.cons rfl (fun e v W K o hW he J D=>?_) ?_
          ·simp only [za] at J D⊢;have M:=o.notA (j:=5) (by simp) he;have I:zb W5 W:=o.g M;have z:=zn J [3,4] (by kernel_rfl);have v3:v 3=.slice (some ⟨bf,offf,none⟩) m.free.length cf:=o.gv M 3 (by simp) (z 3 (by simp));have v4:v 4=.int .i64 k:=o.gv M 4 (by simp) (z 4 (by simp));go_simp;exact D.out _ _ _ (by simp [Act.put,v3,v4]) trivial (o.step (j:=5) (by simp) he V9.st (by decide) (fun d E=>⟨by simp [D9] at E⊢;omega,z d (by simp [D9] at E⊢;omega)⟩) (zb.refl _) rfl)
          refine zg.cons rfl (fun e v W K o hW he J D=>?_) ?_
          ·simp only [za] at J D⊢;have M:=o.notA (j:=6) (by simp) he;have I:zb W5 W:=o.g M;have z:=zn J [5] (by kernel_rfl);have v5:v 5=.pointer (some ⟨bf,offf+k,none⟩):=o.gv M 5 (by simp) (z 5 (by simp));go_simp;exact D.out _ _ _ (by simp [Act.put,v5]) trivial (o.step (j:=6) (by simp) he V9.st (by decide) (fun d E=>⟨by simp [D9] at E⊢;omega,z d (by simp [D9] at E⊢;omega)⟩) (zb.refl _) rfl)
          refine zg.cons rfl (fun e v W K o hW he J D=>?_) ?_
          ·simp only [za] at J D⊢;have M:=o.notA (j:=7) (by simp) he;have I:zb W5 W:=o.g M;have z:=zn J [6] (by kernel_rfl);have v6:v 6=.slice Ab fk.length cb:=o.gv M 6 (by simp) (z 6 (by simp));go_simp;go_at_call 45;refine (DP W (s7.out.below (m8.out.trans I)) (by omega)).mono ?_;rintro e9 wn ⟨vn,rfl,t2,t4⟩;go_simp;exact D.out _ _ _ (by simp [Act.put,v6]) trivial (o.step (j:=7) (by simp) he V9.st (by decide) (fun d E=>⟨by simp [D9] at E⊢;omega,z d (by simp [D9] at E⊢;omega)⟩) t2 (t4.mono (Below.size (f3.out.trans I))))
          refine zg.cons rfl (fun e v W K o hW he J D=>?_) ?_
          ·simp only [za] at J D⊢;have M:=o.notA (j:=8) (by simp) he;have I:zb W5 W:=o.g M;have z:=zn J [7] (by kernel_rfl);have o7:Cs W w4.heap.size (v 7) fk:=o.gv M 7 (by simp) (z 7 (by simp));obtain ⟨B7,n7,d7,v7⟩:∃A n c,v 7=.slice A n c:=by obtain ⟨A,c,e,-⟩:=AI.of_own o7;exact ⟨A,_,c,e⟩
           rw [v7] at o7;go_simp;exact D.out _ _ _ (by simp [Act.put,v7]) trivial (o.step (j:=8) (by simp) he V9.st (by decide) (fun d E=>⟨by simp [D9] at E⊢;omega,z d (by simp [D9] at E⊢;omega)⟩) ((zb.refl W).alloc _) ⟨W.heap.size,_,rfl,zk.new _ _ _ rfl,Bi o7 ((zb.refl W).alloc _)⟩)
          refine zg.cons rfl (fun e v W K o hW he J D=>?_) ?_
          ·simp only [za] at J D⊢;have z:=zn J [1,8] (by kernel_rfl);have I:zb W5 W:=o.g he;have v1:v 1=.slice AF nF cF:=o.gv he 1 (by simp) (z 1 (by simp));obtain ⟨g,y,v8,k8,o7⟩:=(show ∃g y,v 8=.slice (some ⟨g,0,none⟩) 1 1/\zk W g 29 #[y]/\Cs W w4.heap.size y fk from o.gv he 8 (by simp) (z 8 (by simp)));have e1:=z 1 (by simp);have e8:=z 8 (by simp);have e0:=(o.c 1 (by simp) e1 0 (by simp [D9])).2;have e7:=(o.c 8 (by simp) e8 7 (by simp [D9])).2;have e6:=(o.c 7 (by simp) e7 6 (by simp [D9])).2;have e5:=(o.c 6 (by simp) e6 5 (by simp [D9])).2;have e3:=(o.c 5 (by simp) e5 3 (by simp [D9])).2;have e4:=(o.c 5 (by simp) e5 4 (by simp [D9])).2;have e2:=(o.c 3 (by simp) e3 2 (by simp [D9])).2;have f8:∀j∈[0,1,2,3,4,5,6,7,8],e j=true:=fun j hj=>by simp at hj;rcases hj with rfl | rfl | rfl | rfl | rfl | rfl | rfl | rfl | rfl <;> assumption
           rw [if_pos (by simp [Region.wanted])];have b6:W.ownsRow w4.heap.size 29 1 (v 1) ((AA ps t.toNat k).map (m.free.getD · [])).length vs:=by rw [v1];exact Bi j7.out I
           have b7:AI W (fun _=>True) 1 (v 8) 1 [y]:=by rw [v8];exact row1 k8 rfl
           refine CO (ok:=fun _=>True) W (.tmp 65) (.tmp 72) eBools rfl w4.heap.size ((AA ps t.toNat k).map (m.free.getD · [])).length 1 vs [y] (v 1) (v 8) rfl rfl b6 b7 (fun u hu=>by simp at hu;subst hu;obtain ⟨A,c,e,-⟩:=AI.of_own o7;rw [e];rfl) (Below.size (f3.out.trans I)) (by rw [Fr];unfold maxLen;omega) (by rw [Fr];omega) ?_;intro x w' ho hg _;exact D.out _ _ _ (by simp [Act.put]) trivial (o.app he (by decide) (by decide) f8 ((h7.out.more I).addF (fun i x V=>by obtain ⟨a,q0,i1⟩:=s8.out i x V;exact ⟨a,q0,Bi i1 I⟩) (by have:=j7.out.1;omega) (Bi j7.out I) o7 ho (by rw [v1] at hg;exact hg)))
          refine zg.cons rfl (fun e v W K o hW he J D=>?_) ?_
          ·simp only [za] at J D⊢;have z:=zn J [9] (by kernel_rfl);go_simp;exact D.out _ _ _ (by rfl) trivial (o.addr (by decide) (by decide) rfl)
          refine zg.cons rfl (fun e v W K o hW he J D=>?_) ?_
          ·simp only [za] at J D⊢;have z:=zn J [10,9] (by kernel_rfl);have M:=z 9 (by simp);have v10:=o.f (z 10 (by simp));have hm:=o.m M he;have c3:=hm.box.cell (k:=3) rfl;have hf:=hm.box.frozen 3;obtain ⟨A9,n9,c9,q6⟩:∃A n c,v 9=.slice A n c:=by obtain ⟨_,ho,-⟩:=hm.fr;obtain ⟨A,c,e,-⟩:=AI.of_own ho;exact ⟨A,_,c,e⟩
           rw [q6] at hm;go_simp;exact D.out _ undef _ (by simp [Act.put,v10,q6]) trivial (o.store (by decide) (by decide) M ⟨_,hm.sto rfl⟩)
          exact zg.nil
         case fin10=>
          intro v W6 o _;obtain ⟨vF',hF⟩:=(o.s rfl).2;have k6:Hid (SubL w4 W6 g7 m ns vU (AA ps t.toNat (k+1))):=⟨vF',vT',by rw [HK.out,map_snoc',map_snoc',map_snoc',l7.out,l8.out,<-s5.out];exact hF⟩;clear o hF j3 j6 b3 p1 o8;go_wp2;go_roundw
          case rel=>exact ⟨k+1,by omega,by go_num,k6⟩
          case measure=>simp [intOf];omega
     ·have t7:k=m.tasks.length:=by omega
      subst t7;obtain ⟨vF,vT,T⟩:=hS.out;have p2:AA ps t.toNat m.tasks.length=keepL ps t.toNat:=by unfold AA keepL;rw [m7.out]
      rw [p2] at T;have t3:=zh T.maze;obtain ⟨vs,b0,-⟩:=T.fr;obtain ⟨us,f9,-⟩:=T.tk;obtain ⟨AF,nF,cF,rfl⟩:∃A n c,vF=.slice A n c:=by obtain ⟨A,c,e,-⟩:=AI.of_own b0;exact ⟨A,_,c,e⟩
      obtain ⟨AT,nT,cT,rfl⟩:∃A n c,vT=.slice A n c:=by obtain ⟨A,c,e,-⟩:=AI.of_own f9;exact ⟨A,_,c,e⟩
      obtain ⟨AU,nU,cU,rfl⟩:∃A n c,vU=.slice A n c:=by obtain ⟨A,c,e,-⟩:=AI.of_own T.up;exact ⟨A,_,c,e⟩
      have x5:=zh T;have L:zk wk gz 32 #[.int .i64 0,.int .i64 0,.int .i64 0,.slice none 0 0,.slice none 0 0,.slice none 0 0]:=HZ.out.ext (a4.out.trans T.ext);have z0:wk.cell? ⟨gz,0,none⟩=some (.int .i64 0):=L.cell (k:=0) rfl;have z1:wk.cell? ⟨gz,1,none⟩=some (.int .i64 0):=L.cell (k:=1) rfl;have z2:wk.cell? ⟨gz,2,none⟩=some (.int .i64 0):=L.cell (k:=2) rfl;have z3:wk.cell? ⟨gz,3,none⟩=some (.slice none 0 0):=L.cell (k:=3) rfl;have z4:wk.cell? ⟨gz,4,none⟩=some (.slice none 0 0):=L.cell (k:=4) rfl;have z5:wk.cell? ⟨gz,5,none⟩=some (.slice none 0 0):=L.cell (k:=5) rfl;have hfz:∀j,wk.frozen? ⟨gz,j,none⟩=false:=fun j=>L.frozen j
      have m0:wk.cell? ⟨g7,0,none⟩=some (.int .i64 m.w):=T.box.cell (k:=0) rfl;have m1:wk.cell? ⟨g7,1,none⟩=some (.int .i64 m.h):=T.box.cell (k:=1) rfl;have m2:wk.cell? ⟨g7,2,none⟩=some (.int .i64 m.l):=T.box.cell (k:=2) rfl;have m3:wk.cell? ⟨g7,3,none⟩=some (.slice AF nF cF):=T.box.cell (k:=3) rfl;have m4:wk.cell? ⟨g7,4,none⟩=some (.slice AU nU cU):=T.box.cell (k:=4) rfl;have m5:wk.cell? ⟨g7,5,none⟩=some (.slice AT nT cT):=T.box.cell (k:=5) rfl;have f0:=zh L;clear L T b0 f9 b4 hk i6 hS p2
      go_wp2_with fail
      refine DF (P:=fun W=>bodyPost Tryz.prog Tryz.f15 _ Exit.ret _ W) (g2:=gz) ?_ f0.out;intro WZ Q f5 hk;have y0:WZ.cell? ⟨gz,0,none⟩=some (.int .i64 m.w):=Q.cell (k:=0) rfl;have y1:WZ.cell? ⟨gz,1,none⟩=some (.int .i64 m.h):=Q.cell (k:=1) rfl;have y2:WZ.cell? ⟨gz,2,none⟩=some (.int .i64 m.l):=Q.cell (k:=2) rfl;have y3:WZ.cell? ⟨gz,3,none⟩=some (.slice AF nF cF):=Q.cell (k:=3) rfl;have y4:WZ.cell? ⟨gz,4,none⟩=some (.slice AU nU cU):=Q.cell (k:=4) rfl;have y5:WZ.cell? ⟨gz,5,none⟩=some (.slice AT nT cT):=Q.cell (k:=5) rfl;refine FC (v:=.agg #[.int .i64 m.w,.int .i64 m.h,.int .i64 m.l,.slice AF nF cF,.slice AU nU cU,.slice AT nT cT]) (by simp [results,Tryz.results15,go_sem,y0,y1,y2,y3,y4,y5]) rfl ⟨_,rfl,Below.trans g8.out (f5.mono (by have:=g5.out.1;omega)),?_⟩;rw [HO.out.1,HO.out.2];have h4:=a3.out.size;exact t3.out.keepW (fun b hb b4=>hk b b4 (by have:=g5.out.2;have:=a4.out.size;omega)) (fun b hb=>by omega)
end
end Go.Proofs.YthbjngbhbbkkgaaGreat
