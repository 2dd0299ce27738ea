import Derived.Test.YthbjngbhbbkkgaaGreatHPk
set_option linter.unusedVariables false
set_option linter.unusedSimpArgs false
set_option maxRecDepth 100000
set_option maxHeartbeats 16000000
namespace Go.Proofs.YthbjngbhbbkkgaaGreat
variable {ns:List ByteArray} {c g7 n:Nat} {ok okf okm:Nat->Prop} {v' vf:Value}
section
open Go.RowKit
attribute [local go_sem ↓] Go.wp_at_zero Go.wp_at_succ
def subN (m:MZ) (ps:List (List Int)) (t:Int) (ns:List ByteArray):List ByteArray:=if (AV m ps && AM m t)=true then (Dj ps t.toNat).map (ns.getD · ⟨#[]⟩) else []
def zP (ps:List (List Int)) (t k:Nat):List Nat:=(List.range k).filter (Bx ps t)
theorem keepTo_t {ps:List (List Int)} {t k:Nat} (h:Bx ps t k=true):zP ps t (k+1)=zP ps t k++[k]:=by
 unfold zP;rw [List.range_succ,FC,FJ h];rfl
theorem keepTo_f {ps:List (List Int)} {t k:Nat} (h:Bx ps t k=false):zP ps t (k+1)=zP ps t k:=by
 unfold zP;rw [List.range_succ,FC,Fw (by simp [h])];simp
theorem keepTo_len (ps:List (List Int)) (t k:Nat):(zP ps t k).length<=k:=EP (Fr _ _) (by simp)
def SubL (w0 wr:World) (g7:Nat) (m:MZ) (ns:List ByteArray) (vU:Value) (l:List Nat):Prop:=
 ∃vF vT,SubI w0 wr g7 m.w m.h m.l m.up vF vU vT vF vT (l.map (m.free.getD · [])) (l.map (m.tasks.getD · ([],[]))) (l.map (ns.getD · ⟨#[]⟩))
theorem tasksNAt {w:World} {A:Option Addr} {l:List (List Int×List Int)} (h:TasksN w ok (.slice A n c) l ns) {k:Nat} (E:k<l.length):
  ∃b off u1 u2,A=some ⟨b,off,none⟩/\w.cell? ⟨b,off+k*3,none⟩=some (.string (ns.getD k ⟨#[]⟩))/\w.cell? ⟨b,off+k*3+1,none⟩=some u1/\w.cell? ⟨b,off+k*3+2,none⟩=some u2/\zi w ok u1 l[k].1/\zi w ok u2 l[k].2:=by
 obtain ⟨M,vs,⟨A',c',G,_,J,z⟩,he⟩:=h;injection G with e1 e2 e3;subst e1;obtain ⟨b,off,rfl,I,z⟩:=z (by omega);have D:k<ns.length:=by omega
 obtain ⟨u1,u2,h0,h1,h2,i1,i2⟩:=he k _ _ (EL E) (EL D);have e:ns.getD k ⟨#[]⟩=ns[k]:=zgd D
 rw [e];exact ⟨b,off,u1,u2,rfl,z _ _ h0,by rw [Nat.add_assoc];exact z _ _ h1,by rw [Nat.add_assoc];exact z _ _ h2,i1,i2⟩
def V8 (B g7 g9:Nat) (vT u1 u2:Value) (s:ByteArray) (l1 l2:List Int) (j:Nat) (x:Value) (W:World):Prop:=match j with
 | 0=>x=.pointer (some ⟨g7,5,none⟩) | 1=>x=vT | 2=>x=.pointer (some ⟨g9,0,none⟩) | 3=>x=.string s | 4=>x=.pointer (some ⟨g9,1,none⟩) | 5=>x=u1
 | 6=>zA W B x l1 | 7=>x=.pointer (some ⟨g9,2,none⟩) | 8=>x=u2 | 9=>zA W B x l2
 | 10=>∃y1 y2,x=.agg #[.string s,y1,y2]/\zA W B y1 l1/\zA W B y2 l2
 | 11=>∃g y1 y2,x=.slice (some ⟨g,0,none⟩) 1 1/\zg W g 56 #[.string s,y1,y2]/\zA W B y1 l1/\zA W B y2 l2
 | _=>True
theorem AH {W W':World} {B sz:Nat} {e:TypeId} {v:Value} {xs:List Value} (h:W.ownsRow B e sz v n xs) (z:zb W W'):W'.ownsRow B e sz v n xs:=zQ h (grown_ext z) (fun b D=>by cases D)
theorem V8.st {B g9:Nat} {vT u1 u2:Value} {s:ByteArray} {l1 l2:List Int}:StV (V8 B g7 g9 vT u1 u2 s l1 l2):=fun j x W W' z h=>
 match j,h with
 | 0,h | 1,h | 2,h | 3,h | 4,h | 5,h | 7,h | 8,h=>h
 | 6,h | 9,h=>AH h z
 | 10,⟨y1,y2,e,h1,h2⟩=>⟨y1,y2,e,AH h1 z,AH h2 z⟩
 | 11,⟨g,y1,y2,e,D,h1,h2⟩=>⟨g,y1,y2,e,D.ext z,AH h1 z,AH h2 z⟩
 | _+12,_=>trivial
def D8 (j:Nat):List Nat:=match j with | 1=>[0] | 3=>[2] | 5=>[4] | 6=>[5] | 8=>[7] | 9=>[8,6] | 10=>[3,6,9] | 11=>[10] | _=>[]
def V9 (B g7 gm:Nat) (vF fs:Value) (k:Nat) (af:Addr) (uf:Value) (l:List Bool) (j:Nat) (x:Value) (W:World):Prop:=match j with
 | 0=>x=.pointer (some ⟨g7,3,none⟩) | 1=>x=vF | 2=>x=.pointer (some ⟨gm,3,none⟩) | 3=>x=fs | 4=>x=.int .i64 k | 5=>x=.pointer (some af) | 6=>x=uf
 | 7=>CB W B x l
 | 8=>∃g y,x=.slice (some ⟨g,0,none⟩) 1 1/\zg W g 29 #[y]/\CB W B y l
 | _=>True
theorem V9.st {B gm:Nat} {vF fs:Value} {k:Nat} {af:Addr} {uf:Value} {l:List Bool}:StV (V9 B g7 gm vF fs k af uf l):=fun j x W W' z h=>
 match j,h with
 | 0,h | 1,h | 2,h | 3,h | 4,h | 5,h | 6,h=>h
 | 7,h=>AH h z
 | 8,⟨g,y,e,D,h1⟩=>⟨g,y,e,D.ext z,AH h1 z⟩
 | _+9,_=>trivial
def D9 (j:Nat):List Nat:=match j with | 1=>[0] | 3=>[2] | 5=>[3,4] | 6=>[5] | 7=>[6] | 8=>[7] | _=>[]
theorem row1 {W:World} {g:Nat} {t:TypeId} {cs:List Value} (z:zg W g t cs.toArray) (E:cs.length=n):zV W (fun _=>True) n (.slice (some ⟨g,0,none⟩) 1 1) 1 cs:=
 ⟨_,1,rfl,EN _,by omega,fun _=>⟨g,0,rfl,trivial,fun j u D=>by rw [Nat.zero_add];exact z.cell (by simpa using D)⟩⟩
theorem map_snoc' {α β:Type} (f:α->β) (l:List α) (x:α):(l++[x]).map f=l.map f++[f x]:=by simp
theorem sub_calls {v:Value} {m:MZ} {ps:List (List Int)} (t:Int) (w:World) (hm:Cn w okm v m ns) (hl:Lens m) (hf:zq w okf vf ps) (w7:ps.length<=20000000000000) (o3:∀x∈ps,x.length<=20000000000000):
  Calls Tryz.prog 15 #[v,vf,.int .i64 t] w fun e w'=>∃v',e=.returned v'/\zb w w'/\Cn w' (fun b=>w.heap.size<=b) v' (subO m ps t) (subN m ps t ns):=by
 have m8:=zh hm.maze;have HL:=zh hl;have s2:=zh o3;have s1:=zh hf;obtain ⟨_,_,_,rfl,p8,q3,p9⟩:=hm;have s7:=zh p8;have m7:=zh q3;have s8:=zh p9;obtain ⟨_,⟨Af,cf,rfl,z6,-⟩,-⟩:=p8;obtain ⟨Au,cu,rfl,z9,-⟩:=q3;obtain ⟨-,_,⟨At,ct,rfl,z8,-⟩,-⟩:=p9;obtain ⟨vfs,⟨A,c,rfl,w0,hr⟩,n6⟩:=hf;have HR:=zh hr;have s0:=zh n6;have x6:=hl.ts;clear hl hr n6 o3
 go_enter Tryz.func15,Tryz.ntmps15
 go_wp2_with fail
 obtain ⟨k9,r0,r1,r2,r3,r4,r5⟩:=CG w (.int .i64 m.w) (.int .i64 m.h) (.int .i64 m.l) (.slice Af m.free.length cf) (.slice Au m.up.length cu) (.slice At m.tasks.length ct);have c6:(w.alloc (.cells #[.int .i64 m.w,.int .i64 m.h,.int .i64 m.l,.slice Af m.free.length cf,.slice Au m.up.length cu,.slice At m.tasks.length ct] 32)).heap.size=w.heap.size+1:=by simp
 generalize w.alloc _=w1 at k9 r0 r1 r2 r3 r4 r5 c6⊢;have O:=zg.new w1 #[.int .i64 0,.int .i64 0,.int .i64 0,.slice none 0 0,.slice none 0 0,.slice none 0 0] 32 (g:=w1.heap.size) rfl;have i0:zb w1 (w1.alloc (.cells #[.int .i64 0,.int .i64 0,.int .i64 0,.slice none 0 0,.slice none 0 0,.slice none 0 0] 32)):=(zb.refl w1).alloc _;have f1:(w1.alloc (.cells #[.int .i64 0,.int .i64 0,.int .i64 0,.slice none 0 0,.slice none 0 0,.slice none 0 0] 32)).heap.size=w1.heap.size+1:=by simp
 generalize w1.alloc _=w2 at O i0 f1⊢;obtain ⟨gm,p3⟩:=zak w.heap.size;rw [<-p3] at r0 r1 r2 r3 r4 r5 c6⊢;obtain ⟨gz,p4⟩:=zak (gm+1);rw [<-p4] at c6⊢;rw [c6] at O f1;have HZ:=zh O;have g8:Hid (gz=w.heap.size+1/\w2.heap.size=gz+1):=⟨by omega,f1⟩;have a3:=zh i0;have c8:=zh (k9.trans i0);have r0:=fun W h=>r0 W (a3.out.trans h)
 have r1:=fun W h=>r1 W (a3.out.trans h)
 have r2:=fun W h=>r2 W (a3.out.trans h)
 have r3:=fun W h=>r3 W (a3.out.trans h)
 have r4:=fun W h=>r4 W (a3.out.trans h)
 have r5:=fun W h=>r5 W (a3.out.trans h)
 clear p3 p4 c6 f1 O k9 i0;have hx:zb w2 w2:=zb.refl w2
 go_wp2_with fail
 refine (Eh w2 (m8.out.below c8.out) HL.out (s1.out.below c8.out) w7 s2.out).mono ?_;rintro e w3 ⟨rfl,t5⟩;clear hx;have hx:zb w2 w3:=t5
 cases a9:AV m ps with
 | false=>
  have HO:Hid (subO m ps t=CU/\subN m ps t ns=[]):=⟨by unfold subO;rw [a9];rfl,by unfold subN;rw [a9];rfl⟩;clear a9;have O:zg w3 gz 32 #[.int .i64 0,.int .i64 0,.int .i64 0,.slice none 0 0,.slice none 0 0,.slice none 0 0]:=HZ.out.ext hx;have z0:w3.cell? ⟨gz,0,none⟩=some (.int .i64 0):=O.cell (k:=0) rfl;have z1:w3.cell? ⟨gz,1,none⟩=some (.int .i64 0):=O.cell (k:=1) rfl;have z2:w3.cell? ⟨gz,2,none⟩=some (.int .i64 0):=O.cell (k:=2) rfl;have z3:w3.cell? ⟨gz,3,none⟩=some (.slice none 0 0):=O.cell (k:=3) rfl;have z4:w3.cell? ⟨gz,4,none⟩=some (.slice none 0 0):=O.cell (k:=4) rfl;have z5:w3.cell? ⟨gz,5,none⟩=some (.slice none 0 0):=O.cell (k:=5) rfl;have hfz:∀j,w3.frozen? ⟨gz,j,none⟩=false:=fun j=>O.frozen j
  have f2:=zh O;have k7:=zh (c8.out.trans hx);clear O hx
  go_wp2_with fail
  refine zX (P:=fun W=>bodyPost Tryz.prog Tryz.f15 _ Exit.ret _ W) (g2:=gz) ?_ f2.out;intro WZ U f7 hk;have y0:WZ.cell? ⟨gz,0,none⟩=some (.int .i64 0):=U.cell (k:=0) rfl;have y1:WZ.cell? ⟨gz,1,none⟩=some (.int .i64 0):=U.cell (k:=1) rfl;have y2:WZ.cell? ⟨gz,2,none⟩=some (.int .i64 0):=U.cell (k:=2) rfl;have y3:WZ.cell? ⟨gz,3,none⟩=some (.slice none 0 0):=U.cell (k:=3) rfl;have y4:WZ.cell? ⟨gz,4,none⟩=some (.slice none 0 0):=U.cell (k:=4) rfl;have y5:WZ.cell? ⟨gz,5,none⟩=some (.slice none 0 0):=U.cell (k:=5) rfl;refine FK (v:=.agg #[.int .i64 0,.int .i64 0,.int .i64 0,.slice none 0 0,.slice none 0 0,.slice none 0 0]) (by simp [results,Tryz.results15,go_sem,y0,y1,y2,y3,y4,y5]) rfl ⟨_,rfl,Below.trans k7.out (f7.mono (by have:=g8.out.1;omega)),?_⟩;rw [HO.out.1,HO.out.2];exact ⟨_,_,_,rfl,⟨[],⟨none,0,rfl,EN _,zN.nil _ _ _ _⟩,fun i x hx=>by simp [CU] at hx⟩,⟨none,0,rfl,EN _,zN.nil _ _ _ _⟩,rfl,[],⟨none,0,rfl,EN _,zN.nil _ _ _ _⟩,fun i x s hx=>by simp [CU] at hx⟩
 | true=>
  go_wp2_with fail
  refine (Ew t w3 (m8.out.below (c8.out.trans hx)) HL.out).mono ?_;rintro e w4 ⟨rfl,t6⟩;have hx:zb w2 w4:=hx.trans t6
  cases b4:AM m t with
  | false=>
   have HO:Hid (subO m ps t=CU/\subN m ps t ns=[]):=⟨by unfold subO;rw [b4,Bool.and_false];rfl,by unfold subN;rw [b4,Bool.and_false];rfl⟩;clear a9 b4;have O:zg w4 gz 32 #[.int .i64 0,.int .i64 0,.int .i64 0,.slice none 0 0,.slice none 0 0,.slice none 0 0]:=HZ.out.ext hx;have z0:w4.cell? ⟨gz,0,none⟩=some (.int .i64 0):=O.cell (k:=0) rfl;have z1:w4.cell? ⟨gz,1,none⟩=some (.int .i64 0):=O.cell (k:=1) rfl;have z2:w4.cell? ⟨gz,2,none⟩=some (.int .i64 0):=O.cell (k:=2) rfl;have z3:w4.cell? ⟨gz,3,none⟩=some (.slice none 0 0):=O.cell (k:=3) rfl;have z4:w4.cell? ⟨gz,4,none⟩=some (.slice none 0 0):=O.cell (k:=4) rfl;have z5:w4.cell? ⟨gz,5,none⟩=some (.slice none 0 0):=O.cell (k:=5) rfl;have hfz:∀j,w4.frozen? ⟨gz,j,none⟩=false:=fun j=>O.frozen j
   have f2:=zh O;have k7:=zh (c8.out.trans hx);clear O hx
   go_wp2_with fail
   refine zX (P:=fun W=>bodyPost Tryz.prog Tryz.f15 _ Exit.ret _ W) (g2:=gz) ?_ f2.out;intro WZ U f7 hk;have y0:WZ.cell? ⟨gz,0,none⟩=some (.int .i64 0):=U.cell (k:=0) rfl;have y1:WZ.cell? ⟨gz,1,none⟩=some (.int .i64 0):=U.cell (k:=1) rfl;have y2:WZ.cell? ⟨gz,2,none⟩=some (.int .i64 0):=U.cell (k:=2) rfl;have y3:WZ.cell? ⟨gz,3,none⟩=some (.slice none 0 0):=U.cell (k:=3) rfl;have y4:WZ.cell? ⟨gz,4,none⟩=some (.slice none 0 0):=U.cell (k:=4) rfl;have y5:WZ.cell? ⟨gz,5,none⟩=some (.slice none 0 0):=U.cell (k:=5) rfl;refine FK (v:=.agg #[.int .i64 0,.int .i64 0,.int .i64 0,.slice none 0 0,.slice none 0 0,.slice none 0 0]) (by simp [results,Tryz.results15,go_sem,y0,y1,y2,y3,y4,y5]) rfl ⟨_,rfl,Below.trans k7.out (f7.mono (by have:=g8.out.1;omega)),?_⟩;rw [HO.out.1,HO.out.2];exact ⟨_,_,_,rfl,⟨[],⟨none,0,rfl,EN _,zN.nil _ _ _ _⟩,fun i x hx=>by simp [CU] at hx⟩,⟨none,0,rfl,EN _,zN.nil _ _ _ _⟩,rfl,[],⟨none,0,rfl,EN _,zN.nil _ _ _ _⟩,fun i x s hx=>by simp [CU] at hx⟩
  | true=>
   have HO:Hid (subO m ps t=CK m ps t.toNat/\subN m ps t ns=(Dj ps t.toNat).map (ns.getD · ⟨#[]⟩)):=⟨by unfold subO;rw [a9,b4];rfl,by unfold subN;rw [a9,b4];rfl⟩;obtain ⟨l1,q6,-⟩:=AS.1 a9;obtain ⟨-,A7,A8⟩:=Be.1 b4;have HC:=zh l1;have G:=zh (zI.of l1);have x1:=G.out.dim.n1;have l8:m.up.length<=300:=by have:=G.out.dim.up;omega
   have B0:=G.out.tk;have A5:ps.length<=6:=by omega
   have m9:=zh q6;clear l1 a9 b4 x1 q6
   go_wp2_with fail
   have a6:=zh hx;have a5:=zh (c8.out.trans hx);have k0:∀W,zb w4 W->W.cell? ⟨gm,0,none⟩=some (.int .i64 m.w):=fun W h=>r0 W (a6.out.trans h)
   have k1:∀W,zb w4 W->W.cell? ⟨gm,1,none⟩=some (.int .i64 m.h):=fun W h=>r1 W (a6.out.trans h)
   have k2:∀W,zb w4 W->W.cell? ⟨gm,2,none⟩=some (.int .i64 m.l):=fun W h=>r2 W (a6.out.trans h)
   have k3:∀W,zb w4 W->W.cell? ⟨gm,3,none⟩=some (.slice Af m.free.length cf):=fun W h=>r3 W (a6.out.trans h)
   have k4:∀W,zb w4 W->W.cell? ⟨gm,4,none⟩=some (.slice Au m.up.length cu):=fun W h=>r4 W (a6.out.trans h)
   have k5:∀W,zb w4 W->W.cell? ⟨gm,5,none⟩=some (.slice At m.tasks.length ct):=fun W h=>r5 W (a6.out.trans h)
   clear r0 r1 r2 r3 r4 r5 hx;go_cut [7] (fun v wx=>∃g7 vU,v=.pointer (some ⟨g7,0,none⟩)/\Hid (SubI w4 wx g7 m.w m.h m.l m.up (.slice none 0 0) vU (.slice none 0 0) (.slice none 0 0) (.slice none 0 0) [] [] []))
   case first=>
    refine Fd (S:=(fun W=>zb w4 W)) zU ((zb.refl w4).drew) fun zH=>?_;have d8:zb w4 w4.drew:=zH;generalize w4.drew=wd at zH d8⊢;refine ze 0 zH ?_;refine ze 1 zH ?_;simp only [za,EK];refine ze 2 zH ?_;refine ze 3 zH ?_;simp only [za,EK];refine ze 4 zH ?_;refine ze 5 zH ?_;simp only [za,EK];refine ze 6 zH ?_;refine ze 7 zH ?_;simp only [za,EK];refine rdA [8,10] ?_;refine Fp rfl (fun K E=>?_) ?_
    ·go_simp;go_at_call 45;refine (Ea wd (m7.out.below (a5.out.trans d8)) (by omega)).mono ?_;rintro e wc ⟨vU,rfl,d5,b6⟩;obtain ⟨AU,nU,cU,rfl⟩:∃A n c,vU=.slice A n c:=by obtain ⟨A,c,e,-⟩:=zV.of_own b6;exact ⟨A,_,c,e⟩
     have g6:Hid (CB wc w4.heap.size (.slice AU nU cU) m.up):=b6.mono (Below.size (d8));have a1:zb w4 wc:=zb.trans (d8) d5;clear b6 d5;refine zal E (a1) fun zH=>?_;clear E K;try simp only [za,EK]
     refine rdA [9,10] ?_;refine Fp rfl (fun K E=>?_) ?_
     ·go_simp;refine zal E (a1) fun zH=>?_;clear E K;try simp only [za,EK]
      refine zx 10 fun K E=>?_;go_simp;have T:=zg.new wc #[.int .i64 0,.int .i64 0,.int .i64 0,.slice none 0 0,.slice none 0 0,.slice none 0 0] 32 (g:=wc.heap.size) rfl;have Z:zb w4 (wc.alloc (.cells #[.int .i64 0,.int .i64 0,.int .i64 0,.slice none 0 0,.slice none 0 0,.slice none 0 0] 32)):=zb.alloc (a1) _;have f8:w4.heap.size<=wc.heap.size:=Below.size (a1);have j8:Hid (CB (wc.alloc (.cells #[.int .i64 0,.int .i64 0,.int .i64 0,.slice none 0 0,.slice none 0 0,.slice none 0 0] 32)) w4.heap.size (.slice AU nU cU) m.up):=zQ g6.out (grown_ext ((zb.refl _).alloc _)) (fun b hb=>by cases hb);generalize (wc.alloc (.cells #[.int .i64 0,.int .i64 0,.int .i64 0,.slice none 0 0,.slice none 0 0,.slice none 0 0] 32))=wa at*;generalize wc.heap.size=g7 at*;refine zal E (Z) fun zH=>?_;clear E K;try simp only [za,EK]
      refine zx 11 fun K E=>?_;have c0:=T.cell (k:=0) rfl;have c1:=T.cell (k:=1) rfl;have c2:=T.cell (k:=2) rfl;have c3:=T.cell (k:=3) rfl;have c4:=T.cell (k:=4) rfl;have c5:=T.cell (k:=5) rfl;have o0:=fun j=>T.frozen j
      go_simp;obtain ⟨f6,a8⟩:=sto6 (a:=.int .i64 m.w) (b:=.int .i64 m.h) (c:=.int .i64 m.l) (d:=.slice none 0 0) (e:=.slice AU nU cU) (f:=.slice none 0 0) T;have a7:=Below.grown (Z) a8 (Below.size (Z)) (fun k hk=>by injection hk with hk;omega);have f4:=zh (zQ j8.out a8 (fun b hb=>by injection hb with hb;subst hb;exact ⟨_,_,T,by decide⟩));refine zal E (a7) fun zH=>?_;clear E K;try simp only [za,EK]
      refine Fs (by kernel_rfl) ?_ _;go_wp2;go_meet;exact ⟨_,_,rfl,SubI.start a7 f8 f6 f4.out⟩
     refine Fp rfl (fun K E=>?_) .nil;go_simp;have T:=zg.new wc #[.int .i64 0,.int .i64 0,.int .i64 0,.slice none 0 0,.slice none 0 0,.slice none 0 0] 32 (g:=wc.heap.size) rfl;have Z:zb w4 (wc.alloc (.cells #[.int .i64 0,.int .i64 0,.int .i64 0,.slice none 0 0,.slice none 0 0,.slice none 0 0] 32)):=zb.alloc (a1) _;have f8:w4.heap.size<=wc.heap.size:=Below.size (a1);have j8:Hid (CB (wc.alloc (.cells #[.int .i64 0,.int .i64 0,.int .i64 0,.slice none 0 0,.slice none 0 0,.slice none 0 0] 32)) w4.heap.size (.slice AU nU cU) m.up):=zQ g6.out (grown_ext ((zb.refl _).alloc _)) (fun b hb=>by cases hb);generalize (wc.alloc (.cells #[.int .i64 0,.int .i64 0,.int .i64 0,.slice none 0 0,.slice none 0 0,.slice none 0 0] 32))=wa at*;generalize wc.heap.size=g7 at*;refine zal E (Z) fun zH=>?_;clear E K;try simp only [za,EK]
     refine zx 9 fun K E=>?_;go_simp;refine zal E (Z) fun zH=>?_;clear E K;try simp only [za,EK]
     refine zx 11 fun K E=>?_;have c0:=T.cell (k:=0) rfl;have c1:=T.cell (k:=1) rfl;have c2:=T.cell (k:=2) rfl;have c3:=T.cell (k:=3) rfl;have c4:=T.cell (k:=4) rfl;have c5:=T.cell (k:=5) rfl;have o0:=fun j=>T.frozen j
     go_simp;obtain ⟨f6,a8⟩:=sto6 (a:=.int .i64 m.w) (b:=.int .i64 m.h) (c:=.int .i64 m.l) (d:=.slice none 0 0) (e:=.slice AU nU cU) (f:=.slice none 0 0) T;have a7:=Below.grown (Z) a8 (Below.size (Z)) (fun k hk=>by injection hk with hk;omega);have f4:=zh (zQ j8.out a8 (fun b hb=>by injection hb with hb;subst hb;exact ⟨_,_,T,by decide⟩));refine zal E (a7) fun zH=>?_;clear E K;try simp only [za,EK]
     refine Fs (by kernel_rfl) ?_ _;go_wp2;go_meet;exact ⟨_,_,rfl,SubI.start a7 f8 f6 f4.out⟩
    refine Fp rfl (fun K E=>?_) .nil;go_simp;have T:=zg.new wd #[.int .i64 0,.int .i64 0,.int .i64 0,.slice none 0 0,.slice none 0 0,.slice none 0 0] 32 (g:=wd.heap.size) rfl;have Z:zb w4 (wd.alloc (.cells #[.int .i64 0,.int .i64 0,.int .i64 0,.slice none 0 0,.slice none 0 0,.slice none 0 0] 32)):=zb.alloc (d8) _;have f8:w4.heap.size<=wd.heap.size:=Below.size (d8);generalize (wd.alloc (.cells #[.int .i64 0,.int .i64 0,.int .i64 0,.slice none 0 0,.slice none 0 0,.slice none 0 0] 32))=wa at*;generalize wd.heap.size=g7 at*;refine zal E (Z) fun zH=>?_;clear E K;try simp only [za,EK]
    refine zx 8 fun K E=>?_;go_simp;go_at_call 45;refine (Ea wa (m7.out.below (a5.out.trans Z)) (by omega)).mono ?_;rintro e wc ⟨vU,rfl,d5,b6⟩;obtain ⟨AU,nU,cU,rfl⟩:∃A n c,vU=.slice A n c:=by obtain ⟨A,c,e,-⟩:=zV.of_own b6;exact ⟨A,_,c,e⟩
    have g6:Hid (CB wc w4.heap.size (.slice AU nU cU) m.up):=b6.mono (Below.size (Z));have a1:zb w4 wc:=zb.trans (Z) d5;have a4:=T.ext d5;clear b6 d5;refine zal E (a1) fun zH=>?_;clear E K;try simp only [za,EK]
    refine zx 9 fun K E=>?_;go_simp;refine zal E (a1) fun zH=>?_;clear E K;try simp only [za,EK]
    refine zx 11 fun K E=>?_;have c0:=a4.cell (k:=0) rfl;have c1:=a4.cell (k:=1) rfl;have c2:=a4.cell (k:=2) rfl;have c3:=a4.cell (k:=3) rfl;have c4:=a4.cell (k:=4) rfl;have c5:=a4.cell (k:=5) rfl;have o0:=fun j=>a4.frozen j
    go_simp;obtain ⟨f6,a8⟩:=sto6 (a:=.int .i64 m.w) (b:=.int .i64 m.h) (c:=.int .i64 m.l) (d:=.slice none 0 0) (e:=.slice AU nU cU) (f:=.slice none 0 0) a4;have a7:=Below.grown (a1) a8 (Below.size (a1)) (fun k hk=>by injection hk with hk;omega);have f4:=zh (zQ g6.out a8 (fun b hb=>by injection hb with hb;subst hb;exact ⟨_,_,a4,by decide⟩));refine zal E (a7) fun zH=>?_;clear E K;try simp only [za,EK]
    refine Fs (by kernel_rfl) ?_ _;go_wp2;go_meet;exact ⟨_,_,rfl,SubI.start a7 f8 f6 f4.out⟩
   case rest=>
    obtain ⟨g7,vU,rfl,hS⟩:=hcut;have x3:zb w4 wc:=hS.out.ext
    go_wp2_with fail
    clear x3;have n3:Hid (SubL w4 wc g7 m ns vU (zP ps t.toNat 0)):=⟨_,_,hS.out⟩;clear hS;go_loopw [34] (fun i wr=>∃k:Nat,k<=m.tasks.length/\i=.int .i64 (k:Nat)/\Hid (SubL w4 wr g7 m ns vU (zP ps t.toNat k))) (fun i _=>m.tasks.length - (intOf i).toNat)
    case atStart=>exact ⟨0,Fb _,rfl,n3⟩
    clear n3
    case round=>
     obtain ⟨k,hk,rfl,hS⟩:=hrel;obtain ⟨wk,rfl⟩:∃wk:World,wk=wr:=⟨_,rfl⟩;have i8:zb w4 wk:=by obtain ⟨_,_,h⟩:=hS.out;exact h.ext
     have h6:=zh (a5.out.trans i8);have n2:=zh i8;by_cases b7:k<m.tasks.length
     ·obtain ⟨bt,offt,u1,u2,rfl,q7,c6,f1,l2,l3⟩:=tasksNAt (s8.out.below h6.out) b7;have q8:=HL.out.tl _ (EO b7);have j2:m.tasks.getD k ([],[])=m.tasks[k]:=zgd b7
      have m6:=zh j2;clear j2;obtain ⟨tk,j4⟩:∃tk,tk=m.tasks[k]:=⟨_,rfl⟩;rw [<-j4] at l2 l3 q8 m6;clear j4;obtain ⟨s,l6⟩:=zak (ns.getD k ⟨#[]⟩);rw [<-l6] at q7;have t0:=zh l6;clear l6;have s3:=zh l2;have s4:=zh l3;obtain ⟨A1,c1,rfl,-,-⟩:=l2;obtain ⟨A2,c2,rfl,-,-⟩:=l3;have l4:k<ps.length:=by have:=m9.out;omega
      obtain ⟨bp,offp,up,rfl,_,j1,l8⟩:=zO HR.out s0.out l4 l4;have n4:wk.cell? ⟨bp,offp+k,none⟩=some up:=h6.out.cell j1;have q5:ps.getD k []=ps[k]:=zgd l4
      have f3:Hid (Bx ps t.toNat k=(decide ((k:Int)=t) || decide (0<ps[k].length))):=by
       show _=_;unfold Bx;rw [q5];congr 1
       ·rw [decide_eq_decide];omega
       ·rw [decide_eq_decide,Ne,<-List.length_eq_zero_iff];omega
      obtain ⟨q,hq⟩:=zak (ps[k]);rw [<-hq] at l8 f3;obtain ⟨Ap,cp,rfl,z7,-⟩:=l8;obtain ⟨x9,y6⟩:=q8;have A3:(k:Int)<(ps.length:Int):=by omega
      have x5:ps.length<=c:=w0;clear j1 q5 hq;go_upto_region 7 with fail;have h7:=zg.new wk #[.string s,.slice A1 tk.1.length c1,.slice A2 tk.2.length c2] 56 (g:=wk.heap.size) rfl;have h8:zb wk (wk.alloc (.cells #[.string s,.slice A1 tk.1.length c1,.slice A2 tk.2.length c2] 56)):=(zb.refl wk).alloc _;generalize wk.alloc _=w9 at h7 h8⊢;obtain ⟨g9,o5⟩:=zak wk.heap.size;rw [<-o5] at h7⊢;clear o5;have n5:w9.cell? ⟨bp,offp+k,none⟩=some (.slice Ap q.length cp):=h8.cell n4;have j7:=zh h7;have d4:=zh h8;clear q7 c6 f1 n4 i8 h7 h8;go_cut [49] (fun v wx=>v=.bool (Bx ps t.toNat k)/\w9=wx)
      case first=>
       by_cases f0:(k:Int)=t
       ·have M:((k:Int)==t)=true:=by simp [f0]
        have HD:Hid (Bx ps t.toNat k=true):=by show _=_;rw [f3.out,EQ f0];rfl
        clear f0;go_wp2;go_meet;exact ⟨by rw [HD.out],rfl⟩
       ·have M:((k:Int)==t)=false:=by simp [f0]
        have HD:Hid (Bx ps t.toNat k=decide (0<q.length)):=by show _=_;rw [f3.out,ER f0];rfl
        clear f0;go_wp2;go_meet;refine ⟨?_,rfl⟩;rw [HD.out]
        all_goals (first | rfl | (congr 1;done) | (congr 1;rw [decide_eq_decide];omega))
      case rest=>
       obtain ⟨rfl,rfl⟩:=hcut;clear n5
       cases i5:Bx ps t.toNat k with
       | false=>
        have HK:=zh (keepTo_f i5);clear i5 f3;have k8:Hid (SubL w4 w9 g7 m ns vU (zP ps t.toNat (k+1))):=by obtain ⟨a,b,h⟩:=hS.out;rw [HK.out];exact ⟨a,b,h.more d4.out⟩
        go_wp2;go_roundw
        case rel=>exact ⟨k+1,by omega,by go_num,k8⟩
        case measure=>simp [intOf];omega
       | true=>
        have HK:=zh (keepTo_t i5);clear i5 f3
        go_wp2_with fail
        obtain ⟨vF,vT,V⟩:=hS.out;have b0:=zh (V.more d4.out);clear hS V;have A4:=keepTo_len ps t.toNat k;obtain ⟨us,g3,q4,r6⟩:=b0.out.tk;have h5:=zh g3;have s9:=zh q4;have t1:=zh r6;clear g3 q4 r6;obtain ⟨AT,nT,cT,rfl⟩:∃A n c,vT=.slice A n c:=by obtain ⟨A,c,e,-⟩:=zV.of_own h5.out;exact ⟨A,_,c,e⟩
        obtain ⟨vs,b2,i7⟩:=b0.out.fr;obtain ⟨AF,nF,cF,rfl⟩:∃A n c,vF=.slice A n c:=by obtain ⟨A,c,e,-⟩:=zV.of_own b2;exact ⟨A,_,c,e⟩
        clear b2 i7 vs;have b3:=zb.rule (b0.out.box.cell (k:=3) rfl);have b5:=zb.rule (b0.out.box.cell (k:=5) rfl);have q0:=zb.rule (j7.out.cell (k:=0) rfl);have q1:=zb.rule (j7.out.cell (k:=1) rfl);have q2:=zb.rule (j7.out.cell (k:=2) rfl);have y9:=zh (h6.out.trans d4.out);have k6:=zh (n2.out.trans d4.out);refine Fd (S:=(fun _=>True)) (by kernel_rfl) (trivial) fun zH=>?_;refine BL [0,1,2,3,4,5,6,7,8,9,10,11,12,13,14] (fun e v W=>JA (V8 w4.heap.size g7 g9 (.slice AT nT cT) (.slice A1 tk.1.length c1) (.slice A2 tk.2.length c2) s tk.1 tk.2) D8 w9 [0,1,2,3,4,5,6,7,8,9,10,11] 12 13 14 (.pointer (some ⟨g7,5,none⟩)) (fun x W=>SubI w4 W g7 m.w m.h m.l m.up (.slice AF nF cF) vU (.slice AT nT cT) (.slice AF nF cF) x ((zP ps t.toNat k).map (m.free.getD · [])) (((zP ps t.toNat k).map (m.tasks.getD · ([],[])))++[tk]) (((zP ps t.toNat k).map (ns.getD · ⟨#[]⟩))++[s])) (fun W=>∃vT',SubI w4 W g7 m.w m.h m.l m.up (.slice AF nF cF) vU vT' (.slice AF nF cF) vT' ((zP ps t.toNat k).map (m.free.getD · [])) (((zP ps t.toNat k).map (m.tasks.getD · ([],[])))++[tk]) (((zP ps t.toNat k).map (ns.getD · ⟨#[]⟩))++[s])) e v W) (F:=?F9) (by kernel_rfl) (by kernel_rfl) (by decide) zH (fun v=>?hF9) ?init9 (by kernel_rfl) ?steps9 ?fin9
        case hF9=>(simp only [zS,Co,List.getElem?_toArray,List.getElem?_cons_succ,List.getElem?_cons_zero,Option.bind,Act.put,List.setIfInBounds_toArray,List.set_cons_succ,List.set_cons_zero];rfl)
        case init9=>(intro e v he;exact JA.init (zb.refl w9).drew (by decide) (fun j hj=>he j (by simp at hj⊢;omega)))
        case steps9=>
         refine zk.cons rfl (fun e v W K z hW he M E=>?_) ?_
         ·simp only [za] at M E⊢;have Q:=z.notA (j:=0) (by simp) he;have J:zb w9 W:=z.g Q;go_simp;exact E.out _ _ _ (by rfl) trivial (z.step (j:=0) (by simp) he V8.st (by decide) (by simp [D8]) (zb.refl _) rfl)
         refine zk.cons rfl (fun e v W K z hW he M E=>?_) ?_
         ·simp only [za] at M E⊢;have Q:=z.notA (j:=1) (by simp) he;have J:zb w9 W:=z.g Q;have D:=zo M [0] (by kernel_rfl);have v0:v 0=.pointer (some ⟨g7,5,none⟩):=z.gv Q 0 (by simp) (D 0 (by simp));go_simp;exact E.out _ _ _ (by simp [Act.put,v0]) trivial (z.step (j:=1) (by simp) he V8.st (by decide) (fun d I=>⟨by simp [D8] at I⊢;omega,D d (by simp [D8] at I⊢;omega)⟩) (zb.refl _) rfl)
         refine zk.cons rfl (fun e v W K z hW he M E=>?_) ?_
         ·simp only [za] at M E⊢;have Q:=z.notA (j:=2) (by simp) he;have J:zb w9 W:=z.g Q;go_simp;exact E.out _ _ _ (by rfl) trivial (z.step (j:=2) (by simp) he V8.st (by decide) (by simp [D8]) (zb.refl _) rfl)
         refine zk.cons rfl (fun e v W K z hW he M E=>?_) ?_
         ·simp only [za] at M E⊢;have Q:=z.notA (j:=3) (by simp) he;have J:zb w9 W:=z.g Q;have D:=zo M [2] (by kernel_rfl);have v2:v 2=.pointer (some ⟨g9,0,none⟩):=z.gv Q 2 (by simp) (D 2 (by simp));go_simp;exact E.out _ _ _ (by simp [Act.put,v2]) trivial (z.step (j:=3) (by simp) he V8.st (by decide) (fun d I=>⟨by simp [D8] at I⊢;omega,D d (by simp [D8] at I⊢;omega)⟩) (zb.refl _) rfl)
         refine zk.cons rfl (fun e v W K z hW he M E=>?_) ?_
         ·simp only [za] at M E⊢;have Q:=z.notA (j:=4) (by simp) he;have J:zb w9 W:=z.g Q;go_simp;exact E.out _ _ _ (by rfl) trivial (z.step (j:=4) (by simp) he V8.st (by decide) (by simp [D8]) (zb.refl _) rfl)
         refine zk.cons rfl (fun e v W K z hW he M E=>?_) ?_
         ·simp only [za] at M E⊢;have Q:=z.notA (j:=5) (by simp) he;have J:zb w9 W:=z.g Q;have D:=zo M [4] (by kernel_rfl);have v4:v 4=.pointer (some ⟨g9,1,none⟩):=z.gv Q 4 (by simp) (D 4 (by simp));go_simp;exact E.out _ _ _ (by simp [Act.put,v4]) trivial (z.step (j:=5) (by simp) he V8.st (by decide) (fun d I=>⟨by simp [D8] at I⊢;omega,D d (by simp [D8] at I⊢;omega)⟩) (zb.refl _) rfl)
         refine zk.cons rfl (fun e v W K z hW he M E=>?_) ?_
         ·simp only [za] at M E⊢;have Q:=z.notA (j:=6) (by simp) he;have J:zb w9 W:=z.g Q;have D:=zo M [5] (by kernel_rfl);have v5:v 5=.slice A1 tk.1.length c1:=z.gv Q 5 (by simp) (D 5 (by simp));go_simp;go_at_call 46;refine (BB W (s3.out.below (d4.out.trans J)) (by omega)).mono ?_;rintro e9 wn ⟨vn,rfl,f9⟩;go_simp;exact E.out _ _ _ (by simp [Act.put,v5]) trivial (z.step (j:=6) (by simp) he V8.st (by decide) (fun d I=>⟨by simp [D8] at I⊢;omega,D d (by simp [D8] at I⊢;omega)⟩) f9.ext (f9.own.mono (Below.size (k6.out.trans J))))
         refine zk.cons rfl (fun e v W K z hW he M E=>?_) ?_
         ·simp only [za] at M E⊢;have Q:=z.notA (j:=7) (by simp) he;have J:zb w9 W:=z.g Q;go_simp;exact E.out _ _ _ (by rfl) trivial (z.step (j:=7) (by simp) he V8.st (by decide) (by simp [D8]) (zb.refl _) rfl)
         refine zk.cons rfl (fun e v W K z hW he M E=>?_) ?_
         ·simp only [za] at M E⊢;have Q:=z.notA (j:=8) (by simp) he;have J:zb w9 W:=z.g Q;have D:=zo M [7] (by kernel_rfl);have v7:v 7=.pointer (some ⟨g9,2,none⟩):=z.gv Q 7 (by simp) (D 7 (by simp));go_simp;exact E.out _ _ _ (by simp [Act.put,v7]) trivial (z.step (j:=8) (by simp) he V8.st (by decide) (fun d I=>⟨by simp [D8] at I⊢;omega,D d (by simp [D8] at I⊢;omega)⟩) (zb.refl _) rfl)
         refine zk.cons rfl (fun e v W K z hW he M E=>?_) ?_
         ·simp only [za] at M E⊢;have Q:=z.notA (j:=9) (by simp) he;have J:zb w9 W:=z.g Q;have D:=zo M [8,6] (by kernel_rfl);have v8:v 8=.slice A2 tk.2.length c2:=z.gv Q 8 (by simp) (D 8 (by simp));go_simp;go_at_call 46;refine (BB W (s4.out.below (d4.out.trans J)) (by omega)).mono ?_;rintro e9 wn ⟨vn,rfl,f9⟩;go_simp;exact E.out _ _ _ (by simp [Act.put,v8]) trivial (z.step (j:=9) (by simp) he V8.st (by decide) (fun d I=>⟨by simp [D8] at I⊢;omega,D d (by simp [D8] at I⊢;omega)⟩) f9.ext (f9.own.mono (Below.size (k6.out.trans J))))
         refine zk.cons rfl (fun e v W K z hW he M E=>?_) ?_
         ·simp only [za] at M E⊢;have Q:=z.notA (j:=10) (by simp) he;have J:zb w9 W:=z.g Q;have D:=zo M [3,6,9] (by kernel_rfl);have v3:v 3=.string s:=z.gv Q 3 (by simp) (D 3 (by simp));have o6:zA W w4.heap.size (v 6) tk.1:=z.gv Q 6 (by simp) (D 6 (by simp));have o9:zA W w4.heap.size (v 9) tk.2:=z.gv Q 9 (by simp) (D 9 (by simp));obtain ⟨B6,d6,v6,-⟩:=Bk o6;obtain ⟨B9,d9,v9,-⟩:=Bk o9;rw [v6] at o6;rw [v9] at o9;go_simp;exact E.out _ _ _ (by simp [Act.put,v3,v6,v9]) trivial (z.step (j:=10) (by simp) he V8.st (by decide) (fun d I=>⟨by simp [D8] at I⊢;omega,D d (by simp [D8] at I⊢;omega)⟩) (zb.refl _) ⟨_,_,rfl,o6,o9⟩)
         refine zk.cons rfl (fun e v W K z hW he M E=>?_) ?_
         ·simp only [za] at M E⊢;have Q:=z.notA (j:=11) (by simp) he;have J:zb w9 W:=z.g Q;have D:=zo M [10] (by kernel_rfl);obtain ⟨y1,y2,v10,o6,o9⟩:=(show ∃y1 y2,v 10=.agg #[.string s,y1,y2]/\zA W w4.heap.size y1 tk.1/\zA W w4.heap.size y2 tk.2 from z.gv Q 10 (by simp) (D 10 (by simp)));go_simp;exact E.out _ _ _ (by simp [Act.put,v10]) trivial (z.step (j:=11) (by simp) he V8.st (by decide) (fun d I=>⟨by simp [D8] at I⊢;omega,D d (by simp [D8] at I⊢;omega)⟩) ((zb.refl W).alloc _) ⟨W.heap.size,y1,y2,rfl,zg.new _ _ _ rfl,AH o6 ((zb.refl W).alloc _),AH o9 ((zb.refl W).alloc _)⟩)
         refine zk.cons rfl (fun e v W K z hW he M E=>?_) ?_
         ·simp only [za] at M E⊢;have D:=zo M [1,11] (by kernel_rfl);have J:zb w9 W:=z.g he;have v1:v 1=.slice AT nT cT:=z.gv he 1 (by simp) (D 1 (by simp));obtain ⟨g,y1,y2,v11,l0,o6,o9⟩:=(show ∃g y1 y2,v 11=.slice (some ⟨g,0,none⟩) 1 1/\zg W g 56 #[.string s,y1,y2]/\zA W w4.heap.size y1 tk.1/\zA W w4.heap.size y2 tk.2 from z.gv he 11 (by simp) (D 11 (by simp)));have e1:=D 1 (by simp);have e11:=D 11 (by simp);have e0:=(z.c 1 (by simp) e1 0 (by simp [D8])).2;have e10:=(z.c 11 (by simp) e11 10 (by simp [D8])).2;have e3:=(z.c 10 (by simp) e10 3 (by simp [D8])).2;have e6:=(z.c 10 (by simp) e10 6 (by simp [D8])).2;have e9:=(z.c 10 (by simp) e10 9 (by simp [D8])).2;have e2:=(z.c 3 (by simp) e3 2 (by simp [D8])).2;have e5:=(z.c 6 (by simp) e6 5 (by simp [D8])).2;have e4:=(z.c 5 (by simp) e5 4 (by simp [D8])).2;have e8:=(z.c 9 (by simp) e9 8 (by simp [D8])).2;have e7:=(z.c 8 (by simp) e8 7 (by simp [D8])).2;have g0:∀j∈[0,1,2,3,4,5,6,7,8,9,10,11],e j=true:=fun j hj=>by simp at hj;rcases hj with rfl | rfl | rfl | rfl | rfl | rfl | rfl | rfl | rfl | rfl | rfl | rfl <;> assumption
          rw [if_pos (by simp [Region.wanted])];have b8:W.ownsRow w4.heap.size 56 3 (v 1) ((zP ps t.toNat k).map (m.tasks.getD · ([],[]))).length us:=by rw [v1];exact AH h5.out J
          have b9:zV W (fun _=>True) 3 (v 11) 1 [.string s,y1,y2]:=by rw [v11];exact row1 l0 rfl
          refine Dd (ok:=fun _=>True) W (.tmp 51) (.tmp 61) eTask rfl w4.heap.size ((zP ps t.toNat k).map (m.tasks.getD · ([],[]))).length 1 us [.string s,y1,y2] (v 1) (v 11) rfl rfl b8 b9 (fun u hu=>by simp at hu;rcases hu with rfl | rfl | rfl;rfl;exact CO (zV.of_own o6:zi W _ _ tk.1);exact CO (zV.of_own o9:zi W _ _ tk.2)) (Below.size (k6.out.trans J)) (by rw [Fy];unfold maxLen;omega) (by rw [Fy];omega) ?_;intro x w' ho hg _;exact E.out _ _ _ (by simp [Act.put]) trivial (z.app he (by decide) (by decide) g0 ((b0.out.more J).addT (fun i x s hx hs=>by obtain ⟨a,b,q0,q1,q2,i1,i2⟩:=t1.out i x s hx hs;exact ⟨a,b,q0,q1,q2,AH i1 J,AH i2 J⟩) s9.out h5.out.1 (AH h5.out J) o6 o9 ho (by rw [v1] at hg;exact hg)))
         refine zk.cons rfl (fun e v W K z hW he M E=>?_) ?_
         ·simp only [za] at M E⊢;have D:=zo M [12] (by kernel_rfl);go_simp;exact E.out _ _ _ (by rfl) trivial (z.addr (by decide) (by decide) rfl)
         refine zk.cons rfl (fun e v W K z hW he M E=>?_) ?_
         ·simp only [za] at M E⊢;have D:=zo M [13,12] (by kernel_rfl);have Q:=D 12 (by simp);have v13:=z.f (D 13 (by simp));have hm:=z.m Q he;have c5:=hm.box.cell (k:=5) rfl;have hf:=hm.box.frozen 5;obtain ⟨A12,n12,c12,j5⟩:∃A n c,v 12=.slice A n c:=by obtain ⟨_,ho,-,-⟩:=hm.tk;obtain ⟨A,c,e,-⟩:=zV.of_own ho;exact ⟨A,_,c,e⟩
          rw [j5] at hm;go_simp;exact E.out _ undef _ (by simp [Act.put,v13,j5]) trivial (z.store (by decide) (by decide) Q ⟨_,hm.sto rfl⟩)
         exact zk.nil
        case fin9=>
         intro v W5 z _;obtain ⟨vT',hT⟩:=(z.s rfl).2;have h9:=zh hT;clear z hT;obtain ⟨vs,b2,i7⟩:=h9.out.fr;have j9:=zh b2;have t3:=zh i7;clear b2 i7 b3 b5 q0 q1 q2;have i6:k<m.free.length:=by rw [G.out.fl];exact b7
         obtain ⟨bf,offf,uf,rfl,_,j0,l7⟩:=(show ∃b off u,Af=some ⟨b,off,none⟩/\okm b/\w.cell? ⟨b,off+k,none⟩=some u/\An w okm u m.free[k] from by obtain ⟨vsf,⟨A0,c0,e,_,x2⟩,n8⟩:=s7.out;injection e with e1 e2 e3;subst e1;exact zO x2 n8 i6 i6);have i3:(m.free[k]).length<=300:=by have:=G.out.fn _ (EO i6);have:=G.out.dim.n1;unfold MZ.n at *;omega
         have o8:m.free.getD k []=m.free[k]:=zgd i6
         have l9:=zh o8;clear o8;obtain ⟨fk,o1⟩:=zak (m.free[k]);rw [<-o1] at l7 i3 l9;clear o1;have t2:=zh l7;obtain ⟨Ab,cb,rfl,-,-⟩:=l7;have g4:zb w4 W5:=h9.out.ext;have f5:=zh g4;have n0:=zh (a5.out.trans g4);have j3:∀W,zb W5 W->W.cell? ⟨gm,3,none⟩=some (.slice (some ⟨bf,offf,none⟩) m.free.length cf):=fun W h=>k3 W (f5.out.trans h)
         have j6:=zb.rule (n0.out.cell j0);have b3:=zb.rule (h9.out.box.cell (k:=3) rfl);clear j0 g4;have p6:(k:Int)<(m.free.length:Int):=by omega
         have p5:(0:Int)<=(k:Int):=by omega
         go_wp2_with fail
         refine Fd (S:=(fun _=>True)) (by kernel_rfl) (trivial) fun zH=>?_;refine BL [0,1,2,3,4,5,6,7,8,9,10,11] (fun e v W=>JA (V9 w4.heap.size g7 gm (.slice AF nF cF) (.slice (some ⟨bf,offf,none⟩) m.free.length cf) k ⟨bf,offf+k,none⟩ (.slice Ab fk.length cb) fk) D9 W5 [0,1,2,3,4,5,6,7,8] 9 10 11 (.pointer (some ⟨g7,3,none⟩)) (fun x W=>SubI w4 W g7 m.w m.h m.l m.up (.slice AF nF cF) vU vT' x vT' (((zP ps t.toNat k).map (m.free.getD · []))++[fk]) (((zP ps t.toNat k).map (m.tasks.getD · ([],[])))++[tk]) (((zP ps t.toNat k).map (ns.getD · ⟨#[]⟩))++[s])) (fun W=>∃vF',SubI w4 W g7 m.w m.h m.l m.up vF' vU vT' vF' vT' (((zP ps t.toNat k).map (m.free.getD · []))++[fk]) (((zP ps t.toNat k).map (m.tasks.getD · ([],[])))++[tk]) (((zP ps t.toNat k).map (ns.getD · ⟨#[]⟩))++[s])) e v W) (F:=?F10) (by kernel_rfl) (by kernel_rfl) (by decide) zH (fun v=>?hF10) ?init10 (by kernel_rfl) ?steps10 ?fin10
         case hF10=>(simp only [zS,Co,List.getElem?_toArray,List.getElem?_cons_succ,List.getElem?_cons_zero,Option.bind,Act.put,List.setIfInBounds_toArray,List.set_cons_succ,List.set_cons_zero];rfl)
         case init10=>(intro e v he;exact JA.init (zb.refl W5).drew (by decide) (fun j hj=>he j (by simp at hj⊢;omega)))
         case steps10=>
          refine zk.cons rfl (fun e v W K z hW he M E=>?_) ?_
          ·simp only [za] at M E⊢;have Q:=z.notA (j:=0) (by simp) he;have J:zb W5 W:=z.g Q;go_simp;exact E.out _ _ _ (by rfl) trivial (z.step (j:=0) (by simp) he V9.st (by decide) (by simp [D9]) (zb.refl _) rfl)
          refine zk.cons rfl (fun e v W K z hW he M E=>?_) ?_
          ·simp only [za] at M E⊢;have Q:=z.notA (j:=1) (by simp) he;have J:zb W5 W:=z.g Q;have D:=zo M [0] (by kernel_rfl);have v0:v 0=.pointer (some ⟨g7,3,none⟩):=z.gv Q 0 (by simp) (D 0 (by simp));go_simp;exact E.out _ _ _ (by simp [Act.put,v0]) trivial (z.step (j:=1) (by simp) he V9.st (by decide) (fun d I=>⟨by simp [D9] at I⊢;omega,D d (by simp [D9] at I⊢;omega)⟩) (zb.refl _) rfl)
          refine zk.cons rfl (fun e v W K z hW he M E=>?_) ?_
          ·simp only [za] at M E⊢;have Q:=z.notA (j:=2) (by simp) he;have J:zb W5 W:=z.g Q;go_simp;exact E.out _ _ _ (by rfl) trivial (z.step (j:=2) (by simp) he V9.st (by decide) (by simp [D9]) (zb.refl _) rfl)
          refine zk.cons rfl (fun e v W K z hW he M E=>?_) ?_
          ·simp only [za] at M E⊢;have Q:=z.notA (j:=3) (by simp) he;have J:zb W5 W:=z.g Q;have D:=zo M [2] (by kernel_rfl);have v2:v 2=.pointer (some ⟨gm,3,none⟩):=z.gv Q 2 (by simp) (D 2 (by simp));go_simp;exact E.out _ _ _ (by simp [Act.put,v2]) trivial (z.step (j:=3) (by simp) he V9.st (by decide) (fun d I=>⟨by simp [D9] at I⊢;omega,D d (by simp [D9] at I⊢;omega)⟩) (zb.refl _) rfl)
          refine zk.cons rfl (fun e v W K z hW he M E=>?_) ?_
          ·simp only [za] at M E⊢;have Q:=z.notA (j:=4) (by simp) he;have J:zb W5 W:=z.g Q;go_simp;exact E.out _ _ _ (by rfl) trivial (z.step (j:=4) (by simp) he V9.st (by decide) (by simp [D9]) (zb.refl _) rfl)
          refine zk.cons rfl (fun e v W K z hW he M E=>?_) ?_
          ·simp only [za] at M E⊢;have Q:=z.notA (j:=5) (by simp) he;have J:zb W5 W:=z.g Q;have D:=zo M [3,4] (by kernel_rfl);have v3:v 3=.slice (some ⟨bf,offf,none⟩) m.free.length cf:=z.gv Q 3 (by simp) (D 3 (by simp));have v4:v 4=.int .i64 k:=z.gv Q 4 (by simp) (D 4 (by simp));go_simp;exact E.out _ _ _ (by simp [Act.put,v3,v4]) trivial (z.step (j:=5) (by simp) he V9.st (by decide) (fun d I=>⟨by simp [D9] at I⊢;omega,D d (by simp [D9] at I⊢;omega)⟩) (zb.refl _) rfl)
          refine zk.cons rfl (fun e v W K z hW he M E=>?_) ?_
          ·simp only [za] at M E⊢;have Q:=z.notA (j:=6) (by simp) he;have J:zb W5 W:=z.g Q;have D:=zo M [5] (by kernel_rfl);have v5:v 5=.pointer (some ⟨bf,offf+k,none⟩):=z.gv Q 5 (by simp) (D 5 (by simp));go_simp;exact E.out _ _ _ (by simp [Act.put,v5]) trivial (z.step (j:=6) (by simp) he V9.st (by decide) (fun d I=>⟨by simp [D9] at I⊢;omega,D d (by simp [D9] at I⊢;omega)⟩) (zb.refl _) rfl)
          refine zk.cons rfl (fun e v W K z hW he M E=>?_) ?_
          ·simp only [za] at M E⊢;have Q:=z.notA (j:=7) (by simp) he;have J:zb W5 W:=z.g Q;have D:=zo M [6] (by kernel_rfl);have v6:v 6=.slice Ab fk.length cb:=z.gv Q 6 (by simp) (D 6 (by simp));go_simp;go_at_call 45;refine (Ea W (t2.out.below (n0.out.trans J)) (by omega)).mono ?_;rintro e9 wn ⟨vn,rfl,t7,t9⟩;go_simp;exact E.out _ _ _ (by simp [Act.put,v6]) trivial (z.step (j:=7) (by simp) he V9.st (by decide) (fun d I=>⟨by simp [D9] at I⊢;omega,D d (by simp [D9] at I⊢;omega)⟩) t7 (t9.mono (Below.size (f5.out.trans J))))
          refine zk.cons rfl (fun e v W K z hW he M E=>?_) ?_
          ·simp only [za] at M E⊢;have Q:=z.notA (j:=8) (by simp) he;have J:zb W5 W:=z.g Q;have D:=zo M [7] (by kernel_rfl);have o7:CB W w4.heap.size (v 7) fk:=z.gv Q 7 (by simp) (D 7 (by simp));obtain ⟨B7,n7,d7,v7⟩:∃A n c,v 7=.slice A n c:=by obtain ⟨A,c,e,-⟩:=zV.of_own o7;exact ⟨A,_,c,e⟩
           rw [v7] at o7;go_simp;exact E.out _ _ _ (by simp [Act.put,v7]) trivial (z.step (j:=8) (by simp) he V9.st (by decide) (fun d I=>⟨by simp [D9] at I⊢;omega,D d (by simp [D9] at I⊢;omega)⟩) ((zb.refl W).alloc _) ⟨W.heap.size,_,rfl,zg.new _ _ _ rfl,AH o7 ((zb.refl W).alloc _)⟩)
          refine zk.cons rfl (fun e v W K z hW he M E=>?_) ?_
          ·simp only [za] at M E⊢;have D:=zo M [1,8] (by kernel_rfl);have J:zb W5 W:=z.g he;have v1:v 1=.slice AF nF cF:=z.gv he 1 (by simp) (D 1 (by simp));obtain ⟨g,y,v8,l0,o7⟩:=(show ∃g y,v 8=.slice (some ⟨g,0,none⟩) 1 1/\zg W g 29 #[y]/\CB W w4.heap.size y fk from z.gv he 8 (by simp) (D 8 (by simp)));have e1:=D 1 (by simp);have e8:=D 8 (by simp);have e0:=(z.c 1 (by simp) e1 0 (by simp [D9])).2;have e7:=(z.c 8 (by simp) e8 7 (by simp [D9])).2;have e6:=(z.c 7 (by simp) e7 6 (by simp [D9])).2;have e5:=(z.c 6 (by simp) e6 5 (by simp [D9])).2;have e3:=(z.c 5 (by simp) e5 3 (by simp [D9])).2;have e4:=(z.c 5 (by simp) e5 4 (by simp [D9])).2;have e2:=(z.c 3 (by simp) e3 2 (by simp [D9])).2;have g0:∀j∈[0,1,2,3,4,5,6,7,8],e j=true:=fun j hj=>by simp at hj;rcases hj with rfl | rfl | rfl | rfl | rfl | rfl | rfl | rfl | rfl <;> assumption
           rw [if_pos (by simp [Region.wanted])];have b8:W.ownsRow w4.heap.size 29 1 (v 1) ((zP ps t.toNat k).map (m.free.getD · [])).length vs:=by rw [v1];exact AH j9.out J
           have b9:zV W (fun _=>True) 1 (v 8) 1 [y]:=by rw [v8];exact row1 l0 rfl
           refine Dd (ok:=fun _=>True) W (.tmp 65) (.tmp 72) eBools rfl w4.heap.size ((zP ps t.toNat k).map (m.free.getD · [])).length 1 vs [y] (v 1) (v 8) rfl rfl b8 b9 (fun u hu=>by simp at hu;subst hu;obtain ⟨A,c,e,-⟩:=zV.of_own o7;rw [e];rfl) (Below.size (f5.out.trans J)) (by rw [Fy];unfold maxLen;omega) (by rw [Fy];omega) ?_;intro x w' ho hg _;exact E.out _ _ _ (by simp [Act.put]) trivial (z.app he (by decide) (by decide) g0 ((h9.out.more J).addF (fun i x hx=>by obtain ⟨a,q0,i1⟩:=t3.out i x hx;exact ⟨a,q0,AH i1 J⟩) (by have:=j9.out.1;omega) (AH j9.out J) o7 ho (by rw [v1] at hg;exact hg)))
          refine zk.cons rfl (fun e v W K z hW he M E=>?_) ?_
          ·simp only [za] at M E⊢;have D:=zo M [9] (by kernel_rfl);go_simp;exact E.out _ _ _ (by rfl) trivial (z.addr (by decide) (by decide) rfl)
          refine zk.cons rfl (fun e v W K z hW he M E=>?_) ?_
          ·simp only [za] at M E⊢;have D:=zo M [10,9] (by kernel_rfl);have Q:=D 9 (by simp);have v10:=z.f (D 10 (by simp));have hm:=z.m Q he;have c3:=hm.box.cell (k:=3) rfl;have hf:=hm.box.frozen 3;obtain ⟨A9,n9,c9,r7⟩:∃A n c,v 9=.slice A n c:=by obtain ⟨_,ho,-⟩:=hm.fr;obtain ⟨A,c,e,-⟩:=zV.of_own ho;exact ⟨A,_,c,e⟩
           rw [r7] at hm;go_simp;exact E.out _ undef _ (by simp [Act.put,v10,r7]) trivial (z.store (by decide) (by decide) Q ⟨_,hm.sto rfl⟩)
          exact zk.nil
         case fin10=>
          intro v W6 z _;obtain ⟨vF',hF⟩:=(z.s rfl).2;have k8:Hid (SubL w4 W6 g7 m ns vU (zP ps t.toNat (k+1))):=⟨vF',vT',by rw [HK.out,map_snoc',map_snoc',map_snoc',l9.out,m6.out,<-t0.out];exact hF⟩;clear z hF j3 j6 b3 p6 p5;go_wp2;go_roundw
          case rel=>exact ⟨k+1,by omega,by go_num,k8⟩
          case measure=>simp [intOf];omega
     ·have w8:k=m.tasks.length:=by omega
      subst w8;obtain ⟨vF,vT,V⟩:=hS.out;have p7:zP ps t.toNat m.tasks.length=Dj ps t.toNat:=by unfold zP Dj;rw [m9.out]
      rw [p7] at V;have t8:=zh V.maze;obtain ⟨vs,b2,-⟩:=V.fr;obtain ⟨us,g3,-⟩:=V.tk;obtain ⟨AF,nF,cF,rfl⟩:∃A n c,vF=.slice A n c:=by obtain ⟨A,c,e,-⟩:=zV.of_own b2;exact ⟨A,_,c,e⟩
      obtain ⟨AT,nT,cT,rfl⟩:∃A n c,vT=.slice A n c:=by obtain ⟨A,c,e,-⟩:=zV.of_own g3;exact ⟨A,_,c,e⟩
      obtain ⟨AU,nU,cU,rfl⟩:∃A n c,vU=.slice A n c:=by obtain ⟨A,c,e,-⟩:=zV.of_own V.up;exact ⟨A,_,c,e⟩
      have y8:=zh V;have O:zg wk gz 32 #[.int .i64 0,.int .i64 0,.int .i64 0,.slice none 0 0,.slice none 0 0,.slice none 0 0]:=HZ.out.ext (a6.out.trans V.ext);have z0:wk.cell? ⟨gz,0,none⟩=some (.int .i64 0):=O.cell (k:=0) rfl;have z1:wk.cell? ⟨gz,1,none⟩=some (.int .i64 0):=O.cell (k:=1) rfl;have z2:wk.cell? ⟨gz,2,none⟩=some (.int .i64 0):=O.cell (k:=2) rfl;have z3:wk.cell? ⟨gz,3,none⟩=some (.slice none 0 0):=O.cell (k:=3) rfl;have z4:wk.cell? ⟨gz,4,none⟩=some (.slice none 0 0):=O.cell (k:=4) rfl;have z5:wk.cell? ⟨gz,5,none⟩=some (.slice none 0 0):=O.cell (k:=5) rfl;have hfz:∀j,wk.frozen? ⟨gz,j,none⟩=false:=fun j=>O.frozen j
      have m0:wk.cell? ⟨g7,0,none⟩=some (.int .i64 m.w):=V.box.cell (k:=0) rfl;have m1:wk.cell? ⟨g7,1,none⟩=some (.int .i64 m.h):=V.box.cell (k:=1) rfl;have m2:wk.cell? ⟨g7,2,none⟩=some (.int .i64 m.l):=V.box.cell (k:=2) rfl;have m3:wk.cell? ⟨g7,3,none⟩=some (.slice AF nF cF):=V.box.cell (k:=3) rfl;have m4:wk.cell? ⟨g7,4,none⟩=some (.slice AU nU cU):=V.box.cell (k:=4) rfl;have m5:wk.cell? ⟨g7,5,none⟩=some (.slice AT nT cT):=V.box.cell (k:=5) rfl;have f2:=zh O;clear O V b2 g3 b7 hk i8 hS p7
      go_wp2_with fail
      refine zX (P:=fun W=>bodyPost Tryz.prog Tryz.f15 _ Exit.ret _ W) (g2:=gz) ?_ f2.out;intro WZ U f7 hk;have y0:WZ.cell? ⟨gz,0,none⟩=some (.int .i64 m.w):=U.cell (k:=0) rfl;have y1:WZ.cell? ⟨gz,1,none⟩=some (.int .i64 m.h):=U.cell (k:=1) rfl;have y2:WZ.cell? ⟨gz,2,none⟩=some (.int .i64 m.l):=U.cell (k:=2) rfl;have y3:WZ.cell? ⟨gz,3,none⟩=some (.slice AF nF cF):=U.cell (k:=3) rfl;have y4:WZ.cell? ⟨gz,4,none⟩=some (.slice AU nU cU):=U.cell (k:=4) rfl;have y5:WZ.cell? ⟨gz,5,none⟩=some (.slice AT nT cT):=U.cell (k:=5) rfl;refine FK (v:=.agg #[.int .i64 m.w,.int .i64 m.h,.int .i64 m.l,.slice AF nF cF,.slice AU nU cU,.slice AT nT cT]) (by simp [results,Tryz.results15,go_sem,y0,y1,y2,y3,y4,y5]) rfl ⟨_,rfl,Below.trans h6.out (f7.mono (by have:=g8.out.1;omega)),?_⟩;rw [HO.out.1,HO.out.2];have h4:=a5.out.size;exact t8.out.keepW (fun b hb b7=>hk b b7 (by have:=g8.out.2;have:=a6.out.size;omega)) (fun b hb=>by omega)
theorem Bg.bound {w:World} {X Y:Nat->Prop} {g gr cap:Nat} {m:MZ} {s:RS} {pt:List Nat} (h:Bg w X Y g gr cap m s pt):Bg w (fun k=>X k/\k<w.heap.size) Y g gr cap m s pt:=
 ⟨h.blk,⟨h.xg,zd h.blk⟩,⟨h.xr,(h.row.1.lt gr rfl).2⟩,h.ne,h.yg,h.yr,h.row.1,h.row.2.1,fun k p hp=>(h.row.2.2 k p hp).bound.weaken fun b hb=>by
  rcases hb with ⟨hb | hb,z⟩
  ·exact .inl ⟨⟨hb.1,z⟩,hb.2⟩
  ·exact .inr hb⟩
theorem Bg.chg {w w':World} {X Y X':Nat->Prop} {g gr cap:Nat} {m:MZ} {s:RS} {pt:List Nat} (h:Bg w X Y g gr cap m s pt) (D:zu X' w w') (E:∀k,X k\/Y k->¬ X' k):Bg w' X Y g gr cap m s pt:=
 h.same fun b z G=>D.block b z (E b G)
structure RtB (w:World) (X Y:Nat->Prop) (g:Nat) (m:MZ) (s:RS):Prop where
 rt:∃gr cap pt,Bg w X Y g gr cap m s pt
 xb:∀k,X k->k<w.heap.size
 yb:∀k,Y k->k<w.heap.size
 good:zI m
 lens:Lens m
 ch:zC m s.ch
 st:0<=s.steps
section
variable {w w':World} {X Y X':Nat->Prop} {g:Nat} {m:MZ} {s:RS}
theorem RtB.chg (h:RtB w X Y g m s) (z:zu X' w w') (J:∀k,X k\/Y k->¬ X' k):RtB w' X Y g m s:=by
 obtain ⟨⟨gr,cap,pt,M⟩,h1,h2,h3,E,G,I⟩:=h;exact ⟨⟨gr,cap,pt,M.chg z J⟩,fun k D=>Fq (h1 k D) z.size,fun k D=>Fq (h2 k D) z.size,h3,E,G,I⟩
theorem RtB.ext (h:RtB w X Y g m s) (z:zb w w'):RtB w' X Y g m s:=h.chg (zu.of_ext (X:=fun _=>False) z) (fun _ _ h=>h)
theorem RtB.step (h:RtB w X Y g m s) (n:Nat) (s':RS) (d:Bool) (T:s'.done=d) (I:RS.run m n s=s') (U:n<=1000000) (J:s.steps<=3000000000000000000):
  Calls Tryz.prog 28 #[.pointer (some ⟨g,0,none⟩),.int .i64 n] w fun e w'=>e=.returned (.bool d)/\RtB w' (fun k=>X k\/(w.heap.size<=k/\k<w'.heap.size)) Y g m s'/\zu X w w':=by
 obtain ⟨⟨gr,cap,pt,V⟩,h1,h2,h3,M,E,O⟩:=h;refine (stepN_calls (X:=fun k=>X k\/w.heap.size<=k) n w (V.widen fun _ h=>.inl h) h3 M E U O J (fun _ h=>.inr h) h2).mono ?_;rintro e w' ⟨rfl,gr',cap',pt',D,z⟩;rw [I] at D⊢;refine ⟨by rw [T],⟨⟨gr',cap',pt',D.bound.widen ?_⟩,?_,?_,h3,M,?_,?_⟩,?_⟩
 ·rintro k ⟨hk | hk,G⟩
  ·exact .inl hk
  ·exact .inr ⟨hk,G⟩
 ·rintro k (hk | hk)
  ·exact Fq (h1 k hk) z.size
  ·exact hk.2
 ·exact fun k hk=>Fq (h2 k hk) z.size
 ·rw [<-I];exact run_isCh n E
 ·have:=run_steps (m:=m) n E;rw [I] at this;omega
 ·exact ⟨z.os,z.tape,z.output,z.size,fun b Q Z=>z.block b Q (by
   rintro (h | h)
   ·exact Z h
   ·omega)⟩
theorem RtB.fb (h:RtB w X Y g m s):∀k,X k\/Y k->k<w.heap.size:=fun k z=>z.elim (h.xb k) (h.yb k)
theorem RtB.found (h:RtB w X Y g m s):Calls Tryz.prog 29 #[.pointer (some ⟨g,0,none⟩)] w (DM w m s.ch):=by
 obtain ⟨⟨gr,cap,pt,E⟩,h1,h2,h3,z,D,G⟩:=h;exact found_c w E h3 z D
end
theorem newB_calls {Y:Nat->Prop} {v:Value} {m:MZ} (w:World) (hm:zt w Y v m) (I:Lens m) (z:∀b,Y b->b<w.heap.size) (J:AY m=0):
  Calls Tryz.prog 27 #[v] w fun e w'=>∃g,e=.returned (.tuple #[.pointer (some ⟨g,0,none⟩),.int .i64 0])/\zb w w'/\RtB w' (fun k=>w.heap.size<=k/\k<w'.heap.size) Y g m (loadS m [] 0):=by
 refine (new_calls w hm I z).mono ?_
 have D:loadE m [] 0=0:=by
  unfold loadE;rw [J,if_neg (by simp),if_neg (by decide)];rfl
 rintro e w' ⟨v',rfl,G,h | ⟨h1,h2,h3,g,gr,cap,pt,rfl,M⟩⟩
 ·exact absurd D h.1
 ·exact ⟨g,by rw [D];rfl,G,⟨gr,cap,pt,M.bound⟩,fun k E=>E.2,fun k E=>Fq (z k E) G.size,h2,I,h3,Int.le_refl _⟩
end
section
open Go.RowKit
structure RInv (m:MZ) (s:RS):Prop where
 ch:zC m s.ch
 st:0<=s.steps
 dn:s.done=(loadS m s.ch s.steps).done
 op:s.ch≠[]->Cj m s.ch=true
theorem rinv_load {m:MZ}:RInv m (loadS m [] 0):=⟨.nil,Int.le_refl _,rfl,fun h=>absurd rfl h⟩
theorem RInv.one {m:MZ} {s:RS} (h:RInv m s):RInv m (s.one m):=by
 unfold RS.one
 split
 ·rename_i c z
  obtain ⟨h1,h2,h3⟩:=stepC_some h.ch z;refine ⟨h1,by have:=h.st;show 0<=s.steps+1;omega,?_,fun _=>h3⟩;show AZ m c=(AZ m c || (decide (c=[]) && decide (0<s.steps+1)));have:decide (c=[])=false:=ER (by rintro rfl;simp at h2);rw [this,Bool.false_and,Bool.or_false]
 ·refine ⟨.nil,by have:=h.st;show 0<=s.steps+1;omega,?_,fun h=>absurd rfl h⟩;show true=(AZ m [] || (decide (([]:List Int)=[]) && decide (0<s.steps+1)));have h1:decide (0<s.steps+1)=true:=EQ (by have:=h.st;omega);rw [h1];simp
theorem RInv.run {m:MZ}:∀(n:Nat) {s:RS},RInv m s->RInv m (RS.run m n s)
 | 0,s,h=>h
 | n+1,s,h=>by
  unfold RS.run
  split
  ·exact h
  ·exact RInv.run n h.one
theorem RInv.loadE {m:MZ} {s:RS} (h:RInv m s) (z:AY m=0):loadE m s.ch s.steps=0:=by
 unfold Go.Proofs.YthbjngbhbbkkgaaGreat.loadE;rw [z,if_neg (by simp),if_neg (by have:=h.st;omega),if_pos];rw [By.2 h.ch,Bool.true_and,zae,EX];by_cases h0:s.ch=[]
 ·exact .inl h0
 ·exact .inr (h.op h0)
theorem RInv.loadS {m:MZ} {s:RS} (h:RInv m s):loadS m s.ch s.steps=s:=by
 obtain ⟨c,d,n⟩:=s;have h1:d=(AZ m c || (decide (c=[]) && decide (0<n))):=h.dn;show RS.mk c (AZ m c || (decide (c=[]) && decide (0<n))) n=RS.mk c d n;rw [<-h1]
theorem RInv.open {m:MZ} {s:RS} (h:RInv m s) (z:AY m=0) (D:s.ch≠[]):openO m s.ch=true:=by
 unfold openO EH;rw [By.2 h.ch,h.op D,EQ z];rfl
theorem RInv.done {m:MZ} {s:RS} (h:RInv m s) (D:s.done=true) (z:AZ m s.ch=false):s.ch=[]:=by
 have h1:=h.dn;rw [D] at h1;unfold Go.Proofs.YthbjngbhbbkkgaaGreat.loadS at h1;simp only [z,Bool.false_or] at h1;have h2:=h1.symm;rw [EZ,EX] at h2;exact h2.1
structure OneX (w wr:World) (X:Nat->Prop) (g:Nat) (m:MZ) (s:RS):Prop where
 ext:zb w wr
 rt:RtB wr X (fun b=>b<w.heap.size) g m s
 lo:∀k,X k->w.heap.size<=k
 inv:RInv m s
def OneR (w wr:World) (g:Nat) (m:MZ) (s:RS):Prop:=∃X,OneX w wr X g m s
section
variable {w wr w':World} {X X':Nat->Prop} {g g':Nat} {m:MZ} {s s':RS}
theorem OneX.more (h:OneX w wr X g m s) (z:zb wr w'):OneX w w' X g m s:=⟨h.ext.trans z,h.rt.ext z,h.lo,h.inv⟩
theorem OneX.other (h:OneX w wr X g m s) (D:∀k,X' k->w.heap.size<=k) (I:∀k,X k->¬ X' k) (E:zu X' wr w'):OneX w w' X g m s:=
 ⟨Below.trans h.ext (E.below h.ext.size D),h.rt.chg E (fun k z G=>z.elim (fun z=>I k z G) (fun z=>by have:=D k G;omega)),h.lo,h.inv⟩
theorem OneX.step (h:OneX w wr X g m s) (n:Nat) (G:n<=1000000) (D:s.steps<=3000000000000000000):
  Calls Tryz.prog 28 #[.pointer (some ⟨g,0,none⟩),.int .i64 n] wr fun e w'=>e=.returned (.bool (RS.run m n s).done)/\OneX w w' (fun k=>X k\/(wr.heap.size<=k/\k<w'.heap.size)) g m (RS.run m n s)/\zu X wr w':=by
 refine (h.rt.step n _ _ rfl rfl G D).mono ?_;rintro e w' ⟨rfl,I,E⟩;exact ⟨rfl,⟨Below.trans h.ext (E.below h.ext.size h.lo),I,fun k z=>z.elim (h.lo k) (fun z=>EP h.ext.size z.1),h.inv.run n⟩,E⟩
theorem OneR.more (h:OneR w wr g m s) (z:zb wr w'):OneR w w' g m s:=by
 obtain ⟨X,h⟩:=h;exact ⟨X,h.more z⟩
theorem OneR.ext (h:OneR w wr g m s):zb w wr:=by
 obtain ⟨X,h⟩:=h;exact h.ext
theorem OneR.inv (h:OneR w wr g m s):RInv m s:=by
 obtain ⟨X,h⟩:=h;exact h.inv
theorem OneR.step (h:OneR w wr g m s) (n:Nat) (D:n<=1000000) (z:s.steps<=3000000000000000000):
  Calls Tryz.prog 28 #[.pointer (some ⟨g,0,none⟩),.int .i64 n] wr fun e w'=>e=.returned (.bool (RS.run m n s).done)/\OneR w w' g m (RS.run m n s):=by
 obtain ⟨X,h⟩:=h;refine (h.step n D z).mono ?_;rintro e w' ⟨rfl,E,G⟩;exact ⟨rfl,_,E⟩
theorem OneR.found (h:OneR w wr g m s):Calls Tryz.prog 29 #[.pointer (some ⟨g,0,none⟩)] wr (DM wr m s.ch):=by
 obtain ⟨X,h⟩:=h;exact h.rt.found
theorem OneR.len (h:OneR w wr g m s):s.ch.length<=300:=by
 obtain ⟨X,h⟩:=h;exact h.rt.ch.len300 h.rt.good
theorem OneR.good (h:OneR w wr g m s):zI m/\Lens m:=by
 obtain ⟨X,h⟩:=h;exact ⟨h.rt.good,h.rt.lens⟩
theorem new1 {v:Value} (w wr:World) (D:zb w wr) (hm:zt w okm v m) (M:Lens m) (I:AY m=0):
  Calls Tryz.prog 27 #[v] wr fun e w'=>∃g,e=.returned (.tuple #[.pointer (some ⟨g,0,none⟩),.int .i64 0])/\zb wr w'/\OneR w w' g m (loadS m [] 0):=by
 refine (newB_calls (Y:=fun b=>b<w.heap.size) wr ((hm.bound.weaken fun b E=>E.2).below D) M (fun b E=>Fq E D.size) I).mono ?_;rintro e w' ⟨g,rfl,z,G⟩;exact ⟨g,rfl,z,_,D.trans z,G,fun k J=>EP D.size J.1,rinv_load⟩
end
theorem found_len {m:MZ} {ch:List Int} (g:zI m) (E:Lens m) (D:zC m ch):(foundL m ch).length<=1000/\∀x∈foundL m ch,x.length<=1000:=by
 have z:=D.sok g E;unfold foundL
 split
 ·exact ⟨by have:=z.pl;have:=g.tk;omega,z.pp⟩
 ·exact ⟨by simp,fun x G=>by cases G⟩
end
section
open Go.RowKit
attribute [local go_sem ↓] Go.wp_at_zero Go.wp_at_succ
attribute [local go_sem] Oper.semAt_some
theorem equalI_calls {ok':Nat->Prop} {v:Value} {a b:List Int} (w:World) (h:zi w ok v a) (h':zi w ok' v' b) (hl:a.length<=20000000000000) (b1:b.length<=20000000000000):
  Calls Tryz.prog 75 #[v,v'] w fun e w'=>e=.returned (.bool (decide (a=b)))/\zM w w':=by
 obtain ⟨A,c,rfl,hc,hr⟩:=h;obtain ⟨A',c',rfl,b0,Q⟩:=h';have HR:=zh hr;clear hr;have U:=zh Q;clear Q;by_cases z:a.length=b.length
 ·have Z:((a.length:Int) != (b.length:Int))=false:=by simp [z]
  have b2:a.length<=b.length:=by omega
  have a5:b.length<=a.length:=by omega
  have T:=zh z;clear z
  go_enter Tryz.func75,Tryz.ntmps75
  go_wp2;go_loopw [13] (fun i wr=>∃k:Nat,k<=a.length/\i=.int .i64 k/\Hid (a.take k=b.take k)/\Hid (zM w wr)) (fun i _=>a.length - (intOf i).toNat)
  case atStart=>exact ⟨0,Fb _,rfl,by simp [Hid],zM.refl _⟩
  case round=>
   obtain ⟨k,hk,rfl,heq,O⟩:=hrel;by_cases M:k<a.length
   ·have E:k<b.length:=by omega
    obtain ⟨bA,off,rfl,_,J⟩:=zy (HR.out.keep (O.out.same ok)) M M;obtain ⟨bB,off',rfl,_,G⟩:=zy (U.out.keep (O.out.same ok')) E E;obtain ⟨x,hx⟩:=zak (a[k]);obtain ⟨y,hy⟩:=zak (b[k]);rw [<-hx] at J;rw [<-hy] at G;have HX:=zh hx;clear hx;have HY:=zh hy;clear hy;have a6:(k:Int)<(a.length:Int):=by omega
    by_cases D:x=y
    ·have V:(x != y)=false:=by simp [D]
     have I:=zh D;clear D;go_wp2;go_quiet (fail)
     go_wp2;go_roundw
     case rel=>exact ⟨k+1,by omega,by go_num,(Em M E).2 ⟨heq.out,by rw [<-HX.out,<-HY.out,I.out]⟩,O.out.more _⟩
     case measure=>simp [intOf];omega
    ·have V:(x != y)=true:=by simp [D]
     have I:=zh D;clear D;go_wp2;go_quiet (fail)
     go_wp2;go_ret;refine ⟨zf ?_,O.out.more _⟩;rw [eq_comm,Fl];rintro rfl;exact I.out (HX.out.trans HY.out.symm)
   ·obtain rfl:k=a.length:=by omega
    go_wp2;go_ret;refine ⟨zf ?_,O.out⟩;have h:=heq.out;rw [EY,T.out,EY] at h;simp [h]
 ·have Z:((a.length:Int) != (b.length:Int))=true:=by simp only [bne_iff_ne];omega
  have T:=zh z;clear z
  go_enter Tryz.func75,Tryz.ntmps75
  go_wp2;go_ret;refine ⟨zf ?_,zM.refl _⟩;rw [eq_comm,Fl];rintro rfl;exact T.out rfl
theorem subM_lens {m:MZ} (D:Lens m) {ps:List (List Int)} (hp:ps.length<=20000000000000) (t:Nat):Lens (CK m ps t):=by
 have z:=keepL_len ps t;refine ⟨by show ((Dj ps t).map _).length<=_;rw [Fy];omega,D.up,by show ((Dj ps t).map _).length<=_;rw [Fy];omega,fun x E=>?_⟩;obtain ⟨k,-,rfl⟩:=zac.1 (show x∈(Dj ps t).map (m.tasks.getD · ([],[])) from E);by_cases z:k<m.tasks.length
 ·rw [EM,EL z];exact D.tl _ (EO z)
 ·rw [EM,Fg (by omega)];simp
theorem loadS_nil (m:MZ):loadS m [] 0=⟨[],AZ m [],0⟩:=by
 unfold loadS;simp
theorem Da (w:World) (ok:Nat->Prop):zq w ok (.slice none 0 0) []:=⟨[],⟨none,0,rfl,EN _,zN.nil _ _ _ _⟩,fun i x z=>by simp at z⟩
theorem intss_head {w:World} {v:Value} {x:List Int} {l:List (List Int)} (h:zq w ok v (x :: l)):∃g o c v' u,v=.slice (some ⟨g,o,none⟩) (l.length+1) (c+1)/\ok g/\w.cell? ⟨g,o,none⟩=some u/\zi w ok u x/\zq w ok v' l/\
  (∀W,(Instr.sliceAt 22 (.slice (some ⟨g,o,none⟩) (l.length+1) (c+1)) (some (.int .i64 1)) none none).run Tryz.prog W=.ok v' W)/\∀W,(Instr.slice 22 (.slice (some ⟨g,o,none⟩) (l.length+1) (c+1)) (some (.int .i64 1)) none none).run Tryz.prog W=.ok v' W:=by
 obtain ⟨vs,⟨A,c,rfl,T,U,Q⟩,he⟩:=h;simp only [zai,Nat.mul_one] at T U Q;obtain ⟨c,rfl⟩:∃c',c=c'+1:=⟨c - 1,by omega⟩;obtain ⟨g,o,rfl,O,D⟩:=Q (by omega);obtain ⟨u,V,J⟩:=he 0 x rfl;have G:∀W,(sizeOf 23).run Tryz.prog W=.ok 1 W:=fun W=>Tryz.sizeOf23 W
 have E:∀W,(Instr.slice 22 (.slice (some ⟨g,o,none⟩) (l.length+1) (c+1)) (some (.int .i64 1)) none none).run Tryz.prog W=.ok (.slice (if c+1=1 then some ⟨g,o,none⟩ else some ⟨g,o+1,none⟩) l.length c) W:=fun W=>by
  have I:(Instr.sliceBounds true (l.length+1) (c+1) (some (.int .i64 1)) none none).run Tryz.prog W=.ok (1,l.length+1,c+1) W:=by
   unfold Instr.sliceBounds;simp only [Sem.run_bind,Sem.run_pure,Result.andThen_ok];rw [run_sliceBound _ _ _ _ _ (by omega) (by omega)];rfl
  unfold Instr.slice;simp only [Sem.run_bind,run_underlying Tryz.underlying22,Result.andThen_ok,I,G,Sem.run_pure,Nat.add_sub_cancel,Nat.mul_one]
  split <;> simp [Addr.add]
 refine ⟨g,o,c,_,u,rfl,O,by simpa using D 0 u V,J,?_,fun W=>(run_sliceAt_slice W 22 _ _ _ _ Tryz.underlying22).trans (E W),E⟩;refine ⟨vs.drop 1,⟨_,c,rfl,by omega,by rw [List.length_drop];omega,fun h0=>?_⟩,fun i y Z=>?_⟩
 ·refine ⟨g,o+1,by rw [if_neg (by omega)],O,fun j z G=>?_⟩;rw [List.getElem?_drop] at G;have:=D (1+j) z G
  rwa [<-Nat.add_assoc] at this
 ·obtain ⟨z,G,M⟩:=he (i+1) y (by simpa using Z);exact ⟨z,by rw [List.getElem?_drop,Nat.add_comm];exact G,M⟩
structure CPB (w wr:World) (g B L:Nat) (ps:List (List Int)):Prop where
 ext:zb w wr
 lo:w.heap.size<=g
 row:∃vs:List Value,zg wr g 23 vs.toArray/\vs.length=ps.length/\∀(i:Nat) x,ps[i]?=some x->∃u,vs[i]?=some u/\zi wr (fun b=>b≠g/\b<B/\L<=b) u x
section
variable {w wr w':World} {g B L:Nat} {ps:List (List Int)}
theorem CPB.of (h:CP w wr g ps) (D:L<=w.heap.size):CPB w wr g wr.heap.size L ps:=by
 obtain ⟨vs,z,G,he⟩:=h.row;exact ⟨h.ext,h.lo,vs,z,G,fun i x J=>by obtain ⟨u,I,E⟩:=he i x J;exact ⟨u,I,E.bound.weaken fun b z=>⟨z.1.1,z.2,EP D z.1.2⟩⟩⟩
theorem CPB.intss (h:CPB w wr g B L ps) (c:Nat) (G:ps.length<=c) (D:L<=g):zq wr (fun b=>L<=b) (.slice (some ⟨g,0,none⟩) ps.length c) ps:=by
 obtain ⟨vs,E,M,he⟩:=h.row;refine ⟨vs,⟨_,c,rfl,G,by omega,fun _=>⟨g,0,rfl,D,fun j u z=>?_⟩⟩,fun i x J=>by obtain ⟨u,z,I⟩:=he i x J;exact ⟨u,z,I.weaken fun _ h=>h.2.2⟩⟩;rw [Nat.zero_add];exact E.cell (by simpa using z)
theorem CPB.at_ (h:CPB w wr g B L ps) {k:Nat} (E:k<ps.length):∃u,wr.cell? ⟨g,k,none⟩=some u/\wr.frozen? ⟨g,k,none⟩=false/\zi wr (fun b=>b≠g/\b<B/\L<=b) u ps[k]:=by
 obtain ⟨vs,z,I,he⟩:=h.row;obtain ⟨u,G,D⟩:=he k _ (EL E);exact ⟨u,z.cell (by simpa using G),z.frozen k,D⟩
theorem CPB.keep (h:CPB w wr g B L ps) (G:zb w w') (E:∀b,b<B->b<wr.heap.size->w'.heap[b]?=wr.heap[b]?) (I:g<B):CPB w w' g B L ps:=by
 obtain ⟨vs,z,M,he⟩:=h.row;exact ⟨G,h.lo,vs,(E g I (zd z)).trans z,M,fun i x Q=>by obtain ⟨u,O,J⟩:=he i x Q;exact ⟨u,O,J.keep fun b z D=>E b z.2.1 D⟩⟩
theorem CPB.set (h:CPB w wr g B L ps) (k:Nat) {u:Value} {x:List Int} (O:zi wr (fun b=>b≠g/\b<B/\L<=b) u x):CPB w (wr.setCell ⟨g,k,none⟩ u) g B L (ps.set k x):=by
 obtain ⟨vs,E,J,he⟩:=h.row;have I:∀{v:Value} {l:List Int},zi wr (fun b=>b≠g/\b<B/\L<=b) v l->zi (wr.setCell ⟨g,k,none⟩ u) (fun b=>b≠g/\b<B/\L<=b) v l:=fun D=>D.keep fun b E _=>EW wr ⟨g,k,none⟩ u b E.1
 refine ⟨h.ext.setCell (p:=⟨g,k,none⟩) h.lo _,h.lo,vs.set k u,?_,by simp [J],fun i y z=>?_⟩
 ·have:=E.set (k:=k) u
  rwa [List.setIfInBounds_toArray] at this
 ·rw [List.getElem?_set] at z⊢;by_cases D:k=i
  ·subst D;rw [if_pos rfl] at z⊢
   split at z
   ·rename_i M
    rw [if_pos (by omega)];injection z with z;subst z;exact ⟨u,rfl,I O⟩
   ·cases z
  ·rw [if_neg D] at z⊢;obtain ⟨v,Q,G⟩:=he i y z;exact ⟨v,Q,I G⟩
end
structure CA (w6 wr:World) (L go B:Nat) (ps:List (List Int)) (t k:Nat) (fd o:List (List Int)) (mv:List Int) (fdv mvv:Value):Prop where
 cb:CPB w6 wr go B L o
 len:o.length=ps.length
 same:∀j,k<=j->o.getD j []=ps.getD j []
 fdl:fd.length=(((List.range ps.length).drop k).filter (Bx ps t)).length
 fds:zq wr (fun b=>L<=b/\b<w6.heap.size) fdv fd
 fdx:∀x∈fd,x.length<=1000
 lo:go<B/\B<=wr.heap.size
 mo:zA wr B mvv mv
theorem El {k:Nat} (z:k<n):(List.range n).drop k=k :: (List.range n).drop (k+1):=by
 rw [List.drop_eq_getElem_cons (by simpa using z)];simp
section
variable {w6 wr w':World} {L go B:Nat} {ps:List (List Int)} {t k:Nat} {fd o:List (List Int)} {mv:List Int} {fdv mvv:Value}
theorem CA.app {r:Option Nat} {mv':List Int} {mvv':Value} (h:CA w6 wr L go B ps t k fd o mv fdv mvv) (G:wr.grownBy w' r) (J:∀b,r=some b->B<=b) (M:zA w' B mvv' mv'):CA w6 w' L go B ps t k fd o mv' fdv mvv':=by
 have I:∀b,b<B->b<wr.heap.size->w'.heap[b]?=wr.heap[b]?:=fun b E D=>G.block b D (fun e=>by have:=J b e.symm;omega)
 have O:=h.cb.lo;have z:=h.lo;refine ⟨h.cb.keep ?_ I z.1,h.len,h.same,h.fdl,h.fds.keep fun b E D=>I b (by omega) D,h.fdx,⟨z.1,EP z.2 G.size⟩,M⟩;exact ((zu.of_ext (X:=fun b=>B<=b) h.cb.ext).grown G (fun b E _=>J b E)).below (EN _) (fun b E=>by omega)
theorem CA.more (h:CA w6 wr L go B ps t k fd o mv fdv mvv) (z:zb wr w'):CA w6 w' L go B ps t k fd o mv fdv mvv:=
 ⟨h.cb.keep (h.cb.ext.trans z) (fun b _ D=>z.block b D) h.lo.1,h.len,h.same,h.fdl,h.fds.below z,h.fdx,⟨h.lo.1,EP h.lo.2 z.size⟩,AH h.mo z⟩
theorem CA.skip (h:CA w6 wr L go B ps t k fd o mv fdv mvv) (z:k<ps.length) (D:Bx ps t k=false):CA w6 wr L go B ps t (k+1) fd o mv fdv mvv:=
 ⟨h.cb,h.len,fun j E=>h.same j (by omega),by rw [h.fdl,El z,Fw (by rw [D];simp)],h.fds,h.fdx,h.lo,h.mo⟩
theorem CA.cons (h:CA w6 wr L go B ps t k fd o mv fdv mvv) (z:k<ps.length) (D:Bx ps t k=true):∃x fd',fd=x :: fd'/\fd'.length=(((List.range ps.length).drop (k+1)).filter (Bx ps t)).length:=by
 have h1:=h.fdl;rw [El z,FJ D,zai] at h1
 match fd,h1 with
 | x :: fd',h1=>exact ⟨x,fd',rfl,by simpa using h1⟩
theorem CA.put {x:List Int} {fd':List (List Int)} {u:Value} (h:CA w6 wr L go B ps t k (x :: fd') o mv fdv mvv) (O:k<ps.length) (E:fd'.length=(((List.range ps.length).drop (k+1)).filter (Bx ps t)).length)
  (G:zi wr (fun b=>L<=b/\b<w6.heap.size) u x) (I:zq wr (fun b=>L<=b/\b<w6.heap.size) v' fd'):CA w6 (wr.setCell ⟨go,k,none⟩ u) L go B ps t (k+1) fd' (o.set k x) mv v' mvv:=by
 have D:∀b,b<w6.heap.size->b≠go:=fun b z=>by have:=h.cb.lo;omega
 refine ⟨h.cb.set k (G.weaken fun b z=>⟨D b z.2,by have:=h.cb.lo;have:=h.lo;omega,z.1⟩),by rw [List.length_set];exact h.len,fun j M=>?_,E,?_,fun y J=>h.fdx y (Fh _ J),⟨h.lo.1,by simpa using h.lo.2⟩,?_⟩
 ·rw [DQ,if_neg (by omega)];exact h.same j (by omega)
 ·exact I.keep fun b z _=>EW wr ⟨go,k,none⟩ u b (D b z.2)
 ·exact ownsRow_setCell_below h.mo (by have:=h.lo.1;exact this) u
end
def AddPost (w:World) (r:AddR) (e:Ending) (w':World):Prop:=
 ∃vp vm vw,e=.returned (.tuple #[vp,vm,vw,.int .i64 r.err])/\zb w w'/\zq w' (fun b=>w.heap.size<=b) vp r.ps/\zi w' (fun b=>w.heap.size<=b) vm r.mv/\En w' (fun b=>w.heap.size<=b) vw r.why
theorem searched_calls {v:Value} {m:MZ} {ps:List (List Int)} (t:Nat) (w:World) (hm:zt w okm v m) (hl:Lens m) (hf:zq w okf vf ps) (l2:∀x∈ps,x.length<=100000000000) (hL:AV m ps=true) (hk:AM m t=true) (h2:ps.getD t []=[]):
  Calls Tryz.prog 40 #[v,vf,.int .i64 t] w (AddPost w (Bc m ps t)):=by
 obtain ⟨ns,l8⟩:=hm.nets;have HM:=zh l8;have HL:=zh hl;have HF:=zh hf;obtain ⟨Af,cf,Au,cu,At,ct,rfl,-,-,-⟩:=hm.parts;obtain ⟨vs,⟨Ap,cp,rfl,s0,-⟩,-⟩:=hf;clear hm l8 hl;obtain ⟨k8,m0,-⟩:=AS.1 hL;obtain ⟨-,p4,p5⟩:=Be.1 hk;have f4:subO m ps t=CK m ps t:=by unfold subO;rw [hL,hk];rfl
 have G:=zh (zI.of k8);have p6:=G.out.tk;have s2:ps.length<=6:=by omega
 have r8:Hid (t<ps.length):=by (show _<_);omega
 have c7:=zh (subM_good G.out m0 t);have j9:Hid (AY (CK m ps t)=0):=good_chk c7.out;have c8:=zh (subM_lens HL.out (ps:=ps) (by omega) t);have f9:=zh l2;have j8:=zh f4;clear hL hk k8 m0 p4 p5 p6 l2 f4;obtain ⟨sm,i9⟩:=zak (CK m ps t);rw [<-i9] at c7 j9 c8 j8;have a3:=zh i9;clear i9
 go_enter Tryz.func40,Tryz.ntmps40
 go_upto_region 1 with fail;obtain ⟨h7,r0,r1,r2,r3,r4,r5⟩:=CG w (.int .i64 m.w) (.int .i64 m.h) (.int .i64 m.l) (.slice Af m.free.length cf) (.slice Au m.up.length cu) (.slice At m.tasks.length ct);have i8:(w.alloc (.cells #[.int .i64 m.w,.int .i64 m.h,.int .i64 m.l,.slice Af m.free.length cf,.slice Au m.up.length cu,.slice At m.tasks.length ct] 32)).heap.size=w.heap.size+1:=by simp
 generalize w.alloc _=w0 at h7 r0 r1 r2 r3 r4 r5 i8⊢;have b4:=zg.new w0 #[.int .i64 0,.slice none 0 0,.slice none 0 0] 37 (g:=w0.heap.size) rfl;have d5:zb w0 (w0.alloc (.cells #[.int .i64 0,.slice none 0 0,.slice none 0 0] 37)):=(zb.refl w0).alloc _;generalize w0.alloc _=w1 at b4 d5⊢;rw [i8] at b4;obtain ⟨gm,i2⟩:=zak w.heap.size;rw [<-i2] at r0 r1 r2 r3 r4 r5 b4⊢;have b0:Hid (gm=w.heap.size):=i2;have V:=zh d5;have r0:=fun W h=>r0 W (V.out.trans h)
 have r1:=fun W h=>r1 W (V.out.trans h)
 have r2:=fun W h=>r2 W (V.out.trans h)
 have r3:=fun W h=>r3 W (V.out.trans h)
 have r4:=fun W h=>r4 W (V.out.trans h)
 have r5:=fun W h=>r5 W (V.out.trans h)
 have HP:=zh b4;have g8:=zh (h7.trans d5);clear i2 h7 i8 d5 b4;have hx:zb w1 w1:=zb.refl w1
 go_wp2_with fail
 refine (sub_calls t w1 (HM.out.below g8.out) HL.out (HF.out.below g8.out) (by omega) (fun x hx=>by have:=f9.out x hx;omega)).mono ?_;rw [j8.out];rintro e w2 ⟨vm,rfl,g9,i7⟩;have n4:=zh i7.maze;obtain ⟨Bf,df,Bu,du,Bt,dt,rfl,-,-,-⟩:=i7.maze.parts;have o0:=zh (g8.out.trans g9);have n5:=zh (HP.out.ext g9);clear g9 i7 r0 r1 r2 r3 r4 r5 hx;go_upto_region 2 with fail;obtain ⟨b8,r0,r1,r2,r3,r4,r5⟩:=CG w2 (.int .i64 sm.w) (.int .i64 sm.h) (.int .i64 sm.l) (.slice Bf sm.free.length df) (.slice Bu sm.up.length du) (.slice Bt sm.tasks.length dt);generalize w2.alloc _=w3 at b8 r0 r1 r2 r3 r4 r5⊢;obtain ⟨gn,l6⟩:=zak w2.heap.size;rw [<-l6] at r0 r1 r2 r3 r4 r5⊢;have a4:=zh (o0.out.trans b8);have g4:=zh (n5.out.ext b8);have d9:=zh (n4.out.below b8);clear l6 b8;have hx:zb w3 w3:=zb.refl w3
 go_wp2_with fail
 refine (new1 w3 w3 (zb.refl w3) d9.out c8.out j9.out).mono ?_;rintro e w4 ⟨g,rfl,k3,h5⟩;have p7:zb w3 w4:=k3;obtain ⟨S0,d4⟩:=zak (loadS sm [] 0);rw [<-d4] at h5;have e8:S0.steps<=3000000000000000000:=by rw [d4];unfold loadS;simp
 obtain ⟨S,hS⟩:=zak (RS.run sm 20000 S0)
 have k2:Hid (Calls Tryz.prog 28 #[.pointer (some ⟨g,0,none⟩),.int .i64 (20000:Nat)] w4 fun e w'=>e=.returned (.bool S.done)/\OneR w3 w' g sm S):=by
  (show Calls _ _ _ _ _)
  rw [hS];exact h5.step 20000 (by omega) e8
 have c6:Hid (S=endS m ps t):=by (show _=_);rw [hS,d4,loadS_nil,a3.out];rfl
 clear k3 h5 d4 e8 hS hx
 go_wp2_with fail
 refine k2.out.mono ?_;rintro e w5 ⟨rfl,h6⟩;have g6:=zh h6;have d7:zb w3 w5:=h6.ext;clear k2 p7 h6;obtain ⟨dn,h9⟩:=zak S.done;rw [<-h9];have f6:Hid ((endS m ps t).done=dn):=by (show _=_);rw [h9,c6.out]
 clear h9;have a0:=zh (g4.out.ext d7)
 cases dn with
 | false=>
  have z:Hid (Bc m ps t=⟨[],[],.zero,53⟩):=by (show _=_);unfold Bc;rw [if_pos f6.out]
  have z0:=a0.out.cell (k:=0) rfl;have z1:=a0.out.cell (k:=1) rfl;have z2:=a0.out.cell (k:=2) rfl;have fz:=fun j=>a0.out.frozen j
  go_wp2_with fail
  refine CY (P:=fun W=>bodyPost Tryz.prog Tryz.f40 _ Exit.ret _ W) (g2:=gm+1) ?_ a0.out;intro WZ D T a7;have y0:=D.cell (k:=0) rfl;have y1:=D.cell (k:=1) rfl;have y2:=D.cell (k:=2) rfl;refine FK (v:=.tuple #[.slice none 0 0,.slice none 0 0,.agg #[.int .i64 0,.slice none 0 0,.slice none 0 0],.int .i64 53]) (by simp [results,Tryz.results40,go_sem,y0,y1,y2]) rfl ?_;rw [z.out];exact ⟨_,_,_,rfl,Below.trans (a4.out.trans d7) (T.mono (by have:=b0.out;omega)),Da _ _,zi.nil _ _,En.zero _ _⟩
 | true=>
  have k5:=g6.out.found
  go_wp2_with fail
  refine k5.mono ?_;rintro e w6 ⟨vfd,rfl,h4,k9⟩;have O:zb w3 w6:=d7.trans h4;have f7:=zh k9;obtain ⟨_,⟨Afd,cfd,rfl,-,-⟩,-⟩:=k9;obtain ⟨cm,h8⟩:=zak (AZ sm S.ch);rw [<-h8];have c5:=zh h8;have g5:=zh (g4.out.ext O);have e6:Hid (w.heap.size<=w6.heap.size):=(a4.out.trans O).size;have g3:Hid (gm+2<=w5.heap.size):=zd a0.out;have e7:Hid (w5.heap.size<=w6.heap.size):=h4.size;clear h8 k5 h4 d7
  cases cm with
  | false=>
   have m1:=pmake_calls w6 (d9.out.below O) c8.out
   go_wp2_with fail
   refine m1.mono ?_;rintro e w7 ⟨vw,rfl,k4,d6⟩;have j1:zb w3 w7:=O.trans k4;have e0:=zh d6;obtain ⟨mk,i5⟩:=zak ((makeP sm).1);obtain ⟨wy,j0⟩:=zak ((makeP sm).2);rw [<-j0] at e0 d6;rw [<-i5];obtain ⟨Ay,cy,Ak,ck,rfl,-⟩:=d6.form
   have z:Hid (Bc m ps t=if mk=0 then ⟨[],[],wy,54⟩ else ⟨[],[],.zero,mk⟩):=by
    (show _=_)
    unfold Bc;rw [if_neg (by rw [f6.out];simp),if_neg (by rw [<-c6.out,<-a3.out,<-c5.out];simp),i5,j0,a3.out]
   have j6:=zh (g4.out.ext j1);clear m1 k4 d6 i5 j0 O;go_upto_region 8 with fail;have a5:=zg.new w7 #[.int .i64 wy.task,.slice Ay wy.side.length cy,.slice Ak wy.kids.length ck] 37 (g:=w7.heap.size) rfl;have b5:zb w7 (w7.alloc (.cells #[.int .i64 wy.task,.slice Ay wy.side.length cy,.slice Ak wy.kids.length ck] 37)):=(zb.refl w7).alloc _;generalize w7.alloc _=w8 at a5 b5⊢;obtain ⟨gy,i3⟩:=zak w7.heap.size;rw [<-i3] at a5⊢;have n1:Hid (gm+1<gy):=by show _<_;rw [i3];exact zd j6.out
   have a1:=zh (j6.out.ext b5);have n6:=zh (e0.out.ext b5);have m6:zb w3 w8:=j1.trans b5;have rul:∀{i:Nat} {v:Value},w8.cell? ⟨gy,i,none⟩=some v->∀W,zu (fun b=>b=gm+1) w8 W->W.cell? ⟨gy,i,none⟩=some v:=fun h W hW=>hW.cellk h (by have:=n1.out;show ¬ (gy=gm+1);omega)
   have q0:=rul (a5.cell (k:=0) rfl);have q1:=rul (a5.cell (k:=1) rfl);have q2:=rul (a5.cell (k:=2) rfl);clear rul a5 b5 i3 j1;by_cases h0:mk=0
   ·have z:Hid (Bc m ps t=⟨[],[],wy,54⟩):=by (show _=_);rw [z.out,if_pos h0]
    subst h0;go_upto_region 10 with fail;refine Fd (S:=(fun W=>zu (fun b=>b=gm+1) w8 W)) zU (zu.of_ext (zb.refl w8).drew) fun zH=>?_;have I:zb w8 w8.drew:=(zb.refl w8).drew;generalize w8.drew=wd at zH I⊢;refine ze 0 zH ?_;refine ze 1 zH ?_;simp only [za,EK];refine ze 2 zH ?_;simp only [za,EK];refine zx 3 fun K hK=>?_;have a9:=zh (a1.out.ext I);have z0:=a9.out.cell (k:=0) rfl;have z1:=a9.out.cell (k:=1) rfl;have z2:=a9.out.cell (k:=2) rfl;have hfz:∀j,wd.frozen? ⟨gm+1,j,none⟩=false:=fun j=>a9.out.frozen j
    go_simp;refine zal hK (zu.set (zu.set (zu.set (zu.of_ext (X:=fun b=>b=gm+1) I) (gm+1) 0 (.int .i64 wy.task) rfl) (gm+1) 1 (.slice Ay wy.side.length cy) rfl) (gm+1) 2 (.slice Ak wy.kids.length ck) rfl) fun zH=>?_;clear hK K;try simp only [za,EK]
    refine zx 4 fun K hK=>?_;go_simp;refine zal hK (zu.set (zu.set (zu.set (zu.of_ext (X:=fun b=>b=gm+1) I) (gm+1) 0 (.int .i64 wy.task) rfl) (gm+1) 1 (.slice Ay wy.side.length cy) rfl) (gm+1) 2 (.slice Ak wy.kids.length ck) rfl) fun zH=>?_;clear hK K;try simp only [za,EK]
    refine Fs (by kernel_rfl) ?_ _;go_wp2;refine CY (P:=fun W=>bodyPost Tryz.prog Tryz.f40 _ Exit.ret _ W) (g2:=gm+1) ?_ a9.out;intro WZ D T a7;have y0:=D.cell (k:=0) rfl;have y1:=D.cell (k:=1) rfl;have y2:=D.cell (k:=2) rfl;refine FK (v:=.tuple #[.slice none 0 0,.slice none 0 0,.agg #[.int .i64 wy.task,.slice Ay wy.side.length cy,.slice Ak wy.kids.length ck],.int .i64 54]) (by simp [results,Tryz.results40,go_sem,y0,y1,y2]) rfl ?_;rw [z.out];exact ⟨_,_,_,rfl,Below.trans ((a4.out.trans m6).trans I) (T.mono (by have:=b0.out;omega)),Da _ _,zi.nil _ _,(n6.out.ext I).keepW (fun b hb E=>a7 b E (by have h1:=zd g5.out;omega)) (fun b hb=>EP e6.out hb)⟩
   ·have z:Hid (Bc m ps t=⟨[],[],.zero,mk⟩):=by (show _=_);rw [z.out,if_neg h0]
    have s3:(mk==0)=false:=by rw [Fa];exact h0
    have s4:(mk != 0)=true:=by rw [bne_iff_ne];exact h0
    clear h0;have z0:=a1.out.cell (k:=0) rfl;have z1:=a1.out.cell (k:=1) rfl;have z2:=a1.out.cell (k:=2) rfl;have fz:=fun j=>a1.out.frozen j
    go_wp2_with fail
    refine CY (P:=fun W=>bodyPost Tryz.prog Tryz.f40 _ Exit.ret _ W) (g2:=gm+1) ?_ a1.out;intro WZ D T a7;have y0:=D.cell (k:=0) rfl;have y1:=D.cell (k:=1) rfl;have y2:=D.cell (k:=2) rfl;refine FK (v:=.tuple #[.slice none 0 0,.slice none 0 0,.agg #[.int .i64 0,.slice none 0 0,.slice none 0 0],.int .i64 mk]) (by simp [results,Tryz.results40,go_sem,y0,y1,y2]) rfl ?_;rw [z.out];exact ⟨_,_,_,rfl,Below.trans (a4.out.trans m6) (T.mono (by have:=b0.out;omega)),Da _ _,zi.nil _ _,En.zero _ _⟩
  | true=>
   have z:Hid (Bc m ps t=⟨(Di ps t (List.range ps.length) (zY sm S.ch) ps []).1,(Di ps t (List.range ps.length) (zY sm S.ch) ps []).2,.zero,0⟩):=by
    (show _=_)
    unfold Bc;rw [if_neg (by rw [f6.out];simp),if_pos (by rw [<-c6.out,<-a3.out,<-c5.out]),c6.out,a3.out]
   have l0:foundL sm S.ch=zY sm S.ch:=by unfold foundL;rw [if_pos c5.out.symm]
   have f8:=zh (found_len c7.out c8.out (g6.out.inv.ch)).2
   have j4:Hid ((zY sm S.ch).length=(Dj ps t).length):=by
    (show _=_)
    have h1:=right_ch c7.out g6.out.inv.ch c5.out.symm;rw [(DE.1 h1).2.1,a3.out];simp [CK]
   rw [l0] at f7 f8⊢;obtain ⟨fd0,f1⟩:=zak (zY sm S.ch);rw [<-f1] at f7 f8 j4 z⊢;clear l0 f1
   go_wp2_with fail
   refine (copied_calls w6 (HF.out.below (a4.out.trans O)) (by omega) f9.out).mono ?_;rintro e w7 ⟨go,rfl,c9⟩
   have g0:Hid (CA w6 w7 (gm+2) go w7.heap.size ps t 0 fd0 ps [] (.slice Afd fd0.length cfd) (.slice none 0 0)):=
    ⟨CPB.of c9 (EP g3.out e7.out),rfl,fun _ _=>rfl,by rw [j4.out,List.drop_zero];rfl,(f7.out.bound.weaken fun b hb=>⟨EP g3.out hb.1,hb.2⟩).below c9.ext,f8.out,⟨c9.lt,EN _⟩,World.ownsRow_nil _ _ _ _⟩
   have o1:=zh (a4.out.trans O);obtain ⟨B,hB⟩:=zak w7.heap.size;rw [<-hB] at g0;clear hB c9
   go_wp2_with fail
   clear O;go_loopw [13,18,58] (fun fdv mvv i wr=>∃(k:Nat) (fd o:List (List Int)) (mv:List Int),i=.int .i64 (k:Nat)/\k<=ps.length/\Hid (mv.length<=k)/\Hid (CA w6 wr (gm+2) go B ps t k fd o mv fdv mvv)/\Hid (Di ps t (List.range ps.length) fd0 ps []=Di ps t ((List.range ps.length).drop k) fd o mv)) (fun _ _ i _=>ps.length - (intOf i).toNat)
   case atStart=>exact ⟨0,fd0,ps,[],rfl,Fb _,EN _,g0.out,by rw [List.drop_zero];rfl⟩
   clear g0
   case round=>
    obtain ⟨k,fd,o,mv,rfl,hk,i6,hI,i1⟩:=hrel;obtain ⟨wk,rfl⟩:∃wk:World,wk=wr:=⟨_,rfl⟩;by_cases E:k<ps.length
    ·have l7:k<o.length:=by rw [hI.out.len];exact E
     obtain ⟨uo,b9,-,i4⟩:=hI.out.cb.at_ l7
     have m2:o[k]=ps.getD k []:=by
      rw [<-hI.out.same k (EN _),EM,EL l7];rfl
     have j7:Hid ((ps.getD k []).length<=100000000000):=by
      (show _<=_)
      rw [EM,EL E];exact f9.out _ (EO E)
     obtain ⟨q,hq⟩:=zak (ps.getD k []);rw [m2,<-hq] at i4;rw [<-hq] at j7;have HQ:=zh hq;have n2:=zh i4;obtain ⟨Aq,cq,rfl,-,-⟩:=i4;have b1:Hid (Bx ps t k=(decide (k=t) || decide (q≠[]))):=by (show _=_);unfold Bx;rw [HQ.out]
     have q8:(k:Int)<(ps.length:Int):=by omega
     have kk0:(0:Int)<=(k:Int):=by omega
     have q6:(k:Int)<(o.length:Int):=by omega
     clear m2 hq;go_upto_region 16 with fail;go_cut [71] (fun v wx=>v=.bool (!Bx ps t k)/\wk=wx)
     case first=>
      by_cases J:k=t
      ·have hd:((k:Int) != (t:Int))=false:=by simp [J]
       have U:Hid (Bx ps t k=true):=by (show _=_);rw [b1.out,EQ J];rfl
       clear J
       go_wp2_with fail
       go_meet;exact ⟨by rw [U.out];rfl,rfl⟩
      ·have hd:((k:Int) != (t:Int))=true:=by rw [bne_iff_ne];omega
       by_cases a8:q=[]
       ·have U:Hid (Bx ps t k=false):=by (show _=_);rw [b1.out,ER J,a8];rfl
        have p3:((q.length:Int)==0)=true:=by rw [a8];rfl
        clear J a8
        go_wp2_with fail
        go_meet;exact ⟨by rw [U.out];rfl,rfl⟩
       ·have U:Hid (Bx ps t k=true):=by (show _=_);rw [b1.out,EQ a8,Bool.or_true]
        have p3:((q.length:Int)==0)=false:=by
         rw [Fa];intro h;exact a8 (Fe (by omega))
        clear J a8
        go_wp2_with fail
        go_meet;exact ⟨by rw [U.out];rfl,rfl⟩
     case rest=>
      obtain ⟨rfl,rfl⟩:=hcut
      cases a6:Bx ps t k with
      | false=>
       have Z:=zh (hI.out.skip E a6)
       have Q:Hid (Di ps t (List.range ps.length) fd0 ps []=Di ps t ((List.range ps.length).drop (k+1)) fd o mv):=by
        (show _=_)
        rw [i1.out,El E]
        conv=>lhs;unfold Di
        rw [if_neg (by rw [a6];simp)]
       clear a6 b1
       go_wp2_with fail
       go_roundw
       case rel=>exact ⟨k+1,fd,o,mv,by go_num,by omega,Nat.le_succ_of_le i6.out,Z.out,Q.out⟩
       case measure=>simp [intOf];omega
      | true=>
       obtain ⟨x,fd',rfl,f0⟩:=hI.out.cons E a6;have d8:=zh f0;obtain ⟨gf,of',cf',v',ux,rfl,l4,o8,m3,m4,f2,f3⟩:=intss_head hI.out.fds;have e5:=zh m3;have n9:=zh m4;have o3:Hid (x.length<=1000):=hI.out.fdx x (FA ..)
       have Q:Hid (Di ps t (List.range ps.length) fd0 ps []=Di ps t ((List.range ps.length).drop (k+1)) fd' (o.set k x) (mvP ps t k x mv)):=by
        (show _=_)
        rw [i1.out,El E]
        conv=>lhs;unfold Di
        rw [if_pos a6];rfl
       have b2:Hid (mvP ps t k x mv=if k≠t/\q≠x then mv++[(k:Int)] else mv):=by (show _=_);unfold mvP;rw [HQ.out]
       have n0:Hid (gf<w6.heap.size):=l4.2;obtain ⟨Ax,cx,rfl,-,-⟩:=m3;have hN:(0:Int)<((fd'.length:Int)+1):=by omega
       have r9:fd'.length+1<=20000000000000:=by
        have h1:=d8.out;have h2:=Fr (Bx ps t) ((List.range ps.length).drop (k+1));rw [List.length_drop,List.length_range] at h2;omega
       have hx:zb wk wk:=zb.refl wk;clear a6 b1 f0 l4 m4 f2 f3;obtain ⟨bm,k7⟩:=zak ((decide (k≠t) && !decide (q=x)));have c4:=zh k7;clear k7;go_upto_region 17 with fail;go_cut [85] (fun v wx=>v=.bool bm/\zb wk wx)
       case first=>
        by_cases J:k=t
        ·have hd:((k:Int) != (t:Int))=false:=by simp [J]
         have U:Hid (bm=false):=by (show _=_);rw [c4.out,ER (fun h=>h J)];rfl
         clear J;go_quiet (fail)
         go_wp2_with fail
         go_meet;exact ⟨by rw [U.out],hx.drewN _⟩
        ·have hd:((k:Int) != (t:Int))=true:=by rw [bne_iff_ne];omega
         obtain ⟨eb,i0⟩:=zak (decide (q=x))
         have m9:Hid (∀n,Calls Tryz.prog 75 #[.slice Aq q.length cq,.slice Ax x.length cx] (wk.drewN n) fun e w'=>e=.returned (.bool eb)/\∃j,w'=(wk.drewN n).drewN j):=fun n=>by
          rw [i0];exact equalI_calls _ (n2.out.below (hx.drewN n)) (e5.out.below (hx.drewN n)) (by have:=j7.out;omega) (by have:=o3.out;omega)
         have U:Hid (bm=!eb):=by (show _=_);rw [c4.out,EQ J,i0];rfl
         clear J i0;go_quiet ((go_at_call 75;exact Calls.quiet_of (m9.out _)))
         go_wp2_with fail
         go_meet;exact ⟨by rw [U.out],hx.drewN _⟩
       case rest=>
        obtain ⟨rfl,o4⟩:=hcut;obtain ⟨wd,rfl⟩:∃wd:World,wd=wc:=⟨_,rfl⟩;have M:=zh (hI.out.more o4);have j5:Hid (zA wd B u18 mv):=M.out.mo;have j2:Hid (B<=wd.heap.size):=M.out.lo.2;clear b9 o8 hx
        go_upto_if 85 with fail
        go_cut [18] (fun mvw wx=>Hid (CA w6 wx (gm+2) go B ps t k (x :: fd') o (mvP ps t k x mv) (.slice (some ⟨gf,of',none⟩) (fd'.length+1) (cf'+1)) mvw))
        case first=>
         cases bm with
         | false=>
          have U:Hid (mvP ps t k x mv=mv):=by
           (show _=_)
           rw [b2.out,if_neg];rintro ⟨h1,h2⟩;have:=c4.out;rw [EQ h1,ER h2] at this;cases this
          go_wp2_with fail
          go_meet;rw [U.out];exact M.out
         | true=>
          have U:Hid (mvP ps t k x mv=mv++[(k:Int)]):=by
           (show _=_)
           have:=c4.out;rw [eq_comm,EZ,EX,Bool.not_eq_true',Fl] at this;rw [b2.out,if_pos this]
          have q9:=i6.out
          go_wp2_with (at_builtin;refine AP rfl _ _ rfl _ mv k B wd.heap.size 1 _ rfl rfl (j5.out.alloc _) ?d1 ?d2 ?d3 ?_)
          (try case d1=>exact zr _ _ _ (by simp))
          (try case d2=>(first | (simp;done) | (have:=j2.out;simp;omega) | (have:=j2.out;omega)))
          (try case d3=>omega)
          intro mv2 wb l9 l3 o7
          have Z:Hid (CA w6 wb (gm+2) go B ps t k (x :: fd') o (mvP ps t k x mv) (.slice (some ⟨gf,of',none⟩) (fd'.length+1) (cf'+1)) mv2):=by
           (show CA _ _ _ _ _ _ _ _ _ _ _ _ _)
           rw [U.out];exact (M.out.more ((zb.refl wd).alloc (.cells #[.int .i64 k] 3))).app l3.out (fun b hb=>by obtain ⟨cs,h1,h2⟩:=Do j5.out hb;exact h2) l9
          clear l9 l3 o7;go_wp2;go_meet;exact Z.out
        case rest=>
         have k6:=zh hcut.out;obtain ⟨wm,rfl⟩:∃wm:World,wm=wc:=⟨_,rfl⟩
         have n3:Hid ((mvP ps t k x mv).length<=k+1):=by
          (show _<=_)
          have:=i6.out;rw [b2.out]
          split
          ·rw [EV,Fo];omega
          ·omega
         clear e5 n9;obtain ⟨gf2,of2,cf2,v',ux,e,l5,e9,f5,m5,f2,f3⟩:=intss_head hcut.out.fds;injection e with e1 e2 e3;injection e1 with e1;injection e1 with e1 e4;have e3:cf'=cf2:=by omega
         subst e1 e4 e3;have n7:=zh f5;have n8:=zh m5;obtain ⟨Ax2,cx2,rfl,-,-⟩:=f5;have rul:∀W,zu (fun b=>b=go) wm W->W.cell? ⟨gf,of',none⟩=some (.slice Ax2 x.length cx2):=fun W hW=>hW.cellk e9 (by have h1:=k6.out.cb.lo;have h2:=n0.out;show ¬ (gf=go);omega)
         clear hcut e9 l5 m5 e2;have s1:(0:Int)<=1:=by omega
         go_upto_region 19 with fail;refine Fd (S:=(fun W=>zu (fun b=>b=go) wm W)) zU (zu.of_ext (zb.refl wm).drew) fun zH=>?_;have I:zb wm wm.drew:=(zb.refl wm).drew;generalize wm.drew=wd at zH I⊢;refine ze 0 zH ?_;refine ze 1 zH ?_;simp only [za,EK];refine ze 2 zH ?_;refine ze 3 zH ?_;simp only [za,EK];refine ze 4 zH ?_;refine ze 5 zH ?_;simp only [za,EK];refine ze 6 zH ?_;refine ze 7 zH ?_;simp only [za,EK];refine zx 8 fun K hK=>?_;have M:=zh (k6.out.more I);obtain ⟨uo,b9,l1,-⟩:=M.out.cb.at_ (k:=k) (by have:=M.out.len;omega);go_simp;clear b9 l1;refine zal hK (zu.set (zu.of_ext (X:=fun b=>b=go) I) go k (.slice Ax2 x.length cx2) rfl) fun zH=>?_;clear hK K;try simp only [za,EK]
         refine zx 9 fun K hK=>?_;go_simp;refine zal hK (zu.set (zu.of_ext (X:=fun b=>b=go) I) go k (.slice Ax2 x.length cx2) rfl) fun zH=>?_;clear hK K;try simp only [za,EK]
         refine Fs (by kernel_rfl) ?_ _;have Z:Hid (CA w6 (wd.setCell ⟨go,k,none⟩ (.slice Ax2 x.length cx2)) (gm+2) go B ps t (k+1) fd' (o.set k x) (mvP ps t k x mv) v' u18):=M.out.put E d8.out ((n7.out.below (zb.refl wm)).below I) (n8.out.below I);generalize wd.setCell ⟨go,k,none⟩ (.slice Ax2 x.length cx2)=wz at Z⊢;go_wp2;go_roundw
         case rel=>exact ⟨k+1,fd',o.set k x,_,by go_num,by omega,n3.out,Z.out,Q.out⟩
         case measure=>simp [intOf];omega
    ·obtain rfl:k=ps.length:=by omega
     have j3:Hid (Di ps t (List.range ps.length) fd0 ps []=(o,mv)):=by
      (show _=_)
      rw [i1.out,List.drop_eq_nil_of_le (by simp)];rfl
     have b3:=zh (g5.out.ext hI.out.cb.ext);have z0:=b3.out.cell (k:=0) rfl;have z1:=b3.out.cell (k:=1) rfl;have z2:=b3.out.cell (k:=2) rfl;have fz:=fun j=>b3.out.frozen j
     go_wp2_with fail
     refine CY (P:=fun W=>bodyPost Tryz.prog Tryz.f40 _ Exit.ret _ W) (g2:=gm+1) ?_ b3.out;intro WZ D T a7;have y0:=D.cell (k:=0) rfl;have y1:=D.cell (k:=1) rfl;have y2:=D.cell (k:=2) rfl;refine FK (v:=.tuple #[.slice (some ⟨go,0,none⟩) ps.length ps.length,u18,.agg #[.int .i64 0,.slice none 0 0,.slice none 0 0],.int .i64 0]) (by simp [results,Tryz.results40,go_sem,y0,y1,y2]) rfl ?_;rw [z.out,j3.out];refine ⟨_,_,_,rfl,Below.trans (o1.out.trans hI.out.cb.ext) (T.mono (by have:=b0.out;omega)),?_,?_,En.zero _ _⟩
     ·have h:=hI.out.cb.intss ps.length (by rw [hI.out.len];exact EN _) (by have h1:=hI.out.cb.lo;have h2:=g3.out;have h3:=e7.out;omega);rw [hI.out.len] at h;exact h.keep (fun b hb E=>a7 b E (by omega)) |>.weaken (fun b hb=>by have:=b0.out;omega)
     ·exact (zV.of_own hI.out.mo:zi wk _ u18 mv).keep (fun b hb E=>a7 b E (by have h1:=hI.out.lo;have h2:=hI.out.cb.lo;have h3:=zd g5.out;omega)) |>.weaken (fun b hb=>by have h1:=hI.out.lo;have h2:=hI.out.cb.lo;have h3:=e6.out;omega)
end
section
open Go.RowKit
def Pref (w:World) (B:Nat) (v:Value) (l:List Int):Prop:=
 (v=.slice none 0 0/\l=[])\/∃g c cur,v=.slice (some ⟨g,0,none⟩) l.length c/\B<=g/\l.length<=c/\c<=maxLen/\zg w g 3 cur/\c<=cur.size/\∀(j:Nat) x,l[j]?=some x->cur[j]?=some (.int .i64 x)
structure RC (lb B j:Nat) (W W':World):Prop where
 os:W'.os=W.os
 tape:W'.tape=W.tape
 output:W'.output=W.output
 size:W.heap.size<=W'.heap.size
 keep:∀b,b<B->b<W.heap.size->b≠lb->W'.heap[b]?=W.heap[b]?
 pre:∀u s,Pref W B u s->s.length<=j->Pref W' B u s
section
variable {lb B j:Nat} {W W' W'' w w':World} {v:Value} {l:List Int} {x:Int}
theorem RC.refl (lb B j:Nat) (W:World):RC lb B j W W:=⟨rfl,rfl,rfl,EN _,fun _ _ _ _=>rfl,fun _ _ h _=>h⟩
theorem RC.trans (h:RC lb B j W W') (z:RC lb B j W' W''):RC lb B j W W'':=
 ⟨z.os.trans h.os,z.tape.trans h.tape,z.output.trans h.output,EP h.size z.size,fun b G D E=>(z.keep b G (Fq D h.size) E).trans (h.keep b G D E),fun u s hp I=>z.pre u s (h.pre u s hp I) I⟩
theorem RC.mono {i:Nat} (h:RC lb B j W W') (z:i<=j):RC lb B i W W':=⟨h.os,h.tape,h.output,h.size,h.keep,fun u s hp D=>h.pre u s hp (EP D z)⟩
theorem Pref.blocks (h:Pref w B v l) (G:∀b,B<=b->b<w.heap.size->w'.heap[b]?=w.heap[b]?):Pref w' B v l:=by
 rcases h with h | ⟨g,c,cur,rfl,h1,h2,h3,z,D,E⟩
 ·exact .inl h
 ·exact .inr ⟨g,c,cur,rfl,h1,h2,h3,(G g h1 (zd z)).trans z,D,E⟩
theorem RC.ext (D:zb W W'):RC lb B j W W':=⟨D.os,D.tape,D.output,D.size,fun b _ z _=>D.block b z,fun u s hp _=>hp.blocks fun b _ z=>D.block b z⟩
theorem RC.yield (D:W.grownBy W' (some lb)) (I:lb<B):RC lb B j W W':=
 ⟨D.os,D.tape,D.output,D.size,fun b _ z E=>D.block b z (fun e=>E (by injection e)),fun u s hp _=>hp.blocks fun b G z=>D.block b z (fun e=>by injection e with e;omega)⟩
theorem Pref.nil (w:World) (B:Nat):Pref w B (.slice none 0 0) []:=.inl ⟨rfl,rfl⟩
theorem Pref.ints (h:Pref w B v l):zi w (fun b=>B<=b) v l:=by
 rcases h with ⟨rfl,rfl⟩ | ⟨g,c,cur,rfl,h1,h2,h3,G,I,E⟩
 ·exact zi.nil _ _
 ·refine ⟨_,c,rfl,h2,by simp,fun _=>⟨g,0,rfl,h1,fun j u z=>?_⟩⟩;rw [Fx] at z
  cases D:l[j]? with
  | none=>rw [D] at z;cases z
  | some y=>
   rw [D] at z;rw [Nat.zero_add];have:=G.cell (E j y D);rw [this];exact z
theorem Pref.of_own (h:zA w B v l):Pref w B v l:=by
 obtain ⟨O,⟨rfl,h0⟩ | ⟨g,cap,cur,rfl,G,I,D,z,E,J⟩⟩:=h
 ·exact .inl ⟨rfl,List.length_eq_zero_iff.1 h0⟩
 ·refine .inr ⟨g,cap,cur,rfl,G,D,z,I,by omega,fun j x M=>?_⟩;have h1:(l.map (Value.int .i64))[j]?=some (.int .i64 x):=by rw [Fx,M];rfl
  rw [<-J,List.getElem?_take] at h1
  split at h1
  ·simpa using h1
  ·cases h1
theorem run_pref_app (h:Pref w B v l) (t ty:TypeId) (ht:Tryz.prog.underlying t=some (.slice 3)) {g:Nat} (hc:w.cell? ⟨g,0,none⟩=some (.int .i64 x)) (hB:B<=w.heap.size) (hl:l.length<=1000000000000) (lb:Nat) (c7:lb<B):
  ∃v' w',(Builtin.append_ #[t,t] ty #[v,.slice (some ⟨g,0,none⟩) 1 c]).run Tryz.prog w=.ok v' w'/\Pref w' B v' (l++[x])/\RC lb B l.length w w'/\Below B w w':=by
 obtain ⟨i0,hi,a5,J,a6⟩:=info_parts Tryz.infoInt
 have D:∀(j:Nat) (u:Value),[Value.int .i64 x][j]?=some u->w.cell? ((⟨g,0,none⟩:Addr).add j)=some u:=fun j u G=>by
  match j,G with
  | 0,G=>
   have:u=.int .i64 x:=by simpa using G.symm
   rw [this];exact hc
 have M:∀u∈[Value.int .i64 x],u.oneCell'=true:=fun u G=>by
  have:u=.int .i64 x:=by simpa using G
  rw [this];rfl
 have grow:∀{w':World},w.grownBy w' none->RC lb B l.length w w'/\Below B w w':=fun T=>
  ⟨⟨T.os,T.tape,T.output,T.size,fun b _ V _=>T.block b V (by simp),fun u s hp _=>hp.blocks fun b _ V=>T.block b V (by simp)⟩,(Below.refl B w).grown T hB (fun k hk=>by cases hk)⟩
 rcases h with ⟨rfl,rfl⟩ | ⟨gq,cq,cur,rfl,h1,h2,h3,hb,h4,h5⟩
 ·obtain ⟨v',w',z,r1,r2,-⟩:=run_append_own (P:=Tryz.prog) w B t ty 3 i0 (.int .i64 0) 1 8 ht hi a5 J a6 rfl (by decide) (.slice none 0 0) 0 [] (World.ownsRow_nil _ _ _ _) ⟨g,0,none⟩ 1 c [.int .i64 x] rfl D M (by unfold maxLen;omega) (by omega) hB;have hO:zA w' B v' [x]:=r1;exact ⟨v',w',z,Pref.of_own hO,grow r2⟩
 ·have Q:∀j,j<cq->∃u,w.cell? ⟨gq,j,none⟩=some u:=fun j hj=>by
   have b4:j<cur.size:=by omega
   exact ⟨cur[j],hb.cell (by simp [b4])⟩
  have b3:∀j,w.frozen? ⟨gq,j,none⟩=false:=fun j=>hb.frozen j
  by_cases I:l.length+1<=cq
  ·have z:=run_append_room_cells (P:=Tryz.prog) w t ty 3 i0 ht hi gq 0 l.length cq ⟨g,0,none⟩ 1 c [.int .i64 x] (by rw [J];rfl) D M I
    (fun j hj=>by
     have:j=0:=by simpa using hj
     subst this;obtain ⟨u,G⟩:=Q (0+l.length*i0.size+0) (by rw [J];omega);rw [G];rfl) (fun j hj=>b3 _)
   have e1:w.setCells gq (0+l.length*i0.size) [.int .i64 x]=w.setCell ⟨gq,l.length,none⟩ (.int .i64 x):=by
    rw [J,Nat.mul_one,Nat.zero_add];rfl
   rw [e1] at z;have O:∀b,b≠gq->(w.setCell ⟨gq,l.length,none⟩ (.int .i64 x)).heap[b]?=w.heap[b]?:=fun b b7=>EW w ⟨gq,l.length,none⟩ _ b b7
   have a3:=hb.set (k:=l.length) (.int .i64 x);refine ⟨_,_,z,.inr ⟨gq,cq,_,by rw [EV];rfl,h1,by rw [EV];exact I,h3,a3,by simpa using h4,fun j y Z=>?_⟩,⟨rfl,rfl,rfl,by simp,fun b c4 _ _=>O b (by omega),fun u s hp hj=>?_⟩,(Below.refl B w).setCell (p:=⟨gq,l.length,none⟩) h1 _⟩
   ·rw [Array.getElem?_setIfInBounds];by_cases hj:j<l.length
    ·rw [if_neg (by omega)];exact h5 j y (by rwa [ES hj] at Z)
    ·rw [ET (by omega)] at Z
     have c6:j - l.length=0:=by
      obtain ⟨h,-⟩:=FM.1 Z;simpa using h
     have b5:j=l.length:=by omega
     subst b5;rw [if_pos rfl,if_pos (by omega)];have:x=y:=by simpa using Z
     rw [this]
   ·rcases hp with hp | ⟨gu,cu,cuu,rfl,k1,k2,k3,kb,k4,k5⟩
    ·exact .inl hp
    ·by_cases a4:gu=gq
     ·subst a4
      have b2:cuu=cur:=by
       have b1:w.heap[gu]?=_:=hb;have E:w.heap[gu]?=_:=kb;rw [b1] at E;injection E with E;injection E with E;exact E.symm
      subst b2;refine .inr ⟨gu,cu,_,rfl,k1,k2,k3,a3,by simpa using k4,fun i y Z=>?_⟩;rw [Array.getElem?_setIfInBounds];have hi:i<s.length:=(FM.1 Z).1;rw [if_neg (by omega)];exact k5 i y Z
     ·exact .inr ⟨gu,cu,cuu,rfl,k1,k2,k3,(O gu a4).trans kb,k4,k5⟩
  ·have holds:∀(j:Nat) u,(l.map (Value.int .i64))[j]?=some u->w.cell? ((⟨gq,0,none⟩:Addr).add j)=some u:=fun j u G=>by
    rw [Fx] at G
    cases U:l[j]? with
    | none=>rw [U] at G;cases G
    | some y=>
     rw [U] at G;rw [Addr.add_lit,Nat.zero_add,hb.cell (h5 j y U)];exact G
   obtain ⟨v',w',z,r1,r2⟩:=run_append_arg_grows (P:=Tryz.prog) w t ty 3 i0 (.int .i64 0) 1 8 ht hi a5 J a6 rfl (by decide) ⟨gq,0,none⟩ l.length cq (l.map (Value.int .i64)) (by simp) holds ⟨g,0,none⟩ 1 c [.int .i64 x] rfl D (by omega) (by unfold maxLen;omega) (by omega)
   have hO:zA w' w.heap.size v' (l++[x]):=by
    unfold zA;rw [map_snoc,EV];exact r1
   have b0:zA w' B v' (l++[x]):=hO.mono hB;exact ⟨v',w',z,Pref.of_own b0,grow ⟨r2.os,r2.tape,r2.output,r2.size,fun k hk _=>r2.block k hk (by simp)⟩⟩
theorem Ds {o:Oper} {a:Act} {K:Act->World->Prop} {Q:Exit->Act->World->Prop} (s y:Operand)
  (M:o.op=.call { callee:=.builtin .append,args:=#[s,y],argTypes:=#[23,23] }) (W:World) (l:List Int) (x:Int) (B g c lb:Nat) (v:Value) (T:a.eval s=v)
  (U:a.eval y=.slice (some ⟨g,0,none⟩) 1 c) (z:Pref W B v l) (I:W.cell? ⟨g,0,none⟩=some (.int .i64 x)) (G:B<=W.heap.size) (J:l.length<=1000000000000) (D:lb<B)
  (h:∀v' w',Pref w' B v' (l++[x])->RC lb B l.length W w'->Below B W w'->K (a.put o.dst v') w'):Oper.wp Tryz.prog o a W K Q:=by
 obtain ⟨v',w',O,h2,h3,E⟩:=run_pref_app z 23 o.type Tryz.underlying23 (c:=c) I G J lb D;unfold Oper.wp execOp;simp only [M,resolve,invoke,builtin,Sem.run_bind,Sem.run_pure,Result.andThen_ok,List.map_toArray,List.map_cons,List.map_nil,T,U,O];exact h v' w' h2 h3 E
end
end
end Go.Proofs.YthbjngbhbbkkgaaGreat
