import Derived.Test.YthbjngbhbbkkgaaGreatHRw
set_option linter.unusedVariables false
set_option linter.unusedSimpArgs false
set_option maxRecDepth 100000
set_option maxHeartbeats 16000000
namespace Go.Proofs.YthbjngbhbbkkgaaGreat
variable {d x:Int} {fixed:List (List Int)} {m:MZ} {t:Nat}
section
open Go.RowKit
attribute [local go_sem ↓] Go.wp_at_zero Go.wp_at_succ
def dF (F:List (Int×Int)) (i:Nat):Value:=.int .i64 ((F.lookup (i:Int)).getD (-1))
def dK (k:Nat) (F:List (Int×Int)) (i:Nat):Value:=if i<k then dF F i else .int .i64 0
def toK (m:MZ) (t k:Nat):List Int:=((List.range k).map Int.ofNat).filter fun x=>decide (x∈(m.tasks.getD t ([],[])).2)
theorem toK_t {k:Nat} (h:(k:Int)∈(m.tasks.getD t ([],[])).2):toK m t (k+1)=toK m t k++[(k:Int)]:=by
 unfold toK;rw [List.range_succ,Fz,Fv];congr 1;rw [List.map_cons,List.map_nil,FB (by simpa using h)];rfl
theorem toK_f {k:Nat} (h:(k:Int)∉(m.tasks.getD t ([],[])).2):toK m t (k+1)=toK m t k:=by
 unfold toK;rw [List.range_succ,Fz,Fv,List.map_cons,List.map_nil,Fp (by simpa using h)];simp
theorem addAll_snoc (fr:Int->Bool) (d:Int) (l:List Int) (x:Int) (F:List (Int×Int)):zt fr d (l++[x]) F=addS fr d (zt fr d l F) x:=by
 rw [CR,CR,List.foldl_append];rfl
theorem toK_lt {k:Nat} {fr:Int->Bool}:∀p∈zt fr d (toK m t k) [],p.1<(k:Int):=fun p hp=>by
 obtain ⟨G,h1,h2,-,-⟩:=zL fr d (toK m t k) [];rw [h1,List.nil_append] at hp;have:=(h2 p hp).2.1;unfold toK at this;obtain ⟨i,o,e⟩:=FH.1 (FG.1 this).1;have:=FI.1 o;rw [<-e];show (i:Int)<k;omega
structure DI (w1 wr:World) (go N k:Nat) (F:List (Int×Int)) (T:List Int) (v:Value):Prop where
 ext:zb w1 wr
 lo:w1.heap.size<=go
 row:wr.rowIs go 3 N (dK k F)
 own:zD wr (go+1) v T
theorem lookup_snoc {F:List (Int×Int)} {y:Int}:(F++[(x,d)]).lookup y=match F.lookup y with | some e=>some e | none=>if y=x then some d else none:=by
 induction F with
 | nil=>
  rw [List.nil_append,List.lookup_cons];by_cases h:y=x
  ·rw [if_pos h,beq_iff_eq.2 h];rfl
  ·rw [if_neg h,ET.2 h];rfl
 | cons a F ih=>
  obtain ⟨z,e⟩:=a;rw [List.cons_append,List.lookup_cons,List.lookup_cons];by_cases h:y=z
  ·rw [beq_iff_eq.2 h]
  ·rw [ET.2 h];exact ih
section
variable {w1 wr w':World} {go N k:Nat} {F:List (Int×Int)} {T:List Int} {v:Value}
theorem DI.more (h:DI w1 wr go N k F T v) (o:zb wr w'):DI w1 w' go N k F T v:=⟨h.ext.trans o,h.lo,h.row.of_block (o.block _ h.row.lt),h.own.ext o⟩
theorem DI.lay (h:DI w1 wr go N k F T v) (z:F.lookup (k:Int)=none):DI w1 (wr.setCell ⟨go,k,none⟩ (.int .i64 (-1))) go N (k+1) F T v:=
 ⟨h.ext.setCell (p:=⟨go,k,none⟩) h.lo _,h.lo,(h.row.set k (.int .i64 (-1))).congr fun j _=>by
  by_cases o:j=k
  ·subst o;unfold dK dF;rw [if_pos rfl,if_pos (by omega),z];rfl
  ·unfold dK;rw [if_neg o];by_cases h1:j<k
   ·rw [if_pos h1,if_pos (by omega)]
   ·rw [if_neg h1,if_neg (by omega)],ownsRow_setCell_below h.own (by show go<go+1;omega) _⟩
theorem DI.put (h:DI w1 wr go N k F T v) (h0:0<=x) (h1:x<k) (z:F.lookup x=none):DI w1 (wr.setCell ⟨go,x.toNat,none⟩ (.int .i64 d)) go N k (F++[(x,d)]) T v:=
 ⟨h.ext.setCell (p:=⟨go,x.toNat,none⟩) h.lo _,h.lo,(h.row.set x.toNat (.int .i64 d)).congr fun j _=>by
  by_cases o:j=x.toNat
  ·subst o;unfold dK dF;rw [if_pos rfl,if_pos (by omega),lookup_snoc,Int.toNat_of_nonneg h0,z];simp
  ·unfold dK dF;rw [if_neg o,lookup_snoc]
   split
   ·cases B:F.lookup (j:Int) with
    | some e=>rfl
    | none=>simp only [];rw [if_neg (by omega)]
   ·rfl,ownsRow_setCell_below h.own (by show go<go+1;omega) _⟩
theorem DI.app {v':Value} {T':List Int} (h:DI w1 wr go N k F T v) (B:zD w' (go+1) v' T') (o:Hid (wr.grownBy w' v.ownBlock)):DI w1 w' go N k F T' v':=
 ⟨Ad h.ext o h.ext.size (fun b z=>by have:=Bg h.own z;have:=h.lo;omega),h.lo,h.row.of_block (o.out.block _ h.row.lt (fun e=>by have:=Bg h.own e.symm;omega)),B⟩
theorem DI.cell (h:DI w1 wr go N k F T v) {j:Nat} (o:j<N):wr.cell? ⟨go,j,none⟩=some (dK k F j)/\wr.frozen? ⟨go,j,none⟩=false:=⟨h.row.cell o,h.row.frozen _⟩
theorem DI.bound (h:DI w1 wr go N k F T v):go+1<=wr.heap.size:=h.row.lt
end
theorem zb.cell_other {w W:World} {g i j:Nat} {v u:Value} (h:zb w W) (z:w.cell? ⟨g,i,none⟩=some v) (o:i≠j):(W.setCell ⟨g,j,none⟩ u).cell? ⟨g,i,none⟩=some v:=by
 refine (World.cell?_setCell_other _ _ _ _ ?_).trans (h.cell z);intro e;injection e with _ e2;exact o e2.symm
theorem nextO_in (o:AO m=0) (h0:0<=x) (h1:x<m.n):AR m x=zl m x:=by
 unfold AR;rw [if_pos ⟨o,h0,h1⟩]
theorem distances_calls {ok:Nat->Prop} {v:Value} {gu:Nat} (t:Nat) (w:World) (hm:zw w ok v m) (hl:Lens m) (hc:AO m=0) (ht:t<m.tasks.length) (hu:w.rowIs gu 4 m.n.toNat (memF fixed.flatten)):
  Calls Tryz.prog 51 #[v,.int .i64 t,.slice (some ⟨gu,0,none⟩) m.n.toNat m.n.toNat] w fun e w'=>∃go,e=.returned (.slice (some ⟨go,0,none⟩) m.n.toNat m.n.toNat)/\zb w w'/\w.heap.size<=go/\w'.rowIs go 3 m.n.toNat (dF (farQ m t fixed)):=by
 have HM:=zh hm;have HL:=zh hl;have HC:=zh hc;have G:=zh (zC.of hc);have HU:=zh hu;obtain ⟨Af,cf,Au,cu,At,ct,rfl,a7,-,m4⟩:=hm.parts;have j5:=zh a7;obtain ⟨bt,offt,sn,u1,u2,rfl,-,-,-,f4,-,h9⟩:=AJ m4 ht;have q6:=(hl.tl _ (EH ht)).2;have g5:Hid ((m.tasks.getD t ([],[])).2=(m.tasks[t]).2):=by (show _=_);rw [EF,EE ht];rfl
 obtain ⟨tg,m3⟩:=zad ((m.tasks[t]).2);rw [<-m3] at h9 q6 g5;have o2:=zh h9;obtain ⟨Atg,ctg,rfl,-,-⟩:=h9;have q5:t<m.free.length:=by rw [G.out.fl];exact ht
 have k5:=zh q5;have t4:(t:Int)<(m.tasks.length:Int):=by omega
 have r9:(0:Int)<=(t:Int):=by omega
 have s0:(t:Int)<(m.free.length:Int):=by omega
 obtain ⟨p5,p6⟩:=G.out.dim.layer;obtain ⟨dw1,dw2,p2,p3,ll1,ll2,n1,-⟩:=G.out.dim;clear hm a7 m4 m3 hl hc hu;obtain ⟨N,hN⟩:∃N:Nat,N=m.n.toNat:=⟨_,rfl⟩;have HN:Hid (m.n=(N:Int)):=by (show _=_);rw [hN];unfold MZ.n;omega
 have t0:N<=300:=by rw [hN];unfold MZ.n;omega
 have g4:=zh hN;rw [<-hN] at HU⊢;clear hN dw1 dw2 p2 p3 ll1 ll2 n1 p5 p6
 have p9:∀W:World,(Instr.makeSlice 23 (.int .i64 (N:Nat)) (.int .i64 (N:Nat))).run Tryz.prog W=.ok (.slice (some ⟨W.heap.size,0,none⟩) N N) (W.alloc (.cells (madeCells #[.int .i64 0] N) 3)):=fun W=>
  run_make_row' 23 3 (.int .i64 0) 8 Tryz.underlying23 Tryz.infoInt rfl .i64 .i64 N (by omega) (by omega) W
 go_enter Tryz.func51,Tryz.ntmps51
 go_upto_region 1 with fail;obtain ⟨e8,r0,r1,r2,r3,r4,r5⟩:=box6 w (.int .i64 m.w) (.int .i64 m.h) (.int .i64 m.l) (.slice Af m.free.length cf) (.slice Au m.up.length cu) (.slice (some ⟨bt,offt,none⟩) m.tasks.length ct);generalize w.alloc _=w1 at e8 r0 r1 r2 r3 r4 r5⊢;obtain ⟨gm,l9⟩:=zad w.heap.size;rw [<-l9] at r0 r1 r2 r3 r4 r5⊢;have B:=zh e8;have rtg:=zb.rule (e8.cell f4);clear l9 e8 f4;have z:zb w1 w1:=zb.refl w1
 go_wp2_with fail
 have Q:Hid (DI w1 (w1.alloc (.cells (madeCells #[.int .i64 0] N) 3)) w1.heap.size N 0 (zt (DA m t fixed) 0 (toK m t 0) []) ((zt (DA m t fixed) 0 (toK m t 0) []).map Prod.fst) (.slice none 0 0)):=
  ⟨(zb.refl w1).alloc _,EG _,(World.rowIs_made w1 (.int .i64 0) N 3).congr fun j _=>by unfold dK;rw [if_neg (by omega)],World.ownsRow_nil _ _ _ _⟩
 generalize w1.alloc _=w2 at Q⊢;obtain ⟨go,h8⟩:=zad w1.heap.size;rw [<-h8] at Q⊢;have n4:Hid (go=w1.heap.size):=h8;clear h8 p9 z;obtain ⟨fr,a7⟩:=zad (DA m t fixed);rw [<-a7] at Q;have j2:Hid (∀x,fr x=(zi m t x && !decide (x∈fixed.flatten))):=fun x=>by rw [a7];rfl
 have j6:=zh a7;clear a7;go_loopw [8,9] (fun v i wr=>∃k:Nat,k<=N/\i=.int .i64 k/\Hid (DI w1 wr go N k (zt fr 0 (toK m t k) []) ((zt fr 0 (toK m t k) []).map Prod.fst) v)) (fun _ i _=>N - (intOf i).toNat)
 case atStart=>exact ⟨0,EU _,rfl,Q.out⟩
 clear Q
 case round=>
  obtain ⟨k,hk,rfl,hD⟩:=hrel;obtain ⟨wk,rfl⟩:∃wk:World,wk=wr:=⟨_,rfl⟩;have z:zb w1 wk:=hD.out.ext;by_cases a0:k<N
  ·have f6:(k:Int)<(N:Int):=by omega
   have kk0:(0:Int)<=(k:Int):=by omega
   have b8:(zt fr 0 (toK m t k) []).length<=300:=by
    refine start_len G.out (tg:=toK m t k) (fun x z=>?_) (toK m t k).length |> fun h=>by rwa [ER] at h
    unfold toK at z;obtain ⟨i,hi,e⟩:=FH.1 (FG.1 z).1;have:=FI.1 hi;rw [<-e,HN.out];show (0:Int)<=(i:Int)/\(i:Int)<N;omega
   have O:(zt fr 0 (toK m t k) []).lookup (k:Int)=none:=El.2 fun p hp=>by have:=toK_lt p hp;omega
   have b6:Hid ((k:Int)∈tg->zt fr 0 (toK m t (k+1)) []=addS fr 0 (zt fr 0 (toK m t k) []) k):=fun h=>by rw [toK_t (by rw [g5.out];exact h),addAll_snoc]
   have k6:Hid ((k:Int)∉tg->zt fr 0 (toK m t (k+1)) []=zt fr 0 (toK m t k) []):=fun h=>by rw [toK_f (by rw [g5.out];exact h)]
   obtain ⟨F,hF⟩:=zad (zt fr 0 (toK m t k) []);rw [<-hF] at hD b8 O b6 k6;clear hF;obtain ⟨bf,off,b',off',l,c',rfl,c4,hl,p7,p1,b0⟩:=De j5.out G.out.fn k5.out kk0 (by rw [HN.out];exact f6);rw [Fy] at b0;have q1:=zb.rule (B.out.cell c4);have q2:=zb.rule (B.out.cell b0);have c6:w.cell? ⟨gu,k,none⟩=some (.bool (decide ((k:Int)∈fixed.flatten))):=HU.out.cell a0;have q3:=zb.rule (B.out.cell c6);have I:Hid (fr (k:Int)=(zi m t (k:Int) && !decide ((k:Int)∈fixed.flatten))):=j2.out _;obtain ⟨fv,c8⟩:=zad (zi m t (k:Int));obtain ⟨uv,d4⟩:=zad (decide ((k:Int)∈fixed.flatten));rw [<-c8] at q2 I;rw [<-d4] at q3 I;clear c8 d4 c4 b0 c6;obtain ⟨h5,h6⟩:=hD.out.cell a0;have b3:=zh (hD.out.lay O);go_upto_region 7 with fail;generalize wk.setCell ⟨go,k,none⟩ (.int .i64 (-1))=w3 at b3⊢;clear h5 h6 z;have z:zb w1 w3:=b3.out.ext;have k1:=zh O;obtain ⟨bd,c0⟩:∃bd:Bool,bd=(decide ((k:Int)∈tg) && (fv && !uv)):=⟨_,rfl⟩;have E:=zh c0;clear c0 hD O;go_cut [49] (fun v wx=>v=.bool bd/\w3=wx)
   case first=>
    go_wp2_with fail
    refine (zU (k:Int) w3 (o2.out.below (B.out.trans z)) (by omega)).mono ?_;rintro e w4 ⟨rfl,rfl⟩;by_cases V:(k:Int)∈tg
    ·have hd:decide ((k:Int)∈tg)=true:=EJ V;rw [hd];have HB:Hid (bd=(fv && !uv)):=by (show _=_);rw [E.out,hd,Bool.true_and]
     clear hd V
     cases fv with
     | false=>
      go_wp2_with fail
      go_meet;exact ⟨by rw [HB.out];rfl,rfl⟩
     | true=>
      go_wp2_with fail
      go_meet;exact ⟨by rw [HB.out];simp,rfl⟩
    ·have hd:decide ((k:Int)∈tg)=false:=EK V;rw [hd];have HB:Hid (bd=false):=by (show _=_);rw [E.out,hd];rfl
     clear hd V
     go_wp2_with fail
     go_meet;exact ⟨by rw [HB.out],rfl⟩
   case rest=>
    obtain ⟨rfl,rfl⟩:=hcut;clear q1 q2 q3
    cases bd with
    | true=>
     have U:=E.out;rw [eq_comm,ES,EQ] at U
     have f8:Hid (zt fr 0 (toK m t (k+1)) []=F++[((k:Int),0)]):=by
      (show _=_)
      rw [b6.out U.1];exact addS_new k1.out (by rw [I.out];exact U.2)
     clear U;obtain ⟨h5,h6⟩:=b3.out.cell a0;have o:=zh (b3.out.put (x:=(k:Int)) (d:=0) kk0 (by omega) k1.out);rw [Fy] at o;obtain ⟨L,hL⟩:∃L:List Int,L=F.map Prod.fst:=⟨_,rfl⟩;rw [<-hL] at o;have n5:=zh hL;have o5:L.length<=300:=by rw [hL,Fr];exact b8
     have l8:=o.out.bound;clear hL
     go_wp2_with (at_builtin;refine AQ rfl _ _ rfl _ L k (go+1) w3.heap.size 1 _ rfl rfl (o.out.own.alloc _) ?d1 ?d2 ?d3 ?_)
     (try case d1=>exact zr _ _ _ (by simp))
     (try case d2=>(first | (simp;done) | (simp at l8⊢;omega) | omega))
     (try case d3=>omega)
     intro v' wb c9 D M;have f7:=zh ((o.out.more ((zb.refl _).alloc _)).app c9 D);clear c9 D M h5 h6 z;go_wp2;go_roundw
     case rel=>exact ⟨k+1,by omega,by go_num,by rw [f8.out,Fz,<-n5.out];exact f7⟩
     case measure=>simp [intOf];omega
    | false=>
     have f8:Hid (zt fr 0 (toK m t (k+1)) []=F):=by
      (show _=_)
      have U:=E.out;by_cases V:(k:Int)∈tg
      ·rw [EJ V,Bool.true_and] at U;rw [b6.out V];exact addS_not (by rw [I.out];exact U.symm)
      ·exact k6.out V
     go_wp2_with fail
     go_roundw
     case rel=>exact ⟨k+1,by omega,by go_num,by rw [f8.out];exact b3⟩
     case measure=>simp [intOf];omega
  ·obtain rfl:k=N:=by omega
   obtain ⟨F0,e5⟩:=zad (zt fr 0 (toK m t k) []);rw [<-e5] at hD;have e0:Hid (toK m t k=toL m t):=by (show _=_);rw [g4.out];rfl
   have f1:Hid (DN m fr (toL m t) 0 F0):=by
    (show DN _ _ _ _ _)
    rw [e5,e0.out];refine DN.start fun x z=>?_
    unfold toL at z;obtain ⟨i,hi,e⟩:=FH.1 (FG.1 z).1;have:=FI.1 hi;rw [<-e];show (0:Int)<=(i:Int)/\(i:Int)<m.n;omega
   have j4:Hid (farQ m t fixed=bfs m fr (k+1) 0 F0):=by (show _=_);unfold farQ;rw [e5,e0.out,j6.out,g4.out]
   have i8:=zh hD.out;clear e5 hD hk z a0 e0
   go_wp2_with fail
   go_loopw [8,10] (fun v i wr=>∃(j:Nat) (F:List (Int×Int)),i=.int .i64 j/\j<=F.length/\Hid (DN m fr (toL m t) j F)/\Hid (DI w1 wr go k k F (F.map Prod.fst) v)/\Hid (farQ m t fixed=bfs m fr (k+1 - j) j F)) (fun _ i _=>k+1 - (intOf i).toNat)
   case atStart=>exact ⟨0,F0,rfl,EU _,f1.out,i8.out,j4.out⟩
   clear f1 i8 j4
   case round=>
    obtain ⟨q,F,rfl,hq,a5,hD,l6⟩:=hrel;obtain ⟨wk,rfl⟩:∃wk:World,wk=wr:=⟨_,rfl⟩;have z:zb w1 wk:=hD.out.ext;have s9:F.length<=k:=by have:=a5.out.len;rw [<-g4.out] at this;exact this
    obtain ⟨T,hT⟩:∃T:List Int,T=F.map Prod.fst:=⟨_,rfl⟩;rw [<-hT] at hD;have g8:T.length=F.length:=by rw [hT,Fr]
    have e0:=zh g8;have t1:T.length<=300:=by omega
    obtain ⟨Av,cv,hv,-⟩:=Bd hD.out.own;by_cases a0:q<T.length
    ·have m0:q<F.length:=by omega
     clear g8;have f6:(q:Int)<(T.length:Int):=by omega
     have kk0:(0:Int)<=(q:Int):=by omega
     obtain ⟨p,hp⟩:∃p,F[q]?=some p:=⟨_,EE m0⟩;obtain ⟨x,d⟩:=p
     have l3:T[q]=x:=by
      have:T[q]?=some x:=by rw [hT,Fq,hp];rfl
      rw [EE a0] at this;injection this
     have i0:=List.mem_of_getElem? hp;obtain ⟨⟨i3,i4⟩,-,-⟩:=a5.out.rg _ i0;have i5:F.lookup x=some d:=CM a5.out.nd i0;obtain ⟨l4,l5⟩:=a5.out.dist G.out i5;simp only at i3 i4;have k3:=zh hD.out.own;rw [hv] at k3;obtain ⟨bv,ebv,-,e9⟩:=own_at k3.out a0;rw [l3] at e9;subst ebv;have o4:=zh i5;have HP:=zh hp;have s8:=zh hv;subst hv;have J:Hid (0<=x/\x<m.n):=⟨i3,i4⟩;have Q:Hid (0<=d/\d<300):=⟨l4,l5⟩;have rv:=zb.rule e9;have f5:=zh e9;have a1:zb wk wk:=zb.refl wk;have b6:=zh hT;clear l3 i0 i5 hp e9 i3 i4 l4 l5 hT;go_upto_region 13 with fail
     go_region_held3 (fun w'=>zb w1 w'/\zb wk w')
      (first | (exact ⟨z.drew,a1.drew⟩) | (exact ⟨z.drew.trans e7.ext,a1.drew.trans e7.ext⟩))
      ((go_at_call 53;refine (Er x _ (HM.out.below (B.out.trans z.drew)) HL.out).mono ?_;rintro e wn ⟨v9,rfl,e7⟩))
     rename_i hS
     have o6:zb w1 wn:=hS.1;have g0:Hid (zj wn (fun b=>wk.heap.size<=b/\b<wn.heap.size) v9 (AR m x)):=e7.ints.bound;have n3:Hid (AR m x=zl m x):=nextO_in HC.out J.out.1 J.out.2;rw [n3.out] at g0;have q4:=Bc m x;have k2:Hid (∀y∈zl m x,0<=y/\y<m.n):=fun y hy=>An G.out.dim J.out.1 J.out.2 hy
     have b4:Hid (∀j,(zt fr (d+1) ((zl m x).take j) F).length<=300):=fun j=>a5.out.part G.out HP.out j
     have b5:Hid (DN m fr (toL m t) (q+1) (zt fr (d+1) (zl m x) F)):=a5.out.step G.out.dim HP.out
     have i7:Hid (bfs m fr (k+1 - q) q F=bfs m fr (k+1 - (q+1)) (q+1) (zt fr (d+1) (zl m x) F)):=by
      (show _=_)
      rw [show k+1 - q=(k+1 - (q+1))+1 from by omega];exact bfs_next HP.out
     obtain ⟨L,hL⟩:=zad (zl m x);rw [<-hL] at g0 q4 k2 b4 b5 i7;obtain ⟨AL,cL,rfl,-,m2⟩:=g0.out;have n9:=zh m2;have n2:=zh (hD.out.more hS.2);have s7:=zh hS.2;have f9:Hid (go<wk.heap.size):=hD.out.bound;obtain ⟨vT,i2⟩:=zad (Value.slice (some ⟨bv,0,none⟩) T.length cv)
     have j9:Hid (NL wk wn wn (.slice (some ⟨bv,0,none⟩) T.length cv)):=NL.start (fun b U=>by
      have:bv=b:=by simpa [Value.ownBlock] using U
      rw [<-this];exact zo f5.out)
     clear e7 hS z a1 rv f5 m2 hL i2;have z:zb w1 wn:=o6
     go_wp2_with fail
     clear z;go_loopw [8,12] (fun v i wr=>∃j:Nat,j<=L.length/\i=.int .i64 j/\Hid (DI w1 wr go k k (zt fr (d+1) (L.take j) F) ((zt fr (d+1) (L.take j) F).map Prod.fst) v)/\Hid (NL wk wn wr v)) (fun _ i _=>L.length - (intOf i).toNat)
     case atStart=>exact ⟨0,EU _,rfl,by (show DI _ _ _ _ _ _ _ _);rw [List.take_zero];(show DI w1 wn go k k F (F.map Prod.fst) _);rw [<-b6.out];exact n2.out,j9.out⟩
     case round=>
      obtain ⟨j,hj,rfl,a4,l1⟩:=hrel;obtain ⟨wi,rfl⟩:∃wi:World,wi=wr:=⟨_,rfl⟩;have z:zb w1 wi:=a4.out.ext;by_cases a9:j<L.length
      ·have p8:(j:Int)<(L.length:Int):=by omega
       have kk1:(0:Int)<=(j:Int):=by omega
       obtain ⟨bl,offl,rfl,M,c5⟩:=zy n9.out a9 a9;obtain ⟨d5,m5⟩:=k2.out _ (EH a9);have a8:=zh (Ef (fr:=fr) (d:=d+1) (F:=F) a9);obtain ⟨y,m6⟩:=zad (L[j]);rw [<-m6] at c5 d5 m5 a8;have i6:Hid (wk.heap.size<=bl/\bl<wn.heap.size):=M;have h4:wi.cell? ⟨bl,offl+j,none⟩=some (.int .i64 y):=(CK (l1.out.same bl M M.2)).trans c5;have j1:Hid ((zt fr (d+1) (L.take j) F).length<=300):=b4.out j;have e3:Hid ((zt fr (d+1) (L.take j) F).lookup x=some d):=addAll_lookup o4.out;obtain ⟨Fj,e6⟩:=zad (zt fr (d+1) (L.take j) F);rw [<-e6] at a4 j1 e3 a8;obtain ⟨bf,off,b',off',l,c',rfl,c4,hl,p7,p1,b0⟩:=De j5.out G.out.fn k5.out d5 m5;have q1:=zb.rule (B.out.cell c4);have q2:=zb.rule (B.out.cell b0);have b7:Hid (y.toNat<k):=by (show _<_);have:=HN.out;omega
       have k9:Hid (y<(k:Int)):=by (show _<_);have:=HN.out;omega
       have c6:w.cell? ⟨gu,y.toNat,none⟩=some (.bool (decide (y∈fixed.flatten))):=by
        have:=HU.out.cell b7.out;rw [this];unfold memF;rw [Int.toNat_of_nonneg d5]
       have q3:=zb.rule (B.out.cell c6);have I:Hid (fr y=(zi m t y && !decide (y∈fixed.flatten))):=j2.out _;obtain ⟨fv,c8⟩:=zad (zi m t y);obtain ⟨uv,d4⟩:=zad (decide (y∈fixed.flatten));rw [<-c8] at q2 I;rw [<-d4] at q3 I;have t8:y<(k:Int):=k9.out
       have b1:wi.cell? ⟨go,y.toNat,none⟩=some (.int .i64 ((Fj.lookup y).getD (-1))):=by
        have:=(a4.out.cell b7.out).1;rw [this];unfold dK dF;rw [if_pos b7.out,Int.toNat_of_nonneg d5]
       obtain ⟨ov,f0⟩:=zad ((Fj.lookup y).getD (-1));rw [<-f0] at b1;have s6:=zh f0
       have f2:Hid (ov<0↔Fj.lookup y=none):=by
        (show _↔_)
        rw [f0]
        cases hl:Fj.lookup y with
        | none=>simp
        | some e=>
         have hm:=Aj hl;rw [e6] at hm;obtain ⟨G',h1,h2,-,-⟩:=zL fr (d+1) (L.take j) F;rw [h1] at hm
         have:0<=e:=by
          rcases Fx.1 hm with hm | hm
          ·exact (a5.out.rg _ hm).2.2
          ·have:=(h2 _ hm).1;simp only at this;have:=Q.out;omega
         simp only [Fl];constructor
         ·intro h;omega
         ·intro h;cases h
       obtain ⟨bd,c0⟩:∃bd:Bool,bd=(decide (ov<0) && (fv && !uv)):=⟨_,rfl⟩;have E:=zh c0;have j3:=zh e6;have a1:zb wi wi:=zb.refl wi;clear c8 d4 c4 b0 c6 c5 M m6 f0 c0 e6;go_upto_region 17 with fail;go_cut [105] (fun v wx=>v=.bool bd/\zb wi wx)
       case first=>
        by_cases ho:ov<0
        ·have hd:decide (ov<0)=true:=EJ ho;have HB:Hid (bd=(fv && !uv)):=by (show _=_);rw [E.out,hd,Bool.true_and]
         cases fv with
         | false=>
          go_quiet (fail)
          go_wp2_with fail
          go_meet;exact ⟨by rw [HB.out];rfl,a1.drewN _⟩
         | true=>
          go_quiet (fail)
          go_wp2_with fail
          go_meet;exact ⟨by rw [HB.out,Bool.true_and],a1.drewN _⟩
        ·have hd:decide (ov<0)=false:=EK ho;have HB:Hid (bd=false):=by (show _=_);rw [E.out,hd];rfl
         go_quiet (fail)
         go_wp2_with fail
         go_meet;exact ⟨by rw [HB.out],a1.drewN _⟩
       case rest=>
        obtain ⟨rfl,e4⟩:=hcut;have a3:=zh (a4.out.more e4);have d9:=zh (l1.out.more e4);clear b1 q1 q2 q3
        cases bd with
        | false=>
         have b2:Hid (addS fr (d+1) Fj y=Fj):=by
          (show _=_)
          have U:=E.out
          cases hl:Fj.lookup y with
          | some e=>exact addS_old hl
          | none=>
           rw [EJ (f2.out.2 hl),Bool.true_and] at U;exact addS_not (by rw [I.out];exact U.symm)
         clear h4
         go_wp2_with fail
         go_roundw
         case rel=>exact ⟨j+1,by omega,by go_num,by rw [a8.out,b2.out];exact a3,d9⟩
         case measure=>simp [intOf];omega
        | true=>
         have U:=E.out;rw [eq_comm,ES,EQ] at U;have g6:Hid (Fj.lookup y=none):=f2.out.1 U.1;have b2:Hid (addS fr (d+1) Fj y=Fj++[(y,d+1)]):=addS_new g6.out (by rw [I.out];exact U.2);have o0:Hid (zt fr (d+1) (L.take (j+1)) F=addS fr (d+1) Fj y):=a8.out;have d8:=zh h4
         have k8:Hid (wi.cell? ⟨go,x.toNat,none⟩=some (.int .i64 d)):=by
          (show _=_)
          have:=(a4.out.cell (j:=x.toNat) (by have:=J.out;have:=HN.out;omega)).1;rw [this];unfold dK dF;rw [if_pos (by have:=J.out;have:=HN.out;omega),Int.toNat_of_nonneg J.out.1,e3.out];rfl
         have k7:Hid (wc.cell? ⟨go,x.toNat,none⟩=some (.int .i64 d)):=e4.cell k8.out;have d8:Hid (wc.cell? ⟨bl,offl+j,none⟩=some (.int .i64 y)):=e4.cell d8.out;obtain ⟨AT,cT,i2,-⟩:=Bd a3.out.own;subst i2
         have i1:q<(Fj.map Prod.fst).length:=by
          obtain ⟨G',h1,-,-,-⟩:=zL fr (d+1) (L.take j) F;rw [j3.out,h1,Fz,EO,Fr];omega
         have l2:(Fj.map Prod.fst)[q]=x:=by
          obtain ⟨G',h1,-,-,-⟩:=zL fr (d+1) (L.take j) F
          have h2:(Fj.map Prod.fst)[q]?=some x:=by
           rw [Fq,j3.out,h1,EL m0,HP.out];rfl
          rw [EE i1] at h2;injection h2
         obtain ⟨bT,ebT,o8,g9⟩:=own_at a3.out.own i1;rw [l2] at g9;subst ebT;obtain ⟨TL,f3⟩:=zad ((Fj.map Prod.fst).length);have r8:(q:Int)<(TL:Int):=by omega
         rw [<-f3] at a3 d9⊢;have q7:=f9.out;have rT:∀W,zp (fun b=>b=go) wc W->W.cell? ⟨bT,q,none⟩=some (.int .i64 x):=fun W h=>h.cellk g9 (by show ¬ (bT=go);omega)
         have rL:∀W,zp (fun b=>b=go) wc W->W.cell? ⟨bl,offl+j,none⟩=some (.int .i64 y):=fun W h=>h.cellk d8.out (by have:=i6.out;show ¬ (bl=go);omega)
         have t6:x<(k:Int):=by have:=J.out;have:=HN.out;omega
         have s2:(0:Int)<=x:=J.out.1;have t5:IntKind.i64.wrap (d+1)=d+1:=by rw [Fb];have:=Q.out;omega
         have n7:Hid (x.toNat≠y.toNat):=fun e=>by
          have:x=y:=by omega
          rw [this,g6.out] at e3
          cases e3.out
         clear h4 o8 g9 l2 i1 f3 U a1;go_upto_region 18 with fail;refine EW (S:=(fun W=>W.cell? ⟨go,x.toNat,none⟩=some (.int .i64 d)/\zp (fun b=>b=go) wc W)) Ag (⟨(zb.refl wc).drew.cell k7.out,zp.of_ext (zb.refl wc).drew⟩) fun zH=>?_;have a6:zb wc wc.drew:=(zb.refl wc).drew;generalize wc.drew=wd at zH a6⊢;refine zf 0 zH ?_;refine zf 1 zH ?_;simp only [za,ED];refine zf 2 zH ?_;refine zf 3 zH ?_;simp only [za,ED];refine zf 4 zH ?_;refine zf 5 zH ?_;simp only [za,ED];refine zf 6 zH ?_;refine zf 7 zH ?_;simp only [za,ED];refine zf 8 zH ?_;refine zf 9 zH ?_;simp only [za,ED];refine zf 10 zH ?_;refine zf 11 zH ?_;simp only [za,ED];refine zf 12 zH ?_;refine zf 13 zH ?_;simp only [za,ED];refine zE 14 fun K hK=>?_;obtain ⟨b1,h7⟩:=(a3.out.more a6).cell b7.out;go_simp;clear b1 h7;refine zae hK (⟨a6.cell_other k7.out n7.out,zp.set (zp.of_ext (X:=fun b=>b=go) a6) go y.toNat (.int .i64 (d+1)) rfl⟩) fun zH=>?_;clear hK K;try simp only [za,ED]
         refine Fk (by kernel_rfl) ?_ _;have i9:=zh (a3.out.more a6);have n8:=zh (d9.out.more a6);clear a3 d9;obtain ⟨b1,h7⟩:=i9.out.cell b7.out;have o:=zh (i9.out.put (x:=y) (d:=d+1) d5 (by have:=k9.out;omega) g6.out);have j8:=zh (n8.out.put (Cu wd go y.toNat (.int .i64 (d+1))) f9.out);have rl2:(wd.setCell ⟨go,y.toNat,none⟩ (.int .i64 (d+1))).cell? ⟨bl,offl+j,none⟩=some (.int .i64 y):=(zp.set (zp.of_ext (X:=fun b=>b=go) a6) go y.toNat (.int .i64 (d+1)) rfl).cellk d8.out (by have:=i6.out;have:=f9.out;show ¬ (bl=go);omega);generalize wd.setCell ⟨go,y.toNat,none⟩ (.int .i64 (d+1))=w5 at o j8 rl2⊢;obtain ⟨T,hT⟩:∃T:List Int,T=Fj.map Prod.fst:=⟨_,rfl⟩;rw [<-hT] at o;have o1:=zh hT;have o7:T.length<=300:=by rw [hT,Fr];exact j1.out
         have l8:=o.out.bound;clear hT b1 h7
         go_wp2_with (at_builtin;refine AQ rfl _ _ rfl _ T y (go+1) w5.heap.size 1 _ rfl rfl (o.out.own.alloc _) ?d1 ?d2 ?d3 ?_)
         (try case d1=>exact zr _ _ _ (by simp))
         (try case d2=>(first | (simp;done) | (simp;omega) | omega))
         (try case d3=>omega)
         intro v' wb c9 D M;have f7:=zh ((o.out.more ((zb.refl _).alloc _)).app c9 D);have n6:=zh ((j8.out.more ((zb.refl w5).alloc (.cells #[.int .i64 y] 3))).app D (by (show _\/_);rw [World.size_alloc];exact M.out));clear c9 D M rl2;go_wp2;go_roundw
         case rel=>exact ⟨j+1,by omega,by go_num,by rw [o0.out,b2.out,Fz,<-o1.out];exact f7,n6⟩
         case measure=>simp [intOf];omega
      ·obtain rfl:j=L.length:=by omega
       rw [ER] at a4;have l7:Hid (farQ m t fixed=bfs m fr (k+1 - (q+1)) (q+1) (zt fr (d+1) L F)):=by (show _=_);rw [l6.out,i7.out]
       have j7:Hid (q+1<=(zt fr (d+1) L F).length):=by
        (show _<=_)
        obtain ⟨G',h1,-,-,-⟩:=zL fr (d+1) L F;rw [h1,EO];omega
       clear z
       go_wp2_with fail
       go_roundw
       case rel=>exact ⟨q+1,_,by go_num,j7.out,b5.out,a4.out,l7.out⟩
       case measure=>simp [intOf];omega
    ·have m1:q=F.length:=by omega
     have j0:Hid (farQ m t fixed=F):=by (show _=_);rw [l6.out,m1];exact bfs_end _
     have k4:Hid (wk.rowIs go 3 k (dF F)):=hD.out.row.congr fun j hj=>by unfold dK;rw [if_pos hj]
     have t2:¬ ((q:Int)<(T.length:Int)):=by omega
     have q9:decide (q<T.length)=false:=EK a0;subst hv;clear m1 g8 hT
     go_wp2_with fail
     go_ret;refine ⟨go,rfl,B.out.trans z,by rw [n4.out];exact B.out.size,?_⟩;rw [j0.out];exact k4.out
theorem qpath_calls {okm okf:Nat->Prop} {v vf:Value} (t:Int) (w:World) (hm:zw w okm v m) (hl:Lens m) (hf:zv w okf vf fixed) (m9:fixed.length<=20000000000000) (n0:∀x∈fixed,x.length<=20000000000000):
  Calls Tryz.prog 19 #[v,.int .i64 t,vf] w fun e w'=>∃v',e=.returned (.tuple #[v',.bool (BM m t fixed).isSome])/\Mk w w' v' ((BM m t fixed).getD []):=by
 have HM:=zh hm;have HL:=zh hl;have HF:=zh hf;obtain ⟨Af,cf,Au,cu,At,ct,rfl,-,-,k3⟩:=hm.parts;have m0:=zh k3;clear k3;obtain ⟨_,⟨A,c,rfl,-,-⟩,-⟩:=hf;have r7:=hl.ts;clear hm hl;obtain ⟨R,hR⟩:=zad (BM m t fixed);rw [<-hR];have HR:=zh hR;clear hR
 go_enter Tryz.func19,Tryz.ntmps19
 go_upto_region 1 with fail;obtain ⟨a7,r0,r1,r2,r3,r4,r5⟩:=box6 w (.int .i64 m.w) (.int .i64 m.h) (.int .i64 m.l) (.slice Af m.free.length cf) (.slice Au m.up.length cu) (.slice At m.tasks.length ct);generalize w.alloc _=w1 at a7 r0 r1 r2 r3 r4 r5⊢;obtain ⟨gm,j5⟩:=zad w.heap.size;rw [<-j5] at r0 r1 r2 r3 r4 r5⊢;have B:=zh a7;clear j5 a7;have J:zb w1 w1:=zb.refl w1
 go_wp2_with fail
 refine (Db w1 (HM.out.below B.out) HL.out).mono ?_;rintro e w2 ⟨rfl,i6⟩;clear J;have J:zb w1 w2:=i6;clear i6;obtain ⟨ck,D⟩:=zad (AO m);rw [<-D];have g5:=zh D;clear D;by_cases h0:ck=0
 ·subst h0;have HC:Hid (AO m=0):=g5.out.symm;by_cases q9:0<=t
  ·by_cases o1:t<(m.tasks.length:Int)
   ·obtain ⟨tn,rfl⟩:∃tn:Nat,t=tn:=⟨t.toNat,by omega⟩;have HT:Hid (tn<m.tasks.length):=by (show _<_);omega
    have G:=zh (zC.of HC.out);obtain ⟨N,hN⟩:∃N:Nat,N=m.n.toNat:=⟨_,rfl⟩
    have HN:Hid (m.n=(N:Int)):=by
     (show _=_)
     have h1:=G.out.n1;rw [hN];unfold MZ.n;omega
    have p9:N<=300:=by have h1:=G.out.dim.n1;rw [hN];unfold MZ.n;omega
    have e6:=zh (fun W (hW:zb w W)=>taken_calls (fixed:=fixed) W (HM.out.below hW) G.out HL.out (HF.out.below hW) m9 n0);have d8:=zh (fun (gu:Nat) W (hW:zb w W) (hu:W.rowIs gu 4 m.n.toNat (memF fixed.flatten))=>distances_calls tn W (HM.out.below hW) HL.out HC.out HT.out hu);rw [<-hN] at e6 d8;clear hN;obtain ⟨bt,offt,sn,u1,u2,rfl,-,-,d6,-,f2,-⟩:=AJ m0.out HT.out;have j2:=(HL.out.tl _ (EH HT.out)).1;have g7:Hid ((m.tasks.getD tn ([],[])).1=(m.tasks[tn]'HT.out).1):=by (show _=_);rw [EF,EE HT.out];rfl
    have i3:Hid (∀x∈(m.tasks[tn]'HT.out).1,0<=x/\x<m.n):=fun x J=>G.out.tn _ (EH HT.out) x (.inl J)
    obtain ⟨fm,j3⟩:=zad ((m.tasks[tn]'HT.out).1);rw [<-j3] at f2 j2 g7 i3;have l4:=zh f2;obtain ⟨Afm,cfm,rfl,-,-⟩:=f2;have rfm:=zb.rule (B.out.cell d6);clear j3 d6;have e5:Hid (R=CE m (farQ m tn fixed) fm):=by (show _=_);rw [HR.out,pathP_far HC.out HT.out,g7.out]
    have o:zb w2 w2:=zb.refl w2;go_upto_region 3 with fail;go_cut [8] (fun v wx=>∃go,v=.slice (some ⟨go,0,none⟩) N N/\zb w2 wx/\wx.rowIs go 3 N (dF (farQ m tn fixed)))
    case first=>
     refine EW (S:=(fun W=>zb w1 W/\zb w2 W)) Ag (⟨J.drew,o.drew⟩) fun zH=>?_;have U:zb w1 w2.drew/\zb w2 w2.drew:=zH;generalize w2.drew=wd at zH U⊢;refine zf 0 zH ?_;refine zf 1 zH ?_;simp only [za,ED];refine zf 2 zH ?_;refine zf 3 zH ?_;simp only [za,ED];refine zE 4 fun K hK=>?_;go_simp;go_at_call 52;refine (e6.out _ (B.out.trans zH.1)).mono ?_;rintro e w3 ⟨gt,rfl,V⟩;go_simp;refine zae hK (⟨U.1.trans V.ext,U.2.trans V.ext⟩) fun zH=>?_;clear hK K;try simp only [za,ED]
     refine zE 5 fun K hK=>?_;go_simp;go_at_call 51;refine (d8.out gt w3 (V.ext |> fun h=>(B.out.trans U.1).trans h) V.tak).mono ?_;rintro e w4 ⟨go,rfl,a2,q2,o0⟩;go_simp;refine zae hK (⟨(U.1.trans V.ext).trans a2,(U.2.trans V.ext).trans a2⟩) fun zH=>?_;clear hK K;try simp only [za,ED]
     refine zf 6 zH ?_;simp only [za,ED];refine Fk (by kernel_rfl) ?_ _;go_wp2;go_meet;exact ⟨go,rfl,(U.2.trans V.ext).trans a2,o0⟩
    case rest=>
     obtain ⟨go,rfl,a2,b3⟩:=hcut;obtain ⟨w4,rfl⟩:∃w4:World,w4=wc:=⟨_,rfl⟩;obtain ⟨F,hF⟩:=zad (farQ m tn fixed);rw [<-hF] at b3 e5;have b5:Hid (DN m (DA m tn fixed) (toL m tn) F.length F):=by (show DN _ _ _ _ _);rw [hF];exact farQ_fi G.out HT.out
     have a5:=zh b3;have e7:Hid (zb w1 w4):=J.trans a2;have i4:=zh (zb.refl w4);clear J o a2 hF b3 e6 d8
     go_wp2_with fail
     go_loopw [9,10] (fun b i wr=>∃(k:Nat) (bo:Option Int),k<=N/\i=.int .i64 k/\b=.int .i64 (bo.getD (-1))/\Hid (BR F fm k bo)/\Hid (zb w4 wr)) (fun _ i _=>N - (intOf i).toNat)
     case atStart=>exact ⟨0,none,EU _,rfl,rfl,BR.zero _ _,i4.out⟩
     case round=>
      obtain ⟨k,bo,hk,rfl,rfl,hB,M⟩:=hrel;obtain ⟨wk,rfl⟩:∃wk:World,wk=wr:=⟨_,rfl⟩;have J:zb w1 wk:=e7.out.trans M.out;by_cases n4:k<N
      ·have o7:(k:Int)<(N:Int):=by omega
       have kk0:(0:Int)<=(k:Int):=by omega
       have D:wk.cell? ⟨go,k,none⟩=some (.int .i64 ((F.lookup (k:Int)).getD (-1))):=M.out.cell (a5.out.cell n4);have o:zb wk wk:=zb.refl wk;have HH:Hid (∀n,Calls Tryz.prog 12 #[.slice Afm fm.length cfm,.int .i64 (k:Int)] (wk.drewN n) fun e w'=>e=.returned (.bool (decide ((k:Int)∈fm)))/\(wk.drewN n)=w'):=fun n=>zU _ _ (l4.out.below (B.out.trans (J.drewN n))) (by omega)
       have r6:(tn:Int)<(m.tasks.length:Int):=o1;have o9:(0:Int)<=(tn:Int):=by omega
       go_upto_region 8 with fail;go_cut [70] (fun v wx=>∃bu,v=.bool bu/\zb wk wx/\Hid (if bu then BR F fm (k+1) (some (k:Int)) else BR F fm (k+1) bo))
       case first=>
        cases hl:F.lookup (k:Int) with
        | none=>
         rw [hl] at D;have D:wk.cell? ⟨go,k,none⟩=some (.int .i64 (-1)):=D;have HS:Hid (BR F fm (k+1) bo):=hB.out.skip (.inr hl);clear hl;go_quiet (fail)
         go_wp2_with fail
         go_meet;exact ⟨false,rfl,o.drewN _,HS.out⟩
        | some e=>
         rw [hl] at D;have D:wk.cell? ⟨go,k,none⟩=some (.int .i64 e):=D;obtain ⟨e0,-⟩:=b5.out.dist G.out hl;have e3:=zh hl;clear hl;by_cases I:(k:Int)∈fm
         ·have hd:decide ((k:Int)∈fm)=true:=EJ I;rw [hd] at HH;have b6:=zh I;clear hd I
          cases bo with
          | none=>
           have HS:Hid (BR F fm (k+1) (some (k:Int))):=hB.out.new b6.out e3.out (fun r d hr=>by cases hr);go_quiet ((go_at_call 12;refine (HH.out _).mono ?_;rintro e9 w9 ⟨rfl,rfl⟩;exact ⟨rfl,⟨_,rfl⟩⟩))
           go_wp2_with fail
           go_meet;exact ⟨true,rfl,o.drewN _,HS.out⟩
          | some r=>
           obtain ⟨h1,n8,n9,d,f6,-⟩:=hB.out;have c9:=zh f6
           have i9:wk.cell? ⟨go,r.toNat,none⟩=some (.int .i64 d):=by
            have h2:=M.out.cell (a5.out.cell (show r.toNat<N by omega));rw [h2];unfold dF;rw [Int.toNat_of_nonneg n8,f6];rfl
           have q8:r<(N:Int):=by omega
           clear h1 f6 n9;by_cases o6:e<d
           ·have HS:Hid (BR F fm (k+1) (some (k:Int))):=hB.out.new b6.out e3.out (fun r' d' f5 f0=>by injection f5 with f5;subst f5;rw [c9.out] at f0;injection f0 with f0;omega);go_quiet ((go_at_call 12;refine (HH.out _).mono ?_;rintro e9 w9 ⟨rfl,rfl⟩;exact ⟨rfl,⟨_,rfl⟩⟩))
            go_wp2_with fail
            go_meet;exact ⟨true,by simp;try omega,o.drewN _,HS.out⟩
           ·have HS:Hid (BR F fm (k+1) (some r)):=hB.out.old c9.out e3.out (by omega);go_quiet ((go_at_call 12;refine (HH.out _).mono ?_;rintro e9 w9 ⟨rfl,rfl⟩;exact ⟨rfl,⟨_,rfl⟩⟩))
            go_wp2_with fail
            go_meet;exact ⟨false,by simp;try omega,o.drewN _,HS.out⟩
         ·have hd:decide ((k:Int)∈fm)=false:=EK I;rw [hd] at HH;have HS:Hid (BR F fm (k+1) bo):=hB.out.skip (.inl I);clear hd I;go_quiet ((go_at_call 12;refine (HH.out _).mono ?_;rintro e9 w9 ⟨rfl,rfl⟩;exact ⟨rfl,⟨_,rfl⟩⟩))
          go_wp2_with fail
          go_meet;exact ⟨false,rfl,o.drewN _,HS.out⟩
       case rest=>
        obtain ⟨bu,rfl,m2,hS⟩:=hcut;have a4:zb w4 wc:=M.out.trans m2
        cases bu with
        | true=>
         have e8:Hid (BR F fm (k+1) (some (k:Int))):=hS.out
         go_wp2_with fail
         go_roundw
         case rel=>exact ⟨k+1,some (k:Int),by omega,by go_num,by simp,e8,a4⟩
         case measure=>simp [intOf];omega
        | false=>
         have e8:Hid (BR F fm (k+1) bo):=hS.out
         go_wp2_with fail
         go_roundw
         case rel=>exact ⟨k+1,bo,by omega,by go_num,rfl,e8,a4⟩
         case measure=>simp [intOf];omega
      ·have n3:k=N:=by omega
       have g4:Hid (BL F fm none=bo):=hB.out.all (fun n hn=>by have:=i3.out n hn;have:=HN.out;omega)
       have l1:Hid (∀r,bo=some r->0<=r/\r<(N:Int)/\∃d:Nat,F.lookup r=some (d:Int)/\d<300):=fun r hr=>by
        have h:=hB.out;rw [hr] at h;obtain ⟨-,h1,h2,d,h3,-⟩:=h;obtain ⟨h4,h5⟩:=b5.out.dist G.out h3;exact ⟨h1,by omega,d.toNat,by rw [h3,Int.toNat_of_nonneg h4],by omega⟩
       clear n3
       cases bo with
       | none=>
        have E:Hid (R=none):=by (show _=_);rw [e5.out];unfold CE;rw [g4.out];rfl
        go_wp2_with fail
        go_ret2
        rw [E.out];exact ⟨_,rfl,Mk.nil' (B.out.trans J)⟩
       | some b=>
        obtain ⟨a7,m5,d0,i8,j1⟩:=l1.out b rfl
        have E:Hid (R=some (Cx m F d0 b)):=by
         (show _=_)
         rw [e5.out];unfold CE;rw [g4.out,Option.map_some,i8];simp
        have o4:¬ (b<0):=by omega
        have p7:=zh M.out
        have b8:Hid (∀x,0<=x->x<(N:Int)->∀W,zb w4 W->W.cell? ⟨go,x.toNat,none⟩=some (.int .i64 ((F.lookup x).getD (-1)))):=fun x h0 h1 W hW=>by
         have h2:=hW.cell (a5.out.cell (show x.toNat<N by omega));rw [h2];unfold dF;rw [Int.toNat_of_nonneg h0]
        have c7:Hid (Mk w4 (wk.alloc (.cells #[.int .i64 b] 3)) (.slice (some ⟨wk.heap.size,0,none⟩) 1 1) ([]++[b])):=⟨ownOne wk w4.heap.size 3 (.int .i64 b) M.out.size,M.out.alloc _⟩;clear J M
        go_wp2_with fail
        go_loopw [9,11] (fun c v wr=>∃(pre:List Int) (cur:Int) (r:Nat),c=.int .i64 cur/\Hid (0<=cur/\cur<(N:Int))/\Hid (Mk w4 wr v (pre++[cur]))/\Hid (F.lookup cur=some (r:Int))/\Hid (Cx m F d0 b=pre++Cx m F r cur)/\Hid (pre.length+r=d0)) (fun c _ wr=>match wr.cell? ⟨go,(intOf c).toNat,none⟩ with | some (.int _ i)=>i.toNat | _=>0)
        case atStart=>exact ⟨[],b,d0,rfl,⟨a7,m5⟩,c7.out,i8,rfl,by simp [Hid]⟩
        clear c7
        case round=>
         obtain ⟨pre,cur,r,rfl,i9,hM,j6,f1,j9⟩:=hrel;obtain ⟨wq,rfl⟩:∃wq:World,wq=wr:=⟨_,rfl⟩;obtain ⟨c0,c4⟩:=i9.out;have J:zb w1 wq:=e7.out.trans hM.out.ext
         have O:wq.cell? ⟨go,cur.toNat,none⟩=some (.int .i64 (r:Int)):=by
          rw [b8.out cur c0 c4 wq hM.out.ext,j6.out];rfl
         cases r with
         | zero=>
          have O:wq.cell? ⟨go,cur.toNat,none⟩=some (.int .i64 0):=O;have g6:Hid (Cx m F d0 b=pre++[cur]):=f1.out
          go_wp2_with fail
          go_ret2
          rw [E.out];refine ⟨_,rfl,?_⟩
          (show Mk _ _ _ (Cx m F d0 b))
          rw [g6.out];exact (B.out.trans e7.out).mono_mk hM.out
         | succ r=>
          have q7:(0:Int)<((r+1:Nat):Int):=by omega
          have b2:F.lookup cur=some ((r:Int)+1):=by have h:=j6.out;rw [h];congr 1
          obtain ⟨i0,c5,a3,I⟩:=downN_at G.out.dim b5.out b2;obtain ⟨a9,d7⟩:=downN_ok G.out.dim b5.out b2
          have d9:Hid (Cx m F d0 b=(pre++[cur])++Cx m F r (CU m F cur)):=by
           (show _=_)
           rw [f1.out,List.append_assoc];rfl
          have Q:Hid (0<=CU m F cur/\CU m F cur<(N:Int)):=by
           have h:=An G.out.dim c0 (by rw [HN.out];exact c4) d7;exact ⟨h.1,by have:=HN.out;omega⟩
          have n6:=Bc m cur
          have c8:Hid (∀y∈zl m cur,0<=y/\y<(N:Int)):=fun y hy=>by
           have h:=An G.out.dim c0 (by rw [HN.out];exact c4) hy;exact ⟨h.1,by have:=HN.out;omega⟩
          have i1:Hid (AR m cur=zl m cur):=nextO_in HC.out c0 (by rw [HN.out];exact c4);have m8:d0<300:=j1;have k1:(pre++[cur]).length<=400:=by have:=j9.out;rw [EO,Ff];omega
          obtain ⟨dnx,b0⟩:=zad (CU m F cur);obtain ⟨L,hL⟩:=zad (zl m cur);have b6:Hid (∀j (hj:j<i0) (f3:j<L.length),F.lookup L[j]≠some (r:Int)):=by subst hL;exact fun j hj f3=>I j hj
          have l5:Hid (∃hi:i0<L.length,L[i0]=dnx):=by subst hL;subst b0;exact ⟨c5,a3⟩
          rw [<-b0] at a9 d9 Q;rw [<-hL] at n6 c8 i1;have a0:Hid (F.lookup dnx=some (r:Int)):=a9;have b7:=zh j9.out;clear b0 hL b2 c5 a3 I a9 d7 f1 j1;obtain ⟨P,hP⟩:=zad (pre++[cur]);have l8:Hid (P.length=pre.length+1):=by (show _=_);rw [hP];simp
          rw [<-hP] at hM d9 k1;clear hP
          go_wp2_with fail
          refine (Er cur wq (HM.out.below (B.out.trans J)) HL.out).mono ?_;rw [i1.out];rintro e w5 ⟨vl,rfl,a6⟩;have l6:=zh a6.ints;have h8:=zh (hM.out.more a6.ext);obtain ⟨AL,cL,rfl,-,k2⟩:=l6.out;have l9:=zh k2;have d5:w5.cell? ⟨go,cur.toNat,none⟩=some (.int .i64 ((r+1:Nat):Int)):=a6.ext.cell O;have c6:=zh d5;have p6:Hid (zb w1 w5):=J.trans a6.ext;have i5:=zh (zb.refl w5);have l3:=zh O;clear J O a6 k2 hM d5;have o2:IntKind.i64.wrap (((r+1:Nat):Int) - 1)=(r:Int):=by rw [Fb];have:=b7.out;omega
          go_wp2_with fail
          go_loopw [13,14] (fun nx i wr=>∃j:Nat,j<=L.length/\i=.int .i64 j/\nx=.int .i64 (if j<=i0 then -1 else dnx)/\Hid (zb w5 wr)) (fun _ i _=>L.length - (intOf i).toNat)
          case atStart=>exact ⟨0,EU _,rfl,by rw [if_pos (EU _)],i5.out⟩
          case round=>
           obtain ⟨j,hj,rfl,rfl,M⟩:=hrel;obtain ⟨wi,rfl⟩:∃wi:World,wi=wr:=⟨_,rfl⟩;obtain ⟨c5,a3⟩:=l5.out;by_cases a1:j<L.length
           ·have n5:(j:Int)<(L.length:Int):=by omega
            have kk1:(0:Int)<=(j:Int):=by omega
            obtain ⟨bl,offl,rfl,-,a8⟩:=zy l9.out a1 a1;obtain ⟨k4,k5⟩:=c8.out _ (EH a1);have g9:=zh (b6.out j);have g8:Hid (j=i0->L[j]=dnx):=fun h=>by subst h;exact a3
            obtain ⟨y,f8⟩:=zad (L[j]);rw [<-f8] at a8 k4 k5 g8;have h6:Hid (j<i0->F.lookup y≠some (r:Int)):=fun h=>by rw [f8];exact g9.out h a1
            have q1:wi.cell? ⟨bl,offl+j,none⟩=some (.int .i64 y):=M.out.cell a8;have m7:wi.cell? ⟨go,y.toNat,none⟩=some (.int .i64 ((F.lookup y).getD (-1))):=b8.out y k4 k5 wi (h8.out.ext.trans M.out);have O:wi.cell? ⟨go,cur.toNat,none⟩=some (.int .i64 ((r+1:Nat):Int)):=M.out.cell c6.out;obtain ⟨oy,f4⟩:=zad ((F.lookup y).getD (-1));rw [<-f4] at m7
            have i2:Hid (oy=(r:Int)↔F.lookup y=some (r:Int)):=by
             (show _↔_)
             rw [f4]
             cases F.lookup y with
             | none=>simp
             | some z=>simp
            have o:zb wi wi:=zb.refl wi;have O:wi.cell? ⟨go,cur.toNat,none⟩=some (.int .i64 ((r:Int)+1)):=by rw [O];congr 1
            have p1:IntKind.i64.wrap ((r:Int)+1 - 1)=(r:Int):=by rw [Fb];have:=b7.out;omega
            have p2:IntKind.i64.wrap (r:Int)=(r:Int):=by rw [Fb];have:=b7.out;omega
            clear f8 f4 a8 g9 o2;rcases Nat.lt_trichotomy j i0 with hji | hji | hji
            ·have j7:(oy==(r:Int))=false:=by rw [ET];exact fun h=>h6.out hji (i2.out.1 h)
             have o8:¬ (oy=(r:Int)):=by rw [ET] at j7;exact j7
             rw [if_pos (show j<=i0 by omega)];go_upto_region 19 with fail;go_quiet (fail)
             go_wp2_with fail
             go_roundw
             case rel=>exact ⟨j+1,by omega,by go_num,by rw [if_pos (show j+1<=i0 by omega)],M.out.trans (o.drewN _)⟩
             case measure=>simp [intOf];omega
            ·have f7:=g8.out hji;have heq:(oy==(r:Int))=true:=by rw [beq_iff_eq];exact i2.out.2 (by rw [f7];exact a0.out)
             have m1:=zh f7;have l7:=zh hji;rw [if_pos (show j<=i0 by omega)];clear f7 hji a3;go_upto_region 19 with fail;go_quiet (fail)
             go_wp2_with fail
             go_roundw
             case rel=>exact ⟨j+1,by omega,by go_num,by rw [if_neg (show ¬ (j+1<=i0) by have:=l7.out;omega),<-m1.out],M.out.trans (o.drewN _)⟩
             case measure=>simp [intOf];omega
            ·rw [if_neg (show ¬ (j<=i0) by omega)];have q4:¬ (dnx<0):=by have:=Q.out;omega
             go_upto_region 19 with fail;go_quiet (fail)
             go_wp2_with fail
             go_roundw
             case rel=>exact ⟨j+1,by omega,by go_num,by rw [if_neg (show ¬ (j+1<=i0) by omega)],M.out.trans (o.drewN _)⟩
             case measure=>simp [intOf];omega
           ·have f3:¬ (j<=i0):=by omega
            rw [if_neg f3];have e4:=zh (h8.out.more M.out);have a4:=e4.out.ext
            have p4:Hid (wi.cell? ⟨go,dnx.toNat,none⟩=some (.int .i64 (r:Int))):=by
             (show _=_)
             rw [b8.out dnx Q.out.1 Q.out.2 wi a4,a0.out];rfl
            have p3:=zh (M.out.cell c6.out);clear a3 c5
            go_wp2_with (at_builtin;refine AQ rfl _ _ rfl _ P dnx w4.heap.size wi.heap.size 1 _ rfl rfl (e4.out.own.alloc _) ?d1 ?d2 ?d3 ?_)
            (try case d1=>exact zr _ _ _ (by simp))
            (try case d2=>(first | (simp;done) | (have:=a4.size;simp;omega) | (have:=a4.size;omega)))
            (try case d3=>omega)
            intro v' wb j8 j4 m6;have h9:=zh ((e4.out.alloc (.cells #[.int .i64 dnx] 3)).app j8 j4);clear j8 j4 m6
            have l2:Hid (wb.cell? ⟨go,dnx.toNat,none⟩=some (.int .i64 (r:Int))):=by
             (show _=_)
             rw [b8.out dnx Q.out.1 Q.out.2 wb h9.out.ext,a0.out];rfl
            go_wp2;go_roundw
            case rel=>exact ⟨P,dnx,r,rfl,Q.out,h9.out,a0.out,d9.out,by (show _=_);have h1:=l8.out;have h2:=b7.out;omega⟩
            case measure=>
             simp only [intOf,l2.out,l3.out];omega
   ·have E:Hid (R=none):=by (show _=_);rw [HR.out];unfold BM;rw [if_neg (fun h=>by have:=(AX.1 h).2;omega)]
    go_wp2_with fail
    go_ret2
    rw [E.out];exact ⟨_,rfl,Mk.nil' (B.out.trans J)⟩
  ·have E:Hid (R=none):=by (show _=_);rw [HR.out];unfold BM;rw [if_neg (fun h=>by have:=(AX.1 h).2;omega)]
   go_wp2_with fail
   go_ret2
   rw [E.out];exact ⟨_,rfl,Mk.nil' (B.out.trans J)⟩
 ·have q5:(ck==0)=false:=by rw [ET];exact h0
  have q6:(ck != 0)=true:=by rw [bne_iff_ne];exact h0
  have E:Hid (R=none):=by (show _=_);rw [HR.out];unfold BM;rw [if_neg (fun h=>h0 (by rw [g5.out];exact (AX.1 h).1))]
  clear h0
  go_wp2_with fail
  go_ret2
  rw [E.out];exact ⟨_,rfl,Mk.nil' (B.out.trans J)⟩
end
end Go.Proofs.YthbjngbhbbkkgaaGreat
