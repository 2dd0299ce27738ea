import Derived.Test.YthbjngbhbbkkgaaGreatHRx
import Derived.StillTailTactics
set_option linter.unusedVariables false
set_option linter.unusedSimpArgs false
set_option maxRecDepth 100000
set_option maxHeartbeats 16000000
namespace Go.Proofs.YthbjngbhbbkkgaaGreat
variable {cs:Array Value} {x:Int} {m:MZ} {k:Nat}
section
open Go.RowKit
attribute [local go_sem ↓] Go.wp_at_zero Go.wp_at_succ
theorem laid_empty (D:AO m=0):By m (List.replicate m.tasks.length [])=true:=by
 have o:∀k,(List.replicate m.tasks.length ([]:List Int)).getD k []=[]:=fun k=>by
  rw [EF,List.getElem?_replicate]
  split <;> rfl
 exact AN.2 ⟨D,by simp,fun k _ h=>absurd (o k) h,⟨fun i=>by rw [o];exact List.nodup_nil,fun i j x z=>by rw [o] at z;cases z⟩⟩
theorem laid_set {ps:List (List Int)} {t:Nat} {p:List Int} (h:By m ps=true) (J:t<ps.length) (hp:BM m t ps=some p):By m (ps.set t p)=true:=by
 obtain ⟨h0,h1,h2,h3⟩:=AN.1 h;obtain ⟨-,-,hI⟩:=pathP_ok hp;rw [Fy] at hI;refine AN.2 ⟨h0,by rw [List.length_set];exact h1,fun k E z=>?_,h3.set hI.nd fun x G i I=>?_⟩
 ·rw [List.length_set] at E;rw [DH] at z⊢;by_cases o:t=k/\k<ps.length
  ·rw [if_pos o];rw [<-o.1];exact hI.pathT
  ·rw [if_neg o] at z⊢;exact h2 k E z
 ·exact fun D=>(hI.fr x G).2 (BN.2 ⟨i,D⟩)
structure CPL (w wr:World) (g L:Nat) (ps:List (List Int)):Prop where
 ext:zb w wr
 lo:L<=g
 row:∃vs:List Value,zk wr g 23 vs.toArray/\vs.length=ps.length/\∀(i:Nat) x,ps[i]?=some x->∃u,vs[i]?=some u/\zj wr (fun b=>b≠g/\L<=b) u x
section
variable {w wr w':World} {g L:Nat} {ps:List (List Int)}
theorem CPL.lt (h:CPL w wr g L ps):g<wr.heap.size:=by obtain ⟨vs,o,-⟩:=h.row;exact zd o
theorem CPL.keep {X:Nat->Prop} (h:CPL w wr g L ps) (D:zp X wr w') (E:∀b,L<=b->¬ X b) (G:zb w w'):CPL w w' g L ps:=by
 obtain ⟨vs,o,J,he⟩:=h.row;exact ⟨G,h.lo,vs,D.blk o (E g h.lo),J,fun i x O=>by obtain ⟨u,M,I⟩:=he i x O;exact ⟨u,M,I.keep fun b o z=>D.block b z (E b o.2)⟩⟩
theorem CPL.more (h:CPL w wr g L ps) (o:zb wr w'):CPL w w' g L ps:=h.keep (zp.of_ext (X:=fun _=>False) o) (fun _ _ h=>h) (h.ext.trans o)
theorem CPL.at_ (h:CPL w wr g L ps) (D:k<ps.length):∃u,wr.cell? ⟨g,k,none⟩=some u/\wr.frozen? ⟨g,k,none⟩=false/\zj wr (fun b=>b≠g/\L<=b) u ps[k]:=by
 obtain ⟨vs,o,G,he⟩:=h.row;obtain ⟨u,E,z⟩:=he k _ (EE D);exact ⟨u,o.cell (by simpa using E),o.frozen k,z⟩
theorem CPL.intss (h:CPL w wr g L ps) (c:Nat) (D:ps.length<=c):zv wr (fun b=>L<=b) (.slice (some ⟨g,0,none⟩) ps.length c) ps:=by
 obtain ⟨vs,z,I,he⟩:=h.row;refine ⟨vs,⟨_,c,rfl,D,by omega,fun _=>⟨g,0,rfl,h.lo,fun j u o=>?_⟩⟩,fun i x G=>by obtain ⟨u,o,E⟩:=he i x G;exact ⟨u,o,E.weaken fun _ h=>h.2⟩⟩;rw [Nat.zero_add];exact z.cell (by simpa using o)
theorem CPL.set (h:CPL w wr g L ps) (k:Nat) {u:Value} {x:List Int} (I:w.heap.size<=g) (O:zj wr (fun b=>b≠g/\L<=b) u x):CPL w (wr.setCell ⟨g,k,none⟩ u) g L (ps.set k x):=by
 obtain ⟨vs,D,J,he⟩:=h.row;have G:∀{v:Value} {l:List Int},zj wr (fun b=>b≠g/\L<=b) v l->zj (wr.setCell ⟨g,k,none⟩ u) (fun b=>b≠g/\L<=b) v l:=fun z=>z.keep fun b D _=>EP wr ⟨g,k,none⟩ u b D.1
 refine ⟨h.ext.setCell (p:=⟨g,k,none⟩) I _,h.lo,vs.set k u,?_,by simp [J],fun i y o=>?_⟩
 ·have:=D.set (k:=k) u
  rwa [List.setIfInBounds_toArray] at this
 ·rw [List.getElem?_set] at o⊢;by_cases z:k=i
  ·subst z;rw [if_pos rfl] at o⊢
   split at o
   ·rename_i M
    rw [if_pos (by omega)];injection o with o;subst o;exact ⟨u,rfl,G O⟩
   ·cases o
  ·rw [if_neg z] at o⊢;obtain ⟨v,Q,E⟩:=he i y o;exact ⟨v,Q,G E⟩
theorem CP.cpl (h:CP w wr g ps) (D:zb w' wr) {L:Nat} (z:L<=w.heap.size):CPL w' wr g L ps:=by
 obtain ⟨vs,o,G,he⟩:=h.row;exact ⟨D,EI z h.lo,vs,o,G,fun i x J=>by obtain ⟨u,I,E⟩:=he i x J;exact ⟨u,I,E.weaken fun b o=>⟨o.1,EI z o.2⟩⟩⟩
end
theorem laid_lens0 {ps:List (List Int)} (h:By m ps=true):∀x∈ps,x.length<=300:=by
 obtain ⟨h0,h1,h2,h3⟩:=AN.1 h;intro x I;obtain ⟨k,D,rfl⟩:=Fm I;have o:ps.getD k []=ps[k]:=zgd D
 by_cases E:ps[k]=[]
 ·rw [E];simp
 ·have hp:=h2 k D (by rw [o];exact E);rw [o] at hp
  have z:(ps[k]).Nodup:=by
   have:=h3.1 k
   rwa [o] at this
  have G:=Bo z m.n hp.rg;have J:=(zC.of h0).dim.n1;unfold MZ.n at G;omega
theorem rem_idx {n:Nat} (D:0<n) (I:0<=x) (G:(k:Int)+x<=1000000):∃tq:Nat,tq<n/\((k:Int)+x).tmod (n:Int)=(tq:Int)/\IntKind.i64.wrap (((k:Int)+x).tmod (n:Int))=(tq:Int):=by
 obtain ⟨y,E⟩:∃y:Nat,(k:Int)+x=(y:Int):=⟨((k:Int)+x).toNat,by omega⟩;have hm:((k:Int)+x).tmod (n:Int)=((y % n:Nat):Int):=by rw [E];rfl
 have o:=Nat.mod_lt y D;have z:y % n<=y:=Nat.mod_le y n;refine ⟨y % n,o,hm,?_⟩;rw [hm,Fb];omega
theorem made31_calls {okm okl:Nat->Prop} {v vl:Value} {l:List Int} (wo:Int) (w:World) (hm:zw w okm v m) (hl:Lens m) (hc:AO m=0) (ht:0<m.tasks.length) (e6:zj w okl vl l) (h6:l.length<=9223372036854775807):
  Calls Tryz.prog 36 #[v,vl,.int .i64 wo] w fun e w'=>∃go ps,e=.returned (.slice (some ⟨go,0,none⟩) m.tasks.length m.tasks.length)/\CPL w w' go w.heap.size ps/\By m ps=true/\∀t:Nat,(t:Int)=wo->ps.getD t []=[]:=by
 have HM:=zh hm;have HL:=zh hl;have HC:=zh hc;have f8:=zh e6;have G:=zh (zC.of hc);obtain ⟨Af,cf,Au,cu,At,ct,rfl,-,-,-⟩:=hm.parts;obtain ⟨A,c,rfl,j5,-⟩:=e6;have k2:=G.out.tk;clear hm hl hc
 have h7:∀W:World,(Instr.makeSlice 22 (.int .i64 (m.tasks.length:Nat)) (.int .i64 (m.tasks.length:Nat))).run Tryz.prog W=.ok (.slice (some ⟨W.heap.size,0,none⟩) m.tasks.length m.tasks.length) (W.alloc (.cells (madeCells #[.slice none 0 0] m.tasks.length) 23)):=fun W=>
  run_make_row' 22 23 (.slice none 0 0) 24 Tryz.underlying22 Tryz.infoInts rfl .i64 .i64 m.tasks.length (by omega) (by omega) W
 go_enter Tryz.func36,Tryz.ntmps36
 go_upto_region 1 with fail;obtain ⟨b8,r0,r1,r2,r3,r4,r5⟩:=box6 w (.int .i64 m.w) (.int .i64 m.h) (.int .i64 m.l) (.slice Af m.free.length cf) (.slice Au m.up.length cu) (.slice At m.tasks.length ct);have a5:(w.alloc (.cells #[.int .i64 m.w,.int .i64 m.h,.int .i64 m.l,.slice Af m.free.length cf,.slice Au m.up.length cu,.slice At m.tasks.length ct] 32)).heap.size=w.heap.size+1:=by simp
 generalize w.alloc _=w1 at b8 r0 r1 r2 r3 r4 r5 a5⊢;obtain ⟨gm,c0⟩:=zad w.heap.size;rw [<-c0] at r0 r1 r2 r3 r4 r5 a5⊢;have I:Hid (gm=w.heap.size):=c0;have d6:=zh b8;have hx:zb w1 w1:=zb.refl w1;have i1:=zS w1;clear c0 b8;go_upto_region 2 with fail;have M:=zk.new w1 #[.slice A l.length c,.int .i64 0] 108 (g:=w1.heap.size) rfl;have a1:zb w1 (w1.alloc (.cells #[.slice A l.length c,.int .i64 0] 108)):=(zb.refl w1).alloc _;have U:(w1.alloc (.cells #[.slice A l.length c,.int .i64 0] 108)).heap.size=w1.heap.size+1:=by simp
 generalize w1.alloc _=w2 at M a1 U⊢;rw [a5] at M U;obtain ⟨gd,b9⟩:=zad (gm+1);rw [<-b9] at M U⊢;have f6:Hid (zT w.heap.size w2 gd):=⟨by have:=I.out;omega,_,0,l,M,(f8.out.bound.weaken fun b O=>O.2).below (d6.out.trans a1),h6,by omega⟩;have f4:zb w1 w2:=a1;have z:Hid (gd=gm+1/\w2.heap.size=gd+1):=⟨b9,U⟩;clear hx i1 M a5 U b9 a1
 go_wp2_with fail
 have J:=zh (CP.new w2 m.tasks.length);have a2:zb w2 (w2.alloc (.cells (madeCells #[.slice none 0 0] m.tasks.length) 23)):=(zb.refl w2).alloc _;generalize w2.alloc _=w3 at J a2⊢;obtain ⟨go,e4⟩:=zad w2.heap.size;rw [<-e4] at J⊢;have V:Hid (go=gd+1):=by (show _=_);have:=z.out;omega
 have d7:Hid (zb w1 w3):=f4.trans a2;have c7:Hid (CPL w w3 go (gd+1) (List.replicate m.tasks.length [])):=J.out.cpl (d6.out.trans d7.out) (by have:=z.out;omega);have a9:=zh (f6.out.ext a2 (by have h1:=z.out;have h2:=I.out;omega));have b1:=zh (laid_empty HC.out);have rul:∀{i:Nat} {v:Value},(∀W,zb w1 W->W.cell? ⟨gm,i,none⟩=some v)->∀W,zp (fun b=>b=gd\/b=go) w3 W->W.cell? ⟨gm,i,none⟩=some v:=fun h W hW=>hW.cellk (h w3 d7.out) (by have h1:=z.out;have h2:=V.out;show ¬ (gm=gd\/gm=go);omega)
 have r0:=rul r0;have r1:=rul r1;have r2:=rul r2;have r3:=rul r3;have r4:=rul r4;have r5:=rul r5;have a7:Hid (zp (fun b=>b=gd\/b=go) w3 w3):=zp.refl _ _
 have d4:Hid (∀t:Nat,(t:Int)=wo->(List.replicate m.tasks.length ([]:List Int)).getD t []=[]):=fun t _=>by
  rw [EF,List.getElem?_replicate]
  split <;> rfl
 clear rul e4 a2 f4 h7;go_loopw [9] (fun i wr=>∃(k:Nat) (ps:List (List Int)),i=.int .i64 k/\k<=m.tasks.length/\Hid (CPL w wr go (gd+1) ps)/\Hid (By m ps=true)/\Hid (∀t:Nat,(t:Int)=wo->ps.getD t []=[])/\Hid (zT w.heap.size wr gd)/\Hid (zp (fun b=>b=gd\/b=go) w3 wr)) (fun i _=>m.tasks.length - (intOf i).toNat)
 case atStart=>exact ⟨0,_,rfl,EU _,c7.out,b1.out,d4.out,a9.out,a7.out⟩
 clear c7 b1 d4 a9 a7
 case round=>
  obtain ⟨k,ps,rfl,hk,hC,hL,hW,g7,Q⟩:=hrel;obtain ⟨wk,rfl⟩:∃wk:World,wk=wr:=⟨_,rfl⟩;have e0:zp (fun b=>b=gd\/b=go) w3 wk:=Q.out;have a0:Hid (ps.length=m.tasks.length):=(AN.1 hL.out).2.1;by_cases j9:k<m.tasks.length
  ·have i6:(k:Int)<(m.tasks.length:Int):=by omega
   have g6:Hid (w.heap.size<=wk.heap.size):=hC.out.ext.size;have j8:k<=6:=by omega
   have k1:¬ (m.tasks=[]):=by intro h;rw [h] at ht;simp at ht
   have i7:m.tasks.length≠0:=by omega
   go_upto_region 6 with fail;clear e0;go_cut [10] (fun v wx=>∃tq:Nat,v=.int .i64 tq/\tq<m.tasks.length/\Hid (zT w.heap.size wx gd)/\Hid (zp (fun b=>b=gd) wk wx))
   case first=>
    refine EW (S:=(fun W=>zp (fun b=>b=gd\/b=go) w3 W)) Ag (Q.out.trans (zp.of_ext (X:=fun b=>b=gd\/b=go) (zb.refl wk).drew) (fun _ _ h=>h)) fun zH=>?_;refine zf 0 zH ?_;refine zf 1 zH ?_;simp only [za,ED];refine zf 4 zH ?_;refine zf 5 zH ?_;simp only [za,ED];refine zf 6 zH ?_;simp only [za,ED];refine zE 2 fun K hK=>?_;go_simp;go_at_call 68;refine (zQ 3 (g7.out.ext ((zb.refl wk).drew) g6.out) (by omega) (by omega)).mono ?_;rintro e w5 ⟨x,rfl,k5,k6,D,e3⟩;go_simp;refine zae hK ((Q.out.trans (zp.of_ext (X:=fun b=>b=gd\/b=go) (zb.refl wk).drew) (fun _ _ h=>h)).grown e3 (fun b O _=>.inl (Option.some.inj O).symm)) fun zH=>?_;clear hK K;try simp only [za,ED]
    have k4:IntKind.i64.wrap ((k:Int)+x)=(k:Int)+x:=by rw [Fb];omega
    obtain ⟨tq,f0,i9,e9⟩:∃tq:Nat,tq<m.tasks.length/\((k:Int)+x).tmod (m.tasks.length:Int)=(tq:Int)/\IntKind.i64.wrap (((k:Int)+x).tmod (m.tasks.length:Int))=(tq:Int):=rem_idx ht (by omega) (by omega);refine zf 3 zH ?_;refine zf 7 zH ?_;simp only [za,ED];refine zf 8 zH ?_;simp only [za,ED];refine Fk (by kernel_rfl) ?_ _;go_wp2;go_meet;exact ⟨tq,rfl,f0,D,(zp.of_ext (X:=fun b=>b=gd) (zb.refl wk).drew).grown e3 (fun b O _=>(Option.some.inj O).symm)⟩
   case rest=>
    obtain ⟨tq,rfl,e9,D,a4⟩:=hcut;obtain ⟨w5,rfl⟩:∃w5:World,w5=wc:=⟨_,rfl⟩;have d9:zp (fun b=>b=gd\/b=go) w3 w5:=Q.out.trans (a4.out.wide (X':=fun b=>b=gd\/b=go) (fun _ h=>.inl h)) (fun _ _ h=>h);have o:Hid (CPL w w5 go (gd+1) ps):=hC.out.keep a4.out (fun b h1 h2=>by omega) (((zp.of_ext (X:=fun b=>w.heap.size<=b) hC.out.ext).trans a4.out (fun b _ O=>by have h1:=z.out;have h2:=I.out;show w.heap.size<=b;omega)).below (EG _) (fun _ h=>h));have a6:tq<ps.length:=by rw [a0.out];exact e9
    obtain ⟨uq,g9,h4,e5⟩:=o.out.at_ a6;have c5:ps.getD tq []=ps[tq]:=zgd a6
    have g5:=zh (laid_lens0 hL.out);obtain ⟨q,hq⟩:=zad (ps[tq]);rw [<-hq] at e5 c5;have j4:=zh c5;obtain ⟨Aq,cq,rfl,-,-⟩:=e5;have j0:(tq:Int)<(m.tasks.length:Int):=by omega
    have i0:(0:Int)<=(tq:Int):=by omega
    have E:=zh d9;clear hC Q a4 c5 hq;have h8:Hid (∀W,W=w5->zp (fun b=>b=gd\/b=go) w3 W):=fun W h=>by rw [h];exact E.out
    by_cases hw:(tq:Int)=wo
    ·have hd:((tq:Int)==wo)=true:=by rw [beq_iff_eq];exact hw
     clear hw
     go_wp2_with fail
     go_roundw
     case rel=>exact ⟨k+1,ps,by go_num,by omega,o.out,hL.out,hW.out,D.out,E.out⟩
     case measure=>simp [intOf];omega
    ·have hd:((tq:Int)==wo)=false:=by rw [ET];exact hw
     have f9:=zh hw;clear hw;by_cases T:q=[]
     ·have e7:¬ ((0:Int)<(q.length:Int)):=by rw [T];simp
      have e8:q.length=0:=by rw [T];rfl
      have HP:=zh (qpath_calls (fixed:=ps) (tq:Int) w5 (HM.out.below o.out.ext) HL.out (by have h:=o.out.intss m.tasks.length (by rw [a0.out];exact EG _);exact h) (by have:=a0.out;omega) (fun x hx=>by have:=g5.out x hx;omega));have d5:=a0.out;rw [d5] at HP;clear e7 T d5
      go_wp2_with fail
      refine HP.out.mono ?_;rintro e w6 ⟨v6,rfl,a3⟩;have b5:=zh a3.ints;have b6:Hid (zb w5 w6):=a3.ext;obtain ⟨A6,c6,rfl,-⟩:=a3.slice;have b3:=zh (o.out.more b6.out);have b0:=zh (D.out.ext b6.out o.out.ext.size);have a8:Hid (zp (fun b=>b=gd\/b=go) w3 w6):=E.out.trans (zp.of_ext (X:=fun b=>b=gd\/b=go) b6.out) (fun _ _ h=>h);obtain ⟨po,c4⟩:=zad (BM m (tq:Int) ps);rw [<-c4] at b5⊢;have g3:=zh c4;clear a3 c4 HP g9 h4
      cases po with
      | none=>
       simp only [Option.isSome_none,Option.getD_none,zac]
       go_wp2_with fail
       go_roundw
       case rel=>exact ⟨k+1,ps,by go_num,by omega,b3.out,hL.out,hW.out,b0.out,a8.out⟩
       case measure=>simp [intOf];omega
      | some p=>
       simp only [Option.isSome_some,Fl] at b5⊢;have f7:=zh (laid_set hL.out a6 g3.out.symm);obtain ⟨uo,i3,i4,-⟩:=b3.out.at_ a6;have b2:w.heap.size<=go:=by have h1:=V.out;have h2:=z.out;have h3:=I.out;omega
       have f5:Hid (CPL w (w6.setCell ⟨go,tq,none⟩ (.slice A6 p.length c6)) go (gd+1) (ps.set tq p)):=b3.out.set tq b2 (b5.out.weaken fun b O=>by have h1:=o.out.lt;have h2:=V.out;omega)
       have g4:Hid (∀t:Nat,(t:Int)=wo->(ps.set tq p).getD t []=[]):=fun t f1=>by
        rw [DH,if_neg (by rintro ⟨h1,-⟩;exact f9.out (by rw [h1];exact f1))];exact hW.out t f1
       have c9:Hid (zT w.heap.size (w6.setCell ⟨go,tq,none⟩ (.slice A6 p.length c6)) gd):=b0.out.keep ((Below.refl _ w6).setCell (p:=⟨go,tq,none⟩) b2 _) (EP w6 ⟨go,tq,none⟩ _ gd (by have h2:=V.out;show gd≠go;omega));have c8:Hid (zp (fun b=>b=gd\/b=go) w3 (w6.setCell ⟨go,tq,none⟩ (.slice A6 p.length c6))):=a8.out.set go tq _ (.inr rfl)
       go_wp2_with fail
       go_roundw
       case rel=>exact ⟨k+1,ps.set tq p,by go_num,by omega,f5.out,f7.out,g4.out,c9.out,c8.out⟩
       case measure=>simp [intOf];omega
     ·have e7:(0:Int)<(q.length:Int):=by
       have:q.length≠0:=fun h=>T (EX h)
       omega
      have e8:0<q.length:=by omega
      clear T
      go_wp2_with fail
      go_roundw
      case rel=>exact ⟨k+1,ps,by go_num,by omega,o.out,hL.out,hW.out,D.out,E.out⟩
      case measure=>simp [intOf];omega
  ·obtain rfl:k=m.tasks.length:=by omega
   have b4:=zh hC.out
   go_wp2_with fail
   go_ret;refine ⟨go,ps,rfl,⟨b4.out.ext,?_,?_⟩,hL.out,hW.out⟩
   ·have h1:=b4.out.lo;have h2:=z.out;have h3:=I.out;omega
   ·obtain ⟨vs,O,h5,he⟩:=b4.out.row;exact ⟨vs,O,h5,fun i x hx=>by obtain ⟨u,hu,hi⟩:=he i x hx;exact ⟨u,hu,hi.weaken fun b O=>⟨O.1,by have h2:=z.out;have h3:=I.out;omega⟩⟩⟩
end
section
open Go.RowKit
structure J6 (B:Nat) (w0:World) (ge n t:Nat) (e:Nat->Bool) (v:Nat->Value) (W:World):Prop where
 gb:w0.grownBy W (some ge)
 dr:zT B W ge
 v0:e 0=true->∃g a b c,v 0=.slice (some ⟨g,0,none⟩) 3 3/\w0.heap.size<=g/\zk W g 9 #[.string a,.string b,.string c]
 v1:e 1=true->v 1=.int .i64 (t:Int)
 v2:e 2=true->∃g a b c,v 2=.pointer (some ⟨g,t,none⟩)/\w0.heap.size<=g/\zk W g 9 #[.string a,.string b,.string c]
 v3:e 3=true->∃s,v 3=.string s
 v4:e 4=true->v 4=.pointer (some ⟨ge,0,none⟩)
 v5:e 5=true->v 5=.int .i64 (n:Int)
 v6:e 6=true->∃x,v 6=.int .i64 x/\0<=x/\x<(n:Int)
 v7:e 7=true->∃g x,v 7=.slice (some ⟨g,0,none⟩) 1 1/\w0.heap.size<=g/\zk W g 3 #[.int .i64 x]/\0<=x/\x<(n:Int)
 v8:e 8=true->v 8=.pointer (some ⟨ge,0,none⟩)
 v9:e 9=true->v 9=.int .i64 (n:Int)
 v10:e 10=true->∃x,v 10=.int .i64 x/\0<=x/\x<(n:Int)
 v11:e 11=true->∃g x,v 11=.slice (some ⟨g,0,none⟩) 1 1/\w0.heap.size<=g/\zk W g 3 #[.int .i64 x]/\0<=x/\x<(n:Int)
 ne:e 7=true->e 11=true->(v 7).ownBlock≠(v 11).ownBlock
 v12:e 12=true->v 12=.agg #[v 3,v 7,v 11]/\e 3=true/\e 7=true/\e 11=true
 v13:e 13=true->∃g,v 13=.pointer (some ⟨g,0,none⟩)/\w0.heap.size<=g/\(e 14=false->zk W g 56 #[.string ⟨#[]⟩,.slice none 0 0,.slice none 0 0])/\(e 14=true->zk W g 56 #[v 3,v 7,v 11])
 d14:e 14=true->e 12=true/\e 13=true
section
variable {B:Nat} {w0 W W':World} {ge n t:Nat} {e:Nat->Bool} {v:Nat->Value}
theorem J6.init (o:zT B w0 ge) (he:∀j∈[0,1,2,3,4,5,6,7,8,9,10,11,12,13,14],e j=false):J6 B w0 ge n t e v w0.drew:=
 ⟨⟨rfl,rfl,rfl,EG _,fun _ _ _=>rfl⟩,o,fun a=>ff (he 0 (by simp)) a,fun a=>ff (he 1 (by simp)) a,fun a=>ff (he 2 (by simp)) a,fun a=>ff (he 3 (by simp)) a,fun a=>ff (he 4 (by simp)) a,fun a=>ff (he 5 (by simp)) a,fun a=>ff (he 6 (by simp)) a,fun a=>ff (he 7 (by simp)) a,fun a=>ff (he 8 (by simp)) a,fun a=>ff (he 9 (by simp)) a,fun a=>ff (he 10 (by simp)) a,fun a=>ff (he 11 (by simp)) a,fun a=>ff (he 7 (by simp)) a,fun a=>ff (he 12 (by simp)) a,fun a=>ff (he 13 (by simp)) a,fun a=>ff (he 14 (by simp)) a⟩
theorem J6.move (h:J6 B w0 ge n t e v W) (gb:W.grownBy W' (some ge)) (dr:zT B W' ge) (o:∀g ty cs,w0.heap.size<=g->zk W g ty cs->zk W' g ty cs):J6 B w0 ge n t e v W':=
 ⟨h.gb.trans gb,dr,fun a=>let ⟨g,x,y,z,h1,h2,h3⟩:=h.v0 a;⟨g,x,y,z,h1,h2,o _ _ _ h2 h3⟩,h.v1,fun a=>let ⟨g,x,y,z,h1,h2,h3⟩:=h.v2 a;⟨g,x,y,z,h1,h2,o _ _ _ h2 h3⟩,h.v3,h.v4,h.v5,h.v6,
  fun a=>let ⟨g,x,h1,h2,h3,D⟩:=h.v7 a;⟨g,x,h1,h2,o _ _ _ h2 h3,D⟩,h.v8,h.v9,h.v10,fun a=>let ⟨g,x,h1,h2,h3,D⟩:=h.v11 a;⟨g,x,h1,h2,o _ _ _ h2 h3,D⟩,h.ne,h.v12,
  fun a=>let ⟨g,h1,h2,h3,D⟩:=h.v13 a;⟨g,h1,h2,fun b=>o _ _ _ h2 (h3 b),fun b=>o _ _ _ h2 (D b)⟩,h.d14⟩
theorem J6.hge (h:J6 B w0 ge n t e v W) (o:ge<w0.heap.size):w0.heap.size<=W.heap.size:=h.gb.size
theorem J6.alloc (h:J6 B w0 ge n t e v W) (z:B<=w0.heap.size) (o:Obj):J6 B w0 ge n t e v (W.alloc o):=
 h.move ⟨rfl,rfl,rfl,by simp,fun i E _=>EY _ _ _ E⟩ (h.dr.ext ((zb.refl _).alloc _) (EI z h.gb.size)) (fun g ty cs _ D=>D.alloc o)
theorem J6.call (h:J6 B w0 ge n t e v W) (D:ge<w0.heap.size) (gb:W.grownBy W' (some ge)) (dr:zT B W' ge):J6 B w0 ge n t e v W':=
 h.move gb dr (fun g ty cs z o=>(gb.block g (zd o) (fun e=>by injection e with e;omega)).trans o)
theorem J6.n12 (h:J6 B w0 ge n t e v W) (o:e 12=false):e 14=false:=notT (fun a=>(h.d14 a).1) o
theorem J6.n13 (h:J6 B w0 ge n t e v W) (o:e 13=false):e 14=false:=notT (fun a=>(h.d14 a).2) o
theorem J6.n3 (h:J6 B w0 ge n t e v W) (h3:e 3=false):e 12=false:=notT (fun a=>(h.v12 a).2.1) h3
theorem J6.n7 (h:J6 B w0 ge n t e v W) (h3:e 7=false):e 12=false:=notT (fun a=>(h.v12 a).2.2.1) h3
theorem J6.n11 (h:J6 B w0 ge n t e v W) (h3:e 11=false):e 12=false:=notT (fun a=>(h.v12 a).2.2.2) h3
theorem J6.s0 (h:J6 B w0 ge n t e v W) (o:B<=w0.heap.size) (a b c:ByteArray):J6 B w0 ge n t (Ao e 0 true) (Ao v 0 (.slice (some ⟨W.heap.size,0,none⟩) 3 3)) (W.alloc (.cells #[.string a,.string b,.string c] 9)):=
 let k:=h.alloc o (.cells #[.string a,.string b,.string c] 9)
 ⟨k.gb,k.dr,fun _=>⟨_,a,b,c,rfl,h.gb.size,zk.new _ _ _ rfl⟩,k.v1,k.v2,k.v3,k.v4,k.v5,k.v6,k.v7,k.v8,k.v9,k.v10,k.v11,k.ne,k.v12,k.v13,k.d14⟩
theorem J6.s1 (h:J6 B w0 ge n t e v W):J6 B w0 ge n t (Ao e 1 true) (Ao v 1 (.int .i64 (t:Int))) W:=
 ⟨h.gb,h.dr,h.v0,fun _=>rfl,h.v2,h.v3,h.v4,h.v5,h.v6,h.v7,h.v8,h.v9,h.v10,h.v11,h.ne,h.v12,h.v13,h.d14⟩
theorem J6.s2 (h:J6 B w0 ge n t e v W) {g:Nat} {a b c:ByteArray} (z:w0.heap.size<=g) (o:zk W g 9 #[.string a,.string b,.string c]):J6 B w0 ge n t (Ao e 2 true) (Ao v 2 (.pointer (some ⟨g,t,none⟩))) W:=
 ⟨h.gb,h.dr,h.v0,h.v1,fun _=>⟨g,a,b,c,rfl,z,o⟩,h.v3,h.v4,h.v5,h.v6,h.v7,h.v8,h.v9,h.v10,h.v11,h.ne,h.v12,h.v13,h.d14⟩
theorem J6.s3 (h:J6 B w0 ge n t e v W) (h3:e 3=false) (s:ByteArray):J6 B w0 ge n t (Ao e 3 true) (Ao v 3 (.string s)) W:=
 ⟨h.gb,h.dr,h.v0,h.v1,h.v2,fun _=>⟨s,rfl⟩,h.v4,h.v5,h.v6,h.v7,h.v8,h.v9,h.v10,h.v11,h.ne,fun a=>ff (b:=e 12) (h.n3 h3) a,fun a=>let ⟨g,h1,h2,o,z⟩:=h.v13 a;⟨g,h1,h2,o,fun b=>ff (b:=e 14) (h.n12 (h.n3 h3)) b⟩,h.d14⟩
theorem J6.s4 (h:J6 B w0 ge n t e v W):J6 B w0 ge n t (Ao e 4 true) (Ao v 4 (.pointer (some ⟨ge,0,none⟩))) W:=
 ⟨h.gb,h.dr,h.v0,h.v1,h.v2,h.v3,fun _=>rfl,h.v5,h.v6,h.v7,h.v8,h.v9,h.v10,h.v11,h.ne,h.v12,h.v13,h.d14⟩
theorem J6.s5 (h:J6 B w0 ge n t e v W):J6 B w0 ge n t (Ao e 5 true) (Ao v 5 (.int .i64 (n:Int))) W:=
 ⟨h.gb,h.dr,h.v0,h.v1,h.v2,h.v3,h.v4,fun _=>rfl,h.v6,h.v7,h.v8,h.v9,h.v10,h.v11,h.ne,h.v12,h.v13,h.d14⟩
theorem J6.s6 (h:J6 B w0 ge n t e v W) (z:ge<w0.heap.size) (gb:W.grownBy W' (some ge)) (dr:zT B W' ge) (D:0<=x) (o:x<(n:Int)):J6 B w0 ge n t (Ao e 6 true) (Ao v 6 (.int .i64 x)) W':=
 let k:=h.call z gb dr
 ⟨k.gb,k.dr,k.v0,k.v1,k.v2,k.v3,k.v4,k.v5,fun _=>⟨x,rfl,D,o⟩,k.v7,k.v8,k.v9,k.v10,k.v11,k.ne,k.v12,k.v13,k.d14⟩
theorem J6.s7 (h:J6 B w0 ge n t e v W) (E:B<=w0.heap.size) (D:e 7=false) (G:0<=x) (z:x<(n:Int)):J6 B w0 ge n t (Ao e 7 true) (Ao v 7 (.slice (some ⟨W.heap.size,0,none⟩) 1 1)) (W.alloc (.cells #[.int .i64 x] 3)):=
 let k:=h.alloc E (.cells #[.int .i64 x] 3)
 ⟨k.gb,k.dr,k.v0,k.v1,k.v2,k.v3,k.v4,k.v5,k.v6,fun _=>⟨_,x,rfl,h.gb.size,zk.new _ _ _ rfl,G,z⟩,k.v8,k.v9,k.v10,k.v11,fun _ b=>by
  obtain ⟨g,y,h1,_,h3,_⟩:=h.v11 b;show (Value.slice (some ⟨W.heap.size,0,none⟩) 1 1).ownBlock≠(v 11).ownBlock;rw [h1];intro e;have:=zd h3;have e:some W.heap.size=some g:=e;injection e with e;omega,fun a=>ff (b:=e 12) (h.n7 D) a,fun a=>let ⟨g,h1,h2,o,I⟩:=k.v13 a;⟨g,h1,h2,o,fun b=>ff (b:=e 14) (h.n12 (h.n7 D)) b⟩,k.d14⟩
theorem J6.s8 (h:J6 B w0 ge n t e v W):J6 B w0 ge n t (Ao e 8 true) (Ao v 8 (.pointer (some ⟨ge,0,none⟩))) W:=
 ⟨h.gb,h.dr,h.v0,h.v1,h.v2,h.v3,h.v4,h.v5,h.v6,h.v7,fun _=>rfl,h.v9,h.v10,h.v11,h.ne,h.v12,h.v13,h.d14⟩
theorem J6.s9 (h:J6 B w0 ge n t e v W):J6 B w0 ge n t (Ao e 9 true) (Ao v 9 (.int .i64 (n:Int))) W:=
 ⟨h.gb,h.dr,h.v0,h.v1,h.v2,h.v3,h.v4,h.v5,h.v6,h.v7,h.v8,fun _=>rfl,h.v10,h.v11,h.ne,h.v12,h.v13,h.d14⟩
theorem J6.s10 (h:J6 B w0 ge n t e v W) (z:ge<w0.heap.size) (gb:W.grownBy W' (some ge)) (dr:zT B W' ge) (D:0<=x) (o:x<(n:Int)):J6 B w0 ge n t (Ao e 10 true) (Ao v 10 (.int .i64 x)) W':=
 let k:=h.call z gb dr
 ⟨k.gb,k.dr,k.v0,k.v1,k.v2,k.v3,k.v4,k.v5,k.v6,k.v7,k.v8,k.v9,fun _=>⟨x,rfl,D,o⟩,k.v11,k.ne,k.v12,k.v13,k.d14⟩
theorem J6.s11 (h:J6 B w0 ge n t e v W) (E:B<=w0.heap.size) (D:e 11=false) (G:0<=x) (z:x<(n:Int)):J6 B w0 ge n t (Ao e 11 true) (Ao v 11 (.slice (some ⟨W.heap.size,0,none⟩) 1 1)) (W.alloc (.cells #[.int .i64 x] 3)):=
 let k:=h.alloc E (.cells #[.int .i64 x] 3)
 ⟨k.gb,k.dr,k.v0,k.v1,k.v2,k.v3,k.v4,k.v5,k.v6,k.v7,k.v8,k.v9,k.v10,fun _=>⟨_,x,rfl,h.gb.size,zk.new _ _ _ rfl,G,z⟩,fun a _=>by
  obtain ⟨g,y,h1,_,h3,_⟩:=h.v7 a;show (v 7).ownBlock≠(Value.slice (some ⟨W.heap.size,0,none⟩) 1 1).ownBlock;rw [h1];intro e;have:=zd h3;have e:some g=some W.heap.size:=e;injection e with e;omega,fun a=>ff (b:=e 12) (h.n11 D) a,fun a=>let ⟨g,h1,h2,o,I⟩:=k.v13 a;⟨g,h1,h2,o,fun b=>ff (b:=e 14) (h.n12 (h.n11 D)) b⟩,k.d14⟩
theorem J6.s12 (h:J6 B w0 ge n t e v W) (h3:e 3=true) (z:e 7=true) (o:e 11=true):J6 B w0 ge n t (Ao e 12 true) (Ao v 12 (.agg #[v 3,v 7,v 11])) W:=
 ⟨h.gb,h.dr,h.v0,h.v1,h.v2,h.v3,h.v4,h.v5,h.v6,h.v7,h.v8,h.v9,h.v10,h.v11,h.ne,fun _=>⟨rfl,h3,z,o⟩,h.v13,fun a=>⟨rfl,(h.d14 a).2⟩⟩
theorem J6.s13 (h:J6 B w0 ge n t e v W) (z:B<=w0.heap.size) (o:e 13=false):J6 B w0 ge n t (Ao e 13 true) (Ao v 13 (.pointer (some ⟨W.heap.size,0,none⟩))) (W.alloc (.cells #[.string ⟨#[]⟩,.slice none 0 0,.slice none 0 0] 56)):=
 let k:=h.alloc z (.cells #[.string ⟨#[]⟩,.slice none 0 0,.slice none 0 0] 56)
 ⟨k.gb,k.dr,k.v0,k.v1,k.v2,k.v3,k.v4,k.v5,k.v6,k.v7,k.v8,k.v9,k.v10,k.v11,k.ne,k.v12,fun _=>⟨_,rfl,h.gb.size,fun _=>zk.new _ _ _ rfl,fun b=>ff (b:=e 14) (h.n13 o) b⟩,fun a=>ff (b:=e 14) (h.n13 o) a⟩
theorem J6.s14 (h:J6 B w0 ge n t e v W) (hB:B<=w0.heap.size) (J:e 12=true) (M:e 13=true) {g:Nat} {x:Value} (hv:v 13=.pointer (some ⟨g,0,none⟩)) (U:w0.heap.size<=g) (T:zk W g 56 #[.string ⟨#[]⟩,.slice none 0 0,.slice none 0 0]) (hl:ge<w0.heap.size):
  J6 B w0 ge n t (Ao e 14 true) (Ao v 14 x) (((W.setCell ⟨g,0,none⟩ (v 3)).setCell ⟨g,1,none⟩ (v 7)).setCell ⟨g,2,none⟩ (v 11)):=by
 have D:∀g',g'≠g->(((W.setCell ⟨g,0,none⟩ (v 3)).setCell ⟨g,1,none⟩ (v 7)).setCell ⟨g,2,none⟩ (v 11)).heap[g']?=W.heap[g']?:=fun g' z=>
  (EP _ ⟨g,2,none⟩ _ g' z).trans ((EP _ ⟨g,1,none⟩ _ g' z).trans (EP _ ⟨g,0,none⟩ _ g' z))
 have I:∀g' ty cs,ty≠56->zk W g' ty cs->zk (((W.setCell ⟨g,0,none⟩ (v 3)).setCell ⟨g,1,none⟩ (v 7)).setCell ⟨g,2,none⟩ (v 11)) g' ty cs:=fun g' ty cs Q E=>(D g' (zk.ne_ E T Q)).trans E
 have o:Below B W (((W.setCell ⟨g,0,none⟩ (v 3)).setCell ⟨g,1,none⟩ (v 7)).setCell ⟨g,2,none⟩ (v 11)):=(((Below.refl B W).setCell (p:=⟨g,0,none⟩) (by show B<=g;omega) _).setCell (p:=⟨g,1,none⟩) (by show B<=g;omega) _).setCell (p:=⟨g,2,none⟩) (by show B<=g;omega) _;refine ⟨⟨h.gb.os,h.gb.tape,h.gb.output,EI h.gb.size o.size,fun i V G=>(D i (by omega)).trans (h.gb.block i V G)⟩,h.dr.keep o (D ge (by omega)),fun a=>?_,h.v1,fun a=>?_,h.v3,h.v4,h.v5,h.v6,fun a=>?_,h.v8,h.v9,h.v10,fun a=>?_,h.ne,h.v12,fun _=>⟨g,hv,U,fun a=>(by cases a),fun _=>?_⟩,fun _=>⟨J,M⟩⟩
 ·obtain ⟨g',a1,b1,c1,h1,h2,h3⟩:=h.v0 a;exact ⟨g',a1,b1,c1,h1,h2,I _ _ _ (by decide) h3⟩
 ·obtain ⟨g',a1,b1,c1,h1,h2,h3⟩:=h.v2 a;exact ⟨g',a1,b1,c1,h1,h2,I _ _ _ (by decide) h3⟩
 ·obtain ⟨g',x',h1,h2,h3,O⟩:=h.v7 a;exact ⟨g',x',h1,h2,I _ _ _ (by decide) h3,O⟩
 ·obtain ⟨g',x',h1,h2,h3,O⟩:=h.v11 a;exact ⟨g',x',h1,h2,I _ _ _ (by decide) h3,O⟩
 ·exact ((T.set (k:=0) (v 3)).set (k:=1) (v 7)).set (k:=2) (v 11)
theorem own1 {W:World} {S g:Nat} (o:zk W g 3 #[.int .i64 x]) (z:S<=g):zD W S (.slice (some ⟨g,0,none⟩) 1 1) [x]:=
 ⟨rfl,.inr ⟨g,1,#[.int .i64 x],rfl,z,o,EG _,by unfold maxLen;omega,rfl,rfl⟩⟩
theorem J6.fin {S:Nat} (h:J6 B w0 ge n t (fun _=>true) v W) (hB:B<=S) (hS:S<=w0.heap.size) (Q:S<=ge):∃s g7 g11 gt x1 x2,v 3=.string s/\v 7=.slice (some ⟨g7,0,none⟩) 1 1/\v 11=.slice (some ⟨g11,0,none⟩) 1 1/\v 13=.pointer (some ⟨gt,0,none⟩)/\
  R1 B W S ge gt n s (.slice (some ⟨g7,0,none⟩) 1 1) (.slice (some ⟨g11,0,none⟩) 1 1) [x1] [x2]:=by
 obtain ⟨s,U⟩:=h.v3 rfl;obtain ⟨g7,x1,z,V,I,J⟩:=h.v7 rfl;obtain ⟨g11,x2,D,a0,M,O⟩:=h.v11 rfl;obtain ⟨gt,E,T,_,o⟩:=h.v13 rfl;have o:=o rfl;have G:=h.ne rfl rfl;rw [U,z,D] at o;rw [z,D] at G;refine ⟨s,g7,g11,gt,x1,x2,U,z,D,E,hB,EI hS h.gb.size,h.dr,Q,o,by omega,own1 I (by omega),own1 M (by omega),.inr G,by simp,by simp,fun y hy=>?_⟩;rcases hy with hy | hy
 ·rw [Fo] at hy;rw [hy];exact J
 ·rw [Fo] at hy;rw [hy];exact O
end
structure MadeM (m:MZ):Prop where
 good:zC m
 w:2<=m.w/\m.w<=4
 h:1<=m.h/\m.h<=4
 l:1<=m.l/\m.l<=2
 n:2<=m.n/\m.n<=16
 tk:1<=m.tasks.length/\m.tasks.length<=3
 te:∀t∈m.tasks,(t.1≠[]/\t.2≠[])/\t.1.length<=2/\t.2.length<=2
 lens:Lens m
theorem dims {W H L:Int} (hW:2<=W/\W<=4) (D:1<=H/\H<=4) (o:L=1\/(L=2/\W<=3/\H<=2)):2<=W*H/\W*H<=16/\2<=W*H*L/\W*H*L<=16:=by
 have h1:W=2\/W=3\/W=4:=by omega
 have h2:H=1\/H=2\/H=3\/H=4:=by omega
 rcases h1 with rfl | rfl | rfl <;> rcases h2 with rfl | rfl | rfl | rfl <;> rcases o with rfl | ⟨rfl,h3,z⟩ <;> omega
theorem chooseL {β:Type} {p:Nat->β->Prop}:∀(n:Nat),(∀i,i<n->∃b,p i b)->∃l:List β,l.length=n/\∀i b,l[i]?=some b->p i b
 | 0,_=>⟨[],rfl,fun i b h=>by simp at h⟩
 | n+1,h=>by
  obtain ⟨l,D,h1⟩:=chooseL n (fun i hi=>h i (by omega));obtain ⟨b,E⟩:=h n (by omega);refine ⟨l++[b],by simp [D],fun i x o=>?_⟩;rcases Fc i l.length with hi | hi
  ·rw [EL hi] at o;exact h1 i x o
  ·have z:i=l.length:=by
    rcases Fc i (l++[b]).length with h2 | h2
    ·simp at h2;omega
    ·rw [EZ h2] at o;cases o
   subst z;rw [EM (EG _),Nat.sub_self] at o;have:b=x:=by simpa using o
   subst this;rw [D];exact E
structure RU (w1:World) (B:Nat) (w:World) (S gm gd:Nat) (W H L:Int) (n tF tT:Nat) (vF vU vT:Value) (fs ts:List Value) (us:List Bool):Prop where
 hB:B=w1.heap.size
 hBS:B<=S
 ms:MS B w S gm gd W H L n tF tT vF vU vT fs ts
 ow:OwnB w S vU us
 ex:zb w1 w
section
variable {w1 w w':World} {B S gm gd:Nat} {W H L:Int} {n tF tT:Nat} {vF vU vU' vT:Value} {fs ts:List Value} {us:List Bool}
theorem RU.ext (h:RU w1 B w S gm gd W H L n tF tT vF vU vT fs ts us) (o:zb w w'):RU w1 B w' S gm gd W H L n tF tT vF vU vT fs ts us:=
 ⟨h.hB,h.hBS,h.ms.extS o,AK h.ow fun g z=>o.block g (World.ownsRow.lt h.ow g z).2,h.ex.trans o⟩
theorem RU.drawn (h:RU w1 B w S gm gd W H L n tF tT vF vU vT fs ts us) (G:zT B w' gd) (z:w.grownBy w' (some gd)):RU w1 B w' S gm gd W H L n tF tT vF vU vT fs ts us:=by
 obtain ⟨cs,E⟩:=h.ms.dr.blk;refine ⟨h.hB,h.hBS,h.ms.drawn G z,AK h.ow fun g o=>z.block g (World.ownsRow.lt h.ow g o).2 (fun e=>?_),Below.grown h.ex z h.ex.size (fun k D=>by injection D with D;have:=h.ms.dr.1;have:=h.hB;omega)⟩;injection e with e;exact zm h.ow E (by decide) (o.trans (congrArg some e))
theorem RU.add (h:RU w1 B w S gm gd W H L n tF tT vF vU vT fs ts us) {x:Bool} {w5:World} {o:Obj} (D:w5.ownsRow S 4 1 vU' (us.length+1) (us.map Value.bool++[.bool x])) (z:(w.alloc o).grownBy w5 vU.ownBlock):
  RU w1 B (w5.setCell ⟨gm,4,none⟩ vU') S gm gd W H L n tF tT vF vU' vT fs ts (us++[x]):=by
 obtain ⟨h1,h2,h3⟩:=h.ms.addU h.hBS h.ow D z;exact ⟨h.hB,h.hBS,h1,h2,Below.trans h.ex (h.hB ▸ h3)⟩
theorem RU.maze {t:Nat} (h:RU w1 B w S gm gd W H L n t t vF vU vT fs ts us) (hW:2<=W/\W<=4) (hH:1<=H/\H<=4) (hL:L=1\/(L=2/\W<=3/\H<=2)) (V:(n:Int)=W*H*L) (ht:1<=t/\t<=3) (hu:us.length=n):
  ∃m,zw w (fun b=>B<=b) (.agg #[.int .i64 W,.int .i64 H,.int .i64 L,vF,vU,vT]) m/\MadeM m:=by
 obtain ⟨d1,d2,d3,d4⟩:=dims hW hH hL
 obtain ⟨fr,U,Q⟩:=chooseL (p:=fun j (l:List Bool)=>∃u,fs[j]?=some u/\BB w (fun b=>B<=b) u l/\l.length=n) t (fun j o=>by
  obtain ⟨u,h1,l,h2,h3,_⟩:=h.ms.fd j o;exact ⟨l,u,h1,h2.bools,h3⟩)
 obtain ⟨tk,a0,D⟩:=chooseL (p:=fun j (l:List Int×List Int)=>∃s u1 u2,ts[j*3]?=some (.string s)/\ts[j*3+1]?=some u1/\ts[j*3+2]?=some u2/\zj w (fun b=>B<=b) u1 l.1/\zj w (fun b=>B<=b) u2 l.2/\(l.1≠[]/\l.2≠[])/\(l.1.length<=2/\l.2.length<=2)/\(∀x,x∈l.1\/x∈l.2->0<=x/\x<(n:Int))) t (fun j o=>by
  obtain ⟨s,u1,u2,h1,h2,h3,l1,l2,G,I,J,M,O,_⟩:=h.ms.td j o;exact ⟨(l1,l2),s,u1,u2,h1,h2,h3,AI.of_own G,AI.of_own I,J,M,O⟩)
 have E:∀x∈tk,∃j,tk[j]?=some x:=fun x z=>by
  obtain ⟨j,o,rfl⟩:=Fm z;exact ⟨j,EE o⟩
 have hg:zC ⟨W,H,L,fr,us,tk⟩:=by
  refine ⟨⟨by show 1<=W;omega,by show W<=300;omega,by show 1<=H;omega,by show H<=300;omega,by show 1<=L;omega,by show L<=300;omega,by show W*H*L<=300;omega,?_⟩,?_,?_,?_,?_⟩
  ·show (us.length:Int)=W*H*L;rw [hu,V]
  ·show fr.length=tk.length;omega
  ·intro f hf;obtain ⟨j,o,rfl⟩:=Fm hf;obtain ⟨u,_,_,h3⟩:=Q j _ (EE o);show ((fr[j]).length:Int)=W*H*L;rw [h3,V]
  ·show tk.length<=6;omega
  ·intro x z y hy;obtain ⟨j,o⟩:=E x z;obtain ⟨s,u1,u2,h1,h2,h3,G,I,J,M,O⟩:=D j x o;have:=O y hy;show 0<=y/\y<W*H*L;rw [<-V];exact this
 refine ⟨⟨W,H,L,fr,us,tk⟩,⟨vF,vU,vT,rfl,?_,?_,?_⟩,⟨hg,hW,hH,by show 1<=L/\L<=2;omega,by show 2<=W*H*L/\W*H*L<=16;omega,by show 1<=tk.length/\tk.length<=3;omega,fun x z=>?_,⟨by show fr.length<=_;omega,by show us.length<=_;omega,by show tk.length<=_;omega,fun x z=>?_⟩⟩⟩
 ·refine ⟨fs,by show AI w _ 1 vF fr.length fs;rw [U];exact AI.of_own h.ms.F,fun i x z=>?_⟩;obtain ⟨u,h1,h2,_⟩:=Q i x z;exact ⟨u,h1,h2⟩
 ·exact (OwnB.bools h.ow).weaken fun b hb=>EI h.hBS hb
 ·refine ⟨ts,by show AI w _ 3 vT tk.length ts;rw [a0];exact AI.of_own h.ms.T,fun i x z=>?_⟩;obtain ⟨s,u1,u2,h1,h2,h3,G,I,_⟩:=D i x z;exact ⟨s,u1,u2,h1,h2,h3,G,I⟩
 ·obtain ⟨j,o⟩:=E x z;obtain ⟨s,u1,u2,h1,h2,h3,G,I,J,M,O⟩:=D j x o;exact ⟨J,M⟩
 ·obtain ⟨j,o⟩:=E x z;obtain ⟨s,u1,u2,h1,h2,h3,G,I,J,M,O⟩:=D j x o;exact ⟨by omega,by omega⟩
end
theorem DF {P:World->Prop} {W:World} {g2:Nat} {t:TypeId} {a b c d e f z0 z1 z2 z3 z4 z5:Value} (h:∀WZ,zk WZ g2 t #[a,b,c,d,e,f]->Below g2 W WZ->(∀k,k<W.heap.size->k≠g2->WZ.heap[k]?=W.heap[k]?)->P WZ) (D:zk W g2 t #[z0,z1,z2,z3,z4,z5]):
  P ((((((W.setCell ⟨g2,0,none⟩ a).setCell ⟨g2,1,none⟩ b).setCell ⟨g2,2,none⟩ c).setCell ⟨g2,3,none⟩ d).setCell ⟨g2,4,none⟩ e).setCell ⟨g2,5,none⟩ f):=by
 refine h _ ?_ ((((((Below.refl g2 W).setCell (p:=⟨g2,0,none⟩) (EG _) _).setCell (p:=⟨g2,1,none⟩) (EG _) _).setCell (p:=⟨g2,2,none⟩) (EG _) _).setCell (p:=⟨g2,3,none⟩) (EG _) _).setCell (p:=⟨g2,4,none⟩) (EG _) _ |>.setCell (p:=⟨g2,5,none⟩) (EG _) _) fun k _ o=>?_
 ·have z:=(((((D.set (k:=0) a).set (k:=1) b).set (k:=2) c).set (k:=3) d).set (k:=4) e).set (k:=5) f;exact z
 ·exact (EP _ ⟨g2,5,none⟩ _ k o).trans ((EP _ ⟨g2,4,none⟩ _ k o).trans ((EP _ ⟨g2,3,none⟩ _ k o).trans ((EP _ ⟨g2,2,none⟩ _ k o).trans ((EP _ ⟨g2,1,none⟩ _ k o).trans (EP _ ⟨g2,0,none⟩ _ k o)))))
def SB (w W:World):Prop:=∀g ty cs,zk w g ty cs->ty≠4->W.heap[g]?=w.heap[g]?
theorem SB.rule {w:World} {g:Nat} {ty:TypeId} {v:Value} (z:zk w g ty cs) (o:ty≠4) (D:w.cell? ⟨g,k,none⟩=some v):∀W,SB w W->W.cell? ⟨g,k,none⟩=some v:=
 fun W h=>(EV (a:=⟨g,k,none⟩) (h g ty cs z o)).trans D
theorem SB.set {w W:World} {g:Nat} (h:SB w W) (D:zk w g 4 cs) (x:Value):SB w (W.setCell ⟨g,k,none⟩ x):=
 fun g' ty' cs' o z=>(EP W ⟨g,k,none⟩ x g' (zk.ne_ o D z)).trans (h g' ty' cs' o z)
theorem SB.drew (w:World):SB w w.drew:=fun _ _ _ _ _=>rfl
def Br (w:World) (e:Ending) (w':World):Prop:=∃v' m,e=.returned v'/\zb w w'/\zw w' (fun b=>w.heap.size<=b) v' m/\MadeM m
end
end Go.Proofs.YthbjngbhbbkkgaaGreat
