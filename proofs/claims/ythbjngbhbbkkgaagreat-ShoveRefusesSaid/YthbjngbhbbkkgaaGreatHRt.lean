import Derived.Test.YthbjngbhbbkkgaaGreatHRs
import Derived.Deep.DeepCutAuto
set_option linter.unusedVariables false
set_option linter.unusedSimpArgs false
set_option maxRecDepth 100000
set_option maxHeartbeats 16000000
namespace Go.Proofs.YthbjngbhbbkkgaaGreat
variable {ps:List (List Int)} {p:List Int} {m:MZ} {b c c' k n off:Nat} {ok:Nat->Prop} {w:World}
section
open Go.RowKit
attribute [local go_sem ↓] Go.wp_at_zero Go.wp_at_succ
theorem boolss_slice1 {l:List (List Bool)} (h:Bj w ok (.slice (some ⟨b,off,none⟩) n c) l) (B:k<l.length) (G:1<=c'):Bj w ok (.slice (some ⟨b,off+k,none⟩) 1 c') [l.getD k []]:=by
 obtain ⟨vs,⟨A,c0,e,_,M,J⟩,he⟩:=h;injection e with e1 e2 e3;subst e2 e3;obtain ⟨b0,off0,e0,E,o⟩:=J (by omega);rw [<-e1] at e0;injection e0 with e0;injection e0 with e4 e5;subst e4 e5;obtain ⟨u,L,I⟩:=he k _ (EE B);refine ⟨[u],⟨_,c',rfl,G,rfl,fun _=>⟨b,off+k,rfl,E,fun j x z=>?_⟩⟩,fun i x z=>?_⟩
 ·match j,z with
  | 0,z=>
   have:x=u:=by simpa using z.symm
   rw [this];exact o k u L
 ·match i,z with
  | 0,z=>
   have:x=l.getD k []:=by simpa using z.symm
   rw [this,EF,EE B];exact ⟨u,rfl,I⟩
theorem tasks_slice1 {l:List (List Int×List Int)} (h:BU w ok (.slice (some ⟨b,off,none⟩) n c) l) (B:k<l.length) (G:1<=c'):BU w ok (.slice (some ⟨b,off+k*3,none⟩) 1 c') [l.getD k ([],[])]:=by
 obtain ⟨vs,⟨A,c0,e,_,J,I⟩,he⟩:=h;injection e with e1 e2 e3;subst e2 e3;obtain ⟨b0,off0,e0,E,o⟩:=I (by omega);rw [<-e1] at e0;injection e0 with e0;injection e0 with e4 e5;subst e4 e5;obtain ⟨s,u1,u2,h0,h1,h2,i1,i2⟩:=he k _ (EE B);refine ⟨[.string s,u1,u2],⟨_,c',rfl,G,rfl,fun _=>⟨b,off+k*3,rfl,E,fun j x z=>?_⟩⟩,fun i x z=>?_⟩
 ·have q0:=o _ _ h0;have q1:=o _ _ h1;have q2:=o _ _ h2
  match j,z with
  | 0,z=>
   have:x=.string s:=by simpa using z.symm
   rw [this];exact q0
  | 1,z=>
   have:x=u1:=by simpa using z.symm
   rw [this,Nat.add_assoc];exact q1
  | 2,z=>
   have:x=u2:=by simpa using z.symm
   rw [this,Nat.add_assoc];exact q2
 ·match i,z with
  | 0,z=>
   have:x=l.getD k ([],[]):=by simpa using z.symm
   rw [this,EF,EE B];exact ⟨s,u1,u2,rfl,rfl,rfl,i1,i2⟩
theorem ints_of_cell {v:Value} {g:Nat} (z:w.cell? ⟨g,0,none⟩=some v) (h:zj w ok v p) (h1:1<=c):zv w (fun _=>True) (.slice (some ⟨g,0,none⟩) 1 c) [p]:=by
 refine ⟨[v],⟨_,c,rfl,h1,rfl,fun _=>⟨g,0,rfl,trivial,fun j x o=>?_⟩⟩,fun i x o=>?_⟩
 ·match j,o with
  | 0,o=>
   have:x=v:=by simpa using o.symm
   rw [this];exact z
 ·match i,o with
  | 0,o=>
   have:x=p:=by simpa using o.symm
   rw [this];exact ⟨v,rfl,h.weaken fun _ _=>trivial⟩
def Cf (m:MZ) (ps:List (List Int)) (k:Nat):Bool:=((List.range k).all (laidK m ps)) && decide (ps.take k).flatten.Nodup
theorem laidTo_false (B:k<=ps.length) (h:Cf m ps k=false):By m ps=false:=by
 unfold Cf at h;unfold By;rw [Bool.and_eq_false_iff] at h;rcases h with h | h
 ·have:(List.range ps.length).all (laidK m ps)=false:=by
   rw [Bool.eq_false_iff] at h⊢;intro h2;rw [FN] at h2;exact h (FN.2 fun x z=>h2 x (FI.2 (by have:=FI.1 z;omega)))
  rw [this];simp
 ·have:¬ ps.flatten.Nodup:=fun o=>by
   rw [Fd] at h;apply h;have e:ps.flatten=(ps.take k).flatten++(ps.drop k).flatten:=by rw [<-List.flatten_append,List.take_append_drop]
   rw [e,List.nodup_append] at o;exact o.1
  rw [EK this];simp
theorem laidB_of (h0:AO m=0) (h1:ps.length=m.tasks.length) (h:Cf m ps ps.length=true):By m ps=true:=by
 unfold Cf at h;unfold By;rw [ER] at h;rw [EJ h0,EJ h1,h];rfl
theorem laidB_chk (h:AO m≠0\/ps.length≠m.tasks.length):By m ps=false:=by
 unfold By;rcases h with h | h
 ·rw [EK h];simp
 ·rw [EK h];simp
theorem flat_succ (o:k<ps.length):(ps.take (k+1)).flatten=(ps.take k).flatten++ps[k]:=by
 rw [EN o,List.flatten_append];simp
theorem ownM_lens (B:Lens m) (k:Nat):Lens (ownM m k):=by
 refine ⟨by simp [ownM],B.up,by simp [ownM],fun t E=>?_⟩;have o:t=m.tasks.getD k ([],[]):=by simpa [ownM] using E
 subst o;by_cases z:k<m.tasks.length
 ·rw [EF,EE z];exact B.tl _ (EH z)
 ·rw [EF,EZ (by omega)];simp
theorem laidTo_succ (h:Cf m ps k=true) (o:(ps.take (k+1)).flatten=(ps.take k).flatten++p) (z:laidK m ps k=true) (B:((ps.take k).flatten++p).Nodup):Cf m ps (k+1)=true:=by
 unfold Cf at h⊢;rw [o,List.range_succ,List.all_append,List.all_cons,List.all_nil,z,EJ B];rw [ES] at h;rw [h.1];rfl
theorem laidTo_no (o:(ps.take (k+1)).flatten=(ps.take k).flatten++p) (h:laidK m ps k=false\/¬ ((ps.take k).flatten++p).Nodup):Cf m ps (k+1)=false:=by
 unfold Cf;rcases h with h | h
 ·rw [List.range_succ,List.all_append,List.all_cons,h];simp
 ·rw [o,EK h];simp
theorem laidTo_nd (h:Cf m ps k=true):(ps.take k).flatten.Nodup:=by
 unfold Cf at h;rw [ES] at h;exact zaa h.2
theorem laid_calls {okm okf:Nat->Prop} {v vf:Value} (w:World) (hm:zw w okm v m) (hl:Lens m) (hf:zv w okf vf ps) (n3:ps.length<=20000000000000) (f6:∀x∈ps,x.length<=20000000000000):
  Calls Tryz.prog 11 #[v,vf] w fun e w'=>e=.returned (.bool (By m ps))/\zb w w':=by
 have i9:=zh hm;have HL:=zh hl;have i3:=zh f6;obtain ⟨Af,cf,Au,cu,At,ct,rfl,d4,g5,d5⟩:=hm.parts;have e6:=zh d4;have i8:=zh g5;have e8:=zh d5;have m6:m.free.length<=cf:=by obtain ⟨_,⟨_,_,e,h,-⟩,-⟩:=d4;injection e with e1 e2 e3;subst e3;exact h
 have m8:m.tasks.length<=ct:=by obtain ⟨_,⟨_,_,e,h,-⟩,-⟩:=d5;injection e with e1 e2 e3;subst e3;exact h
 obtain ⟨vfs,⟨A,c,rfl,l9,hr⟩,f4⟩:=hf;have HR:=zh hr;have i2:=zh f4;have l3:=hl.ts;clear hm hl hr f4 d4 d5 g5 f6;have n5:=@run_makeMap Tryz.prog
 go_enter Tryz.func11,Tryz.ntmps11
 go_wp2_with fail
 obtain ⟨c5,r0,r1,r2,r3,r4,r5⟩:=box6 w (.int .i64 m.w) (.int .i64 m.h) (.int .i64 m.l) (.slice Af m.free.length cf) (.slice Au m.up.length cu) (.slice At m.tasks.length ct);generalize w.alloc _=w1 at c5 r0 r1 r2 r3 r4 r5⊢;obtain ⟨gm,f9⟩:=zad w.heap.size;rw [<-f9] at r0 r1 r2 r3 r4 r5⊢;clear f9;have B:=zh c5;clear c5;have L:zb w1 w1:=zb.refl w1
 go_wp2_with fail
 refine (Bv w1 (i9.out.below B.out) HL.out).mono ?_;rintro e w2 ⟨rfl,j5⟩;clear L;have L:zb w1 w2:=j5;by_cases hc:AO m=0
 case neg=>
  have hd:(AO m != 0)=true:=by simpa using hc
  have HB:=zh (laidB_chk (ps:=ps) (.inl hc));clear hc;go_wp2;go_ret;exact ⟨ze HB.out.symm,B.out.trans L⟩
 have hd:(AO m != 0)=false:=by simpa using hc
 have HC:=zh hc;clear hc;by_cases b5:ps.length=m.tasks.length
 case neg=>
  have f3:((ps.length:Int) != (m.tasks.length:Int))=true:=by simp;omega
  have m9:((ps.length:Int)==(m.tasks.length:Int))=false:=by simp;omega
  have HB:=zh (laidB_chk (m:=m) (.inr b5));clear b5;go_wp2;go_ret;exact ⟨ze HB.out.symm,B.out.trans L⟩
 have f3:((ps.length:Int) != (m.tasks.length:Int))=false:=by simp;omega
 have G:=zh (zC.of HC.out);have c0:=zh b5;have n8:=G.out.tk;have n7:ps.length<=6:=by omega
 clear b5
 go_wp2_with fail
 have b4:Hid (RtI w2 (w2.alloc (.map #[] 0)) w2.heap.size []):=⟨(zb.refl w2).alloc _,EG _,[],zF.new w2,fun y=>Iff.rfl⟩;generalize w2.alloc (.map #[] 0)=w3 at b4⊢;obtain ⟨gs,g0⟩:=zad w2.heap.size;rw [<-g0] at b4⊢;clear g0;have Q:Hid (zb w1 w2):=L;clear L;go_loopw [25] (fun i wr=>∃k,k<=ps.length/\i=.int .i64 (k:Nat)/\Hid (RtI w2 wr gs (ps.take k).flatten)/\Hid (Cf m ps k=true)) (fun i _=>ps.length - (intOf i).toNat)
 case atStart=>exact ⟨0,EU _,rfl,b4,by show _=_;unfold Cf;rfl⟩
 clear b4
 case round=>
  obtain ⟨k,hk,rfl,hI,hT⟩:=hrel;obtain ⟨wk,rfl⟩:∃wk:World,wk=wr:=⟨_,rfl⟩;by_cases a0:k<ps.length
  ·obtain ⟨b,off,u,rfl,_,z,hu⟩:=Ai HR.out i2.out a0 a0;have E:wk.cell? ⟨b,off+k,none⟩=some u:=(B.out.trans (Q.out.trans hI.out.ext)).cell z;have h7:=i3.out _ (EH a0);have I:=zh (flat_succ a0);have g3:ps.getD k []=ps[k]:=zgd a0
   have U:Hid (laidK m ps k=(decide (ps[k]=[]) || AS (ownM m k) [ps[k]])):=by show _=_;unfold laidK;rw [g3]
   obtain ⟨p,hp⟩:=zad (ps[k]);rw [<-hp] at hu h7 I U;have HU:=zh (zj.below hu (B.out.trans (Q.out.trans hI.out.ext)));have j3:=zh hu;clear hp z g3 hu;obtain ⟨Ap,cp,rfl,m7⟩:∃Ap cp,u=.slice Ap p.length cp/\p.length<=cp:=by obtain ⟨A,c,e,h,-⟩:=HU.out;exact ⟨A,c,e,h⟩
   by_cases d6:p.length=0
   ·have J:p=[]:=List.length_eq_zero_iff.1 d6
    have j1:Hid (Cf m ps (k+1)=true):=by
     have h1:=hT.out;show _=_;unfold Cf at h1⊢;rw [I.out,J,List.append_nil,List.range_succ,List.all_append,List.all_cons,List.all_nil,U.out,EJ J];simpa using h1
    have i4:Hid (RtI w2 wk gs (ps.take (k+1)).flatten):=by rw [I.out,J,List.append_nil];exact hI.out
    have c7:((p.length:Int)==0)=true:=by simp [d6]
    clear J;have n4:(p.length:Int)=0:=by omega
    clear c7;go_wp2;go_roundw
    case rel=>exact ⟨k+1,by omega,by go_num,i4,j1⟩
    case measure=>simp [intOf];omega
   ·have c7:((p.length:Int)==0)=false:=ET.2 (by omega);have L:zb w1 wk:=Q.out.trans hI.out.ext;have c9:k<m.tasks.length:=Nat.lt_of_lt_of_eq a0 c0.out;have k4:k<m.free.length:=by rw [G.out.fl];exact c9
    obtain ⟨bt,offt,_,_,_,rfl,-⟩:=AJ e8.out c9
    obtain ⟨bf,offf,rfl⟩:∃bf offf,Af=some ⟨bf,offf,none⟩:=by
     obtain ⟨_,⟨_,_,e,_,hr⟩,_⟩:=e6.out;injection e with e1 e2 e3;obtain ⟨b,o,e0,-⟩:=hr.2 (by omega);exact ⟨b,o,e1.trans e0⟩
    have j7:(0:Int)<=(k:Int):=by omega
    have h4:=c0.out;have f5:=G.out.fl;have j8:(k:Int)+1<=(ct:Int):=by omega
    have j9:(k:Int)+1<=(cf:Int):=by omega
    have k1:(0:Int)<=(k:Int)+1:=by omega
    have g6:¬ ct=k:=by omega
    have g7:¬ cf=k:=by omega
    clear h4 f5;have k6:IntKind.i64.wrap ((k:Int)+1)=(k:Int)+1:=by rw [Fb];omega
    go_wp2_with fail
    have a9:=zh (zk.new wk #[.int .i64 m.w,.int .i64 m.h,.int .i64 m.l,.slice (some ⟨bf,offf,none⟩) m.free.length cf,.slice Au m.up.length cu,.slice (some ⟨bt,offt,none⟩) m.tasks.length ct] 32 (g:=wk.heap.size) rfl);have b1:zb wk (wk.alloc (.cells #[.int .i64 m.w,.int .i64 m.h,.int .i64 m.l,.slice (some ⟨bf,offf,none⟩) m.free.length cf,.slice Au m.up.length cu,.slice (some ⟨bt,offt,none⟩) m.tasks.length ct] 32)):=(zb.refl wk).alloc _;generalize wk.alloc _=w5 at a9 b1⊢;obtain ⟨g8,f7⟩:=zad wk.heap.size;rw [<-f7] at a9⊢;have d8:Hid (wk.heap.size<=g8):=by show _<=_;omega
    clear f7;have h8:zb w1 w5.drew:=(L.trans b1).drew;have k3:∀W,zb wk W->W.cell? ⟨gm,3,none⟩=some (.slice (some ⟨bf,offf,none⟩) m.free.length cf):=fun W h=>r3 W (L.trans h)
    have k5:∀W,zb wk W->W.cell? ⟨gm,5,none⟩=some (.slice (some ⟨bt,offt,none⟩) m.tasks.length ct):=fun W h=>r5 W (L.trans h)
    refine EW (S:=(fun W=>zb wk W)) Ag (b1.drew) fun zH=>?_;have c4:zb wk w5.drew:=zH;have a5:zk w5.drew g8 32 _:=a9.out;generalize w5.drew=wd at zH c4 a5 h8⊢;refine zf 0 zH ?_;refine zf 1 zH ?_;refine zf 2 zH ?_;refine zf 3 zH ?_;refine zf 4 zH ?_;refine zf 5 zH ?_;refine zf 6 zH ?_;refine zf 7 zH ?_;refine zf 8 zH ?_;refine zf 9 zH ?_;refine zf 10 zH ?_;refine zf 11 zH ?_;refine zf 12 zH ?_;refine zE 13 fun K hK=>?_;have l8:=a5.cell (k:=5) rfl;have n2:=a5.frozen 5;go_simp;have a4:=a5.set (k:=5) (.slice (some ⟨bt,offt+k*3,none⟩) 1 (ct - k));have b3:=c4.setCell (p:=⟨g8,5,none⟩) d8.out (.slice (some ⟨bt,offt+k*3,none⟩) 1 (ct - k));generalize wd.setCell ⟨g8,5,none⟩ (.slice (some ⟨bt,offt+k*3,none⟩) 1 (ct - k))=we at a4 b3⊢;refine zae hK (b3) fun zH=>?_;clear hK K
    refine zf 14 zH ?_;refine zE 15 fun K hK=>?_;have l7:=a4.cell (k:=3) rfl;have n1:=a4.frozen 3;go_simp;have b0:=zh (a4.set (k:=3) (.slice (some ⟨bf,offf+k,none⟩) 1 (cf - k)));have T:=zh (b3.setCell (p:=⟨g8,3,none⟩) d8.out (.slice (some ⟨bf,offf+k,none⟩) 1 (cf - k)));generalize we.setCell ⟨g8,3,none⟩ (.slice (some ⟨bf,offf+k,none⟩) 1 (cf - k))=wf at b0 T⊢;refine zae hK (T.out) fun zH=>?_;clear hK K;try simp only [za,ED]
    refine Fk (by kernel_rfl) ?_ _;clear a4 b3 a5 c4 zH;simp only [List.setIfInBounds_toArray,List.set_cons_zero,List.set_cons_succ] at b0;obtain ⟨m0,m1,m2,m3,m4,m5⟩:=zA b0.out;have f1:Hid (zb w wf):=B.out.trans (L.trans T.out);have d9:=zh (hI.out.more T.out);clear L h8 k3 k5 a9 b1 hI E
    go_wp2_with fail
    have c6:=zr wf (.slice Ap p.length cp) 23 (g:=wf.heap.size) rfl;have a7:zb wf (wf.alloc (.cells #[.slice Ap p.length cp] 23)):=(zb.refl wf).alloc _;generalize wf.alloc _=wg at c6 a7⊢;have a3:Hid (zb w wg):=f1.out.trans a7;have e5:=zh (d9.out.more a7)
    have e7:Hid (zw wg okm (.agg #[.int .i64 m.w,.int .i64 m.h,.int .i64 m.l,(.slice (some ⟨bf,offf+k,none⟩) 1 (cf - k)),.slice Au m.up.length cu,(.slice (some ⟨bt,offt+k*3,none⟩) 1 (ct - k))]) (ownM m k)):=
     ⟨_,_,_,rfl,boolss_slice1 (e6.out.below a3.out) k4 (by omega),i8.out.below a3.out,tasks_slice1 (e8.out.below a3.out) c9 (by omega)⟩
    have e9:=zh (ints_of_cell (c:=1) c6 (zj.below HU.out (zb.trans T.out a7)) (EG _));refine (right_calls wg e7.out (ownM_lens HL.out k) e9.out (by simp) (by intro x L;simp at L;subst L;exact h7)).mono ?_;rintro e w10 ⟨rfl,a6⟩;have f0:Hid (zb w w10):=a3.out.trans a6;have b7:=zh (e5.out.more a6);clear c6 a7 a6 e5 a3 d9 f1 m0 m1 m2 m3 m4 m5 e7 e9 b0 T;have J:decide (p=[])=false:=EK (fun e=>d6 (by rw [e];rfl));rw [J,Bool.false_or] at U;clear J j7 j8 j9 k1 g6 g7 k6 hd f3 c7
    cases b6:AS (ownM m k) [p] with
    | false=>
     have HB:=zh (laidTo_false (m:=m) (ps:=ps) (k:=k+1) (by omega) (laidTo_no I.out (.inl (U.out.trans b6))));clear b6;go_wp2;go_ret;exact ⟨ze HB.out.symm,f0.out⟩
    | true=>
     have i7:Hid (laidK m ps k=true):=U.out.trans b6;clear b6 U
     go_wp2_with fail
     go_loopw [55] (fun i wr=>∃j:Nat,j<=p.length/\i=.int .i64 (j:Nat)/\Hid (RtI w2 wr gs ((ps.take k).flatten++p.take j))/\Hid (((ps.take k).flatten++p.take j).Nodup)) (fun i _=>p.length - (intOf i).toNat)
     case atStart=>exact ⟨0,EU _,rfl,by show RtI _ _ _ _;have:=b7.out;simpa using this,by show List.Nodup _;simpa using laidTo_nd hT.out⟩
     clear b7
     case round=>
      obtain ⟨j,hj,rfl,hI,hN⟩:=hrel;obtain ⟨wi,rfl⟩:∃wi:World,wi=wr:=⟨_,rfl⟩;by_cases c8:j<p.length
      ·obtain ⟨A2,c2,e2,_,h5⟩:=j3.out;injection e2 with e2 e3 e4;subst e2 e4;clear e3;obtain ⟨b2,off2,rfl,_,z⟩:=zy h5 c8 c8;have E:wi.cell? ⟨b2,off2+j,none⟩=some (.int .i64 p[j]):=(B.out.trans (Q.out.trans hI.out.ext)).cell z;have O:Hid ((ps.take k).flatten++p.take (j+1)=((ps.take k).flatten++p.take j)++[p[j]]):=by show _=_;rw [EN c8,List.append_assoc]
       have b9:Hid (((ps.take k).flatten++p.take j)++[p[j]] <+: (ps.take k).flatten++p):=by
        show _ <+: _;rw [<-O.out];exact List.prefix_append_right_inj _ |>.2 (List.take_prefix _ _)
       obtain ⟨y,hy⟩:=zad (p[j]);rw [<-hy] at E O b9;obtain ⟨s,M,b8⟩:=hI.out.set;have a2:=zh b8;clear hy z h5 b8;by_cases a1:y∈s
       ·have g4:=lookM_t M a1
        have g9:¬ ((ps.take k).flatten++p).Nodup:=fun hn=>by
         have h2:=hn.sublist b9.out.sublist;rw [List.nodup_append] at h2;exact h2.2.2 y ((a2.out y).1 a1) y (by simp) rfl
        have HB:=zh (laidTo_false (m:=m) (ps:=ps) (k:=k+1) (by omega) (laidTo_no I.out (.inr g9)));have j4:=zh (B.out.trans (Q.out.trans hI.out.ext));clear a1 g9;go_wp2;go_ret;exact ⟨ze HB.out.symm,j4.out⟩
       ·have g4:=lookM_f M a1
        have j0:Hid (((ps.take k).flatten++p.take (j+1)).Nodup):=by
         show List.Nodup _;rw [O.out];exact nodup_snoc hN.out (fun h=>a1 ((a2.out y).2 h))
        clear a1
        go_wp2_with (at_mapUpdate;refine CC rfl _ _ _ _ rfl Tryz.underlying78 gs s y rfl rfl rfl M ?_)
        intro wa h6 f8
        have i5:Hid (RtI w2 wa gs ((ps.take k).flatten++p.take (j+1))):=by
         show RtI _ _ _ _;rw [O.out];exact hI.out.add a2.out h6 f8
        clear h6 f8 g4 M;go_wp2;go_roundw
        case rel=>exact ⟨j+1,by omega,by go_num,i5,j0⟩
        case measure=>simp [intOf];omega
      ·have j6:j=p.length:=by omega
       subst j6
       have i6:Hid (RtI w2 wi gs (ps.take (k+1)).flatten):=by
        show RtI _ _ _ _;have:=hI.out;rw [ER] at this;rw [I.out];exact this
       have j2:Hid (Cf m ps (k+1)=true):=laidTo_succ hT.out I.out i7.out (by have:=hN.out;rwa [ER] at this);go_wp2;go_roundw
       case rel=>exact ⟨k+1,by omega,by go_num,i6,j2⟩
       case measure=>simp [intOf];omega
  ·have k2:k=ps.length:=by omega
   subst k2;have HB:=zh (laidB_of HC.out c0.out hT.out);have HX:=zh (B.out.trans (Q.out.trans hI.out.ext));go_wp2;go_ret;exact ⟨ze HB.out.symm,HX.out⟩
end
section
open Go.RowKit
def StV (V:Nat->Value->World->Prop):Prop:=∀j x W W',zb W W'->V j x W->V j x W'
theorem StV.ext {V:Nat->Value->World->Prop} (h:StV V) {j:Nat} {x:Value} {W W':World} (o:zb W W') (z:V j x W):V j x W':=h j x W W' o z
structure JA (V:Nat->Value->World->Prop) (D:Nat->List Nat) (w9:World) (A:List Nat) (ja jf js:Nat) (gp:Value) (PA:Value->World->Prop) (PS:World->Prop) (e:Nat->Bool) (v:Nat->Value) (W:World):Prop where
 g:e ja=false->zb w9 W
 gv:e ja=false->∀j∈A,e j=true->V j (v j) W
 d:e ja=true->∀j∈A,e j=true
 m:e ja=true->e js=false->PA (v ja) W
 s:e js=true->e ja=true/\PS W
 f:e jf=true->v jf=gp
 c:∀j∈A,e j=true->∀d∈D j,d∈A/\e d=true
section
variable {V:Nat->Value->World->Prop} {D:Nat->List Nat} {w9 W W':World} {A:List Nat} {ja jf js:Nat} {gp:Value} {PA:Value->World->Prop} {PS:World->Prop} {e:Nat->Bool} {v:Nat->Value} {j:Nat} {x:Value}
theorem upd_true {e:Nat->Bool} {j d:Nat} (h:e d=true):Ao e j true d=true:=by
 by_cases o:d=j
 ·subst o;exact BI e d true
 ·rw [Ah e true o];exact h
theorem JA.notA (h:JA V D w9 A ja jf js gp PA PS e v W) (z:j∈A) (he:e j=false):e ja=false:=by
 cases o:e ja with
 | false=>rfl
 | true=>have:=h.d o j z;rw [he] at this;cases this
theorem JA.init (B:zb w9 W) (hA:ja∉A) (he:∀j,j∈ja :: jf :: js :: A->e j=false):JA V D w9 A ja jf js gp PA PS e v W:=by
 have h1:=he ja (by simp);have h2:=he jf (by simp);have h3:=he js (by simp);refine ⟨fun _=>B,fun _ j z o=>?_,fun h=>?_,fun h _=>?_,fun h=>?_,fun h=>?_,fun j z o=>?_⟩
 ·rw [he j (by simp [z])] at o;cases o
 ·rw [h1] at h;cases h
 ·rw [h1] at h;cases h
 ·rw [h3] at h;cases h
 ·rw [h2] at h;cases h
 ·rw [he j (by simp [z])] at o;cases o
theorem JA.step (h:JA V D w9 A ja jf js gp PA PS e v W) (U:j∈A) (he:e j=false) (hV:StV V) (G:j≠ja/\j≠jf/\j≠js) (T:∀d∈D j,d∈A/\e d=true) (M:zb W W') (hx:V j x W'):JA V D w9 A ja jf js gp PA PS (Ao e j true) (Ao v j x) W':=by
 have E:=h.notA U he
 have J:e js=false:=by
  cases J:e js with
  | false=>rfl
  | true=>have:=(h.s J).1;rw [E] at this;cases this
 have B:Ao e j true ja=false:=by rw [Ah e true (fun e=>G.1 e.symm)];exact E
 have L:Ao e j true js=false:=by rw [Ah e true (fun e=>G.2.2 e.symm)];exact J
 refine ⟨fun _=>(h.g E).trans M,fun _ k I z=>?_,fun h=>(by rw [B] at h;cases h),fun h=>(by rw [B] at h;cases h),fun h=>(by rw [L] at h;cases h),fun Q=>?_,fun k I z d O=>?_⟩
 ·by_cases o:k=j
  ·subst o;rw [BI];exact hx
  ·rw [Ah v x o];rw [Ah e true o] at z;exact hV.ext M (h.gv E k I z)
 ·rw [Ah v x (fun e=>G.2.1 e.symm)];rw [Ah e true (fun e=>G.2.1 e.symm)] at Q;exact h.f Q
 ·have h1:d∈A/\e d=true:=by
   by_cases o:k=j
   ·subst o;exact T d O
   ·rw [Ah e true o] at z;exact h.c k I z d O
  exact ⟨h1.1,upd_true h1.2⟩
theorem JA.addr (h:JA V D w9 A ja jf js gp PA PS e v W) (hA:jf∉A) (I:jf≠ja/\jf≠js) (L:x=gp):JA V D w9 A ja jf js gp PA PS (Ao e jf true) (Ao v jf x) W:=by
 have o:Ao e jf true ja=e ja:=Ah e true (fun e=>I.1 e.symm);have G:Ao e jf true js=e js:=Ah e true (fun e=>I.2 e.symm)
 refine ⟨fun a=>h.g (o ▸ a),fun a k B z=>?_,fun a k B=>?_,fun a b=>?_,fun a=>?_,fun _=>by rw [BI];exact L,fun k B z d J=>by
  rw [Ah (j:=jf) (k:=k) e true (fun q=>hA (q ▸ B))] at z;obtain ⟨h1,h2⟩:=h.c k B z d J;exact ⟨h1,upd_true h2⟩⟩
 ·have E:k≠jf:=fun e=>hA (e ▸ B)
  rw [Ah v x E];rw [Ah e true E] at z;exact h.gv (o ▸ a) k B z
 ·rw [Ah (j:=jf) (k:=k) e true (fun q=>hA (q ▸ B))];exact h.d (o ▸ a) k B
 ·rw [Ah v x (fun e=>I.1 e.symm)];exact h.m (o ▸ a) (G ▸ b)
 ·obtain ⟨h1,h2⟩:=h.s (G ▸ a);exact ⟨by rw [o];exact h1,h2⟩
theorem JA.app (h:JA V D w9 A ja jf js gp PA PS e v W) (he:e ja=false) (hA:ja∉A) (E:ja≠jf/\ja≠js) (J:∀j∈A,e j=true) (L:PA x W'):JA V D w9 A ja jf js gp PA PS (Ao e ja true) (Ao v ja x) W':=by
 have I:Ao e ja true js=e js:=Ah e true (fun e=>E.2 e.symm)
 have G:e js=false:=by
  cases G:e js with
  | false=>rfl
  | true=>have:=(h.s G).1;rw [he] at this;cases this
 refine ⟨fun a=>?_,fun a=>?_,fun _ k o=>?_,fun _ _=>by rw [BI];exact L,fun a=>?_,fun a=>?_,fun k o z d B=>by
  rw [Ah (j:=ja) (k:=k) e true (fun q=>hA (q ▸ o))] at z;obtain ⟨h1,h2⟩:=h.c k o z d B;exact ⟨h1,upd_true h2⟩⟩
 ·rw [BI] at a;cases a
 ·rw [BI] at a;cases a
 ·rw [Ah (j:=ja) (k:=k) e true (fun q=>hA (q ▸ o))];exact J k o
 ·rw [I,G] at a;cases a
 ·rw [Ah v x (fun e=>E.1 e.symm)];exact h.f (by rwa [Ah e true (fun e=>E.1 e.symm)] at a)
theorem JA.store (h:JA V D w9 A ja jf js gp PA PS e v W) (hA:js∉A) (G:js≠ja/\js≠jf) (E:e ja=true) (J:PS W'):JA V D w9 A ja jf js gp PA PS (Ao e js true) (Ao v js x) W':=by
 have o:Ao e js true ja=e ja:=Ah e true (fun e=>G.1 e.symm)
 refine ⟨fun a=>?_,fun a=>?_,fun _ k z=>?_,fun _ b=>?_,fun _=>⟨by rw [o];exact E,J⟩,fun a=>?_,fun k z B d I=>by
  rw [Ah (j:=js) (k:=k) e true (fun q=>hA (q ▸ z))] at B;obtain ⟨h1,h2⟩:=h.c k z B d I;exact ⟨h1,upd_true h2⟩⟩
 ·rw [o,E] at a;cases a
 ·rw [o,E] at a;cases a
 ·rw [Ah (j:=js) (k:=k) e true (fun q=>hA (q ▸ z))];exact h.d E k z
 ·rw [BI] at b;cases b
 ·rw [Ah v x (fun e=>G.2 e.symm)];exact h.f (by rwa [Ah e true (fun e=>G.2 e.symm)] at a)
end
def drawV (l:List Int) (k:Nat) (n:Int):Int:=if h:k<l.length then l[k] % n else 0
def drawK (l:List Int) (k:Nat):Nat:=if k<l.length then k+1 else k
theorem draw_calls {v:Value} {l:List Int} (gd k:Nat) (n:Int) (w:World) (L:zk w gd 108 #[v,.int .i64 k]) (h:zj w ok v l) (hg:¬ ok gd) (hl:l.length<=9223372036854775807) (hk:k<=l.length) (hn:0<n) (a6:n<=1000000):
  Calls Tryz.prog 68 #[.pointer (some ⟨gd,0,none⟩),.int .i64 n] w fun e w'=>e=.returned (.int .i64 (drawV l k n))/\zk w' gd 108 #[v,.int .i64 (drawK l k)]/\w.grownBy w' (some gd):=by
 obtain ⟨A,c,rfl,hc,hr⟩:=h;have M:=L.cell (k:=0) rfl;have O:=L.cell (k:=1) rfl;have hx:=zb.refl w;by_cases B:k<l.length
 ·obtain ⟨b,off,rfl,a8,o⟩:=zy hr B B;have a2:b≠gd:=fun e=>hg (e ▸ a8)
  have T:drawV l k n=l[k] % n:=by unfold drawV;rw [dif_pos B]
  have I:drawK l k=k+1:=by unfold drawK;rw [if_pos B]
  rw [T,I];clear T I hr;obtain ⟨x,U⟩:=zad (l[k]);rw [<-U] at o⊢;clear U;have hf:=L.frozen 1;have HB:=zh L;clear L;have hd:decide ((l.length:Int)<=(k:Int))=false:=EK (by omega)
  go_enter Tryz.func68,Tryz.ntmps68
  go_wp2_with fail
  go_quiet (fail)
  generalize Q:w.drewN nq=w1;have a3:zK w w1:=⟨nq,Q.symm⟩;have G:zb w w1:=a3.below _;have hh:w1.heap=w.heap:=by rw [<-Q];rfl
  clear Q M O hf;have E:zk w1 gd 108 #[.slice (some ⟨b,off,none⟩) l.length c,.int .i64 k]:=HB.out.ext G;have M:=E.cell (k:=0) rfl;have O:=E.cell (k:=1) rfl;have hf:=E.frozen 1;have z:=G.cell o;have J:Hid (zk (w1.setCell ⟨gd,1,none⟩ (.int .i64 ((k:Int)+1))) gd 108 #[.slice (some ⟨b,off,none⟩) l.length c,.int .i64 ((k:Int)+1)]):=E.set (k:=1) _;have a0:(w1.setCell ⟨gd,1,none⟩ (.int .i64 ((k:Int)+1))).cell? ⟨b,off+k,none⟩=some (.int .i64 x):=(EV (w:=w1) (EP w1 _ _ b a2)).trans z;have HG:Hid (w.grownBy (w1.setCell ⟨gd,1,none⟩ (.int .i64 ((k:Int)+1))) (some gd)):=⟨G.os,G.tape,G.output,by simp [hh],fun i hi a7=>by rw [EP w1 _ _ i (fun e=>a7 (by rw [e])),hh]⟩;have b0:=J.out.cell (k:=0) rfl;have b1:=J.out.cell (k:=1) rfl;clear E o;go_upto_region 4 with fail;generalize w1.setCell ⟨gd,1,none⟩ (.int .i64 ((k:Int)+1))=w2 at*;clear M O hf z;have b8:=zb.refl w2;have b6:(k:Int)<(l.length:Int):=by omega
  go_quiet ((go_at_call 32;refine (mod_calls x n _ hn a6).mono ?_;rintro e w9 ⟨a4,rfl⟩;exact ⟨a4,⟨_,rfl⟩⟩))
  go_wp2;go_ret;refine ⟨rfl,J.out.ext ((zb.refl w2).drewN _),?_⟩;have h:=HG.out;exact ⟨h.os,h.tape,h.output,h.size,h.block⟩
 ·have T:drawV l k n=0:=by unfold drawV;rw [dif_neg B]
  have I:drawK l k=k:=by unfold drawK;rw [if_neg B]
  rw [T,I];clear T I hr;have HB:=zh L;clear L;have hd:decide ((l.length:Int)<=(k:Int))=true:=EJ (by omega)
  go_enter Tryz.func68,Tryz.ntmps68
  go_wp2_with fail
  go_quiet (fail)
  go_wp2;go_ret;exact ⟨rfl,HB.out,⟨rfl,rfl,rfl,EG _,fun _ _ _=>rfl⟩⟩
end
end Go.Proofs.YthbjngbhbbkkgaaGreat
