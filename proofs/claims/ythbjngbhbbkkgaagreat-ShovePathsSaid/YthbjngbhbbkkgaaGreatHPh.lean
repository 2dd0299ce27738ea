import Derived.Test.YthbjngbhbbkkgaaGreatHPg
import Derived.Deep.DeepCutAuto
set_option linter.unusedVariables false
set_option linter.unusedSimpArgs false
set_option maxRecDepth 100000
set_option maxHeartbeats 16000000
namespace Go.Proofs.YthbjngbhbbkkgaaGreat
variable {a:Act} {K:Act->World->Prop} {ops:Array Oper} {Q:Exit->Act->World->Prop} {ps:List (List Int)} {l:List Bool} {ns:List ByteArray} {ch p:List Int} {xs:List Value} {m:MZ} {b bytes c c' cap k off sz:Nat} {ok:Nat->Prop} {o:Obj} {r:Option Nat} {f vc z z0 z1 z2 z3 z4 z5:Value} {w5:World}
section
open Go.RowKit
attribute [local go_sem ↓] Go.wp_at_zero Go.wp_at_succ
theorem boolss_slice1 {w:World} {n:Nat} {l:List (List Bool)} (h:Bn w ok (.slice (some ⟨b,off,none⟩) n c) l) (I:k<l.length) (M:1<=c'):Bn w ok (.slice (some ⟨b,off+k,none⟩) 1 c') [l.getD k []]:=by
 obtain ⟨vs,⟨A,c0,e,_,Z,T⟩,he⟩:=h;injection e with e1 e2 e3;subst e2 e3;obtain ⟨b0,off0,e0,J,E⟩:=T (by omega);rw [<-e1] at e0;injection e0 with e0;injection e0 with e4 e5;subst e4 e5;obtain ⟨u,U,O⟩:=he k _ (EL I);refine ⟨[u],⟨_,c',rfl,M,rfl,fun _=>⟨b,off+k,rfl,J,fun j x G=>?_⟩⟩,fun i x G=>?_⟩
 ·match j,G with
  | 0,G=>
   have:x=u:=by simpa using G.symm
   rw [this];exact E k u U
 ·match i,G with
  | 0,G=>
   have:x=l.getD k []:=by simpa using G.symm
   rw [this,EM,EL I];exact ⟨u,rfl,O⟩
theorem tasks_slice1 {w:World} {n:Nat} {l:List (List Int×List Int)} (h:BX w ok (.slice (some ⟨b,off,none⟩) n c) l) (I:k<l.length) (M:1<=c'):BX w ok (.slice (some ⟨b,off+k*3,none⟩) 1 c') [l.getD k ([],[])]:=by
 obtain ⟨vs,⟨A,c0,e,_,T,O⟩,he⟩:=h;injection e with e1 e2 e3;subst e2 e3;obtain ⟨b0,off0,e0,J,E⟩:=O (by omega);rw [<-e1] at e0;injection e0 with e0;injection e0 with e4 e5;subst e4 e5;obtain ⟨s,u1,u2,h0,h1,h2,i1,i2⟩:=he k _ (EL I);refine ⟨[.string s,u1,u2],⟨_,c',rfl,M,rfl,fun _=>⟨b,off+k*3,rfl,J,fun j x G=>?_⟩⟩,fun i x G=>?_⟩
 ·have q0:=E _ _ h0;have q1:=E _ _ h1;have q2:=E _ _ h2
  match j,G with
  | 0,G=>
   have:x=.string s:=by simpa using G.symm
   rw [this];exact q0
  | 1,G=>
   have:x=u1:=by simpa using G.symm
   rw [this,Nat.add_assoc];exact q1
  | 2,G=>
   have:x=u2:=by simpa using G.symm
   rw [this,Nat.add_assoc];exact q2
 ·match i,G with
  | 0,G=>
   have:x=l.getD k ([],[]):=by simpa using G.symm
   rw [this,EM,EL I];exact ⟨s,u1,u2,rfl,rfl,rfl,i1,i2⟩
theorem ints_of_cell {w:World} {v:Value} {g:Nat} (G:w.cell? ⟨g,0,none⟩=some v) (h:zi w ok v p) (h1:1<=c):zq w (fun _=>True) (.slice (some ⟨g,0,none⟩) 1 c) [p]:=by
 refine ⟨[v],⟨_,c,rfl,h1,rfl,fun _=>⟨g,0,rfl,trivial,fun j x E=>?_⟩⟩,fun i x E=>?_⟩
 ·match j,E with
  | 0,E=>
   have:x=v:=by simpa using E.symm
   rw [this];exact G
 ·match i,E with
  | 0,E=>
   have:x=p:=by simpa using E.symm
   rw [this];exact ⟨v,rfl,h.weaken fun _ _=>trivial⟩
def Cq (m:MZ) (ps:List (List Int)) (k:Nat):Bool:=((List.range k).all (CF m ps)) && decide (ps.take k).flatten.Nodup
theorem laidTo_false (I:k<=ps.length) (h:Cq m ps k=false):AV m ps=false:=by
 unfold Cq at h;unfold AV;rw [Bool.and_eq_false_iff] at h;rcases h with h | h
 ·have:(List.range ps.length).all (CF m ps)=false:=by
   rw [Bool.eq_false_iff] at h⊢;intro h2;rw [zag] at h2;exact h (zag.2 fun x G=>h2 x (zad.2 (by have:=zad.1 G;omega)))
  rw [this];simp
 ·have:¬ ps.flatten.Nodup:=fun E=>by
   rw [Fl] at h;apply h;have e:ps.flatten=(ps.take k).flatten++(ps.drop k).flatten:=by rw [<-List.flatten_append,List.take_append_drop]
   rw [e,List.nodup_append] at E;exact E.1
  rw [ER this];simp
theorem laidB_of (h0:AY m=0) (h1:ps.length=m.tasks.length) (h:Cq m ps ps.length=true):AV m ps=true:=by
 unfold Cq at h;unfold AV;rw [EY] at h;rw [EQ h0,EQ h1,h];rfl
theorem laidB_chk (h:AY m≠0\/ps.length≠m.tasks.length):AV m ps=false:=by
 unfold AV;rcases h with h | h
 ·rw [ER h];simp
 ·rw [ER h];simp
theorem flat_succ (E:k<ps.length):(ps.take (k+1)).flatten=(ps.take k).flatten++ps[k]:=by
 rw [EU E,List.flatten_append];simp
theorem ownM_lens (I:Lens m) (k:Nat):Lens (ownM m k):=by
 refine ⟨by simp [ownM],I.up,by simp [ownM],fun t J=>?_⟩;have E:t=m.tasks.getD k ([],[]):=by simpa [ownM] using J
 subst E;by_cases G:k<m.tasks.length
 ·rw [EM,EL G];exact I.tl _ (EO G)
 ·rw [EM,Fg (by omega)];simp
theorem laidTo_succ (h:Cq m ps k=true) (E:(ps.take (k+1)).flatten=(ps.take k).flatten++p) (G:CF m ps k=true) (I:((ps.take k).flatten++p).Nodup):Cq m ps (k+1)=true:=by
 unfold Cq at h⊢;rw [E,List.range_succ,List.all_append,List.all_cons,List.all_nil,G,EQ I];rw [EZ] at h;rw [h.1];rfl
theorem laidTo_no (E:(ps.take (k+1)).flatten=(ps.take k).flatten++p) (h:CF m ps k=false\/¬ ((ps.take k).flatten++p).Nodup):Cq m ps (k+1)=false:=by
 unfold Cq;rcases h with h | h
 ·rw [List.range_succ,List.all_append,List.all_cons,h];simp
 ·rw [E,ER h];simp
theorem laidTo_nd (h:Cq m ps k=true):(ps.take k).flatten.Nodup:=by
 unfold Cq at h;rw [EZ] at h;exact zah h.2
theorem Eh {okm okf:Nat->Prop} {v vf:Value} (w:World) (hm:zt w okm v m) (hl:Lens m) (hf:zq w okf vf ps) (o1:ps.length<=20000000000000) (g0:∀x∈ps,x.length<=20000000000000):
  Calls Tryz.prog 11 #[v,vf] w fun e w'=>e=.returned (.bool (AV m ps))/\zb w w':=by
 have j4:=zh hm;have HL:=zh hl;have i8:=zh g0;obtain ⟨Af,cf,Au,cu,At,ct,rfl,d8,h5,d9⟩:=hm.parts;have f0:=zh d8;have j3:=zh h5;have f2:=zh d9;have n4:m.free.length<=cf:=by obtain ⟨_,⟨_,_,e,h,-⟩,-⟩:=d8;injection e with e1 e2 e3;subst e3;exact h
 have n6:m.tasks.length<=ct:=by obtain ⟨_,⟨_,_,e,h,-⟩,-⟩:=d9;injection e with e1 e2 e3;subst e3;exact h
 obtain ⟨vfs,⟨A,c,rfl,n3,hr⟩,f8⟩:=hf;have HR:=zh hr;have i7:=zh f8;have m7:=hl.ts;clear hm hl hr f8 d8 d9 h5 g0;have o4:=@run_makeMap Tryz.prog
 go_enter Tryz.func11,Tryz.ntmps11
 go_wp2_with fail
 obtain ⟨c9,r0,r1,r2,r3,r4,r5⟩:=CG w (.int .i64 m.w) (.int .i64 m.h) (.int .i64 m.l) (.slice Af m.free.length cf) (.slice Au m.up.length cu) (.slice At m.tasks.length ct);generalize w.alloc _=w1 at c9 r0 r1 r2 r3 r4 r5⊢;obtain ⟨gm,g5⟩:=zak w.heap.size;rw [<-g5] at r0 r1 r2 r3 r4 r5⊢;clear g5;have I:=zh c9;clear c9;have T:zb w1 w1:=zb.refl w1
 go_wp2_with fail
 refine (BO w1 (j4.out.below I.out) HL.out).mono ?_;rintro e w2 ⟨rfl,k2⟩;clear T;have T:zb w1 w2:=k2;by_cases hc:AY m=0
 case neg=>
  have hd:(AY m != 0)=true:=by simpa using hc
  have HB:=zh (laidB_chk (ps:=ps) (.inl hc));clear hc;go_wp2;go_ret;exact ⟨zf HB.out.symm,I.out.trans T⟩
 have hd:(AY m != 0)=false:=by simpa using hc
 have HC:=zh hc;clear hc;by_cases b9:ps.length=m.tasks.length
 case neg=>
  have f7:((ps.length:Int) != (m.tasks.length:Int))=true:=by simp;omega
  have n7:((ps.length:Int)==(m.tasks.length:Int))=false:=by simp;omega
  have HB:=zh (laidB_chk (m:=m) (.inr b9));clear b9;go_wp2;go_ret;exact ⟨zf HB.out.symm,I.out.trans T⟩
 have f7:((ps.length:Int) != (m.tasks.length:Int))=false:=by simp;omega
 have G:=zh (zI.of HC.out);have c7:=zh b9;have o7:=G.out.tk;have o6:ps.length<=6:=by omega
 clear b9
 go_wp2_with fail
 have b8:Hid (RtI w2 (w2.alloc (.map #[] 0)) w2.heap.size []):=⟨(zb.refl w2).alloc _,EN _,[],zD.new w2,fun y=>Iff.rfl⟩;generalize w2.alloc (.map #[] 0)=w3 at b8⊢;obtain ⟨gs,g6⟩:=zak w2.heap.size;rw [<-g6] at b8⊢;clear g6;have a0:Hid (zb w1 w2):=T;clear T;go_loopw [25] (fun i wr=>∃k,k<=ps.length/\i=.int .i64 (k:Nat)/\Hid (RtI w2 wr gs (ps.take k).flatten)/\Hid (Cq m ps k=true)) (fun i _=>ps.length - (intOf i).toNat)
 case atStart=>exact ⟨0,Fb _,rfl,b8,by show _=_;unfold Cq;rfl⟩
 clear b8
 case round=>
  obtain ⟨k,hk,rfl,hI,hT⟩:=hrel;obtain ⟨wk,rfl⟩:∃wk:World,wk=wr:=⟨_,rfl⟩;by_cases a4:k<ps.length
  ·obtain ⟨b,off,u,rfl,_,E,hu⟩:=zO HR.out i7.out a4 a4;have J:wk.cell? ⟨b,off+k,none⟩=some u:=(I.out.trans (a0.out.trans hI.out.ext)).cell E;have i2:=i8.out _ (EO a4);have M:=zh (flat_succ a4);have g9:ps.getD k []=ps[k]:=zgd a4
   have a3:Hid (CF m ps k=(decide (ps[k]=[]) || zJ (ownM m k) [ps[k]])):=by show _=_;unfold CF;rw [g9]
   obtain ⟨p,hp⟩:=zak (ps[k]);rw [<-hp] at hu i2 M a3;have HU:=zh (zi.below hu (I.out.trans (a0.out.trans hI.out.ext)));have j8:=zh hu;clear hp E g9 hu;obtain ⟨Ap,cp,rfl,n5⟩:∃Ap cp,u=.slice Ap p.length cp/\p.length<=cp:=by obtain ⟨A,c,e,h,-⟩:=HU.out;exact ⟨A,c,e,h⟩
   by_cases e5:p.length=0
   ·have O:p=[]:=List.length_eq_zero_iff.1 e5
    have j6:Hid (Cq m ps (k+1)=true):=by
     have h1:=hT.out;show _=_;unfold Cq at h1⊢;rw [M.out,O,List.append_nil,List.range_succ,List.all_append,List.all_cons,List.all_nil,a3.out,EQ O];simpa using h1
    have i9:Hid (RtI w2 wk gs (ps.take (k+1)).flatten):=by rw [M.out,O,List.append_nil];exact hI.out
    have d5:((p.length:Int)==0)=true:=by simp [e5]
    clear O;have o3:(p.length:Int)=0:=by omega
    clear d5;go_wp2;go_roundw
    case rel=>exact ⟨k+1,by omega,by go_num,i9,j6⟩
    case measure=>simp [intOf];omega
   ·have d5:((p.length:Int)==0)=false:=Fa.2 (by omega);have T:zb w1 wk:=a0.out.trans hI.out.ext;have d7:k<m.tasks.length:=Nat.lt_of_lt_of_eq a4 c7.out;have l3:k<m.free.length:=by rw [G.out.fl];exact d7
    obtain ⟨bt,offt,_,_,_,rfl,-⟩:=AO f2.out d7
    obtain ⟨bf,offf,rfl⟩:∃bf offf,Af=some ⟨bf,offf,none⟩:=by
     obtain ⟨_,⟨_,_,e,_,hr⟩,_⟩:=f0.out;injection e with e1 e2 e3;obtain ⟨b,o,e0,-⟩:=hr.2 (by omega);exact ⟨b,o,e1.trans e0⟩
    have k6:(0:Int)<=(k:Int):=by omega
    have h9:=c7.out;have f9:=G.out.fl;have k7:(k:Int)+1<=(ct:Int):=by omega
    have k8:(k:Int)+1<=(cf:Int):=by omega
    have k9:(0:Int)<=(k:Int)+1:=by omega
    have h6:¬ ct=k:=by omega
    have h7:¬ cf=k:=by omega
    clear h9 f9;have l4:IntKind.i64.wrap ((k:Int)+1)=(k:Int)+1:=by rw [Fi];omega
    go_wp2_with fail
    have b4:=zh (zg.new wk #[.int .i64 m.w,.int .i64 m.h,.int .i64 m.l,.slice (some ⟨bf,offf,none⟩) m.free.length cf,.slice Au m.up.length cu,.slice (some ⟨bt,offt,none⟩) m.tasks.length ct] 32 (g:=wk.heap.size) rfl);have b6:zb wk (wk.alloc (.cells #[.int .i64 m.w,.int .i64 m.h,.int .i64 m.l,.slice (some ⟨bf,offf,none⟩) m.free.length cf,.slice Au m.up.length cu,.slice (some ⟨bt,offt,none⟩) m.tasks.length ct] 32)):=(zb.refl wk).alloc _;generalize wk.alloc _=w5 at b4 b6⊢;obtain ⟨g8,g3⟩:=zak wk.heap.size;rw [<-g3] at b4⊢;have e7:Hid (wk.heap.size<=g8):=by show _<=_;omega
    clear g3;have i3:zb w1 w5.drew:=(T.trans b6).drew;have k3:∀W,zb wk W->W.cell? ⟨gm,3,none⟩=some (.slice (some ⟨bf,offf,none⟩) m.free.length cf):=fun W h=>r3 W (T.trans h)
    have k5:∀W,zb wk W->W.cell? ⟨gm,5,none⟩=some (.slice (some ⟨bt,offt,none⟩) m.tasks.length ct):=fun W h=>r5 W (T.trans h)
    refine Fd (S:=(fun W=>zb wk W)) zU (b6.drew) fun zH=>?_;have c8:zb wk w5.drew:=zH;have a9:zg w5.drew g8 32 _:=b4.out;generalize w5.drew=wd at zH c8 a9 i3⊢;refine ze 0 zH ?_;refine ze 1 zH ?_;refine ze 2 zH ?_;refine ze 3 zH ?_;refine ze 4 zH ?_;refine ze 5 zH ?_;refine ze 6 zH ?_;refine ze 7 zH ?_;refine ze 8 zH ?_;refine ze 9 zH ?_;refine ze 10 zH ?_;refine ze 11 zH ?_;refine ze 12 zH ?_;refine zx 13 fun K hK=>?_;have n2:=a9.cell (k:=5) rfl;have o0:=a9.frozen 5;go_simp;have a8:=a9.set (k:=5) (.slice (some ⟨bt,offt+k*3,none⟩) 1 (ct - k));have b7:=c8.setCell (p:=⟨g8,5,none⟩) e7.out (.slice (some ⟨bt,offt+k*3,none⟩) 1 (ct - k));generalize wd.setCell ⟨g8,5,none⟩ (.slice (some ⟨bt,offt+k*3,none⟩) 1 (ct - k))=we at a8 b7⊢;refine zal hK (b7) fun zH=>?_;clear hK K
    refine ze 14 zH ?_;refine zx 15 fun K hK=>?_;have n1:=a8.cell (k:=3) rfl;have n9:=a8.frozen 3;go_simp;have b5:=zh (a8.set (k:=3) (.slice (some ⟨bf,offf+k,none⟩) 1 (cf - k)));have a1:=zh (b7.setCell (p:=⟨g8,3,none⟩) e7.out (.slice (some ⟨bf,offf+k,none⟩) 1 (cf - k)));generalize we.setCell ⟨g8,3,none⟩ (.slice (some ⟨bf,offf+k,none⟩) 1 (cf - k))=wf at b5 a1⊢;refine zal hK (a1.out) fun zH=>?_;clear hK K;try simp only [za,EK]
    refine Fs (by kernel_rfl) ?_ _;clear a8 b7 a9 c8 zH;simp only [List.setIfInBounds_toArray,List.set_cons_zero,List.set_cons_succ] at b5;obtain ⟨m0,m1,m2,m3,m4,m5⟩:=zn b5.out;have f5:Hid (zb w wf):=I.out.trans (T.trans a1.out);have e8:=zh (hI.out.more a1.out);clear T i3 k3 k5 b4 b6 hI J
    go_wp2_with fail
    have d4:=zr wf (.slice Ap p.length cp) 23 (g:=wf.heap.size) rfl;have b1:zb wf (wf.alloc (.cells #[.slice Ap p.length cp] 23)):=(zb.refl wf).alloc _;generalize wf.alloc _=wg at d4 b1⊢;have a7:Hid (zb w wg):=f5.out.trans b1;have e9:=zh (e8.out.more b1)
    have f1:Hid (zt wg okm (.agg #[.int .i64 m.w,.int .i64 m.h,.int .i64 m.l,(.slice (some ⟨bf,offf+k,none⟩) 1 (cf - k)),.slice Au m.up.length cu,(.slice (some ⟨bt,offt+k*3,none⟩) 1 (ct - k))]) (ownM m k)):=
     ⟨_,_,_,rfl,boolss_slice1 (f0.out.below a7.out) l3 (by omega),j3.out.below a7.out,tasks_slice1 (f2.out.below a7.out) d7 (by omega)⟩
    have f3:=zh (ints_of_cell (c:=1) d4 (zi.below HU.out (zb.trans a1.out b1)) (EN _));refine (right_calls wg f1.out (ownM_lens HL.out k) f3.out (by simp) (by intro x T;simp at T;subst T;exact i2)).mono ?_;rintro e w10 ⟨rfl,b0⟩;have f4:Hid (zb w w10):=a7.out.trans b0;have c4:=zh (e9.out.more b0);clear d4 b1 b0 e9 a7 e8 f5 m0 m1 m2 m3 m4 m5 f1 f3 b5 a1;have O:decide (p=[])=false:=ER (fun e=>e5 (by rw [e];rfl));rw [O,Bool.false_or] at a3;clear O k6 k7 k8 k9 h6 h7 l4 hd f7 d5
    cases c0:zJ (ownM m k) [p] with
    | false=>
     have HB:=zh (laidTo_false (m:=m) (ps:=ps) (k:=k+1) (by omega) (laidTo_no M.out (.inl (a3.out.trans c0))));clear c0;go_wp2;go_ret;exact ⟨zf HB.out.symm,f4.out⟩
    | true=>
     have j2:Hid (CF m ps k=true):=a3.out.trans c0;clear c0 a3
     go_wp2_with fail
     go_loopw [55] (fun i wr=>∃j:Nat,j<=p.length/\i=.int .i64 (j:Nat)/\Hid (RtI w2 wr gs ((ps.take k).flatten++p.take j))/\Hid (((ps.take k).flatten++p.take j).Nodup)) (fun i _=>p.length - (intOf i).toNat)
     case atStart=>exact ⟨0,Fb _,rfl,by show RtI _ _ _ _;have:=c4.out;simpa using this,by show List.Nodup _;simpa using laidTo_nd hT.out⟩
     clear c4
     case round=>
      obtain ⟨j,hj,rfl,hI,hN⟩:=hrel;obtain ⟨wi,rfl⟩:∃wi:World,wi=wr:=⟨_,rfl⟩;by_cases d6:j<p.length
      ·obtain ⟨A2,c2,e2,_,i0⟩:=j8.out;injection e2 with e2 e3 e4;subst e2 e4;clear e3;obtain ⟨b2,off2,rfl,_,E⟩:=zy i0 d6 d6;have J:wi.cell? ⟨b2,off2+j,none⟩=some (.int .i64 p[j]):=(I.out.trans (a0.out.trans hI.out.ext)).cell E;have Z:Hid ((ps.take k).flatten++p.take (j+1)=((ps.take k).flatten++p.take j)++[p[j]]):=by show _=_;rw [EU d6,List.append_assoc]
       have c6:Hid (((ps.take k).flatten++p.take j)++[p[j]] <+: (ps.take k).flatten++p):=by
        show _ <+: _;rw [<-Z.out];exact List.prefix_append_right_inj _ |>.2 (List.take_prefix _ _)
       obtain ⟨y,hy⟩:=zak (p[j]);rw [<-hy] at J Z c6;obtain ⟨s,U,c5⟩:=hI.out.set;have a6:=zh c5;clear hy E i0 c5;by_cases a5:y∈s
       ·have h4:=lookM_t U a5
        have h8:¬ ((ps.take k).flatten++p).Nodup:=fun hn=>by
         have h2:=hn.sublist c6.out.sublist;rw [List.nodup_append] at h2;exact h2.2.2 y ((a6.out y).1 a5) y (by simp) rfl
        have HB:=zh (laidTo_false (m:=m) (ps:=ps) (k:=k+1) (by omega) (laidTo_no M.out (.inr h8)));have j9:=zh (I.out.trans (a0.out.trans hI.out.ext));clear a5 h8;go_wp2;go_ret;exact ⟨zf HB.out.symm,j9.out⟩
       ·have h4:=lookM_f U a5
        have j5:Hid (((ps.take k).flatten++p.take (j+1)).Nodup):=by
         show List.Nodup _;rw [Z.out];exact nodup_snoc hN.out (fun h=>a5 ((a6.out y).2 h))
        clear a5
        go_wp2_with (at_mapUpdate;refine CS rfl _ _ _ _ rfl Tryz.underlying78 gs s y rfl rfl rfl U ?_)
        intro wa i1 g4
        have j0:Hid (RtI w2 wa gs ((ps.take k).flatten++p.take (j+1))):=by
         show RtI _ _ _ _;rw [Z.out];exact hI.out.add a6.out i1 g4
        clear i1 g4 h4 U;go_wp2;go_roundw
        case rel=>exact ⟨j+1,by omega,by go_num,j0,j5⟩
        case measure=>simp [intOf];omega
      ·have k4:j=p.length:=by omega
       subst k4
       have j1:Hid (RtI w2 wi gs (ps.take (k+1)).flatten):=by
        show RtI _ _ _ _;have:=hI.out;rw [EY] at this;rw [M.out];exact this
       have j7:Hid (Cq m ps (k+1)=true):=laidTo_succ hT.out M.out j2.out (by have:=hN.out;rwa [EY] at this);go_wp2;go_roundw
       case rel=>exact ⟨k+1,by omega,by go_num,j1,j7⟩
       case measure=>simp [intOf];omega
  ·have l0:k=ps.length:=by omega
   subst l0;have HB:=zh (laidB_of HC.out c7.out hT.out);have HX:=zh (I.out.trans (a0.out.trans hI.out.ext));go_wp2;go_ret;exact ⟨zf HB.out.symm,HX.out⟩
end
section
open Go.RowKit
def StV (V:Nat->Value->World->Prop):Prop:=∀j x W W',zb W W'->V j x W->V j x W'
theorem StV.ext {V:Nat->Value->World->Prop} (h:StV V) {j:Nat} {x:Value} {W W':World} (E:zb W W') (G:V j x W):V j x W':=h j x W W' E G
structure JA (V:Nat->Value->World->Prop) (D:Nat->List Nat) (w9:World) (A:List Nat) (ja jf js:Nat) (gp:Value) (PA:Value->World->Prop) (PS:World->Prop) (e:Nat->Bool) (v:Nat->Value) (W:World):Prop where
 g:e ja=false->zb w9 W
 gv:e ja=false->∀j∈A,e j=true->V j (v j) W
 d:e ja=true->∀j∈A,e j=true
 m:e ja=true->e js=false->PA (v ja) W
 s:e js=true->e ja=true/\PS W
 f:e jf=true->v jf=gp
 c:∀j∈A,e j=true->∀d∈D j,d∈A/\e d=true
section
variable {V:Nat->Value->World->Prop} {D:Nat->List Nat} {w9 W W':World} {A:List Nat} {ja jf js:Nat} {gp:Value} {PA:Value->World->Prop} {PS:World->Prop} {e:Nat->Bool} {v:Nat->Value} {j:Nat} {x:Value}
theorem upd_true {e:Nat->Bool} {j d:Nat} (h:e d=true):AI e j true d=true:=by
 by_cases E:d=j
 ·subst E;exact BK e d true
 ·rw [AB e true E];exact h
theorem JA.notA (h:JA V D w9 A ja jf js gp PA PS e v W) (G:j∈A) (he:e j=false):e ja=false:=by
 cases E:e ja with
 | false=>rfl
 | true=>have:=h.d E j G;rw [he] at this;cases this
theorem JA.init (I:zb w9 W) (hA:ja∉A) (he:∀j,j∈ja :: jf :: js :: A->e j=false):JA V D w9 A ja jf js gp PA PS e v W:=by
 have h1:=he ja (by simp);have h2:=he jf (by simp);have h3:=he js (by simp);refine ⟨fun _=>I,fun _ j G E=>?_,fun h=>?_,fun h _=>?_,fun h=>?_,fun h=>?_,fun j G E=>?_⟩
 ·rw [he j (by simp [G])] at E;cases E
 ·rw [h1] at h;cases h
 ·rw [h1] at h;cases h
 ·rw [h3] at h;cases h
 ·rw [h2] at h;cases h
 ·rw [he j (by simp [G])] at E;cases E
theorem JA.step (h:JA V D w9 A ja jf js gp PA PS e v W) (hj:j∈A) (he:e j=false) (hV:StV V) (M:j≠ja/\j≠jf/\j≠js) (hD:∀d∈D j,d∈A/\e d=true) (Z:zb W W') (hx:V j x W'):JA V D w9 A ja jf js gp PA PS (AI e j true) (AI v j x) W':=by
 have J:=h.notA hj he
 have T:e js=false:=by
  cases T:e js with
  | false=>rfl
  | true=>have:=(h.s T).1;rw [J] at this;cases this
 have I:AI e j true ja=false:=by rw [AB e true (fun e=>M.1 e.symm)];exact J
 have U:AI e j true js=false:=by rw [AB e true (fun e=>M.2.2 e.symm)];exact T
 refine ⟨fun _=>(h.g J).trans Z,fun _ k O G=>?_,fun h=>(by rw [I] at h;cases h),fun h=>(by rw [I] at h;cases h),fun h=>(by rw [U] at h;cases h),fun hf=>?_,fun k O G d hd=>?_⟩
 ·by_cases E:k=j
  ·subst E;rw [BK];exact hx
  ·rw [AB v x E];rw [AB e true E] at G;exact hV.ext Z (h.gv J k O G)
 ·rw [AB v x (fun e=>M.2.1 e.symm)];rw [AB e true (fun e=>M.2.1 e.symm)] at hf;exact h.f hf
 ·have h1:d∈A/\e d=true:=by
   by_cases E:k=j
   ·subst E;exact hD d hd
   ·rw [AB e true E] at G;exact h.c k O G d hd
  exact ⟨h1.1,upd_true h1.2⟩
theorem JA.addr (h:JA V D w9 A ja jf js gp PA PS e v W) (hA:jf∉A) (O:jf≠ja/\jf≠js) (U:x=gp):JA V D w9 A ja jf js gp PA PS (AI e jf true) (AI v jf x) W:=by
 have E:AI e jf true ja=e ja:=AB e true (fun e=>O.1 e.symm);have M:AI e jf true js=e js:=AB e true (fun e=>O.2 e.symm)
 refine ⟨fun a=>h.g (E ▸ a),fun a k I G=>?_,fun a k I=>?_,fun a b=>?_,fun a=>?_,fun _=>by rw [BK];exact U,fun k I G d T=>by
  rw [AB (j:=jf) (k:=k) e true (fun q=>hA (q ▸ I))] at G;obtain ⟨h1,h2⟩:=h.c k I G d T;exact ⟨h1,upd_true h2⟩⟩
 ·have J:k≠jf:=fun e=>hA (e ▸ I)
  rw [AB v x J];rw [AB e true J] at G;exact h.gv (E ▸ a) k I G
 ·rw [AB (j:=jf) (k:=k) e true (fun q=>hA (q ▸ I))];exact h.d (E ▸ a) k I
 ·rw [AB v x (fun e=>O.1 e.symm)];exact h.m (E ▸ a) (M ▸ b)
 ·obtain ⟨h1,h2⟩:=h.s (M ▸ a);exact ⟨by rw [E];exact h1,h2⟩
theorem JA.app (h:JA V D w9 A ja jf js gp PA PS e v W) (he:e ja=false) (hA:ja∉A) (J:ja≠jf/\ja≠js) (T:∀j∈A,e j=true) (U:PA x W'):JA V D w9 A ja jf js gp PA PS (AI e ja true) (AI v ja x) W':=by
 have O:AI e ja true js=e js:=AB e true (fun e=>J.2 e.symm)
 have M:e js=false:=by
  cases M:e js with
  | false=>rfl
  | true=>have:=(h.s M).1;rw [he] at this;cases this
 refine ⟨fun a=>?_,fun a=>?_,fun _ k E=>?_,fun _ _=>by rw [BK];exact U,fun a=>?_,fun a=>?_,fun k E G d I=>by
  rw [AB (j:=ja) (k:=k) e true (fun q=>hA (q ▸ E))] at G;obtain ⟨h1,h2⟩:=h.c k E G d I;exact ⟨h1,upd_true h2⟩⟩
 ·rw [BK] at a;cases a
 ·rw [BK] at a;cases a
 ·rw [AB (j:=ja) (k:=k) e true (fun q=>hA (q ▸ E))];exact T k E
 ·rw [O,M] at a;cases a
 ·rw [AB v x (fun e=>J.1 e.symm)];exact h.f (by rwa [AB e true (fun e=>J.1 e.symm)] at a)
theorem JA.store (h:JA V D w9 A ja jf js gp PA PS e v W) (hA:js∉A) (M:js≠ja/\js≠jf) (J:e ja=true) (T:PS W'):JA V D w9 A ja jf js gp PA PS (AI e js true) (AI v js x) W':=by
 have E:AI e js true ja=e ja:=AB e true (fun e=>M.1 e.symm)
 refine ⟨fun a=>?_,fun a=>?_,fun _ k G=>?_,fun _ b=>?_,fun _=>⟨by rw [E];exact J,T⟩,fun a=>?_,fun k G I d O=>by
  rw [AB (j:=js) (k:=k) e true (fun q=>hA (q ▸ G))] at I;obtain ⟨h1,h2⟩:=h.c k G I d O;exact ⟨h1,upd_true h2⟩⟩
 ·rw [E,J] at a;cases a
 ·rw [E,J] at a;cases a
 ·rw [AB (j:=js) (k:=k) e true (fun q=>hA (q ▸ G))];exact h.d J k G
 ·rw [BK] at b;cases b
 ·rw [AB v x (fun e=>M.2 e.symm)];exact h.f (by rwa [AB e true (fun e=>M.2 e.symm)] at a)
end
def drawV (l:List Int) (k:Nat) (n:Int):Int:=if h:k<l.length then l[k] % n else 0
def drawK (l:List Int) (k:Nat):Nat:=if k<l.length then k+1 else k
theorem draw_calls {v:Value} {l:List Int} (gd k:Nat) (n:Int) (w:World) (U:zg w gd 108 #[v,.int .i64 k]) (h:zi w ok v l) (hg:¬ ok gd) (hl:l.length<=9223372036854775807) (hk:k<=l.length) (hn:0<n) (b1:n<=1000000):
  Calls Tryz.prog 68 #[.pointer (some ⟨gd,0,none⟩),.int .i64 n] w fun e w'=>e=.returned (.int .i64 (drawV l k n))/\zg w' gd 108 #[v,.int .i64 (drawK l k)]/\w.grownBy w' (some gd):=by
 obtain ⟨A,c,rfl,hc,hr⟩:=h;have Z:=U.cell (k:=0) rfl;have a0:=U.cell (k:=1) rfl;have hx:=zb.refl w;by_cases I:k<l.length
 ·obtain ⟨b,off,rfl,b3,E⟩:=zy hr I I;have a7:b≠gd:=fun e=>hg (e ▸ b3)
  have hv:drawV l k n=l[k] % n:=by unfold drawV;rw [dif_pos I]
  have O:drawK l k=k+1:=by unfold drawK;rw [if_pos I]
  rw [hv,O];clear hv O hr;obtain ⟨x,a4⟩:=zak (l[k]);rw [<-a4] at E⊢;clear a4;have hf:=U.frozen 1;have HB:=zh U;clear U;have hd:decide ((l.length:Int)<=(k:Int))=false:=ER (by omega)
  go_enter Tryz.func68,Tryz.ntmps68
  go_wp2_with fail
  go_quiet (fail)
  generalize a1:w.drewN nq=w1;have a8:zM w w1:=⟨nq,a1.symm⟩;have M:zb w w1:=a8.below _;have hh:w1.heap=w.heap:=by rw [<-a1];rfl
  clear a1 Z a0 hf;have J:zg w1 gd 108 #[.slice (some ⟨b,off,none⟩) l.length c,.int .i64 k]:=HB.out.ext M;have Z:=J.cell (k:=0) rfl;have a0:=J.cell (k:=1) rfl;have hf:=J.frozen 1;have G:=M.cell E;have T:Hid (zg (w1.setCell ⟨gd,1,none⟩ (.int .i64 ((k:Int)+1))) gd 108 #[.slice (some ⟨b,off,none⟩) l.length c,.int .i64 ((k:Int)+1)]):=J.set (k:=1) _;have a5:(w1.setCell ⟨gd,1,none⟩ (.int .i64 ((k:Int)+1))).cell? ⟨b,off+k,none⟩=some (.int .i64 x):=(Fc (w:=w1) (EW w1 _ _ b a7)).trans G;have HG:Hid (w.grownBy (w1.setCell ⟨gd,1,none⟩ (.int .i64 ((k:Int)+1))) (some gd)):=⟨M.os,M.tape,M.output,by simp [hh],fun i hi b2=>by rw [EW w1 _ _ i (fun e=>b2 (by rw [e])),hh]⟩;have b5:=T.out.cell (k:=0) rfl;have b6:=T.out.cell (k:=1) rfl;clear J E;go_upto_region 4 with fail;generalize w1.setCell ⟨gd,1,none⟩ (.int .i64 ((k:Int)+1))=w2 at*;clear Z a0 hf G;have c6:=zb.refl w2;have c4:(k:Int)<(l.length:Int):=by omega
  go_quiet ((go_at_call 32;refine (mod_calls x n _ hn b1).mono ?_;rintro e w9 ⟨a9,rfl⟩;exact ⟨a9,⟨_,rfl⟩⟩))
  go_wp2;go_ret;refine ⟨rfl,T.out.ext ((zb.refl w2).drewN _),?_⟩;have h:=HG.out;exact ⟨h.os,h.tape,h.output,h.size,h.block⟩
 ·have hv:drawV l k n=0:=by unfold drawV;rw [dif_neg I]
  have O:drawK l k=k:=by unfold drawK;rw [if_neg I]
  rw [hv,O];clear hv O hr;have HB:=zh U;clear U;have hd:decide ((l.length:Int)<=(k:Int))=true:=EQ (by omega)
  go_enter Tryz.func68,Tryz.ntmps68
  go_wp2_with fail
  go_quiet (fail)
  go_wp2;go_ret;exact ⟨rfl,HB.out,⟨rfl,rfl,rfl,EN _,fun _ _ _=>rfl⟩⟩
theorem Tryz.infoTask:(Tryz.prog.info? 56).map (fun i=>(i.zero,i.size,i.bytes))=some (some (.agg #[.string ⟨#[]⟩,.slice none 0 0,.slice none 0 0]),3,64):=by kernel_rfl
theorem Tryz.infoBools:(Tryz.prog.info? 29).map (fun i=>(i.zero,i.size,i.bytes))=some (some (.slice none 0 0),1,24):=by kernel_rfl
def zZ (B:Nat) (w:World) (g:Nat):Prop:=B<=g/\∃(v:Value) (k:Nat) (l:List Int),zg w g 108 #[v,.int .i64 k]/\zi w (fun b=>b<B) v l/\l.length<=9223372036854775807/\k<=l.length
section
variable {B:Nat} {w w':World} {g:Nat}
theorem zZ.keep (h:zZ B w g) (G:Below B w w') (E:w'.heap[g]?=w.heap[g]?):zZ B w' g:=by
 obtain ⟨h0,v,k,l,h1,h2,h3⟩:=h;exact ⟨h0,v,k,l,E.trans h1,h2.keep fun b E I=>G.block b E,h3⟩
theorem zZ.ext (h:zZ B w g) (E:zb w w') (G:B<=w.heap.size):zZ B w' g:=by
 obtain ⟨h0,v,k,l,h1,h2,h3⟩:=h;exact ⟨h0,v,k,l,(E.block g (zd h1)).trans h1,h2.below E,h3⟩
theorem zZ.lt (h:zZ B w g):g<w.heap.size:=by
 obtain ⟨h0,v,k,l,h1,h2,h3⟩:=h;exact zd h1
theorem zZ.blk (h:zZ B w g):∃cs,zg w g 108 cs:=by
 obtain ⟨h0,v,k,l,h1,h2,h3⟩:=h;exact ⟨_,h1⟩
theorem zW (n:Int) (h:zZ B w g) (G:0<n) (I:n<=1000000):
  Calls Tryz.prog 68 #[.pointer (some ⟨g,0,none⟩),.int .i64 n] w fun e w'=>∃x,e=.returned (.int .i64 x)/\0<=x/\x<n/\zZ B w' g/\w.grownBy w' (some g):=by
 obtain ⟨h0,v,k,l,h1,h2,h3,O⟩:=h;refine (draw_calls g k n w h1 h2 (by omega) h3 O G I).mono ?_;rintro e w' ⟨rfl,J,M⟩;refine ⟨_,rfl,?_,?_,⟨h0,v,drawK l k,l,J,h2.keep fun b J E=>M.block b E (fun e=>by injection e with e;omega),h3,?_⟩,M⟩
 ·unfold drawV
  split
  ·exact Int.emod_nonneg _ (by omega)
  ·exact Int.le_refl _
 ·unfold drawV
  split
  ·exact Int.emod_lt_of_pos _ G
  ·exact G
 ·unfold drawK
  split <;> omega
end
theorem Ai {w w':World} {B:Nat} {e:TypeId} {n:Nat} {v:Value} (h:w.ownsRow B e sz v n xs) (G:∀g,v.ownBlock=some g->w'.heap[g]?=w.heap[g]?):w'.ownsRow B e sz v n xs:=by
 obtain ⟨E,h0 | ⟨g,cap,cur,rfl,h1,h2,h3⟩⟩:=h
 ·exact ⟨E,.inl h0⟩
 ·exact ⟨E,.inr ⟨g,cap,cur,rfl,h1,(G g rfl).trans h2,h3⟩⟩
def BW (w:World) (B:Nat) (v:Value) (l:List Bool):Prop:=w.ownsRow B 4 1 v l.length (l.map Value.bool)
theorem BW.bools {w:World} {B:Nat} {v:Value} (h:BW w B v l):An w (fun b=>B<=b) v l:=zV.of_own h
def BoolD (w:World) (B S n:Nat) (u:Value):Prop:=∃l,BW w B u l/\l.length=n/\∀g,u.ownBlock=some g->g<S
def TaskD (w:World) (B S n:Nat) (u1 u2:Value):Prop:=
 ∃l1 l2,zA w B u1 l1/\zA w B u2 l2/\(l1≠[]/\l2≠[])/\(l1.length<=2/\l2.length<=2)/\(∀x,x∈l1\/x∈l2->0<=x/\x<n)/\(∀g,u1.ownBlock=some g\/u2.ownBlock=some g->g<S)
section
variable {w w':World} {B S S' n:Nat} {u u1 u2:Value}
theorem BoolD.keep (h:BoolD w B S n u) (T:∀g cs,g<S->zg w g 4 cs->w'.heap[g]?=w.heap[g]?) (M:S<=S'):BoolD w' B S' n u:=by
 obtain ⟨l,h1,h2,h3⟩:=h;refine ⟨l,?_,h2,fun g O=>Fq (h3 g O) M⟩;obtain ⟨G,h0 | ⟨g,cap,cur,rfl,I,E,J⟩⟩:=h1
 ·exact ⟨G,.inl h0⟩
 ·exact ⟨G,.inr ⟨g,cap,cur,rfl,I,(T g cur (h3 g rfl) E).trans E,J⟩⟩
theorem BT {v:Value} {l:List Int} (h:zA w B v l) (M:∀g cs,v.ownBlock=some g->zg w g 3 cs->w'.heap[g]?=w.heap[g]?):zA w' B v l:=by
 obtain ⟨G,h0 | ⟨g,cap,cur,rfl,I,E,J⟩⟩:=h
 ·exact ⟨G,.inl h0⟩
 ·exact ⟨G,.inr ⟨g,cap,cur,rfl,I,(M g cur rfl E).trans E,J⟩⟩
theorem TaskD.keep (h:TaskD w B S n u1 u2) (J:∀g cs,g<S->zg w g 3 cs->w'.heap[g]?=w.heap[g]?) (T:S<=S'):TaskD w' B S' n u1 u2:=by
 obtain ⟨l1,l2,h1,h2,h3,M,O,G⟩:=h;exact ⟨l1,l2,BT h1 (fun g cs E I=>J g cs (G g (.inl E)) I),BT h2 (fun g cs E I=>J g cs (G g (.inr E)) I),h3,M,O,fun g E=>Fq (G g E) T⟩
theorem BoolD.store (h:BoolD w B S n u) (p:Addr) (hp:p.spot=none) (b:Bool):BoolD (w.setCell p (.bool b)) B S n u:=by
 obtain ⟨l,h1,h2,h3⟩:=h;obtain ⟨pb,po,ps⟩:=p;obtain rfl:ps=none:=hp;obtain ⟨I,⟨rfl,h0⟩ | ⟨g,cap,cur,rfl,J,M,O,T,U,Z⟩⟩:=h1
 ·exact ⟨l,⟨I,.inl ⟨rfl,h0⟩⟩,h2,h3⟩
 ·by_cases hg:g=pb
  ·subst hg;refine ⟨l.set po b,?_,by simpa using h2,h3⟩;have E:w.ownsRow B 4 1 (.slice (some ⟨g,0,none⟩) l.length cap) l.length (l.map Value.bool):=⟨I,.inr ⟨g,cap,cur,rfl,J,M,O,T,U,Z⟩⟩;have G:=(E.stored po (.bool b)).1;unfold BW;rw [List.length_set,List.map_set];exact G
  ·exact ⟨l,⟨I,.inr ⟨g,cap,cur,rfl,J,(EW w ⟨pb,po,none⟩ _ g hg).trans M,O,T,U,Z⟩⟩,h2,h3⟩
end
structure MS (B:Nat) (w:World) (S gm gd:Nat) (W H L:Int) (n tF tT:Nat) (vF vU vT:Value) (fs ts:List Value):Prop where
 hB:B<=w.heap.size
 hS:S<=w.heap.size
 mz:zg w gm 32 #[.int .i64 W,.int .i64 H,.int .i64 L,vF,vU,vT]
 gm0:B<=gm
 dr:zZ B w gd
 F:w.ownsRow B 29 1 vF tF fs
 T:w.ownsRow B 56 3 vT tT ts
 fd:∀j,j<tF->∃u,fs[j]?=some u/\BoolD w B S n u
 td:∀j,j<tT->∃s u1 u2,ts[j*3]?=some (.string s)/\ts[j*3+1]?=some u1/\ts[j*3+2]?=some u2/\TaskD w B S n u1 u2
section
variable {B:Nat} {w w':World} {S S' gm gd:Nat} {W H L:Int} {n tF tT:Nat} {vF vU vU' vT:Value} {fs ts:List Value}
theorem MS.keep (h:MS B w S gm gd W H L n tF tT vF vU vT fs ts) (a1:w.heap.size<=w'.heap.size) (hm:w'.heap[gm]?=w.heap[gm]?) (hd:zZ B w' gd)
  (hk:∀g ty cs,g<w.heap.size->zg w g ty cs->ty=29\/ty=56->g∉([]:List Nat)->w'.heap[g]?=w.heap[g]?) (I:∀g ty cs,g<S->zg w g ty cs->ty=4\/ty=3->w'.heap[g]?=w.heap[g]?) (hS:S<=S') (O:S'<=w'.heap.size):
  MS B w' S' gm gd W H L n tF tT vF vU vT fs ts:=by
 refine ⟨EP h.hB a1,O,hm.trans h.mz,h.gm0,hd,?_,?_,fun j hj=>?_,fun j hj=>?_⟩
 ·obtain ⟨J,h0 | ⟨g,cap,cur,rfl,G,E,M⟩⟩:=h.F
  ·exact ⟨J,.inl h0⟩
  ·exact ⟨J,.inr ⟨g,cap,cur,rfl,G,(hk g _ cur (zd E) E (.inl rfl) (by simp)).trans E,M⟩⟩
 ·obtain ⟨J,h0 | ⟨g,cap,cur,rfl,G,E,M⟩⟩:=h.T
  ·exact ⟨J,.inl h0⟩
  ·exact ⟨J,.inr ⟨g,cap,cur,rfl,G,(hk g _ cur (zd E) E (.inr rfl) (by simp)).trans E,M⟩⟩
 ·obtain ⟨u,h1,h2⟩:=h.fd j hj;exact ⟨u,h1,h2.keep (fun g cs Z U=>I g _ cs Z U (.inl rfl)) hS⟩
 ·obtain ⟨s,u1,u2,h1,h2,h3,G⟩:=h.td j hj;exact ⟨s,u1,u2,h1,h2,h3,G.keep (fun g cs Z U=>I g _ cs Z U (.inr rfl)) hS⟩
theorem MS.ext (h:MS B w S gm gd W H L n tF tT vF vU vT fs ts) (E:zb w w'):MS B w' w'.heap.size gm gd W H L n tF tT vF vU vT fs ts:=
 h.keep E.size (E.block gm (zd h.mz)) (h.dr.ext E h.hB) (fun g _ _ G _ _ _=>E.block g G) (fun g _ _ G _ _=>E.block g (Fq G h.hS)) (EP h.hS E.size) (EN _)
theorem MS.extS (h:MS B w S gm gd W H L n tF tT vF vU vT fs ts) (E:zb w w'):MS B w' S gm gd W H L n tF tT vF vU vT fs ts:=
 h.keep E.size (E.block gm (zd h.mz)) (h.dr.ext E h.hB) (fun g _ _ G _ _ _=>E.block g G) (fun g _ _ G _ _=>E.block g (Fq G h.hS)) (EN _) (EP h.hS E.size)
theorem MS.drawn (h:MS B w S gm gd W H L n tF tT vF vU vT fs ts) (T:zZ B w' gd) (I:w.grownBy w' (some gd)):MS B w' S gm gd W H L n tF tT vF vU vT fs ts:=by
 obtain ⟨cs,O⟩:=h.dr.blk
 have G:∀g ty cs',zg w g ty cs'->ty≠108->w'.heap[g]?=w.heap[g]?:=fun g ty cs' E M=>I.block g (zd E) (fun e=>by
  injection e with e;exact zg.ne_ E O M e)
 refine h.keep I.size (G gm _ _ h.mz (by decide)) T (fun g ty cs' _ E J _=>G g ty cs' E (by rcases J with rfl | rfl <;> decide)) (fun g ty cs' _ E J=>G g ty cs' E (by rcases J with rfl | rfl <;> decide)) (EN _) (EP h.hS I.size)
theorem MS.store (h:MS B w S gm gd W H L n tF tT vF vU vT fs ts) {g k:Nat} {cs:Array Value} (hb:zg w g 4 cs) (a4:B<=g) (b:Bool):MS B (w.setCell ⟨g,k,none⟩ (.bool b)) S gm gd W H L n tF tT vF vU vT fs ts:=by
 have I:∀g' ty cs',zg w g' ty cs'->ty≠4->(w.setCell ⟨g,k,none⟩ (.bool b)).heap[g']?=w.heap[g']?:=fun g' ty cs' E Z=>EW w ⟨g,k,none⟩ _ g' (zg.ne_ E hb Z)
 have J:(w.setCell ⟨g,k,none⟩ (.bool b)).heap.size=w.heap.size:=by simp [World.setCell]
 refine ⟨by rw [J];exact h.hB,by rw [J];exact h.hS,(I gm _ _ h.mz (by decide)).trans h.mz,h.gm0,?_,?_,?_,fun j U=>?_,fun j U=>?_⟩
 ·obtain ⟨cs',E⟩:=h.dr.blk;obtain ⟨h0,v,k',l,h1,h2,h3⟩:=h.dr;refine ⟨h0,v,k',l,(I gd _ _ E (by decide)).trans h1,?_,h3⟩
  exact h2.keep fun b' a0 a6=>EW w ⟨g,k,none⟩ _ b' (by
   show b'≠g;omega)
 ·exact Ai h.F fun g' G=>by
   obtain ⟨hl,⟨rfl,_⟩ | ⟨g2,cap,cur,rfl,M,O,h6⟩⟩:=h.F
   ·cases G
   ·have:g2=g':=by simpa [Value.ownBlock] using G
    subst this;exact I g2 _ _ O (by decide)
 ·exact Ai h.T fun g' G=>by
   obtain ⟨hl,⟨rfl,_⟩ | ⟨g2,cap,cur,rfl,M,O,h6⟩⟩:=h.T
   ·cases G
   ·have:g2=g':=by simpa [Value.ownBlock] using G
    subst this;exact I g2 _ _ O (by decide)
 ·obtain ⟨u,h1,h2⟩:=h.fd j U;exact ⟨u,h1,h2.store _ rfl b⟩
 ·obtain ⟨s,u1,u2,h1,h2,h3,M⟩:=h.td j U;exact ⟨s,u1,u2,h1,h2,h3,M.keep (fun g' cs' _ E=>I g' _ cs' E (by decide)) (EN _)⟩
theorem MS.addT (h:MS B w S gm gd W H L n tF tT vF vU vT fs ts) {s:ByteArray} {u1 u2 vT':Value} (hd:TaskD w B S n u1 u2) (ho:w5.ownsRow B 56 3 vT' (tT+1) (ts++[.string s,u1,u2])) (hg:(w.alloc o).grownBy w5 vT.ownBlock):
  MS B (w5.setCell ⟨gm,5,none⟩ vT') S gm gd W H L n tF (tT+1) vF vU vT' fs (ts++[.string s,u1,u2])/\
   (∀g ty cs,zg w g ty cs->ty≠56->ty≠32->(w5.setCell ⟨gm,5,none⟩ vT').heap[g]?=w.heap[g]?)/\Below B w (w5.setCell ⟨gm,5,none⟩ vT'):=by
 have h1:∀g ty cs,zg w g ty cs->ty≠56->w5.heap[g]?=w.heap[g]?:=fun g ty cs G J=>(hg.block g (by have:=zd G;simp;omega) (fun e=>zj h.T G (Ne.symm J) e.symm)).trans (Ff _ _ _ (zd G))
 have U:zg w5 gm 32 #[.int .i64 W,.int .i64 H,.int .i64 L,vF,vU,vT]:=(h1 gm _ _ h.mz (by decide)).trans h.mz;have h2:∀g ty cs,zg w g ty cs->ty≠56->ty≠32->(w5.setCell ⟨gm,5,none⟩ vT').heap[g]?=w.heap[g]?:=fun g ty cs G J a0=>(EW w5 ⟨gm,5,none⟩ _ g (zg.ne_ G h.mz a0)).trans (h1 g ty cs G J)
 have Z:w.heap.size<=(w5.setCell ⟨gm,5,none⟩ vT').heap.size:=by have:=hg.size;simp [World.setCell] at this⊢;omega
 have I:Below B w (w5.setCell ⟨gm,5,none⟩ vT'):=by
  have h3:Below B w (w.alloc o):=(Below.refl B w).alloc h.hB _;have M:Below B w w5:=h3.grown hg (by simp;have:=h.hB;omega) (fun k hk=>(h.T.lt k hk).1);exact M.setCell (p:=⟨gm,5,none⟩) h.gm0 _
 refine ⟨⟨EP h.hB Z,EP h.hS Z,U.set (k:=5) vT',h.gm0,?_,?_,?_,fun j hj=>?_,fun j hj=>?_⟩,h2,I⟩
 ·obtain ⟨cs,G⟩:=h.dr.blk;exact h.dr.keep I (h2 gd _ _ G (by decide) (by decide))
 ·exact Ai h.F fun g E=>by
   obtain ⟨hl,⟨e,_⟩ | ⟨g2,cap,cur,e,M,h5,h6⟩⟩:=h.F
   ·rw [e] at E;cases E
   ·rw [e] at E;have:g2=g:=by simpa [Value.ownBlock] using E
    subst this;exact h2 g2 _ _ h5 (by decide) (by decide)
 ·exact Ai ho fun g E=>EW w5 ⟨gm,5,none⟩ _ g (fun e=>by
   have e':g=gm:=e;subst e';exact zj ho U (by decide) E)
 ·obtain ⟨u,h3,M⟩:=h.fd j hj;exact ⟨u,h3,M.keep (fun g cs _ G=>h2 g _ cs G (by decide) (by decide)) (EN _)⟩
 ·have a7:ts.length=tT*3:=h.T.1;have O:∀{a b:Value},TaskD w B S n a b->TaskD (w5.setCell ⟨gm,5,none⟩ vT') B S n a b:=fun hh=>hh.keep (fun g cs _ G=>h2 g _ cs G (by decide) (by decide)) (EN _)
  rcases Fk j tT with hj2 | hj2
  ·obtain ⟨s',a,b,h3,M,h5,h6⟩:=h.td j hj2;exact ⟨s',a,b,by rw [ES (by omega)];exact h3,by rw [ES (by omega)];exact M,by rw [ES (by omega)];exact h5,O h6⟩
  ·have a4:j=tT:=by omega
   subst a4;refine ⟨s,u1,u2,?_,?_,?_,O hd⟩
   ·rw [ET (by omega),show j*3 - ts.length=0 from by omega];rfl
   ·rw [ET (by omega),show j*3+1 - ts.length=1 from by omega];rfl
   ·rw [ET (by omega),show j*3+2 - ts.length=2 from by omega];rfl
theorem MS.addF (h:MS B w S gm gd W H L n tF tT vF vU vT fs ts) {u vF':Value} (hd:BoolD w B S n u) (ho:w5.ownsRow B 29 1 vF' (tF+1) (fs++[u])) (hg:(w.alloc o).grownBy w5 vF.ownBlock):
  MS B (w5.setCell ⟨gm,3,none⟩ vF') S gm gd W H L n (tF+1) tT vF' vU vT (fs++[u]) ts/\Below B w (w5.setCell ⟨gm,3,none⟩ vF'):=by
 have h1:∀g ty cs,zg w g ty cs->ty≠29->w5.heap[g]?=w.heap[g]?:=fun g ty cs G J=>(hg.block g (by have:=zd G;simp;omega) (fun e=>zj h.F G (Ne.symm J) e.symm)).trans (Ff _ _ _ (zd G))
 have U:zg w5 gm 32 #[.int .i64 W,.int .i64 H,.int .i64 L,vF,vU,vT]:=(h1 gm _ _ h.mz (by decide)).trans h.mz;have h2:∀g ty cs,zg w g ty cs->ty≠29->ty≠32->(w5.setCell ⟨gm,3,none⟩ vF').heap[g]?=w.heap[g]?:=fun g ty cs G J a0=>(EW w5 ⟨gm,3,none⟩ _ g (zg.ne_ G h.mz a0)).trans (h1 g ty cs G J)
 have Z:w.heap.size<=(w5.setCell ⟨gm,3,none⟩ vF').heap.size:=by have:=hg.size;simp [World.setCell] at this⊢;omega
 have I:Below B w (w5.setCell ⟨gm,3,none⟩ vF'):=by
  have h3:Below B w (w.alloc o):=(Below.refl B w).alloc h.hB _;have M:Below B w w5:=h3.grown hg (by simp;have:=h.hB;omega) (fun k hk=>(h.F.lt k hk).1);exact M.setCell (p:=⟨gm,3,none⟩) h.gm0 _
 refine ⟨⟨EP h.hB Z,EP h.hS Z,U.set (k:=3) vF',h.gm0,?_,?_,?_,fun j hj=>?_,fun j hj=>?_⟩,I⟩
 ·obtain ⟨cs,G⟩:=h.dr.blk;exact h.dr.keep I (h2 gd _ _ G (by decide) (by decide))
 ·exact Ai ho fun g E=>EW w5 ⟨gm,3,none⟩ _ g (fun e=>by
   have e':g=gm:=e;subst e';exact zj ho U (by decide) E)
 ·exact Ai h.T fun g E=>by
   obtain ⟨hl,⟨e,_⟩ | ⟨g2,cap,cur,e,M,h5,h6⟩⟩:=h.T
   ·rw [e] at E;cases E
   ·rw [e] at E;have:g2=g:=by simpa [Value.ownBlock] using E
    subst this;exact h2 g2 _ _ h5 (by decide) (by decide)
 ·have a7:fs.length=tF:=by have:=h.F.1;omega
  have O:∀{a:Value},BoolD w B S n a->BoolD (w5.setCell ⟨gm,3,none⟩ vF') B S n a:=fun hh=>hh.keep (fun g cs _ G=>h2 g _ cs G (by decide) (by decide)) (EN _)
  rcases Fk j tF with hj2 | hj2
  ·obtain ⟨a,h3,M⟩:=h.fd j hj2;exact ⟨a,by rw [ES (by omega)];exact h3,O M⟩
  ·have a4:j=tF:=by omega
   subst a4;exact ⟨u,by rw [ET (by omega),show j - fs.length=0 from by omega];rfl,O hd⟩
 ·obtain ⟨s,u1,u2,h3,M,h5,h6⟩:=h.td j hj;exact ⟨s,u1,u2,h3,M,h5,h6.keep (fun g cs _ G=>h2 g _ cs G (by decide) (by decide)) (EN _)⟩
theorem MS.addU (h:MS B w S gm gd W H L n tF tT vF vU vT fs ts) {x:Bool} {us:List Bool} (b0:B<=S) (hu:BW w S vU us) (ho:w5.ownsRow S 4 1 vU' (us.length+1) (us.map Value.bool++[.bool x])) (hg:(w.alloc o).grownBy w5 vU.ownBlock):
  MS B (w5.setCell ⟨gm,4,none⟩ vU') S gm gd W H L n tF tT vF vU' vT fs ts/\BW (w5.setCell ⟨gm,4,none⟩ vU') S vU' (us++[x])/\Below B w (w5.setCell ⟨gm,4,none⟩ vU'):=by
 have h1:∀g ty cs,zg w g ty cs->ty≠4\/g<S->w5.heap[g]?=w.heap[g]?:=fun g ty cs G hty=>(hg.block g (by have:=zd G;simp;omega) (fun e=>by
  rcases hty with hty | hty
  ·exact zj hu G (Ne.symm hty) e.symm
  ·have:=(World.ownsRow.lt hu g e.symm).1;omega)).trans (Ff _ _ _ (zd G))
 have O:zg w5 gm 32 #[.int .i64 W,.int .i64 H,.int .i64 L,vF,vU,vT]:=(h1 gm _ _ h.mz (.inl (by decide))).trans h.mz;have h2:∀g ty cs,zg w g ty cs->ty≠4\/g<S->ty≠32->(w5.setCell ⟨gm,4,none⟩ vU').heap[g]?=w.heap[g]?:=fun g ty cs G hty Z=>(EW w5 ⟨gm,4,none⟩ _ g (zg.ne_ G h.mz Z)).trans (h1 g ty cs G hty)
 have U:w.heap.size<=(w5.setCell ⟨gm,4,none⟩ vU').heap.size:=by have:=hg.size;simp [World.setCell] at this⊢;omega
 have I:Below B w (w5.setCell ⟨gm,4,none⟩ vU'):=by
  have h3:Below B w (w.alloc o):=(Below.refl B w).alloc h.hB _;have M:Below B w w5:=h3.grown hg (by simp;have:=h.hB;omega) (fun k hk=>by have:=(World.ownsRow.lt hu k hk).1;omega);exact M.setCell (p:=⟨gm,4,none⟩) h.gm0 _
 have J:∀{e:TypeId} {sz k:Nat} {v:Value} {xs:List Value},w.ownsRow B e sz v k xs->e≠4->e≠32->(w5.setCell ⟨gm,4,none⟩ vU').ownsRow B e sz v k xs:=fun hr he a1=>Ai hr fun g E=>by
  obtain ⟨hl,⟨e,_⟩ | ⟨g2,cap,cur,e,M,h5,h6⟩⟩:=hr
  ·rw [e] at E;cases E
  ·rw [e] at E;have:g2=g:=by simpa [Value.ownBlock] using E
   subst this;exact h2 g2 _ _ h5 (.inl he) a1
 refine ⟨⟨EP h.hB U,EP h.hS U,O.set (k:=4) vU',h.gm0,?_,J h.F (by decide) (by decide),J h.T (by decide) (by decide),fun j hj=>?_,fun j hj=>?_⟩,?_,I⟩
 ·obtain ⟨cs,G⟩:=h.dr.blk;exact h.dr.keep I (h2 gd _ _ G (.inl (by decide)) (by decide))
 ·obtain ⟨u,h3,M⟩:=h.fd j hj;exact ⟨u,h3,M.keep (fun g cs a4 G=>h2 g _ cs G (.inr a4) (by decide)) (EN _)⟩
 ·obtain ⟨s,u1,u2,h3,M,h5,h6⟩:=h.td j hj;exact ⟨s,u1,u2,h3,M,h5,h6.keep (fun g cs _ G=>h2 g _ cs G (.inl (by decide)) (by decide)) (EN _)⟩
 ·unfold BW;rw [EV,Fo,FG]
  exact Ai ho fun g E=>EW w5 ⟨gm,4,none⟩ _ g (fun e=>by
   have e':g=gm:=e;subst e';exact zj ho O (by decide) E)
end
structure R1 (B:Nat) (w:World) (S ge gt n:Nat) (s:ByteArray) (u1 u2:Value) (l1 l2:List Int):Prop where
 hB:B<=S
 hS:S<=w.heap.size
 dr:zZ B w ge
 hge:S<=ge
 tk:zg w gt 56 #[.string s,u1,u2]
 hgt:S<=gt
 o1:zA w S u1 l1
 o2:zA w S u2 l2
 ne:u1.ownBlock=none\/u1.ownBlock≠u2.ownBlock
 e1:l1≠[]
 e2:l2≠[]
 rg:∀x,x∈l1\/x∈l2->0<=x/\x<(n:Int)
section
variable {B:Nat} {w w':World} {S ge gt n:Nat} {s:ByteArray} {u1 u2:Value} {l1 l2:List Int}
theorem R1.keep (h:R1 B w S ge gt n s u1 u2 l1 l2) (I:Below B w w') (G:∀g ty cs,zg w g ty cs->ty=108\/ty=56\/ty=3->w'.heap[g]?=w.heap[g]?):R1 B w' S ge gt n s u1 u2 l1 l2:=by
 obtain ⟨cs,E⟩:=h.dr.blk;exact ⟨h.hB,EP h.hS I.size,h.dr.keep I (G ge _ _ E (.inl rfl)),h.hge,(G gt _ _ h.tk (.inr (.inl rfl))).trans h.tk,h.hgt,BT h.o1 (fun g cs _ E=>G g _ cs E (.inr (.inr rfl))),BT h.o2 (fun g cs _ E=>G g _ cs E (.inr (.inr rfl))),h.ne,h.e1,h.e2,h.rg⟩
theorem R1.ext (h:R1 B w S ge gt n s u1 u2 l1 l2) (E:zb w w'):R1 B w' S ge gt n s u1 u2 l1 l2:=
 h.keep (E.mono (EP h.hB h.hS)) (fun g _ _ G _=>E.block g (zd G))
theorem R1.drawn (h:R1 B w S ge gt n s u1 u2 l1 l2) (O:zZ B w' ge) (M:w.grownBy w' (some ge)):R1 B w' S ge gt n s u1 u2 l1 l2:=by
 obtain ⟨cs,G⟩:=h.dr.blk
 have E:∀g ty cs',zg w g ty cs'->ty≠108->w'.heap[g]?=w.heap[g]?:=fun g ty cs' I J=>M.block g (zd I) (fun e=>by
  injection e with e;exact zg.ne_ I G J e)
 exact ⟨h.hB,EP h.hS M.size,O,h.hge,(E gt _ _ h.tk (by decide)).trans h.tk,h.hgt,BT h.o1 (fun g cs _ G=>E g _ cs G (by decide)),BT h.o2 (fun g cs _ G=>E g _ cs G (by decide)),h.ne,h.e1,h.e2,h.rg⟩
theorem R1.drawnExt {wR:World} (h:R1 B w wR.heap.size ge gt n s u1 u2 l1 l2) (E:zb wR w) (I:w.grownBy w' (some ge)):zb wR w':=
 Below.grown E I E.size (fun k G=>by injection G with G;have:=h.hge;omega)
theorem R1.add1 (h:R1 B w S ge gt n s u1 u2 l1 l2) {u1':Value} {x:Int} (hx:0<=x/\x<(n:Int)) (U:w5.ownsRow S 3 1 u1' (l1.length+1) (l1.map (Value.int .i64)++[.int .i64 x])) (T:(w.alloc o).grownBy w5 u1.ownBlock)
  (hv:u1'.ownBlock=u1.ownBlock\/u1'.ownBlock=some (w.heap.size+1)):R1 B (w5.setCell ⟨gt,1,none⟩ u1') S ge gt n s u1' u2 (l1++[x]) l2/\Below S w (w5.setCell ⟨gt,1,none⟩ u1'):=by
 obtain ⟨cs,E⟩:=h.dr.blk;have h1:∀g ty cs,zg w g ty cs->u1.ownBlock≠some g->w5.heap[g]?=w.heap[g]?:=fun g ty cs E J=>(T.block g (by have:=zd E;simp;omega) (fun e=>J e.symm)).trans (Ff _ _ _ (zd E))
 have M:zg w5 gt 56 #[.string s,u1,u2]:=(h1 gt _ _ h.tk (zj h.o1 h.tk (by decide))).trans h.tk;have h2:∀g ty cs,zg w g ty cs->u1.ownBlock≠some g->ty≠56->(w5.setCell ⟨gt,1,none⟩ u1').heap[g]?=w.heap[g]?:=fun g ty cs E J a0=>(EW w5 ⟨gt,1,none⟩ _ g (zg.ne_ E h.tk a0)).trans (h1 g ty cs E J)
 have Z:w.heap.size<=(w5.setCell ⟨gt,1,none⟩ u1').heap.size:=by have:=T.size;simp [World.setCell] at this⊢;omega
 have G:Below S w (w5.setCell ⟨gt,1,none⟩ u1'):=by
  have h3:Below S w (w.alloc o):=(Below.refl S w).alloc h.hS _;have h4:Below S w w5:=h3.grown T (by simp;have:=h.hS;omega) (fun k hk=>(World.ownsRow.lt h.o1 k hk).1);exact h4.setCell (p:=⟨gt,1,none⟩) h.hgt _
 refine ⟨⟨h.hB,EP h.hS Z,h.dr.keep (G.mono h.hB) (h2 ge _ _ E (zj h.o1 E (by decide)) (by decide)),h.hge,M.set (k:=1) u1',h.hgt,?_,?_,?_,by simp,h.e2,?_⟩,G⟩
 ·show World.ownsRow _ _ _ _ _ (l1++[x]).length _;rw [EV,Fo,FG]
  exact Ai U fun g I=>EW w5 ⟨gt,1,none⟩ _ g (fun e=>by
   have e':g=gt:=e;subst e';exact zj U M (by decide) I)
 ·exact BT h.o2 (fun g cs I O=>h2 g _ cs O (fun e=>by
   rcases h.ne with hn | hn
   ·rw [hn] at e;cases e
   ·exact hn (e.trans I.symm)) (by decide))
 ·right
  rcases hv with hv | hv
  ·rw [hv];rcases h.ne with hn | hn
   ·rw [hn] at hv;obtain ⟨g,c,e,_,_⟩:=World.ownsRow.form U (by omega);rw [e] at hv;cases hv
   ·exact hn
  ·rw [hv];intro e;have:=(World.ownsRow.lt h.o2 _ e.symm).2;omega
 ·intro y hy;rcases hy with hy | hy
  ·rcases FE.1 hy with hy | hy
   ·exact h.rg y (.inl hy)
   ·rw [Fv] at hy;rw [hy];exact hx
  ·exact h.rg y (.inr hy)
theorem R1.add2 (h:R1 B w S ge gt n s u1 u2 l1 l2) {u2':Value} {x:Int} (hx:0<=x/\x<(n:Int)) (ho:w5.ownsRow S 3 1 u2' (l2.length+1) (l2.map (Value.int .i64)++[.int .i64 x])) (T:(w.alloc o).grownBy w5 u2.ownBlock)
  (hv:u2'.ownBlock=u2.ownBlock\/u2'.ownBlock=some (w.heap.size+1)):R1 B (w5.setCell ⟨gt,2,none⟩ u2') S ge gt n s u1 u2' l1 (l2++[x])/\Below S w (w5.setCell ⟨gt,2,none⟩ u2'):=by
 obtain ⟨cs,G⟩:=h.dr.blk;have h1:∀g ty cs,zg w g ty cs->u2.ownBlock≠some g->w5.heap[g]?=w.heap[g]?:=fun g ty cs G J=>(T.block g (by have:=zd G;simp;omega) (fun e=>J e.symm)).trans (Ff _ _ _ (zd G))
 have M:zg w5 gt 56 #[.string s,u1,u2]:=(h1 gt _ _ h.tk (zj h.o2 h.tk (by decide))).trans h.tk;have h2:∀g ty cs,zg w g ty cs->u2.ownBlock≠some g->ty≠56->(w5.setCell ⟨gt,2,none⟩ u2').heap[g]?=w.heap[g]?:=fun g ty cs G J Z=>(EW w5 ⟨gt,2,none⟩ _ g (zg.ne_ G h.tk Z)).trans (h1 g ty cs G J)
 have U:w.heap.size<=(w5.setCell ⟨gt,2,none⟩ u2').heap.size:=by have:=T.size;simp [World.setCell] at this⊢;omega
 have I:Below S w (w5.setCell ⟨gt,2,none⟩ u2'):=by
  have h3:Below S w (w.alloc o):=(Below.refl S w).alloc h.hS _;have h4:Below S w w5:=h3.grown T (by simp;have:=h.hS;omega) (fun k hk=>(World.ownsRow.lt h.o2 k hk).1);exact h4.setCell (p:=⟨gt,2,none⟩) h.hgt _
 refine ⟨⟨h.hB,EP h.hS U,h.dr.keep (I.mono h.hB) (h2 ge _ _ G (zj h.o2 G (by decide)) (by decide)),h.hge,M.set (k:=2) u2',h.hgt,?_,?_,?_,h.e1,by simp,?_⟩,I⟩
 ·exact BT h.o1 (fun g cs E O=>h2 g _ cs O (fun e=>by
   rcases h.ne with hn | hn
   ·rw [hn] at E;cases E
   ·exact hn (E.trans e.symm)) (by decide))
 ·show World.ownsRow _ _ _ _ _ (l2++[x]).length _;rw [EV,Fo,FG]
  exact Ai ho fun g E=>EW w5 ⟨gt,2,none⟩ _ g (fun e=>by
   have e':g=gt:=e;subst e';exact zj ho M (by decide) E)
 ·rcases hv with hv | hv
  ·rw [hv];exact h.ne
  ·by_cases h0:u1.ownBlock=none
   ·exact .inl h0
   ·right
    rw [hv];intro e;have:=(World.ownsRow.lt h.o1 _ e).2;omega
 ·intro y hy;rcases hy with hy | hy
  ·exact h.rg y (.inl hy)
  ·rcases FE.1 hy with hy | hy
   ·exact h.rg y (.inr hy)
   ·rw [Fv] at hy;rw [hy];exact hx
theorem R1.taskD (h:R1 B w S ge gt n s u1 u2 l1 l2) (k1:l1.length<=2) (k2:l2.length<=2):TaskD w B w.heap.size n u1 u2:=
 ⟨l1,l2,World.ownsRow.mono h.o1 h.hB,World.ownsRow.mono h.o2 h.hB,⟨h.e1,h.e2⟩,⟨k1,k2⟩,h.rg,fun g hg=>by
  rcases hg with hg | hg
  ·exact (World.ownsRow.lt h.o1 g hg).2
  ·exact (World.ownsRow.lt h.o2 g hg).2⟩
end
theorem BW.app {S:Nat} {v':Value} {x:Bool} (E:w5.ownsRow S 4 1 v' (l.length+1) (l.map Value.bool++[.bool x])):BW w5 S v' (l++[x]):=by
 unfold BW;rw [EV,Fo,FG];exact E
theorem R1.grownB {B:Nat} {w:World} {S S2 ge gt n:Nat} {s:ByteArray} {u1 u2 v:Value} {l1 l2:List Int} (h:R1 B w S ge gt n s u1 u2 l1 l2) (M:BW w S2 v l) (O:S<=S2) (J:(w.alloc o).grownBy w5 v.ownBlock):R1 B w5 S ge gt n s u1 u2 l1 l2/\Below S w w5:=by
 have E:Below S w w5:=by
  have h3:Below S w (w.alloc o):=(Below.refl S w).alloc h.hS _;exact h3.grown J (by simp;have:=h.hS;omega) (fun k T=>EP O (World.ownsRow.lt M k T).1)
 refine ⟨h.keep (E.mono h.hB) fun g ty cs G I=>?_,E⟩;exact (J.block g (by have:=zd G;simp;omega) (fun e=>zj M G (by rcases I with rfl | rfl | rfl <;> decide) e.symm)).trans (Ff _ _ _ (zd G))
theorem cells3n (w:World) (a b c:Value) (t:TypeId):∀j u,[a,b,c][j]?=some u->(w.alloc (.cells #[a,b,c] t)).cell? ((⟨w.heap.size,0,none⟩:Addr).add j)=some u:=by
 intro j u E;have G:zg (w.alloc (.cells #[a,b,c] t)) w.heap.size t #[a,b,c]:=zg.new _ _ _ rfl
 match j,E with
 | 0,E=>exact G.cell (k:=0) E
 | 1,E=>exact G.cell (k:=1) E
 | 2,E=>exact G.cell (k:=2) E
section
variable {B:Nat} {w:World} {S S2 gm gd ge gt:Nat} {W H L:Int} {n t:Nat} {vF vU vT vf:Value} {fs ts:List Value} {s:ByteArray} {u1 u2:Value} {l1 l2:List Int} {lf:List Bool}
theorem MS.end1 (h:MS B w w.heap.size gm gd W H L n t t vF vU vT fs ts) (O:R1 B w S ge gt n s u1 u2 l1 l2) (k1:l1.length<=2) (k2:l2.length<=2) (G:BW w S2 vf lf) {vT':Value} {w9:World} (M:w9.ownsRow B 56 3 vT' (t+1) (ts++[.string s,u1,u2])) (J:(w.alloc o).grownBy w9 vT.ownBlock):
  MS B (w9.setCell ⟨gm,5,none⟩ vT') w.heap.size gm gd W H L n t (t+1) vF vU vT' fs (ts++[.string s,u1,u2])/\BW (w9.setCell ⟨gm,5,none⟩ vT') S2 vf lf/\Below B w (w9.setCell ⟨gm,5,none⟩ vT'):=by
 obtain ⟨h1,h2,h3⟩:=h.addT (O.taskD k1 k2) M J;refine ⟨h1,Ai G fun g E=>?_,h3⟩;obtain ⟨Z,⟨e,_⟩ | ⟨g2,cap,cur,e,T,I,U⟩⟩:=G
 ·rw [e] at E;cases E
 ·rw [e] at E;have:g2=g:=by simpa [Value.ownBlock] using E
  subst this;exact h2 g2 _ _ I (by decide) (by decide)
theorem MS.end2 (h:MS B w S gm gd W H L n t (t+1) vF vU vT fs ts) (J:BW w S2 vf lf) (E:lf.length=n) (G:B<=S2) (I:∀g,vf.ownBlock=some g->g<S) {vF':Value} {w9:World} (O:w9.ownsRow B 29 1 vF' (t+1) (fs++[vf])) (M:(w.alloc o).grownBy w9 vF.ownBlock):
  MS B (w9.setCell ⟨gm,3,none⟩ vF') (w9.setCell ⟨gm,3,none⟩ vF').heap.size gm gd W H L n (t+1) (t+1) vF' vU vT (fs++[vf]) ts/\Below B w (w9.setCell ⟨gm,3,none⟩ vF'):=by
 obtain ⟨h1,h2⟩:=h.addF ⟨lf,World.ownsRow.mono J G,E,I⟩ O M;exact ⟨h1.ext (zb.refl _),h2⟩
theorem MS.c5 (h:MS B w S gm gd W H L n t (t+1) vF vU vT fs ts):w.cell? ⟨gm,3,none⟩=some vF:=h.mz.cell (k:=3) rfl
end
theorem hasB {w:World} {B:Nat} {u:Value} {l:List Int} (k:Int) (o:zA w B u l) (G:l.length<=1000):∃b,∀W,zb w W->Calls Tryz.prog 12 #[u,.int .i64 k] W fun e w'=>e=.returned (.bool b)/\W=w':=
 ⟨_,fun W E=>zL k W (zi.below (zV.of_own o) E) (by omega)⟩
theorem DU {w:World} {B n g:Nat} {e:TypeId} (h:w.ownsRow B e sz (.slice (some ⟨g,0,none⟩) n c) n xs):∃cs,zg w g e cs:=by
 obtain ⟨_,⟨e,_⟩ | ⟨g2,cap,cur,e,_,E,_⟩⟩:=h
 ·cases e
 ·injection e with e _ _;injection e with e;injection e with e;subst e;exact ⟨cur,E⟩
theorem MS.stored {B:Nat} {w1 w:World} {S gm gd g:Nat} {W H L:Int} {n tF tT:Nat} {vF vU vT:Value} {fs ts:List Value} (h:MS B w S gm gd W H L n tF tT vF vU vT fs ts) (I:zb w1 w) (M:B=w1.heap.size) (E:∃cs,zg w g 4 cs) (J:B<=g) (b:Bool):
  MS B (w.drew.setCell ⟨g,k,none⟩ (.bool b)) (w.drew.setCell ⟨g,k,none⟩ (.bool b)).heap.size gm gd W H L n tF tT vF vU vT fs ts/\zb w1 (w.drew.setCell ⟨g,k,none⟩ (.bool b)):=by
 obtain ⟨cs,E⟩:=E;have h1:=h.extS ((zb.refl w).drew);have G:zg w.drew g 4 cs:=E;have h2:=h1.store (k:=k) G J b;exact ⟨h2.ext (zb.refl _),I.drew.setCell (p:=⟨g,k,none⟩) (by show w1.heap.size<=g;omega) _⟩
structure ElemI (t e:TypeId) (z:Value) (sz bytes:Nat):Prop where
 ht:Tryz.prog.underlying t=some (.slice e)
 hi:(Tryz.prog.info? e).map (fun i=>(i.zero,i.size,i.bytes))=some (some z,sz,bytes)
 hz:z.cells.size=sz
 h0:0<sz
theorem Eo (w:World) (base:Nat) (t ty e:TypeId) (z:Value) (sz bytes:Nat) (I:ElemI t e z sz bytes)
  (v:Value) (n:Nat) (xs:List Value) (M:w.ownsRow base e sz v n xs) (u:Value) (m:Nat) (news:List Value) (hu:zV w ok sz u m news) (h1:∀u∈news,u.oneCell'=true)
  (U:n+m<=maxLen) (G:(n+m)*bytes<=140737488355328) (O:base<=w.heap.size):
  ∃v' w',(Builtin.append_ #[t,t] ty #[v,u]).run Tryz.prog w=.ok v' w'/\w'.ownsRow base e sz v' (n+m) (xs++news)/\w.grownBy w' v.ownBlock/\(v'.ownBlock=v.ownBlock\/v'.ownBlock=some w.heap.size):=by
 obtain ⟨i,hi,hz,E,Z⟩:=info_parts I.hi;have ht:=I.ht;have a1:=I.hz;have T:=I.h0;obtain ⟨A,c,rfl,hc,hl,J⟩:=hu;rcases A with _ | a
 ·have hm:m=0:=by
   rcases Fz m with h | h
   ·exact h
   ·obtain ⟨b,off,e,_⟩:=J h;cases e
  subst hm;have hn:news=[]:=Fe (by simpa using hl);subst hn;refine ⟨v,w,?_,by simpa using M,⟨rfl,rfl,rfl,EN _,fun _ _ _=>rfl⟩,.inl rfl⟩;rcases M.2 with ⟨rfl,rfl⟩ | ⟨g,cap,cur,rfl,b1,hg,b5,b2,b3,a8⟩
  ·simp [Builtin.append_,run_underlying ht,sizeOf,typeInfo,hi,E,Builtin.lenOf,Builtin.firstCells,loadCells,loadCellsFrom]
  ·have h:=run_append_room_src (P:=Tryz.prog) w t t ty e i ht hi g 0 n cap (.slice none 0 c) 0 [] (by rw [E];exact Src.ofNil w ht c) (by omega) (by simp) (by simp);rw [setCells_nil] at h;simpa using h
 ·rcases Fz m with h0 | hmp
  ·subst h0;have hn:news=[]:=Fe (by simpa using hl);subst hn;obtain ⟨v',w',h1,h2,h3,h4,h5⟩:=run_append_own_at (P:=Tryz.prog) w base t ty e i z sz bytes ht hi hz E Z a1 T v n xs M a 0 c [] (by simp) (by simp) (by simp) U G O;exact ⟨v',w',h1,h2,h3,h5⟩
  ·obtain ⟨b,off,he,_,a5⟩:=J hmp;injection he with he;subst he;obtain ⟨v',w',h1,h2,h3,h4,h5⟩:=run_append_own_at (P:=Tryz.prog) w base t ty e i z sz bytes ht hi hz E Z a1 T v n xs M ⟨b,off,none⟩ m c news hl (fun j u hj=>by rw [Addr.add_lit];exact a5 j u hj) h1 U G O;exact ⟨v',w',h1,h2,h3,h5⟩
theorem Dd {o:Oper} (W:World) (s x:Operand) {t e:TypeId} (I:ElemI t e z sz bytes)
  (T:o.op=.call { callee:=.builtin .append,args:=#[s,x],argTypes:=#[t,t] }) (base n m:Nat) (l l2:List Value) (v u:Value) (Z:a.eval s=v) (hx:a.eval x=u)
  (G:W.ownsRow base e sz v n l) (hu:zV W ok sz u m l2) (h1:∀u∈l2,u.oneCell'=true) (E:base<=W.heap.size) (J:n+m<=maxLen) (O:(n+m)*bytes<=140737488355328)
  (h:∀v' w',w'.ownsRow base e sz v' (n+m) (l++l2)->W.grownBy w' v.ownBlock->(v'.ownBlock=v.ownBlock\/v'.ownBlock=some W.heap.size)->K (a.put o.dst v') w'):Oper.wp Tryz.prog o a W K Q:=by
 obtain ⟨v',w',U,h2,h3,M⟩:=Eo (ok:=ok) W base t o.type e z sz bytes I v n l G u m l2 hu h1 J O E;unfold Oper.wp execOp;simp only [T,resolve,invoke,builtin,Sem.run_bind,Sem.run_pure,Result.andThen_ok,List.map_toArray,List.map_cons,List.map_nil,Z,hx,U];exact h v' w' h2 h3 M
theorem Bd {rest:List Oper} {o:Oper} (M:o.guard=none) (W:World) (s x:Operand) {t e:TypeId} (I:ElemI t e z sz bytes)
  (U:o.op=.call { callee:=.builtin .append,args:=#[s,x],argTypes:=#[t,t] }) (base n m:Nat) (l l2:List Value) (v u:Value) (Z:a.eval s=v) (hx:a.eval x=u)
  (G:W.ownsRow base e sz v n l) (hu:zV W ok sz u m l2) (h1:∀u∈l2,u.oneCell'=true) (E:base<=W.heap.size) (J:n+m<=maxLen) (T:(n+m)*bytes<=140737488355328)
  (h:∀v' w',w'.ownsRow base e sz v' (n+m) (l++l2)->W.grownBy w' v.ownBlock->(v'.ownBlock=v.ownBlock\/v'.ownBlock=some W.heap.size)->wpList Tryz.prog ops Q rest (a.put o.dst v') w'):wpList Tryz.prog ops Q (o :: rest) a W:=by
 refine wpList_plain M fun K O=>?_
 exact Dd W s x I U base n m l l2 v u Z hx G hu h1 E J T fun v' w' h1 h2 h3=>O _ _ (h v' w' h1 h2 h3)
theorem zB {o:Oper} {E:Prop} (O:o.guard=none) (W:World) (s x:Operand) {t e:TypeId} (I:ElemI t e z sz bytes)
  (U:o.op=.call { callee:=.builtin .append,args:=#[s,x],argTypes:=#[t,t] }) (base n m:Nat) (l l2:List Value) (v u:Value) (Z:a.eval s=v) (hx:a.eval x=u)
  (J:W.ownsRow base e sz v n l) (hu:zV W ok sz u m l2) (h1:∀u∈l2,u.oneCell'=true) (G:base<=W.heap.size) (M:n+m<=maxLen) (T:(n+m)*bytes<=140737488355328)
  (h:∀v' w',w'.ownsRow base e sz v' (n+m) (l++l2)->W.grownBy w' v.ownBlock->(v'.ownBlock=v.ownBlock\/v'.ownBlock=some W.heap.size)->K (a.put o.dst v') w'):
  if Region.wanted o (yielded ops a.tmps)=true then Oper.wp Tryz.prog o a W K Q else E:=by
 have hw:Region.wanted o (yielded ops a.tmps)=true:=by simp [Region.wanted,O]
 rw [if_pos hw];exact Dd W s x I U base n m l l2 v u Z hx J hu h1 G M T h
theorem eTask:ElemI 30 56 (.agg #[.string ⟨#[]⟩,.slice none 0 0,.slice none 0 0]) 3 64:=⟨Tryz.underlying30,Tryz.infoTask,rfl,by decide⟩
theorem eBools:ElemI 28 29 (.slice none 0 0) 1 24:=⟨Tryz.underlying28,Tryz.infoBools,rfl,by decide⟩
theorem eBool:ElemI 29 4 (.bool false) 1 1:=⟨Tryz.underlying29,Tryz.infoBool,rfl,by decide⟩
theorem eInt:ElemI 23 3 (.int .i64 0) 1 8:=⟨Tryz.underlying23,Tryz.infoInt,rfl,by decide⟩
theorem eInts:ElemI 22 23 (.slice none 0 0) 1 24:=⟨Tryz.underlying22,Tryz.infoInts,rfl,by decide⟩
theorem Ei (W:World) (B:Nat) (e:TypeId) (sz:Nat) (E:B<=W.heap.size):(W.alloc (.cells #[] e)).ownsRow B e sz (.slice (some ⟨W.heap.size,0,none⟩) 0 0) 0 []:=
 ⟨by simp,.inr ⟨W.heap.size,0,#[],rfl,E,FB W _,EN _,by decide,by simp,by simp⟩⟩
end
section
open Go.RowKit
attribute [local go_sem ↓] Go.wp_at_zero Go.wp_at_succ
def TasksN (w:World) (ok:Nat->Prop) (v:Value) (l:List (List Int×List Int)) (ns:List ByteArray):Prop:=
 ns.length=l.length/\∃vs,zV w ok 3 v l.length vs/\∀(i:Nat) x s,l[i]?=some x->ns[i]?=some s->∃u1 u2,vs[i*3]?=some (.string s)/\vs[i*3+1]?=some u1/\vs[i*3+2]?=some u2/\zi w ok u1 x.1/\zi w ok u2 x.2
def Cn (w:World) (ok:Nat->Prop) (v:Value) (m:MZ) (ns:List ByteArray):Prop:=
 ∃f u t,v=.agg #[.int .i64 m.w,.int .i64 m.h,.int .i64 m.l,f,u,t]/\Bn w ok f m.free/\An w ok u m.up/\TasksN w ok t m.tasks ns
theorem TasksN.tasks {w:World} {v:Value} {l:List (List Int×List Int)} (h:TasksN w ok v l ns):BX w ok v l:=by
 obtain ⟨J,vs,G,he⟩:=h;refine ⟨vs,G,fun i x E=>?_⟩;obtain ⟨I,-⟩:=FM.1 E;obtain ⟨u1,u2,h0,h1,h2,i1,i2⟩:=he i x _ E (EL (by omega));exact ⟨_,u1,u2,h0,h1,h2,i1,i2⟩
theorem Cn.maze {w:World} {v:Value} (h:Cn w ok v m ns):zt w ok v m:=by
 obtain ⟨f,u,t,rfl,h1,h2,h3⟩:=h;exact ⟨f,u,t,rfl,h1,h2,h3.tasks⟩
theorem BX.nets {w:World} {v:Value} {l:List (List Int×List Int)} (h:BX w ok v l):∃ns,TasksN w ok v l ns:=by
 obtain ⟨vs,J,he⟩:=h;refine ⟨(List.range l.length).map fun i=>match vs[i*3]? with | some (Value.string s)=>s | _=>(⟨#[]⟩:ByteArray),by simp,vs,J,fun i x s G E=>?_⟩;obtain ⟨s',u1,u2,h0,h1,h2,i1,i2⟩:=he i x G;rw [Fx] at E;obtain ⟨I,-⟩:=FM.1 G;rw [List.getElem?_range I] at E;simp only [Option.map_some,h0] at E;injection E with E;subst E;exact ⟨u1,u2,h0,h1,h2,i1,i2⟩
theorem zt.nets {w:World} {ok:Nat->Prop} {v:Value} {m:MZ} (h:zt w ok v m):∃ns,Cn w ok v m ns:=by
 obtain ⟨f,u,t,rfl,h1,h2,h3⟩:=h;obtain ⟨ns,E⟩:=h3.nets;exact ⟨ns,f,u,t,rfl,h1,h2,E⟩
theorem TasksN.below {w w':World} {ok:Nat->Prop} {v:Value} {l:List (List Int×List Int)} {ns:List ByteArray} (h:TasksN w ok v l ns) (E:Below w.heap.size w w'):TasksN w' ok v l ns:=by
 obtain ⟨G,vs,I,he⟩:=h;refine ⟨G,vs,I.below E,fun i x s M J=>?_⟩;obtain ⟨u1,u2,h0,h1,h2,i1,i2⟩:=he i x s M J;exact ⟨u1,u2,h0,h1,h2,i1.below E,i2.below E⟩
theorem Cn.keepW {w w':World} {ok':Nat->Prop} {v:Value} (h:Cn w ok v m ns) (E:Ao ok w w') (G:∀b,ok b->ok' b):Cn w' ok' v m ns:=by
 obtain ⟨f,u,t,rfl,h1,h2,I,vs,J,he⟩:=h;refine ⟨f,u,t,rfl,(h1.keep E).weaken G,(h2.keep E).weaken G,I,vs,(J.keep E).weaken G,fun i x s O M=>?_⟩;obtain ⟨u1,u2,q0,q1,q2,i1,i2⟩:=he i x s O M;exact ⟨u1,u2,q0,q1,q2,(i1.keep E).weaken G,(i2.keep E).weaken G⟩
theorem Cn.below {w w':World} {v:Value} (h:Cn w ok v m ns) (E:Below w.heap.size w w'):Cn w' ok v m ns:=h.keepW (Ao.of_below E) (fun _ h=>h)
theorem zQ {wr w':World} {B n:Nat} {e:TypeId} {v:Value} (h:wr.ownsRow B e sz v n xs) (M:wr.grownBy w' r) (T:∀b,r=some b->∃t cs,zg wr b t cs/\t≠e):w'.ownsRow B e sz v n xs:=by
 refine h.kept M ?_;rcases h.2 with ⟨rfl,-⟩ | ⟨g,cap,cur,rfl,-,O,-⟩
 ·exact .inl rfl
 ·right
  intro J;obtain ⟨t,cs,I,G⟩:=T g J.symm;have E:wr.heap[g]?=_:=I;rw [O] at E;injection E with E;injection E with _ e2 _;exact G e2.symm
theorem Do {wr:World} {B n:Nat} {e:TypeId} {v:Value} (h:wr.ownsRow B e sz v n xs) (E:v.ownBlock=some b):∃cs,zg wr b e cs/\B<=b:=by
 rcases h.2 with ⟨rfl,-⟩ | ⟨g,cap,cur,rfl,G,I,-⟩
 ·cases E
 ·have:g=b:=by simpa [Value.ownBlock] using E
  subst this;exact ⟨cur,I,G⟩
theorem grown_ext {w w':World} (h:zb w w'):w.grownBy w' none:=⟨h.os,h.tape,h.output,h.size,fun i E _=>h.block i E⟩
theorem BZ (w:World) (g k:Nat) (v:Value):w.grownBy (w.setCell ⟨g,k,none⟩ v) (some g):=⟨rfl,rfl,rfl,by simp,fun i _ E=>EW w ⟨g,k,none⟩ v i (fun e=>E (by rw [e]))⟩
def CB (w:World) (B:Nat) (v:Value) (l:List Bool):Prop:=w.ownsRow B 4 1 v l.length (l.map Value.bool)
structure SubI (w0 wr:World) (g7:Nat) (W H L:Int) (up:List Bool) (bF vU bT vF vT:Value) (fs:List (List Bool)) (ts:List (List Int×List Int)) (nn:List ByteArray):Prop where
 ext:zb w0 wr
 lo:w0.heap.size<=g7
 box:zg wr g7 32 #[.int .i64 W,.int .i64 H,.int .i64 L,bF,vU,bT]
 up:CB wr w0.heap.size vU up
 fr:∃vs,wr.ownsRow w0.heap.size 29 1 vF fs.length vs/\∀(i:Nat) x,fs[i]?=some x->∃u,vs[i]?=some u/\CB wr w0.heap.size u x
 tk:∃vs,wr.ownsRow w0.heap.size 56 3 vT ts.length vs/\nn.length=ts.length/\∀(i:Nat) x s,ts[i]?=some x->nn[i]?=some s->∃u1 u2,vs[i*3]?=some (.string s)/\vs[i*3+1]?=some u1/\vs[i*3+2]?=some u2/\zA wr w0.heap.size u1 x.1/\zA wr w0.heap.size u2 x.2
section
variable {w0 wr w':World} {g7:Nat} {W H L:Int} {up:List Bool} {bF vU bT vF vT vT' vF':Value} {fs:List (List Bool)} {ts:List (List Int×List Int)} {nn:List ByteArray}
theorem SubI.each (h:SubI w0 wr g7 W H L up bF vU bT vF vT fs ts nn) (I:wr.grownBy w' r) (J:∀b,r=some b->∃t cs,zg wr b t cs/\t≠3/\t≠4):
  CB w' w0.heap.size vU up/\(∀{u:Value} {x:List Bool},CB wr w0.heap.size u x->CB w' w0.heap.size u x)/\∀{u:Value} {x:List Int},zA wr w0.heap.size u x->zA w' w0.heap.size u x:=by
 have h1:∀{u:Value} {x:List Bool},CB wr w0.heap.size u x->CB w' w0.heap.size u x:=fun G=>zQ G I fun b E=>by obtain ⟨t,cs,h1,h2,h3⟩:=J b E;exact ⟨t,cs,h1,h3⟩
 exact ⟨h1 h.up,h1,fun G=>zQ G I fun b E=>by obtain ⟨t,cs,h1,h2,h3⟩:=J b E;exact ⟨t,cs,h1,h2⟩⟩
theorem SubI.more (h:SubI w0 wr g7 W H L up bF vU bT vF vT fs ts nn) (G:zb wr w'):SubI w0 w' g7 W H L up bF vU bT vF vT fs ts nn:=by
 have I:=grown_ext G;obtain ⟨h1,h2,h3⟩:=h.each I (fun b E=>by cases E);obtain ⟨vs,U,he⟩:=h.fr;obtain ⟨us,hp,T,M⟩:=h.tk;refine ⟨h.ext.trans G,h.lo,h.box.ext G,h1,⟨vs,zQ U I (fun b E=>by cases E),fun i x J=>?_⟩,⟨us,zQ hp I (fun b E=>by cases E),T,fun i x s J Z=>?_⟩⟩
 ·obtain ⟨u,hu,O⟩:=he i x J;exact ⟨u,hu,h2 O⟩
 ·obtain ⟨u1,u2,q0,q1,q2,i1,i2⟩:=M i x s J Z;exact ⟨u1,u2,q0,q1,q2,h3 i1,h3 i2⟩
theorem SubI.addT (h:SubI w0 wr g7 W H L up bF vU bT vF vT fs ts nn) {us:List Value} {x:List Int×List Int} {s:ByteArray} {u1 u2:Value} (hf:∀(i:Nat) x s,ts[i]?=some x->nn[i]?=some s->∃u1 u2,us[i*3]?=some (.string s)/\us[i*3+1]?=some u1/\us[i*3+2]?=some u2/\zA wr w0.heap.size u1 x.1/\zA wr w0.heap.size u2 x.2)
  (hn:nn.length=ts.length) (a7:us.length=ts.length*3) (hv:wr.ownsRow w0.heap.size 56 3 vT ts.length us) (h1:zA wr w0.heap.size u1 x.1) (h2:zA wr w0.heap.size u2 x.2) (ho:w'.ownsRow w0.heap.size 56 3 vT' (ts.length+1) (us++[.string s,u1,u2])) (J:wr.grownBy w' vT.ownBlock):
  SubI w0 w' g7 W H L up bF vU bT vF vT' fs (ts++[x]) (nn++[s]):=by
 have Z:∀b,vT.ownBlock=some b->∃t cs,zg wr b t cs/\t=56:=fun b I=>by obtain ⟨cs,E,-⟩:=Do hv I;exact ⟨_,cs,E,rfl⟩
 obtain ⟨k1,k2,k3⟩:=h.each J (fun b I=>by obtain ⟨t,cs,E,rfl⟩:=Z b I;exact ⟨_,cs,E,by decide,by decide⟩);obtain ⟨vs,U,he⟩:=h.fr;refine ⟨h.ext.grown J h.ext.size (fun k hk=>by obtain ⟨cs,-,E⟩:=Do hv hk;exact E),h.lo,?_,k1,⟨vs,zQ U J (fun b I=>by obtain ⟨t,cs,E,rfl⟩:=Z b I;exact ⟨_,cs,E,by decide⟩),fun i y G=>?_⟩,⟨us++[.string s,u1,u2],by rw [EV];exact ho,by simp [hn],fun i y s' G M=>?_⟩⟩
 ·refine (J.block g7 (zd h.box) (fun e=>?_)).trans h.box;obtain ⟨t,cs,E,rfl⟩:=Z g7 e.symm;exact zg.ne_ E h.box (by decide) rfl
 ·obtain ⟨u,hu,O⟩:=he i y G;exact ⟨u,hu,k2 O⟩
 ·by_cases O:i<ts.length
  ·rw [ES O] at G;rw [ES (by omega)] at M;obtain ⟨u1',u2',q0,q1,q2,i1,i2⟩:=hf i y s' G M;exact ⟨u1',u2',by rw [ES (by omega)];exact q0,by rw [ES (by omega)];exact q1,by rw [ES (by omega)];exact q2,k3 i1,k3 i2⟩
  ·have T:i=ts.length:=by
    obtain ⟨h,-⟩:=FM.1 G;rw [EV,Fo] at h;omega
   subst T;rw [ET (EN _),Nat.sub_self] at G;rw [ET (by omega),hn,Nat.sub_self] at M;have e1:x=y:=by simpa using G
   have e2:s=s':=by simpa using M
   subst e1 e2;refine ⟨u1,u2,?_,?_,?_,k3 h1,k3 h2⟩
   ·rw [ET (by omega),show ts.length*3 - us.length=0 by omega];rfl
   ·rw [ET (by omega),show ts.length*3+1 - us.length=1 by omega];rfl
   ·rw [ET (by omega),show ts.length*3+2 - us.length=2 by omega];rfl
theorem SubI.addF (h:SubI w0 wr g7 W H L up bF vU bT vF vT fs ts nn) {vs:List Value} {x:List Bool} {u:Value} (he:∀(i:Nat) x,fs[i]?=some x->∃u,vs[i]?=some u/\CB wr w0.heap.size u x)
  (Z:vs.length=fs.length) (hv:wr.ownsRow w0.heap.size 29 1 vF fs.length vs) (h1:CB wr w0.heap.size u x) (ho:w'.ownsRow w0.heap.size 29 1 vF' (fs.length+1) (vs++[u])) (J:wr.grownBy w' vF.ownBlock):
  SubI w0 w' g7 W H L up bF vU bT vF' vT (fs++[x]) ts nn:=by
 have U:∀b,vF.ownBlock=some b->∃t cs,zg wr b t cs/\t=29:=fun b I=>by obtain ⟨cs,E,-⟩:=Do hv I;exact ⟨_,cs,E,rfl⟩
 obtain ⟨k1,k2,k3⟩:=h.each J (fun b I=>by obtain ⟨t,cs,E,rfl⟩:=U b I;exact ⟨_,cs,E,by decide,by decide⟩);obtain ⟨us,T,hn,hf⟩:=h.tk;refine ⟨h.ext.grown J h.ext.size (fun k hk=>by obtain ⟨cs,-,E⟩:=Do hv hk;exact E),h.lo,?_,k1,⟨vs++[u],by rw [EV];exact ho,fun i y G=>?_⟩,⟨us,zQ T J (fun b I=>by obtain ⟨t,cs,E,rfl⟩:=U b I;exact ⟨_,cs,E,by decide⟩),hn,fun i y s G hs=>?_⟩⟩
 ·refine (J.block g7 (zd h.box) (fun e=>?_)).trans h.box;obtain ⟨t,cs,E,rfl⟩:=U g7 e.symm;exact zg.ne_ E h.box (by decide) rfl
 ·by_cases hi:i<fs.length
  ·rw [ES hi] at G;obtain ⟨u',hu,M⟩:=he i y G;exact ⟨u',by rw [ES (by omega)];exact hu,k2 M⟩
  ·have O:i=fs.length:=by
    obtain ⟨h,-⟩:=FM.1 G;rw [EV,Fo] at h;omega
   subst O;rw [ET (EN _),Nat.sub_self] at G;have e1:x=y:=by simpa using G
   subst e1;exact ⟨u,by rw [ET (by omega),Z,Nat.sub_self];rfl,k2 h1⟩
 ·obtain ⟨u1,u2,q0,q1,q2,i1,i2⟩:=hf i y s G hs;exact ⟨u1,u2,q0,q1,q2,k3 i1,k3 i2⟩
theorem SubI.sto (h:SubI w0 wr g7 W H L up bF vU bT vF vT fs ts nn) {v bF' bT':Value} (E:(#[.int .i64 W,.int .i64 H,.int .i64 L,bF,vU,bT]:Array Value).setIfInBounds k v=#[.int .i64 W,.int .i64 H,.int .i64 L,bF',vU,bT']):SubI w0 (wr.setCell ⟨g7,k,none⟩ v) g7 W H L up bF' vU bT' vF vT fs ts nn:=by
 have I:=BZ wr g7 k v;have J:∀b,some g7=some b->∃t cs,zg wr b t cs/\t=32:=fun b E=>by injection E with E;subst E;exact ⟨_,_,h.box,rfl⟩
 obtain ⟨k1,k2,k3⟩:=h.each I (fun b E=>by obtain ⟨t,cs,G,rfl⟩:=J b E;exact ⟨_,cs,G,by decide,by decide⟩);obtain ⟨vs,Z,he⟩:=h.fr;obtain ⟨us,hp,U,O⟩:=h.tk;refine ⟨h.ext.setCell (p:=⟨g7,k,none⟩) h.lo _,h.lo,by have:=h.box.set (k:=k) v;rwa [E] at this,k1,⟨vs,zQ Z I (fun b E=>by obtain ⟨t,cs,G,rfl⟩:=J b E;exact ⟨_,cs,G,by decide⟩),fun i x M=>?_⟩,⟨us,zQ hp I (fun b E=>by obtain ⟨t,cs,G,rfl⟩:=J b E;exact ⟨_,cs,G,by decide⟩),U,fun i x s M hs=>?_⟩⟩
 ·obtain ⟨u,hu,T⟩:=he i x M;exact ⟨u,hu,k2 T⟩
 ·obtain ⟨u1,u2,q0,q1,q2,i1,i2⟩:=O i x s M hs;exact ⟨u1,u2,q0,q1,q2,k3 i1,k3 i2⟩
theorem SubI.maze (h:SubI w0 wr g7 W H L up vF vU vT vF vT fs ts nn):Cn wr (fun b=>w0.heap.size<=b) (.agg #[.int .i64 W,.int .i64 H,.int .i64 L,vF,vU,vT]) ⟨W,H,L,fs,up,ts⟩ nn:=by
 obtain ⟨vs,M,he⟩:=h.fr;obtain ⟨us,hp,J,G⟩:=h.tk;refine ⟨_,_,_,rfl,⟨vs,zV.of_own M,fun i x E=>?_⟩,zV.of_own h.up,J,us,zV.of_own hp,fun i x s E O=>?_⟩
 ·obtain ⟨u,T,I⟩:=he i x E;exact ⟨u,T,zV.of_own I⟩
 ·obtain ⟨u1,u2,q0,q1,q2,i1,i2⟩:=G i x s E O;exact ⟨u1,u2,q0,q1,q2,zV.of_own i1,zV.of_own i2⟩
end
theorem Ea {v:Value} (w:World) (h:An w ok v l) (hl:l.length<=100000000000):
  Calls Tryz.prog 45 #[v] w fun e w'=>∃v',e=.returned v'/\zb w w'/\CB w' w.heap.size v' l:=by
 have H:=zh h;have T:=nilEq 29 4 Tryz.underlying29;obtain ⟨A,c,rfl,hc,J⟩:=h;rcases A with _ | a
 ·have I:l=[]:=by
   rcases Fz l.length with h | h
   ·exact Fe h
   ·obtain ⟨b,off,e,_⟩:=J.2 h;cases e
  subst I;clear J
  go_enter Tryz.func45,Tryz.ntmps45
  go_wp2_with fail
  go_ret;exact ⟨_,rfl,zb.refl _,World.ownsRow_nil _ _ _ _⟩
 ·clear J;have hx:=zb.refl w;have E:∀u∈l.map Value.bool,u.oneCell'=true:=fun u hu=>by obtain ⟨b,-,rfl⟩:=zac.1 hu;rfl
  have G:=zh E;clear E
  go_enter Tryz.func45,Tryz.ntmps45
  go_wp2_with (at_builtin;refine Bd (ok:=ok) rfl _ _ _ eBool rfl w.heap.size 0 l.length [] (l.map Value.bool) _ _ rfl rfl (Ei w w.heap.size 4 1 (EN _)) (An.below H.out ((zb.refl w).alloc _)) G.out ?d1 ?d2 ?d3 ?_)
  case d1=>simp
  case d2=>unfold maxLen;omega
  case d3=>omega
  intro v' w1 U O _
  have M:Hid (zb w w1/\CB w1 w.heap.size v' l):=⟨Ae ((zb.refl w).alloc _) O (by simp) (fun k Z=>slice_own Z),by
   have:=U
   try rw [Nat.zero_add] at this
   try rw [List.nil_append] at this
   exact this⟩
  clear U O
  go_wp2_with fail
  go_ret;exact ⟨_,rfl,M.out.1,M.out.2⟩
theorem sto6 {W:World} {g:Nat} {t:TypeId} {a b c d e:Value} (E:zg W g t #[z0,z1,z2,z3,z4,z5]):
  zg ((((((W.setCell ⟨g,0,none⟩ a).setCell ⟨g,1,none⟩ b).setCell ⟨g,2,none⟩ c).setCell ⟨g,3,none⟩ d).setCell ⟨g,4,none⟩ e).setCell ⟨g,5,none⟩ f) g t #[a,b,c,d,e,f]/\
  W.grownBy ((((((W.setCell ⟨g,0,none⟩ a).setCell ⟨g,1,none⟩ b).setCell ⟨g,2,none⟩ c).setCell ⟨g,3,none⟩ d).setCell ⟨g,4,none⟩ e).setCell ⟨g,5,none⟩ f) (some g):=by
 exact ⟨(((((E.set (k:=0) a).set (k:=1) b).set (k:=2) c).set (k:=3) d).set (k:=4) e).set (k:=5) f,
  (((((BZ _ g 0 a).trans (BZ _ g 1 b)).trans (BZ _ g 2 c)).trans (BZ _ g 3 d)).trans (BZ _ g 4 e)).trans (BZ _ g 5 f)⟩
theorem SubI.start {w0 wr:World} {g7:Nat} {W H L:Int} {up:List Bool} {vU:Value} (I:zb w0 wr) (E:w0.heap.size<=g7) (J:zg wr g7 32 #[.int .i64 W,.int .i64 H,.int .i64 L,.slice none 0 0,vU,.slice none 0 0]) (M:CB wr w0.heap.size vU up):
  SubI w0 wr g7 W H L up (.slice none 0 0) vU (.slice none 0 0) (.slice none 0 0) (.slice none 0 0) [] [] []:=
 ⟨I,E,J,M,⟨[],World.ownsRow_nil _ _ _ _,fun i x G=>by simp at G⟩,⟨[],World.ownsRow_nil _ _ _ _,rfl,fun i x s G=>by simp at G⟩⟩
end
section
open Go.RowKit Go.Shelf Go.Sort
attribute [local go_sem ↓] Go.wp_at_zero Go.wp_at_succ
def dfLA_ren:Go.Shelf.Ren:=⟨fun | 10=>113 | 6=>132 | n=>n,fun | 22=>22 | 23=>23 | 25=>114 | 3=>3 | 4=>4 | 0=>0 | n=>n,fun | n=>n⟩
theorem dfLA:Go.Proofs.SlLaysH.n10 Tryz.prog dfLA_ren:={
 mixed:=by kernel_rfl
 f6:=⟨Tryz.f132.name,by decide,Tryz.func132.trans (congrArg some (by kernel_rfl))⟩
 f10:=⟨Tryz.f113.name,by decide,Tryz.func113.trans (congrArg some (by kernel_rfl))⟩
 t0:=Tryz.underlying0
 a0:=Tryz.isAgg0
 z0:=Tryz.sizeOf0
 v0:=Tryz.zeroValue0
 t3:=Tryz.underlying3
 a3:=Tryz.isAgg3
 z3:=Tryz.sizeOf3
 v3:=Tryz.zeroValue3
 t4:=Tryz.underlying4
 a4:=Tryz.isAgg4
 z4:=Tryz.sizeOf4
 v4:=Tryz.zeroValue4
 t22:=Tryz.underlying22
 a22:=Tryz.isAgg22
 z22:=Tryz.sizeOf22
 v22:=Tryz.zeroValue22
 a23:=Tryz.isAgg23
 z23:=Tryz.sizeOf23
 t25:=Tryz.underlying114
 a25:=Tryz.isAgg114
 z25:=Tryz.sizeOf114
 v25:=Tryz.zeroValue114 }
abbrev SlV:={ v:Value // ∃A n c,v=.slice A n c }
def slLen (v:Value):Nat:=match v with | .slice _ n _=>n | _=>0
theorem holds_sl {w:World} {B g:Nat} {l:List SlV} [Inhabited SlV] (h:Cf w B (.slice (some ⟨g,0,none⟩) (l.map (·.1)).length cap) (l.map (·.1))):Holds (fun x:SlV=>x.1) w g 0 l.toArray:=by
 intro j G;have E:j<l.length:=by simpa using G
 refine ⟨?_,by have:=World.ownsRow.frozenAt h j;simpa using this⟩;have:=World.ownsRow.cellAt h j (by simpa using E);rw [Nat.zero_add,this];simp [getElem!_pos,E]
theorem cf75 (a:Array Value) (w:World):(callFunc 114 a).run Tryz.prog w=.ok (.enter 114 a) w:=Bi Tryz.func114 (by kernel_rfl) (by kernel_rfl) a w
theorem paths1_sl (x:SlV) (w:World):Calls Tryz.prog 114 (#[x.1]++#[]) w fun e w'=>e=.returned (.bool (decide (slLen x.1=0)))/\w=w':=by
 obtain ⟨_,A,n,c,rfl⟩:=x;show Calls Tryz.prog 114 #[.slice A n c] w _;by_cases E:n=0
 ·subst E
  go_enter Tryz.func114,Tryz.ntmps114
  go_wp2;go_ret;exact ⟨rfl,rfl⟩
 ·have G:((n:Int)==0)=false:=by rw [Fa];omega
  have H:Hid (decide (slLen (.slice A n c)=0)=false):=ER E;clear E
  go_enter Tryz.func114,Tryz.ntmps114
  go_wp2;go_ret;exact ⟨zf H.out.symm,rfl⟩
theorem deleteFuncL_calls {w:World} {B g:Nat} {l:List SlV} (I:Cf w B (.slice (some ⟨g,0,none⟩) (l.map (·.1)).length cap) (l.map (·.1))) (Z:l.length<=1000000):
  Calls Tryz.prog 113 #[.slice (some ⟨g,0,none⟩) (l.map (·.1)).length cap,.func (.func 114) #[] #[]] w fun e w'=>∃v',e=.returned v'/\Cf w' B v' ((l.filter fun x=>!decide (slLen x.1=0)).map (·.1))/\Below B w w':=by
 letI:Inhabited SlV:=⟨⟨.slice none 0 0,_,_,_,rfl⟩⟩
 have G:=BG I;have O:B<=g:=(World.ownsRow.lt I g rfl).1;have E:(l.map (·.1)).length=l.toArray.size:=by simp
 have J:=AnyE.slices_DeleteFunc dfLA (fun x:SlV=>x.1) (fun x=>by obtain ⟨_,A,n,c,rfl⟩:=x;rfl) (fun x=>decide (slLen x.1=0)) 114 #[] cf75 ⟨.slice none 0 0,_,_,_,rfl⟩ Tryz.zeroValue23 g 0 cap l.toArray w
  (fun W x U=>by
   refine Calls.mono (paths1_sl x W) ?_;rintro e w' ⟨rfl,rfl⟩;exact ⟨rfl,0,rfl⟩)
  (fun n os dk x _=>by
   refine Calls.mono (paths1_sl x _) ?_;rintro e w' ⟨rfl,rfl⟩;exact ⟨rfl,0,rfl⟩)
  (holds_sl I) (by rw [<-E];simp;omega) (by rw [<-E];exact G)
 change Calls Tryz.prog 113 _ _ _ at J;rw [<-E] at J;refine Calls.mono J ?_;rintro e w' ⟨rfl,q,rfl⟩;have M:(l.filter fun x=>!decide (slLen x.1=0)).length<=l.length:=Fr _ _;have T:w.ownsRow B 23 1 (.slice (some ⟨g,0,none⟩) (l.map (·.1)).length cap) (l.map (·.1)).length (l.map fun x:SlV=>x.1):=I;refine ⟨_,rfl,?_,Lib.below_putRow (Below.refl _ _) O⟩;have:=Lib.ownsRow_putRow (enc:=fun x:SlV=>x.1) (q:=q) (k:=(l.filter fun x=>!decide (slLen x.1=0)).length) (ys:=(l.filter fun x=>!decide (slLen x.1=0))++List.replicate (l.length - (l.filter fun x=>!decide (slLen x.1=0)).length) ⟨.slice none 0 0,_,_,_,rfl⟩) T (by simp;omega) (by simpa using M);rw [List.take_left' rfl] at this;unfold Cf;rw [Fy];simpa using this
theorem deleteFuncL_nil (A:Option Addr) (c:Nat) (w:World):
  Calls Tryz.prog 113 #[.slice A 0 c,.func (.func 114) #[] #[]] w fun e w'=>e=.returned (.slice A 0 c)/\zb w w':=by
 have hI:Hid (∀w,Calls Tryz.prog 132 #[.slice A 0 c,.func (.func 114) #[] #[]] w fun e w'=>e=.returned (.int .i64 (-1))/\zb w w'):=fun w=>by
  go_enter Tryz.func132,Tryz.ntmps132
  go_wp2_with fail
  go_loopg [8] 0 (fun gk v wr=>v=.int .i64 0/\gk=0/\Hid (zb w wr))
  case atStart=>exact ⟨rfl,rfl,zb.refl _⟩
  case round=>
   obtain ⟨rfl,rfl,G⟩:=hrel
   go_wp2_with fail
   go_ret;exact ⟨rfl,G.out⟩
 go_enter Tryz.func113,Tryz.ntmps113
 go_wp2_with fail
 refine (hI.out w).mono ?_;rintro e w2 ⟨rfl,E⟩
 go_wp2_with fail
 go_ret;exact ⟨rfl,E⟩
def PathsPostY (Y:Nat->Prop) (w:World) (m:MZ) (ch:List Int) (e:Ending) (w':World):Prop:=
 ∃v,e=.returned (.tuple #[v,.bool (EH m ch)])/\zb w w'/\zq w' (fun b=>Y b\/w.heap.size<=b) v (zv m ch)
theorem filter_pair {w:World} {ok:Nat->Prop}:∀(l:List SlV) (ps:List (List Int)),l.length=ps.length->(∀(i:Nat) x,ps[i]?=some x->∃u,(l.map (·.1))[i]?=some u/\zi w ok u x)->
  ((l.filter fun x=>!decide (slLen x.1=0)).length=(ps.filter fun p=>decide (p.length≠0)).length)/\∀(i:Nat) x,(ps.filter fun p=>decide (p.length≠0))[i]?=some x->∃u,((l.filter fun x=>!decide (slLen x.1=0)).map (·.1))[i]?=some u/\zi w ok u x
 | [],[],_,_=>⟨rfl,fun i x E=>by simp at E⟩
 | a :: l,p :: ps,M,h=>by
  obtain ⟨h1,h2⟩:=filter_pair l ps (by simpa using M) (fun i x E=>by simpa using h (i+1) x (by simpa using E));obtain ⟨u,O,J⟩:=h 0 p rfl;have I:a.1=u:=by simpa using O
  have G:slLen a.1=p.length:=by
   obtain ⟨A,c,e,_⟩:=id J;rw [I,e];rfl
  by_cases hp:p.length=0
  ·rw [Fw (by simp [G,hp]),Fw (by simp [hp])];exact ⟨h1,h2⟩
  ·rw [FJ (by simp [G,hp]),FJ (by simp [hp])];refine ⟨by simp [h1],fun i x E=>?_⟩
   match i,E with
   | 0,E=>
    have:p=x:=by simpa using E
    subst this;exact ⟨u,by simp [I],J⟩
   | i+1,E=>simpa using h2 i x (by simpa using E)
theorem rPathsY_calls {okc Y:Nat->Prop} {v:Value} (w:World) (hm:zt w Y v m) (hl:Lens m) (b4:zi w okc vc ch) (e0:ch.length<=20000000000000):
  Calls Tryz.prog 89 #[v,vc] w (PathsPostY Y w m ch):=by
 have c8:=zh hm;obtain ⟨vfr,vup,vts,rfl,-,-,-⟩:=hm;have c0:=zh b4;obtain ⟨A,c,rfl,f3,-⟩:=b4;have HL:=zh hl;clear hl
 go_enter Tryz.func89,Tryz.ntmps89
 go_wp2_with fail
 generalize b7:w.alloc (.cells #[.int .i64 m.w,.int .i64 m.h,.int .i64 m.l,vfr,vup,vts] 32)=wa;have O:zb w wa:=by rw [<-b7];exact (zb.refl w).alloc _
 have c5:Hid (w.heap.size<=wa.heap.size):=O.size;clear b7;refine (stateOf_calls wa (c8.out.below O) HL.out (c0.out.below O) e0).mono ?_;rintro e w1 ⟨v1,rfl,b8,h1⟩;have H1:=zh h1;have M:zb w w1:=O.trans b8;have a8:Hid (w.heap.size<=w1.heap.size):=M.size;clear h1 b8;obtain ⟨bb,a3⟩:=zak (EH m ch);rw [<-a3] at H1⊢;have E:=zh a3;clear a3;cases bb
 ·have G:Hid (PathsPostY Y w m ch (.returned (.tuple #[.slice none 0 0,.bool false])) w1):=⟨_,by rw [<-E.out],M,by unfold zv;rw [<-E.out];exact ⟨[],⟨none,0,rfl,EN _,zN.nil _ _ _ _⟩,fun i x hx=>by simp at hx⟩⟩
  go_wp2_with fail
  go_ret2
  exact G.out
 ·have J:∃p,v1=.pointer (some ⟨p,0,none⟩)/\EJ w1 (fun b=>Y b\/wa.heap.size<=b) p m ch:=by
   rcases H1.out with ⟨h,_⟩ | ⟨_,h⟩
   ·cases h
   ·exact h
  obtain ⟨p,rfl,us,f,u,t,vc',vp,gu,e3,J⟩:=J;obtain ⟨r0,r1,r2,r3,r4,r5,r6,r7,r8⟩:=J.rules;obtain ⟨hg,hc⟩:=DT E.out.symm;obtain ⟨vs,⟨Ap,cp,rfl,d6,a5⟩,a4⟩:=J.ps;have a6:vs.length=(zY m ch).length:=by have:=a5.1;omega
  have e8:(zY m ch).length<=6:=EP hc.psOk.pl hg.tk
  have a9:Hid (zV w1 (fun b=>Y b\/wa.heap.size<=b) 1 (.slice Ap (zY m ch).length cp) vs.length vs):=by
   show zV _ _ _ _ _ _;rw [a6];exact ⟨Ap,cp,rfl,d6,a5⟩
  have c6:=zh a4
  have b2:∀u∈vs,∃A n c,u=.slice A n c:=fun u hu=>by
   obtain ⟨i,hi,rfl⟩:=Fu hu;obtain ⟨u',h1,A',c',e,_⟩:=a4 i _ (EL (by omega));rw [EL hi] at h1;injection h1 with h1;exact ⟨_,_,_,h1.trans e⟩
  have b0:=zh b2;have b1:=zh a6;have c9:Hid (zv m ch=(zY m ch).filter fun p=>decide (p.length≠0)):=by show _=_;unfold zv;rw [if_pos E.out.symm]
  clear J e3 hg hc H1 a4 a5 b2 a6;have e9:=zb.refl w1
  go_wp2_with fail
  refine (cloneL_calls w1 a9.out (fun u hu=>by obtain ⟨A,n,c,rfl⟩:=b0.out u hu;rfl) (by have:=b1.out;omega)).mono ?_;rintro e w2 ⟨v2,rfl,Z,I⟩;obtain ⟨l,hl⟩:∃l:List SlV,l.map (·.1)=vs:=⟨vs.attachWith _ b0.out,by simp⟩;have b5:l.length=(zY m ch).length:=by have:=congrArg List.length hl;have:=b1.out;simp at *;omega
  have b3:=filter_pair (w:=w1) (ok:=fun b=>Y b\/wa.heap.size<=b) l (zY m ch) b5 (by rw [hl];exact c6.out);have c7:=zh b3;have f1:zb w w2:=M.trans Z
  have U:∃v3 w3,Calls Tryz.prog 113 #[v2,.func (.func 114) #[] #[]] w2 (fun e w'=>∃v',e=.returned v'/\Cf w' w1.heap.size v' ((l.filter fun x=>!decide (slLen x.1=0)).map (·.1))/\zb w1 w')/\v3=v2/\w3=w2:=by
   refine ⟨v2,w2,?_,rfl,rfl⟩;rcases Fz vs.length with h0 | h0
   ·have e4:=Fe h0;subst e4;have d9:l=[]:=Fe (by have:=congrArg List.length hl;simpa using this);subst d9;obtain ⟨A',c',rfl,f2,-⟩:=zV.of_own I;refine (deleteFuncL_nil A' c' w2).mono ?_;rintro e w3 ⟨rfl,hE⟩;exact ⟨_,rfl,Cf.ext I hE,Z.trans hE⟩
   ·have a0:=I;unfold Cf at a0;obtain ⟨g,cap,rfl,hg,f4⟩:=World.ownsRow.form a0 h0;subst hl;refine (deleteFuncL_calls I (by omega)).mono ?_;rintro e w3 ⟨v3,rfl,T,d5⟩;exact ⟨_,rfl,T,Below.trans Z d5⟩
  obtain ⟨_,_,U,_,_⟩:=U;have c4:=zh U;clear I U Z hl b5 b3
  go_wp2_with fail
  refine c4.out.mono ?_;rintro e w3 ⟨v3,rfl,T,a7⟩
  have G:Hid (PathsPostY Y w m ch (.returned (.tuple #[v3,.bool true])) w3):=by
   refine ⟨v3,by rw [<-E.out],M.trans a7,?_⟩;rw [c9.out];obtain ⟨h1,h2⟩:=c7.out;have h3:zV w3 (fun b=>Y b\/w.heap.size<=b) 1 v3 (((l.filter fun x=>!decide (slLen x.1=0)).map (·.1)).length) ((l.filter fun x=>!decide (slLen x.1=0)).map (·.1)):=(zV.of_own T).weaken fun b hb=>.inr (EP a8.out hb)
   rw [Fy,h1] at h3
   exact ⟨_,h3,fun i x hx=>by
    obtain ⟨u,hu,hi⟩:=h2 i x hx;exact ⟨u,hu,(hi.weaken fun b hb=>hb.imp id (fun h=>EP c5.out h)).below a7⟩⟩
  clear T a7
  go_wp2_with fail
  go_ret2
  exact G.out
end
section
open Go.RowKit
attribute [local go_sem ↓] Go.wp_at_zero Go.wp_at_succ
theorem BQ (E:AY m=0) (h:zC m ch):(zv m ch).length<=m.tasks.length/\m.tasks.length<=6/\ch.length<=300/\∀x∈zv m ch,x≠[]/\x.length<=1000:=by
 have g:=zI.of E;have h1:=h.psOk;have h2:=h.len300 g;unfold zv;rw [if_pos (okC_of E h)];refine ⟨EP (Fr _ _) h1.pl,g.tk,h2,fun x G=>⟨?_,?_⟩⟩
 ·have:=(zab.1 G).2;rintro rfl;simp at this
 ·have h3:=flat_le (zab.1 G).1;rw [h1.fl] at h3;omega
structure PSt (w:World) (ok:Nat->Prop) (m:MZ) (f u ts vc vp:Value) (ch:List Int):Prop where
 maze:zt w ok (.agg #[.int .i64 m.w,.int .i64 m.h,.int .i64 m.l,f,u,ts]) m
 chs:zi w ok vc ch
 ps:zq w ok vp (zv m ch)
def stv (m:MZ) (f u ts vc vp:Value) (t:Int):Value:=.agg #[.int .i64 m.w,.int .i64 m.h,.int .i64 m.l,f,u,ts,vc,vp,.int .i64 t]
theorem PSt.more {w w':World} {u ts vp:Value} (h:PSt w ok m f u ts vc vp ch) (E:zb w w'):PSt w' ok m f u ts vc vp ch:=⟨h.maze.below E,h.chs.below E,h.ps.below E⟩
def setL (g:Nat):Nat->List Value->World->World
 | _,[],W=>W
 | k,v :: vs,W=>setL g (k+1) vs (W.setCell ⟨g,k,none⟩ v)
theorem DF (g:Nat):∀(vs:List Value) (k:Nat) (W:World),Below g W (setL g k vs W)
 | [],_,W=>Below.refl g W
 | v :: vs,k,W=>((Below.refl g W).setCell (p:=⟨g,k,none⟩) (EN _) v).trans (DF g vs (k+1) _)
theorem DG (g:Nat) (b:Nat) (E:b≠g):∀(vs:List Value) (k:Nat) (W:World),(setL g k vs W).heap[b]?=W.heap[b]?
 | [],_,W=>rfl
 | v :: vs,k,W=>(DG g b E vs (k+1) _).trans (EW W ⟨g,k,none⟩ v b E)
theorem setL_blk {g:Nat} {t:TypeId}:∀(vs:List Value) (us ws:List Value) (W:World),us.length=vs.length->zg W g t (ws++us).toArray->zg (setL g ws.length vs W) g t (ws++vs).toArray
 | [],us,ws,W,E,h=>by
  have:us=[]:=List.length_eq_zero_iff.1 E;subst this;exact h
 | v :: vs,us,ws,W,E,h=>by
  match us,E,h with
  | u :: us,E,h=>
   have h1:=h.set (k:=ws.length) v;rw [List.setIfInBounds_toArray,List.set_append_right _ _ (EN _),Nat.sub_self,List.set_cons_zero] at h1;have h2:=setL_blk vs us (ws++[v]) _ (by simpa using E) (by rw [List.append_assoc];exact h1);rw [List.append_assoc,EV] at h2;exact h2
theorem case_fin9 {P:World->Prop} {W:World} {g2:Nat} {t:TypeId} {a0 a1 a2 a3 a4 a5 a6 a7 a8 z6 z7 z8:Value} (h:∀WZ,zg WZ g2 t #[a0,a1,a2,a3,a4,a5,a6,a7,a8]->Below g2 W WZ->(∀k,k<W.heap.size->k≠g2->WZ.heap[k]?=W.heap[k]?)->P WZ) (G:zg W g2 t #[z0,z1,z2,z3,z4,z5,z6,z7,z8]):
  P (((((((((W.setCell ⟨g2,0,none⟩ a0).setCell ⟨g2,1,none⟩ a1).setCell ⟨g2,2,none⟩ a2).setCell ⟨g2,3,none⟩ a3).setCell ⟨g2,4,none⟩ a4).setCell ⟨g2,5,none⟩ a5).setCell ⟨g2,6,none⟩ a6).setCell ⟨g2,7,none⟩ a7).setCell ⟨g2,8,none⟩ a8):=
 h (setL g2 0 [a0,a1,a2,a3,a4,a5,a6,a7,a8] W) (setL_blk [a0,a1,a2,a3,a4,a5,a6,a7,a8] [z0,z1,z2,z3,z4,z5,z6,z7,z8] [] W rfl G) (DF g2 _ 0 W) (fun k _ E=>DG g2 k E _ 0 W)
theorem of_calls {u ts:Value} (w:World) (hm:zt w ok (.agg #[.int .i64 m.w,.int .i64 m.h,.int .i64 m.l,f,u,ts]) m) (hl:Lens m) (hc:AY m=0) (g0:zi w ok vc ch) (hi:zC m ch):
  Calls Tryz.prog 66 #[.agg #[.int .i64 m.w,.int .i64 m.h,.int .i64 m.l,f,u,ts],vc] w fun e w'=>∃vp,e=.returned (stv m f u ts vc vp (AD m ch))/\zb w w'/\PSt w' (fun b=>ok b\/w.heap.size<=b) m f u ts vc vp ch:=by
 have d4:=zh hm;have HL:=zh hl;have f4:=zh (BQ hc hi);have b7:=zh g0;obtain ⟨Af,cf,Au,cu,At,ct,e,-,-,g8⟩:=hm.parts;injection e with e;injection e with e;simp only [List.cons.injEq,and_true,true_and] at e;obtain ⟨rfl,rfl,rfl⟩:=e;have i3:=zh g8;obtain ⟨Ac,cc,rfl,-,-⟩:=g0;clear hm hl hc hi g8
 go_enter Tryz.func66,Tryz.ntmps66
 go_wp2_with fail
 obtain ⟨e4,r0,r1,r2,r3,r4,r5⟩:=CG w (.int .i64 m.w) (.int .i64 m.h) (.int .i64 m.l) (.slice Af m.free.length cf) (.slice Au m.up.length cu) (.slice At m.tasks.length ct);have f1:(w.alloc (.cells #[.int .i64 m.w,.int .i64 m.h,.int .i64 m.l,.slice Af m.free.length cf,.slice Au m.up.length cu,.slice At m.tasks.length ct] 32)).heap.size=w.heap.size+1:=by simp
 generalize w.alloc _=w1 at e4 r0 r1 r2 r3 r4 r5 f1⊢;have E:=zg.new w1 #[.int .i64 0,.int .i64 0,.int .i64 0,.slice none 0 0,.slice none 0 0,.slice none 0 0,.slice none 0 0,.slice none 0 0,.int .i64 0] 103 (g:=w1.heap.size) rfl;have b1:zb w1 (w1.alloc (.cells #[.int .i64 0,.int .i64 0,.int .i64 0,.slice none 0 0,.slice none 0 0,.slice none 0 0,.slice none 0 0,.slice none 0 0,.int .i64 0] 103)):=(zb.refl w1).alloc _;generalize w1.alloc _=w2 at E b1⊢;rw [f1] at E;have a9:=zh (e4.trans b1);have Z:=zh b1;have HZ:=zh E;obtain ⟨gm,e7⟩:=zak w.heap.size;rw [<-e7] at r0 r1 r2 r3 r4 r5 HZ⊢;have a1:Hid (gm=w.heap.size):=e7;have r0:=fun W h=>r0 W (Z.out.trans h)
 have r1:=fun W h=>r1 W (Z.out.trans h)
 have r2:=fun W h=>r2 W (Z.out.trans h)
 have r3:=fun W h=>r3 W (Z.out.trans h)
 have r4:=fun W h=>r4 W (Z.out.trans h)
 have r5:=fun W h=>r5 W (Z.out.trans h)
 clear e7 f1 E e4 b1;refine (rPathsY_calls (Y:=fun b=>ok b/\b<w.heap.size) w2 (d4.out.bound.below a9.out) HL.out (b7.out.below a9.out) (by have:=f4.out;omega)).mono ?_;rintro e w3 ⟨vp,rfl,d7,b4⟩;have b4:=b4.weaken (fun b J=>(by have:=a1.out;have:=HZ.out;have:=zd this;have:=a9.out.size;exact ⟨J.imp (fun h=>h.1) (fun h=>by omega),by omega⟩:(ok b\/w.heap.size<=b)/\b≠gm+1));have f5:=zh b4;obtain ⟨vps,⟨Ap,cp,rfl,-,g5⟩,g3⟩:=b4;have f6:=zh g5;have i0:=zh g3;have O:=zh (a9.out.trans d7);clear g5 g3
 go_wp2_with fail
 have b0:=zg.new w3 #[.int .i64 m.w,.int .i64 m.h,.int .i64 m.l,.slice Af m.free.length cf,.slice Au m.up.length cu,.slice At m.tasks.length ct,.slice Ac ch.length cc,.slice Ap (zv m ch).length cp,.int .i64 0] 103 (g:=w3.heap.size) rfl;have e5:zb w3 (w3.alloc (.cells #[.int .i64 m.w,.int .i64 m.h,.int .i64 m.l,.slice Af m.free.length cf,.slice Au m.up.length cu,.slice At m.tasks.length ct,.slice Ac ch.length cc,.slice Ap (zv m ch).length cp,.int .i64 0] 103)):=(zb.refl w3).alloc _;generalize w3.alloc _=w4 at b0 e5⊢;obtain ⟨gs,e8⟩:=zak w3.heap.size;rw [<-e8] at b0⊢;have i1:Hid (gs=w3.heap.size):=e8;have h6:=zh e5;have f3:=zh b0;have c9:=zh d7;obtain ⟨PL,e0⟩:=zak ((zv m ch).length);rw [<-e0] at f6 f3⊢;have a0:=zh e0;clear e8 b0 e5 d7 e0;go_loopw [18] (fun _ wr=>∃k:Nat,k<=PL/\Hid (curF m (zv m ch) (PL - k) k=AD m ch)/\Hid (zb w3 wr)/\Hid (zg wr gs 103 #[.int .i64 m.w,.int .i64 m.h,.int .i64 m.l,.slice Af m.free.length cf,.slice Au m.up.length cu,.slice At m.tasks.length ct,.slice Ac ch.length cc,.slice Ap PL cp,.int .i64 k])) (fun _ wr=>match wr.cell? ⟨gs,8,none⟩ with | some (.int _ i)=>PL - i.toNat | _=>0)
 case atStart=>exact ⟨0,Fb _,by show _=_;rw [a0.out];rfl,h6.out,f3.out⟩
 case round=>
  obtain ⟨k,hk,a5,hE,hB⟩:=hrel;have c0:=hB.out.cell (k:=0) rfl;have c1:=hB.out.cell (k:=1) rfl;have c2:=hB.out.cell (k:=2) rfl;have c3:=hB.out.cell (k:=3) rfl;have c4:=hB.out.cell (k:=4) rfl;have c5:=hB.out.cell (k:=5) rfl;have c6:=hB.out.cell (k:=6) rfl;have c7:=hB.out.cell (k:=7) rfl;have c8:=hB.out.cell (k:=8) rfl;by_cases a8:k<PL
  ·obtain ⟨k5,k9,-,g4⟩:=f4.out;have a7:k<m.tasks.length:=by have:=a0.out;omega
   have b2:k<(zv m ch).length:=by have:=a0.out;omega
   obtain ⟨bt,offt,sn,u1,u2,rfl,-,-,-,f9,-,e9⟩:=AO i3.out a7;obtain ⟨bp,offp,up,rfl,-,e6,g9⟩:=zO f6.out i0.out a8 b2;obtain ⟨b3,b5⟩:=g4 _ (EO b2);have i7:=(HL.out.tl _ (EO a7)).2
   have U:Hid (endB m (zv m ch) k=match ((zv m ch)[k]).getLast? with | none=>false | some x=>decide (x∈(m.tasks[k]).2)):=by
    show _=_;unfold endB;rw [EM,EL b2,EM,EL a7];rfl
   obtain ⟨P,hP⟩:=zak ((zv m ch)[k]);obtain ⟨T,hT⟩:=zak ((m.tasks[k]).2);rw [<-hP] at g9 b3 b5 U;rw [<-hT] at e9 i7 U;clear hP hT g4;obtain ⟨q,x,rfl⟩:∃q x,P=q++[x]:=⟨P.dropLast,P.getLast b3,(List.dropLast_concat_getLast b3).symm⟩
   have b9:Hid (endB m (zv m ch) k=decide (x∈T)):=by
    have:=U.out;rw [List.getLast?_append] at this;exact this
   clear U b3;obtain ⟨Aq,cq,rfl,i5,g6⟩:=g9;obtain ⟨bq,offq,e,-,a6⟩:=zy g6 (k:=q.length) (by simp) (by simp);have a6:w3.cell? ⟨bq,offq+q.length,none⟩=some (.int .i64 x):=by rw [a6];simp
   subst e;obtain ⟨N,hN⟩:=zak ((q++[x]).length);obtain ⟨n,hn⟩:=zak q.length;have f7:N=n+1:=by rw [hN,hn];simp
   rw [<-hN] at e6 b5;rw [<-hn] at a6;clear g6 i5 hN hn;have i2:=zh ((e9.below O.out).below hE.out);obtain ⟨Au2,cu2,rfl,-,-⟩:=e9;have q5:=zb.rule (r5 wr (c9.out.trans hE.out));have q8:=zb.rule c8;have h7:=zh c8;have qt:=zb.rule (hE.out.cell (O.out.cell f9));have qp:=zb.rule (hE.out.cell e6);have qx:=zb.rule (hE.out.cell a6);have hx:zb wr wr:=zb.refl wr;have j8:=zh r5;clear r0 r1 r2 r3 r4 r5 c0 c1 c2 c3 c4 c5 c6 c7 f9 e6 a6;have k2:(k:Int)<(PL:Int):=by omega
   have j9:(0:Int)<=(k:Int):=by omega
   have k3:(k:Int)<(m.tasks.length:Int):=by omega
   have k6:(0:Int)<=(n:Int):=by omega
   have k7:(n:Int)<(N:Int):=by omega
   have k8:IntKind.i64.wrap ((N:Int) - 1)=(n:Int):=by rw [Fi];omega
   have k4:IntKind.i64.wrap ((k:Int)+1)=(k:Int)+1:=by rw [Fi];omega
   have j7:=zh f7;have j6:=zh a7;clear f7 a7 b2
   go_wp2_with fail
   go_quiet ((go_at_call 42;refine (zE x _ (i2.out.below ((zb.refl wr).drewN _)) (by omega)).mono ?_;rintro e w9 ⟨rfl,rfl⟩;exact ⟨rfl,⟨_,rfl⟩⟩))
   have G:Hid (zg (wr.drewN nq) gs _ _):=hB.out.ext ((zb.refl wr).drewN _);have M:Hid (zb w3 (wr.drewN nq)):=hE.out.drewN _;have h8:Hid (∀h:zb wr (wr.drewN nq),zb wr (wr.drewN nq)):=fun h=>h
   generalize wr.drewN nq=WX at G M h8⊢;obtain ⟨d,hd⟩:=zak (decide (x∈T));rw [<-hd] at b9⊢;clear hd;have c8:=G.out.cell (k:=8) rfl;have f8:=G.out.frozen 8
   cases d with
   | true=>
    clear q5 q8 qt qp qx hx
    go_wp2_with fail
    have d5:=G.out.set (k:=8) (.int .i64 ((k:Int)+1));have d8:zb w3 (WX.setCell ⟨gs,8,none⟩ (.int .i64 ((k:Int)+1))):=M.out.setCell (p:=⟨gs,8,none⟩) (by rw [i1.out];exact EN _) _;generalize WX.setCell ⟨gs,8,none⟩ (.int .i64 ((k:Int)+1))=w6 at d5 d8⊢;have h9:=zh d8;have f2:=zh d5;clear d8 d5;go_roundw
    case rel=>exact ⟨k+1,by omega,by
     show _=_;have:=a5.out;rw [show PL - k=(PL - (k+1))+1 from by omega,curF,if_pos ⟨by have:=a0.out;omega,b9.out⟩] at this;exact this,h9.out,by have:=f2.out;exact this⟩
    case measure=>
     have h1:w6.cell? ⟨gs,8,none⟩=some (.int .i64 ((k:Int)+1)):=f2.out.cell (k:=8) rfl;have h2:wr.cell? ⟨gs,8,none⟩=some (.int .i64 k):=h7.out;simp only [h1,h2];omega
   | false=>
    have b8:Hid (AD m ch=k):=by
     show _=_;have:=a5.out;rw [show PL - k=(PL - (k+1))+1 from by omega,curF,if_neg (by rw [b9.out];simp)] at this;exact this.symm
    clear q5 q8 qt qp qx hx c8 f8;have E:zg WX (gm+1) 103 _:=HZ.out.ext (c9.out.trans M.out);have z0:=E.cell (k:=0) rfl;have z1:=E.cell (k:=1) rfl;have z2:=E.cell (k:=2) rfl;have z3:=E.cell (k:=3) rfl;have z4:=E.cell (k:=4) rfl;have z5:=E.cell (k:=5) rfl;have z6:=E.cell (k:=6) rfl;have z7:=E.cell (k:=7) rfl;have z8:=E.cell (k:=8) rfl;have c0:=G.out.cell (k:=0) rfl;have c1:=G.out.cell (k:=1) rfl;have c2:=G.out.cell (k:=2) rfl;have c3:=G.out.cell (k:=3) rfl;have c4:=G.out.cell (k:=4) rfl;have c5:=G.out.cell (k:=5) rfl;have c6:=G.out.cell (k:=6) rfl;have c7:=G.out.cell (k:=7) rfl;have c8:=G.out.cell (k:=8) rfl;have hfz:∀j,WX.frozen? ⟨gm+1,j,none⟩=false:=fun j=>E.frozen j
    have b6:=zh E;clear E
    go_wp2_with fail
    refine case_fin9 (P:=fun W=>bodyPost Tryz.prog Tryz.f66 _ Exit.ret _ W) (g2:=gm+1) ?_ b6.out;intro WZ I d9 f0;have y0:=I.cell (k:=0) rfl;have y1:=I.cell (k:=1) rfl;have y2:=I.cell (k:=2) rfl;have y3:=I.cell (k:=3) rfl;have y4:=I.cell (k:=4) rfl;have y5:=I.cell (k:=5) rfl;have y6:=I.cell (k:=6) rfl;have y7:=I.cell (k:=7) rfl;have y8:=I.cell (k:=8) rfl;refine FK (v:=stv m (.slice Af m.free.length cf) (.slice Au m.up.length cu) (.slice (some ⟨bt,offt,none⟩) m.tasks.length ct) (.slice Ac ch.length cc) (.slice (some ⟨bp,offp,none⟩) PL cp) k) (by simp [results,Tryz.results66,go_sem,y0,y1,y2,y3,y4,y5,y6,y7,y8,stv]) rfl ⟨_,by rw [b8.out],?_,?_⟩
    ·exact Below.trans (O.out.trans M.out) (d9.mono (by have:=a1.out;omega))
    ·have hS:Ao (fun b=>(ok b\/w.heap.size<=b)/\b≠gm+1) WX WZ:=fun b J a8=>f0 b a8 J.2
     have a4:∀{b},b<w.heap.size->b≠gm+1:=fun J=>by have:=a1.out;omega
     refine ⟨?_,?_,?_⟩
     ·exact ((((d4.out.bound).keep (Ao.of_below (O.out.trans M.out))).weaken (fun b J=>⟨.inl J.1,a4 J.2⟩)).keep hS).weaken (fun _ J=>J.1)
     ·exact ((((b7.out.bound).keep (Ao.of_below (O.out.trans M.out))).weaken (fun b J=>⟨.inl J.1,a4 J.2⟩)).keep hS).weaken (fun _ J=>J.1)
     ·exact ((a0.out ▸ f5.out.below M.out:zq WX (fun b=>(ok b\/w.heap.size<=b)/\b≠gm+1) _ (zv m ch)).keep hS).weaken (fun _ J=>J.1)
  ·have j5:¬ ((k:Int)<(PL:Int)):=by omega
   have b8:Hid (AD m ch=k):=by
    show _=_;have:=a5.out;rw [show PL - k=0 from by omega,curF] at this;exact this.symm
   have q8:=zb.rule c8;have hx:zb wr wr:=zb.refl wr;clear c0 c1 c2 c3 c4 c5 c6 c7 r0 r1 r2 r3 r4 r5
   go_wp2_with fail
   go_quiet (fail)
   have G:Hid (zg (wr.drewN nq) gs _ _):=hB.out.ext ((zb.refl wr).drewN _);have M:Hid (zb w3 (wr.drewN nq)):=hE.out.drewN _;clear q8 hx c8;generalize wr.drewN nq=WX at G M⊢;have E:zg WX (gm+1) 103 _:=HZ.out.ext (c9.out.trans M.out);have z0:=E.cell (k:=0) rfl;have z1:=E.cell (k:=1) rfl;have z2:=E.cell (k:=2) rfl;have z3:=E.cell (k:=3) rfl;have z4:=E.cell (k:=4) rfl;have z5:=E.cell (k:=5) rfl;have z6:=E.cell (k:=6) rfl;have z7:=E.cell (k:=7) rfl;have z8:=E.cell (k:=8) rfl;have c0:=G.out.cell (k:=0) rfl;have c1:=G.out.cell (k:=1) rfl;have c2:=G.out.cell (k:=2) rfl;have c3:=G.out.cell (k:=3) rfl;have c4:=G.out.cell (k:=4) rfl;have c5:=G.out.cell (k:=5) rfl;have c6:=G.out.cell (k:=6) rfl;have c7:=G.out.cell (k:=7) rfl;have c8:=G.out.cell (k:=8) rfl;have hfz:∀j,WX.frozen? ⟨gm+1,j,none⟩=false:=fun j=>E.frozen j
   have b6:=zh E;clear E
   go_wp2_with fail
   refine case_fin9 (P:=fun W=>bodyPost Tryz.prog Tryz.f66 _ Exit.ret _ W) (g2:=gm+1) ?_ b6.out;intro WZ I d9 f0;have y0:=I.cell (k:=0) rfl;have y1:=I.cell (k:=1) rfl;have y2:=I.cell (k:=2) rfl;have y3:=I.cell (k:=3) rfl;have y4:=I.cell (k:=4) rfl;have y5:=I.cell (k:=5) rfl;have y6:=I.cell (k:=6) rfl;have y7:=I.cell (k:=7) rfl;have y8:=I.cell (k:=8) rfl;refine FK (v:=stv m (.slice Af m.free.length cf) (.slice Au m.up.length cu) (.slice At m.tasks.length ct) (.slice Ac ch.length cc) (.slice Ap PL cp) k) (by simp [results,Tryz.results66,go_sem,y0,y1,y2,y3,y4,y5,y6,y7,y8,stv]) rfl ⟨_,by rw [b8.out],?_,?_⟩
   ·exact Below.trans (O.out.trans M.out) (d9.mono (by have:=a1.out;omega))
   ·have hS:Ao (fun b=>(ok b\/w.heap.size<=b)/\b≠gm+1) WX WZ:=fun b J a8=>f0 b a8 J.2
    have a4:∀{b},b<w.heap.size->b≠gm+1:=fun J=>by have:=a1.out;omega
    refine ⟨?_,?_,?_⟩
    ·exact ((((d4.out.bound).keep (Ao.of_below (O.out.trans M.out))).weaken (fun b J=>⟨.inl J.1,a4 J.2⟩)).keep hS).weaken (fun _ J=>J.1)
    ·exact ((((b7.out.bound).keep (Ao.of_below (O.out.trans M.out))).weaken (fun b J=>⟨.inl J.1,a4 J.2⟩)).keep hS).weaken (fun _ J=>J.1)
    ·exact ((a0.out ▸ f5.out.below M.out:zq WX (fun b=>(ok b\/w.heap.size<=b)/\b≠gm+1) _ (zv m ch)).keep hS).weaken (fun _ J=>J.1)
end
end Go.Proofs.YthbjngbhbbkkgaaGreat
