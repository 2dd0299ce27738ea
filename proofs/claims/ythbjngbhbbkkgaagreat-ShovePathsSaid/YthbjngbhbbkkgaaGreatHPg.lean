import Derived.Test.YthbjngbhbbkkgaaGreatHPf
set_option linter.unusedVariables false
set_option linter.unusedSimpArgs false
set_option maxRecDepth 100000
set_option maxHeartbeats 16000000
namespace Go.Proofs.YthbjngbhbbkkgaaGreat
variable {c d e:Int} {fr:Int->Bool} {fixed:List (List Int)} {ch l p tg us:List Int} {m:MZ} {cf f gm k t:Nat} {ok okf okm:Nat->Prop} {Af:Option Addr} {vf:Value}
section
open Go.RowKit
attribute [local go_sem ↓] Go.wp_at_zero Go.wp_at_succ
theorem Dq {W:World} (h:Bn W ok (.slice Af m.free.length cf) m.free) (O:∀f∈m.free,(f.length:Int)=m.n) (E:t<m.free.length) {n:Int} (h0:0<=n) (h1:n<m.n):
  ∃b off b' off' l c',Af=some ⟨b,off,none⟩/\W.cell? ⟨b,off+t,none⟩=some (.slice (some ⟨b',off',none⟩) l c')/\n<(l:Int)/\l<=c'/\m.free.length<=cf/\W.cell? ⟨b',off'+n.toNat,none⟩=some (.bool (zl m t n)):=by
 obtain ⟨vsf,⟨A,c,e,J,U⟩,L⟩:=h;injection e with e1 e2 e3;subst e1 e3;obtain ⟨bf,off3,uf,rfl,_,D,G⟩:=zO U L E E;have M:=O _ (EO E);obtain ⟨A4,c4,rfl,I,T⟩:=G;have z:n.toNat<(m.free[t]).length:=by omega
 obtain ⟨b4,off4,rfl,_,o⟩:=BR T z z;have Q:(m.free[t])[n.toNat]=zl m t n:=by simp [zl,E,z]
 rw [Q] at o;exact ⟨bf,off3,b4,off4,_,c4,rfl,D,by omega,I,J,o⟩
theorem lookM_t {w:World} {g:Nat} {x:Int} (h:zD w g l) (o:x∈l):(Instr.lookup 78 (.map (some g)) (.int .i64 x) false).run Tryz.prog w=.ok (.bool true) w:=by
 have:=run_look h x 78 Tryz.underlying78
 rwa [EQ o] at this
theorem lookM_f {w:World} {g:Nat} {x:Int} (h:zD w g l) (o:x∉l):(Instr.lookup 78 (.map (some g)) (.int .i64 x) false).run Tryz.prog w=.ok (.bool false) w:=by
 have:=run_look h x 78 Tryz.underlying78
 rwa [ER o] at this
structure FreeM (w:World) (ok:Nat->Prop) (gm gt gb gs:Nat) (m:MZ) (t:Nat) (Af:Option Addr) (cf:Nat) (fixed:List (List Int)) (s:List Int):Prop where
 hcf:w.cell? ⟨gm,3,none⟩=some (.slice Af m.free.length cf)
 ct:w.cell? ⟨gt,0,none⟩=some (.int .i64 t)
 cb:w.cell? ⟨gb,0,none⟩=some (.map (some gs))
 fr:Bn w ok (.slice Af m.free.length cf) m.free
 set:zD w gs s
 mem:∀x,x∈s↔x∈fixed.flatten
theorem FreeM.ext {w w':World} {gt gb gs:Nat} {s:List Int} (h:FreeM w ok gm gt gb gs m t Af cf fixed s) (o:zb w w'):FreeM w' ok gm gt gb gs m t Af cf fixed s:=
 ⟨o.cell h.hcf,o.cell h.ct,o.cell h.cb,h.fr.below o,h.set.below o,h.mem⟩
theorem path1_calls {gt gb gs:Nat} {s:List Int} (n:Int) (w:World) (h:FreeM w ok gm gt gb gs m t Af cf fixed s) (J:∀f∈m.free,(f.length:Int)=m.n) (ht:t<m.free.length) (h0:0<=n) (h1:n<m.n):
  Calls Tryz.prog 48 #[.int .i64 n,.pointer (some ⟨gm,0,none⟩),.pointer (some ⟨gt,0,none⟩),.pointer (some ⟨gb,0,none⟩)] w fun e w'=>e=.returned (.bool (DJ m t fixed n))/\w=w':=by
 obtain ⟨U,V,T,M,z,D⟩:=h;obtain ⟨b,off,b',off',l,c',rfl,Q,hl,a0,Z,G⟩:=Dq M J ht h0 h1;have a4:(t:Int)<(m.free.length:Int):=by omega
 have a3:(0:Int)<=(t:Int):=by omega
 clear M J
 have L:DJ m t fixed n=(zl m t n && !decide (n∈s)):=by
  unfold DJ;rw [decide_eq_decide.2 (D n)]
 rw [L];clear L D h1;obtain ⟨fb,I⟩:=zak (zl m t n);rw [<-I] at G⊢;clear I;by_cases E:n∈s
 ·have O:=lookM_t z E;have o:Hid ((fb && !decide (n∈s))=false):=by show _=false;rw [EQ E];cases fb <;> rfl
  clear E z
  cases fb with
  | false=>
   go_enter Tryz.func48,Tryz.ntmps48
   go_wp2;go_ret;exact ⟨zf o.out.symm,rfl⟩
  | true=>
   go_enter Tryz.func48,Tryz.ntmps48
   go_wp2;go_ret;exact ⟨zf o.out.symm,rfl⟩
 ·have O:=lookM_f z E;have o:Hid ((fb && !decide (n∈s))=fb):=by show _=fb;rw [ER E];cases fb <;> rfl
  clear E z
  cases fb with
  | false=>
   go_enter Tryz.func48,Tryz.ntmps48
   go_wp2;go_ret;exact ⟨zf o.out.symm,rfl⟩
  | true=>
   go_enter Tryz.func48,Tryz.ntmps48
   go_wp2;go_ret;exact ⟨zf o.out.symm,rfl⟩
def bestS (F:List (Int×Int)) (b:Option Int) (n:Int):Option Int:=match F.lookup n with
 | none=>b
 | some d=>match b with
  | none=>some n
  | some c=>if d<(F.lookup c).getD 0\/(d=(F.lookup c).getD 0/\n<c) then some n else some c
theorem bestL_fold (F:List (Int×Int)):∀(l:List Int) (b:Option Int),BN F l b=l.foldl (bestS F) b
 | [],b=>rfl
 | n :: l,b=>by
  unfold BN;rw [List.foldl_cons,bestL_fold F l];rfl
theorem bestL_succ {F:List (Int×Int)} (o:k<l.length):BN F (l.take (k+1)) none=bestS F (BN F (l.take k) none) l[k]:=by
 rw [bestL_fold,bestL_fold,EU o,List.foldl_append];rfl
theorem bestS_none {F:List (Int×Int)} {b:Option Int} {n:Int} (h:F.lookup n=none):bestS F b n=b:=by unfold bestS;rw [h]
theorem bestS_first {F:List (Int×Int)} {n:Int} (h:F.lookup n=some d):bestS F none n=some n:=by unfold bestS;rw [h]
theorem bestS_new {F:List (Int×Int)} {n:Int} (h:F.lookup n=some d) (o:F.lookup c=some e) (z:d<e\/(d=e/\n<c)):bestS F (some c) n=some n:=by
 unfold bestS;rw [h];show (if d<(F.lookup c).getD 0\/(d=(F.lookup c).getD 0/\n<c) then some n else some c)=_;rw [o,Ft,if_pos z]
theorem bestS_old {F:List (Int×Int)} {n:Int} (h:F.lookup n=some d) (o:F.lookup c=some e) (z:¬ (d<e\/(d=e/\n<c))):bestS F (some c) n=some c:=by
 unfold bestS;rw [h];show (if d<(F.lookup c).getD 0\/(d=(F.lookup c).getD 0/\n<c) then some n else some c)=_;rw [o,Ft,if_neg z]
theorem Ef {w:World} {g:Nat} {l:List (Int×Int)} {x:Int} (h:Cc w g l) (o:l.lookup x=none):(Instr.lookup 83 (.map (some g)) (.int .i64 x) true).run Tryz.prog w=.ok (.tuple #[.int .i64 0,.bool false]) w:=by
 have:=run_farOk h x 83 Tryz.underlying83
 rwa [o] at this
theorem Dx {w:World} {g:Nat} {l:List (Int×Int)} {x:Int} (h:Cc w g l) (o:l.lookup x=some d):(Instr.lookup 83 (.map (some g)) (.int .i64 x) true).run Tryz.prog w=.ok (.tuple #[.int .i64 d,.bool true]) w:=by
 have:=run_farOk h x 83 Tryz.underlying83
 rwa [o] at this
theorem far_some {w:World} {g:Nat} {l:List (Int×Int)} {x:Int} (h:Cc w g l) (o:l.lookup x=some d):(Instr.lookup 83 (.map (some g)) (.int .i64 x) false).run Tryz.prog w=.ok (.int .i64 d) w:=by
 have:=run_far h x 83 Tryz.underlying83
 rwa [o] at this
theorem ownOne (W:World) (B:Nat) (e:TypeId) (x:Value) (o:B<=W.heap.size):(W.alloc (.cells #[x] e)).ownsRow B e 1 (.slice (some ⟨W.heap.size,0,none⟩) 1 1) 1 [x]:=
 ⟨rfl,.inr ⟨W.heap.size,1,#[x],rfl,o,FB _ _,EN _,by unfold maxLen;omega,rfl,rfl⟩⟩
theorem DY.dist {F:List (Int×Int)} (g:zI m) (h:DY m fr tg k F) {x:Int} (z:F.lookup x=some d):0<=d/\d<300:=by
 have h0:=(h.rg _ (AE z)).2.2;simp only at h0;obtain ⟨f,rfl⟩:∃f:Nat,d=(f:Int):=⟨d.toNat,by omega⟩;obtain ⟨a1,-,a3,-⟩:=down_spec g.dim h f x z
 have G:(CH m F f x).Nodup:=by
  rw [List.nodup_iff_pairwise_ne,List.pairwise_iff_getElem];intro i j o E D e;have h1:=(a3 i _ (EL o));have h2:=(a3 j _ (EL E));rw [e,h2.2] at h1;have:=h1.2;injection this with this;omega
 have h2:=Bz G m.n (fun y I=>by
  obtain ⟨i,o,rfl⟩:=Fu I;exact (h.rg _ (AE (a3 i _ (EL o)).2)).1)
 have h3:=g.dim.n1;unfold MZ.n at h2;omega
theorem downN_at {F:List (Int×Int)} (d:EF m) (h:DY m fr tg k F) {b:Int} (z:F.lookup b=some ((f:Int)+1)):
  ∃i,∃D:i<(zm m b).length,(zm m b)[i]=Dg m F b/\∀j (E:j<i),F.lookup ((zm m b)[j]'(by omega))≠some (f:Int):=by
 have G:=(downN_ok d h z).1;have e:(F.lookup b).getD 0 - 1=(f:Int):=by rw [z,Ft];omega
 cases o:(zm m b).find? (fun x=>decide (F.lookup x=some (f:Int))) with
 | none=>
  have:=List.find?_eq_none.1 o _ (downN_ok d h z).2;exact absurd (EQ G) this
 | some y=>
  have I:Dg m F b=y:=by unfold Dg;rw [e,o];rfl
  obtain ⟨-,i,D,e1,e2⟩:=List.find?_eq_some_iff_getElem.1 o;refine ⟨i,D,by rw [I];exact e1,fun j E=>?_⟩;have:=e2 j E;simpa using this
theorem descend_calls {v:Value} {fm:List Int} {gf:Nat} {F:List (Int×Int)} (w:World) (hm:zt w okm v m) (hl:Lens m) (hc:AY m=0) (hf:zi w okf vf fm) (i2:fm.length<=20000000000000)
  (hF:Cc w gf F) (hI:DY m fr tg k F):
  Calls Tryz.prog 49 #[v,vf,.map (some gf)] w fun e w'=>∃v',e=.returned (.tuple #[v',.bool (CV m F fm).isSome])/\Mk w w' v' ((CV m F fm).getD []):=by
 have e5:=zh hm;have HL:=zh hl;have O:=zh hI;have HC:=zh hc;have G:=zh (zI.of hc);obtain ⟨Af,cf,Au,cu,At,ct,rfl,-,-,-⟩:=hm.parts;obtain ⟨A,c,rfl,h8,hr⟩:=hf;have HR:=zh hr;clear hm hl hr hI hc
 go_enter Tryz.func49,Tryz.ntmps49
 go_wp2_with fail
 obtain ⟨L,r0,r1,r2,r3,r4,r5⟩:=CG w (.int .i64 m.w) (.int .i64 m.h) (.int .i64 m.l) (.slice Af m.free.length cf) (.slice Au m.up.length cu) (.slice At m.tasks.length ct);generalize w.alloc _=w1 at L r0 r1 r2 r3 r4 r5⊢;have hF1:Cc w1 gf F:=hF.below L;have hx:zb w1 w1:=zb.refl w1
 go_wp2_with fail
 go_loopw [8,9,21] (fun b s i wr=>∃k bo,k<=fm.length/\i=.int .i64 (k:Nat)/\w1=wr/\b=.int .i64 (bo.getD 0)/\s=.bool bo.isSome/\Hid (bo=BN F (fm.take k) none)/\Hid (∀c,bo=some c->∃e,F.lookup c=some e)) (fun _ _ i _=>fm.length - (intOf i).toNat)
 case atStart=>exact ⟨0,none,Fb _,rfl,rfl,rfl,rfl,rfl,fun c h=>by cases h⟩
 case round=>
  obtain ⟨k,bo,hk,rfl,rfl,rfl,rfl,a4,I⟩:=hrel;by_cases a6:k<fm.length
  ·obtain ⟨b,off,rfl,_,z⟩:=zy (HR.out.keep (Ao.of_below L)) a6 a6;have o:Hid (BN F (fm.take (k+1)) none=bestS F bo fm[k]):=by show _=_;rw [a4.out];exact bestL_succ a6
   clear a4;obtain ⟨y,E⟩:=zak (fm[k]);rw [<-E] at z o;clear E
   cases E:F.lookup y with
   | none=>
    have U:=Ef hF1 E;have M:Hid (bo=BN F (fm.take (k+1)) none):=by show _=_;rw [o.out,bestS_none E]
    clear E
    cases bo with
    | none=>
     go_wp2;go_roundw
     case rel=>exact ⟨k+1,none,by omega,by go_num,by trivial,rfl,rfl,M,I⟩
     case measure=>simp [intOf];omega
    | some c0=>
     go_wp2;go_roundw
     case rel=>exact ⟨k+1,some c0,by omega,by go_num,by trivial,rfl,rfl,M,I⟩
     case measure=>simp [intOf];omega
   | some d=>
    have U:=Dx hF1 E
    cases bo with
    | none=>
     have M:Hid (some y=BN F (fm.take (k+1)) none):=by show _=_;rw [o.out,bestS_first E]
     have HY:=zh E;clear E;go_wp2;go_roundw
     case rel=>exact ⟨k+1,some y,by omega,by go_num,by trivial,rfl,rfl,M,fun c e=>by injection e with e;subst e;exact ⟨d,HY.out⟩⟩
     case measure=>simp [intOf];omega
    | some c0=>
     obtain ⟨e,he⟩:=I.out c0 rfl;have i6:=far_some hF1 he;by_cases f2:d<e
     ·have M:Hid (some y=BN F (fm.take (k+1)) none):=by show _=_;rw [o.out,bestS_new E he (.inl f2)]
      have HY:=zh E;clear E;clear he;go_wp2;go_roundw
      case rel=>exact ⟨k+1,some y,by omega,by go_num,by trivial,rfl,rfl,M,fun c e=>by injection e with e;subst e;exact ⟨d,HY.out⟩⟩
      case measure=>simp [intOf];omega
     ·by_cases c4:d=e
      ·subst c4;by_cases f7:y<c0
       ·have M:Hid (some y=BN F (fm.take (k+1)) none):=by show _=_;rw [o.out,bestS_new E he (.inr ⟨rfl,f7⟩)]
        have HY:=zh E;clear E;clear he;go_wp2;go_roundw
        case rel=>exact ⟨k+1,some y,by omega,by go_num,by trivial,rfl,rfl,M,fun c e=>by injection e with e;subst e;exact ⟨d,HY.out⟩⟩
        case measure=>simp [intOf];omega
       ·have M:Hid (some c0=BN F (fm.take (k+1)) none):=by show _=_;rw [o.out,bestS_old E he (by omega)]
        clear E he;go_wp2;go_roundw
        case rel=>exact ⟨k+1,some c0,by omega,by go_num,by trivial,rfl,rfl,M,I⟩
        case measure=>simp [intOf];omega
      ·have M:Hid (some c0=BN F (fm.take (k+1)) none):=by show _=_;rw [o.out,bestS_old E he (by omega)]
       have g3:(d==e)=false:=by simpa using c4
       clear E he;go_wp2;go_roundw
       case rel=>exact ⟨k+1,some c0,by omega,by go_num,by trivial,rfl,rfl,M,I⟩
       case measure=>simp [intOf];omega
  ·obtain rfl:k=fm.length:=by omega
   have T:Hid (bo=BN F fm none):=by have:=a4.out;rwa [EY] at this
   clear a4 a6 hk
   cases bo with
   | none=>
    have hd:CV m F fm=none:=by unfold CV;rw [<-T.out];rfl
    have HD:=zh hd;clear hd;go_wp2
    go_ret2
    rw [HD.out];exact ⟨_,rfl,Mk.nil' L⟩
   | some b0=>
    obtain ⟨d,a5⟩:=I.out b0 rfl;have h9:=O.out.dist G.out a5;obtain ⟨f,rfl⟩:∃f:Nat,d=(f:Int):=⟨d.toNat,by omega⟩;have b9:CV m F fm=some (CH m F f b0):=by unfold CV;rw [<-T.out,Option.map_some,a5];rfl
    have HD:=zh b9;clear b9 T I;have d9:Hid (F.lookup b0=some (f:Int)):=a5;clear a5
    go_wp2_with fail
    obtain ⟨b7,r6⟩:=box1 w1 (.int .i64 b0) 3;have hO:Hid (Mk w1 (w1.alloc (.cells #[.int .i64 b0] 3)) (.slice (some ⟨w1.heap.size,0,none⟩) 1 1) ([]++[b0])):=⟨ownOne w1 w1.heap.size 3 (.int .i64 b0) (EN _),b7⟩;clear b7 r6
    go_loopg [8,14] f (fun r b v wr=>∃pre cur,b=.int .i64 cur/\Hid (Mk w1 wr v (pre++[cur]))/\Hid (F.lookup cur=some (r:Int))/\Hid (pre++CH m F r cur=CH m F f b0)/\pre.length+r=f)
    case atStart=>exact ⟨[],b0,rfl,hO,d9,rfl,by simp⟩
    clear hO
    case round=>
     obtain ⟨pre,cur,rfl,hM,V,heq,g4⟩:=hrel;have hx:zb w1 wr:=hM.out.ext;have b5:Cc wr gf F:=hF1.below hx;obtain ⟨wk,rfl⟩:∃wk:World,wk=wr:=⟨_,rfl⟩;have U:=far_some b5 V.out
     cases gk with
     | zero=>
      have e8:(((0:Nat):Int))=0:=rfl;rw [e8] at U;have HE:Hid (pre++[cur]=CH m F f b0):=heq.out;clear heq;go_wp2
      go_ret2
      rw [HD.out];exact ⟨_,rfl,L.mono_mk (hM.out.cast HE.out.symm)⟩
     | succ r=>
      have D:F.lookup cur=some ((r:Int)+1):=by have:=V.out;rw [this];congr 1
      have J:=(O.out.rg _ (AE D)).1;simp only at J;have f5:=O.out.dist G.out D;obtain ⟨i0,i3,c6,c7⟩:=downN_at G.out.dim O.out D;obtain ⟨a8,b8⟩:=downN_ok G.out.dim O.out D;have e1:((r+1:Nat):Int)=(r:Int)+1:=by omega
      rw [e1] at U;have g6:(0:Int)<(r:Int)+1:=by omega
      have i9:IntKind.i64.wrap ((r:Int)+1 - 1)=(r:Int):=by rw [Fi];omega
      have g8:IntKind.i64.wrap (r:Int)=(r:Int):=by rw [Fi];omega
      have HN:Hid (BC m cur=zm m cur):=by show _=_;unfold BC;rw [if_pos ⟨HC.out,J.1,J.2⟩]
      have HQ:Hid ((pre++[cur])++CH m F r (Dg m F cur)=CH m F f b0):=by
       show _=_;have e2:CH m F (r+1) cur=cur :: CH m F r (Dg m F cur):=rfl;have:=heq.out;rw [e2] at this;rw [<-this];simp
      have e0:=zh c7;have e4:=zh D;have a9:=zh a8;have e3:=zh c6;clear V D heq J c7 a8 b8 c6
      go_wp2_with fail
      refine (rNext_calls cur wk (e5.out.below (L.trans hx)) HL.out).mono ?_;rintro e w2 ⟨vn,rfl,b6⟩;have Q:Hid (Mk wk w2 vn (zm m cur)):=by have:=b6;rw [HN.out] at this;exact this
      clear b6 HN;have a1:=zh (hM.out.more Q.out.ext);have b1:zb w1 w2:=a1.out.ext;have a3:Cc w2 gf F:=hF1.below b1;obtain ⟨A2,c2,rfl,h7,d5⟩:=Q.out.ints;have e7:=zh d5;have i5:=Ba m cur;have g5:=far_some a3 e4.out;clear d5 Q hM hx b5 U
      go_wp2_with fail
      go_loopw [8,69] (fun b i wz=>∃j,j<=i0/\b=.int .i64 cur/\i=.int .i64 (j:Nat)/\w2=wz) (fun _ i _=>i0 - (intOf i).toNat)
      case atStart=>exact ⟨0,Fb _,rfl,rfl,rfl⟩
      case round=>
       obtain ⟨j,hj,rfl,rfl,rfl⟩:=hrel;have c8:j<(zm m cur).length:=by omega
       obtain ⟨b2,off2,rfl,_,z⟩:=zy e7.out c8 c8;by_cases f3:j<i0
       ·have a7:=e0.out j f3;obtain ⟨x,a0⟩:=zak ((zm m cur)[j]);rw [<-a0] at z a7;clear a0
        cases Z:F.lookup x with
        | none=>
         have c9:=Ef a3 Z;clear Z a7;go_wp2;go_roundw
         case rel=>exact ⟨j+1,by omega,by trivial,by go_num,by trivial⟩
         case measure=>simp [intOf];omega
        | some dx=>
         have c9:=Dx a3 Z
         have i8:(dx==(r:Int))=false:=by
          rw [Fa];intro e;exact a7 (by rw [Z,e])
         clear Z a7;go_wp2;go_roundw
         case rel=>exact ⟨j+1,by omega,by trivial,by go_num,by trivial⟩
         case measure=>simp [intOf];omega
       ·obtain rfl:j=i0:=by omega
        rw [e3.out] at z;obtain ⟨x,a0⟩:=zak (Dg m F cur);rw [<-a0] at z a9 HQ;clear a0;have c9:=Dx a3 a9.out;have f6:((r:Int)==(r:Int))=true:=by simp
        have f4:(pre++[cur]).length<=1000000:=by simp;omega
        obtain ⟨l,hl⟩:=zak (pre++[cur]);rw [<-hl] at a1 HQ f4;have i7:l.length=pre.length+1:=by rw [hl];simp
        clear hl
        go_wp2_with (at_builtin;refine AP rfl _ _ rfl _ l x w1.heap.size w2.heap.size 1 _ rfl rfl (a1.out.own.alloc _) ?d1 ?d2 ?d3 ?_)
        (try case d1=>exact zr _ _ _ (by simp))
        case d2=>(first | (simp;done) | (have:=b1.size;simp;omega) | (have:=b1.size;omega))
        case d3=>omega
        intro v' wb d4 c5 f0;have e9:=zh ((a1.out.alloc _).app d4 c5);clear d4 c5 f0;go_wp2
        go_roundg r
        case measure=>omega
        case rel=>exact ⟨l,x,rfl,e9,a9,HQ,by omega⟩
structure UI (w wr:World) (gs gb:Nat) (s:List Int):Prop where
 ext:zb w wr
 lo:w.heap.size<=gs
 lt:gs<gb
 set:zD wr gs s
 cb:wr.cell? ⟨gb,0,none⟩=some (.map (some gs))
section
variable {w wr w':World} {gs gb:Nat} {s:List Int} {x:Int}
theorem UI.add (h:UI w wr gs gb s) (D:zD w' gs (ins s x)) (o:wr.grownBy w' (some gs)):UI w w' gs gb (ins s x):=
 ⟨h.ext.grown o h.ext.size (fun k z=>by injection z with z;have:=h.lo;omega),h.lo,h.lt,D,
  (Fc (w:=wr) (a:=⟨gb,0,none⟩) (o.block gb (zp h.cb) (fun e=>by injection e with e;have:=h.lt;omega))).trans h.cb⟩
theorem UI.new (w:World):UI w ((w.alloc (.map #[] 0)).alloc (.cells #[.map (some w.heap.size)] 78)) w.heap.size (w.heap.size+1) []:=by
 have o:zg ((w.alloc (.map #[] 0)).alloc (.cells #[.map (some w.heap.size)] 78)) (w.heap.size+1) 78 #[.map (some w.heap.size)]:=zg.new _ _ _ (by simp);have z:zb w ((w.alloc (.map #[] 0)).alloc (.cells #[.map (some w.heap.size)] 78)):=((zb.refl w).alloc _).alloc _;exact ⟨z,EN _,Nat.lt_succ_self _,(zD.new w).below ((zb.refl _).alloc _),o.cell (k:=0) rfl⟩
end
def addS (fr:Int->Bool) (d:Int) (F:List (Int×Int)) (x:Int):List (Int×Int):=if ((F.lookup x).isNone && fr x)=true then F++[(x,d)] else F
theorem De (fr:Int->Bool) (d:Int):∀(l:List Int) (F:List (Int×Int)),zw fr d l F=l.foldl (addS fr d) F
 | [],F=>rfl
 | x :: l,F=>by
  unfold zw;rw [List.foldl_cons,De fr d l];rfl
theorem Er {F:List (Int×Int)} (o:k<l.length):zw fr d (l.take (k+1)) F=addS fr d (zw fr d (l.take k) F) l[k]:=by
 rw [De,De,EU o,List.foldl_append];rfl
theorem addS_new {x:Int} {F:List (Int×Int)} (h:F.lookup x=none) (o:fr x=true):addS fr d F x=F++[(x,d)]:=by unfold addS;rw [h,o];rfl
theorem addS_old {x:Int} {F:List (Int×Int)} (h:F.lookup x=some e):addS fr d F x=F:=by unfold addS;rw [h];rfl
theorem addS_not {x:Int} {F:List (Int×Int)} (o:fr x=false):addS fr d F x=F:=by unfold addS;rw [o];simp
structure PI (w wr:World) (gf:Nat) (F:List (Int×Int)) (v:Value) (todo:List Int):Prop where
 ext:zb w wr
 lo:w.heap.size<=gf
 far:Cc wr gf F
 que:Que wr (gf+1) v todo
section
variable {w wr w':World} {gf:Nat} {F F':List (Int×Int)} {v v':Value} {todo todo':List Int}
theorem PI.more (h:PI w wr gf F v todo) (o:zb wr w'):PI w w' gf F v todo:=⟨h.ext.trans o,h.lo,h.far.below o,h.que.more o⟩
theorem PI.put (h:PI w wr gf F v todo) (D:Cc w' gf F') (z:wr.grownBy w' (some gf)):PI w w' gf F' v todo:=
 ⟨h.ext.grown z h.ext.size (fun k o=>by injection o with o;have:=h.lo;omega),h.lo,D,h.que.kept z (fun k o e=>by injection e with e;have:=(h.que.ge o).1;omega)⟩
theorem PI.app (h:PI w wr gf F v todo) (D:Que w' (gf+1) v' todo') (o:Hid (wr.grownBy w' v.ownBlock)):PI w w' gf F v' todo':=
 ⟨h.ext.grown o.out h.ext.size (fun k z=>by have:=(h.que.ge z).1;have:=h.lo;omega),h.lo,
  (o.out.block gf (zd h.far) (fun e=>by have:=(h.que.ge e.symm).1;omega)).trans h.far,D⟩
theorem PI.que2 (h:PI w wr gf F v todo) (o:Que wr (gf+1) v' todo'):PI w wr gf F v' todo':=⟨h.ext,h.lo,h.far,o⟩
theorem PI.lt (h:PI w wr gf F v todo):gf<wr.heap.size:=zd h.far
end
structure NL (wk w2 wi:World) (v:Value):Prop where
 same:Ao (fun b=>wk.heap.size<=b/\b<w2.heap.size) w2 wi
 ob:∀k,v.ownBlock=some k->k<wk.heap.size\/w2.heap.size<=k
 sz:w2.heap.size<=wi.heap.size
section
variable {wk w2 wi w':World} {v v':Value} {gf:Nat}
theorem NL.start (z:∀k,v.ownBlock=some k->k<wk.heap.size):NL wk w2 w2 v:=⟨Ao.refl _ _,fun k o=>.inl (z k o),EN _⟩
theorem NL.more (h:NL wk w2 wi v) (z:zb wi w'):NL wk w2 w' v:=⟨fun b D o=>(z.block b (Fq o h.sz)).trans (h.same b D o),h.ob,EP h.sz z.size⟩
theorem NL.put (h:NL wk w2 wi v) (D:wi.grownBy w' (some gf)) (E:gf<wk.heap.size):NL wk w2 w' v:=
 ⟨fun b z o=>(D.block b (Fq o h.sz) (fun e=>by injection e with e;have:=z.1;omega)).trans (h.same b z o),h.ob,EP h.sz D.size⟩
theorem NL.app (h:NL wk w2 wi v) (E:Hid (wi.grownBy w' v.ownBlock)) (G:Hid (v'.ownBlock=v.ownBlock\/v'.ownBlock=some wi.heap.size)):NL wk w2 w' v':=
 ⟨fun b z o=>(E.out.block b (Fq o h.sz) (fun e=>by have h1:=h.ob b e.symm;have:=z.1;have:=z.2;omega)).trans (h.same b z o),
  fun k D=>by
   rcases G.out with e | e
   ·exact h.ob k (e ▸ D)
   ·rw [e] at D;have:k=wi.heap.size:=by simpa using D.symm
    have:=h.sz;omega,EP h.sz E.out.size⟩
end
theorem lookup_app {F G:List (Int×Int)} {x:Int} (h:F.lookup x=some d):(F++G).lookup x=some d:=by
 induction F with
 | nil=>cases h
 | cons a F ih=>
  obtain ⟨y,e⟩:=a;rw [List.cons_append,List.lookup_cons] at*
  split at h
  ·exact h
  ·exact ih h
theorem addAll_lookup {x:Int} {F:List (Int×Int)} (h:F.lookup x=some e):(zw fr d l F).lookup x=some e:=by
 obtain ⟨G,h1,-⟩:=zR fr d l F;rw [h1];exact lookup_app h
theorem DY.part {F:List (Int×Int)} (g:zI m) (h:DY m fr tg k F) {p:Int×Int} (hp:F[k]?=some p) (j:Nat):(zw fr (p.2+1) ((zm m p.1).take j) F).length<=300:=by
 obtain ⟨G,h1,h2,h3,-⟩:=zR fr (p.2+1) ((zm m p.1).take j) F;rw [h1];have z:=h.rg _ (List.mem_of_getElem? hp)
 have o:=Bz (h3 h.nd) m.n (fun x D=>by
  obtain ⟨q,hq,rfl⟩:=zac.1 D;rcases FE.1 hq with hq | hq
  ·exact (h.rg q hq).1
  ·exact AG g.dim z.1.1 z.1.2 (List.mem_of_mem_take (h2 q hq).2.1))
 have E:=g.dim.n1;rw [Fy] at o;unfold MZ.n at o;omega
theorem start_len (g:zI m) (o:∀x∈tg,0<=x/\x<m.n) (j:Nat):(zw fr 0 (tg.take j) []).length<=300:=by
 have:=(DY.start (m:=m) (fr:=fr) (tg:=tg.take j) (fun x z=>o x (List.mem_of_mem_take z))).len;have D:=g.dim.n1;unfold MZ.n at this;omega
theorem bfs_end {F:List (Int×Int)}:∀f,bfs m fr f F.length F=F
 | 0=>rfl
 | f+1=>by
  unfold bfs;rw [Fg (EN _)]
theorem bfs_next {F:List (Int×Int)} {p:Int×Int} (h:F[k]?=some p):bfs m fr (f+1) k F=bfs m fr f (k+1) (zw fr (p.2+1) (zm m p.1) F):=by
 conv=>lhs;unfold bfs
 rw [h]
theorem Ej {v:Value} (t:Int) (w:World) (hm:zt w okm v m) (hl:Lens m) (hf:zq w okf vf fixed) (s9:fixed.length<=20000000000000) (j7:∀x∈fixed,x.length<=20000000000000):
  Calls Tryz.prog 18 #[v,.int .i64 t,vf] w fun e w'=>∃v',e=.returned (.tuple #[v',.bool (Br m t fixed).isSome])/\Mk w w' v' ((Br m t fixed).getD []):=by
 have f2:=zh hm;have HL:=zh hl;have s0:=zh hf;have m5:=zh j7;obtain ⟨Af,cf,Au,cu,At,ct,rfl,k8,-,l0⟩:=hm.parts;have m9:=zh k8;have n0:=zh l0;obtain ⟨vfs,⟨A,c,rfl,s7,hr⟩,j6⟩:=hf;have HR:=zh hr;have m3:=zh j6;have q7:=hl.ts;clear hm hl hr j6 k8 l0 j7;have t4:=@run_makeMap Tryz.prog;have t3:∀(fn:Fn) (first cap:Array Value) (w:World),(Instr.makeFunc fn first cap).run Tryz.prog w=.ok (.func fn first cap) w:=fun _ _ _ _=>rfl
 have o3:∀(a:Array Value) (w:World),(callFunc 48 a).run Tryz.prog w=.ok (.enter 48 a) w:=fun a w=>Bi Tryz.func48 (by kernel_rfl) (by kernel_rfl) a w
 go_enter Tryz.func18,Tryz.ntmps18
 go_wp2_with fail
 obtain ⟨f9,r0,r1,r2,r3,r4,r5⟩:=CG w (.int .i64 m.w) (.int .i64 m.h) (.int .i64 m.l) (.slice Af m.free.length cf) (.slice Au m.up.length cu) (.slice At m.tasks.length ct);have c8:(w.alloc (.cells #[.int .i64 m.w,.int .i64 m.h,.int .i64 m.l,.slice Af m.free.length cf,.slice Au m.up.length cu,.slice At m.tasks.length ct] 32)).heap.size=w.heap.size+1:=by simp
 generalize w.alloc _=w1 at f9 r0 r1 r2 r3 r4 r5 c8⊢;obtain ⟨b3,q0⟩:=box1 w1 (.int .i64 t) 3;generalize w1.alloc _=w2 at b3 q0⊢;obtain ⟨gm,j9⟩:=zak w.heap.size;rw [<-j9] at r0 r1 r2 r3 r4 r5 c8⊢;obtain ⟨gt,k2⟩:=zak (gm+1);rw [<-k2] at c8⊢;rw [c8] at q0;clear j9 k2 c8;have U:=zh b3;have b0:=zh (f9.trans b3);have r0:=fun W h=>r0 W (U.out.trans h)
 have r1:=fun W h=>r1 W (U.out.trans h)
 have r2:=fun W h=>r2 W (U.out.trans h)
 have r3:=fun W h=>r3 W (U.out.trans h)
 have r4:=fun W h=>r4 W (U.out.trans h)
 have r5:=fun W h=>r5 W (U.out.trans h)
 clear f9 b3;have V:zb w2 w2:=zb.refl w2
 go_wp2_with fail
 refine (Ew t w2 (f2.out.below b0.out) HL.out).mono ?_;rintro e w3 ⟨rfl,f5⟩;clear V;have V:zb w2 w3:=f5;have d5:=zh (b0.out.trans f5);clear f5;by_cases hk:AM m t=true
 case neg=>
  have o6:AM m t=false:=by simpa using hk
  have hp:Br m t fixed=none:=by unfold Br;rw [if_neg hk]
  have HP:=zh hp;clear hk hp;rw [o6];go_wp2
  go_ret2
  rw [HP.out];exact ⟨_,rfl,Mk.nil' d5.out⟩
 rw [hk];have HP:Hid (Br m t fixed=CV m (farP m t.toNat fixed) (m.tasks.getD t.toNat ([],[])).1):=by show _=_;unfold Br;rw [if_pos hk]
 obtain ⟨g0,t5,t6⟩:=Be.1 hk;clear hk;have HC:=zh g0;clear g0;have G:=zh (zI.of HC.out);obtain ⟨t,rfl⟩:∃tn:Nat,t=(tn:Int):=⟨t.toNat,by omega⟩;rw [FF] at HP;have c9:t<m.tasks.length:=by omega
 have l6:t<m.free.length:=by rw [G.out.fl];exact c9
 obtain ⟨bt,offt,sn,u1,u2,rfl,_,j4,e0,e3,k3,k4⟩:=AO (n0.out.below b0.out) c9;have c4:m.tasks.getD t ([],[])=m.tasks[t]:=zgd c9
 have h7:=G.out.tn _ (EO c9);have e9:=HL.out.tl _ (EO c9);rw [c4] at HP;obtain ⟨tk,h6⟩:=zak (m.tasks[t]);rw [<-h6] at k3 k4 h7 e9 HP;have i6:Hid (tk=m.tasks.getD t ([],[])):=by show _=_;rw [c4,h6]
 obtain ⟨A1,c1,rfl,o1,l1⟩:=k3;obtain ⟨A2,c2,rfl,s4,l2⟩:=k4;have m6:Hid (zi w2 okm (.slice A1 tk.1.length c1) tk.1):=⟨A1,c1,rfl,o1,l1⟩;have m7:=zh l2;have rt1:=zb.rule e0;have rt2:=zb.rule e3;have f3:=zh h7;clear j4 e0 e3 l1 l2 h7 h6 c4;obtain ⟨p6,p7⟩:=e9
 go_wp2_with fail
 have b7:=zh (UI.new w3);generalize ((w3.alloc (.map #[] 0)).alloc (.cells #[.map (some w3.heap.size)] 78))=wu at b7⊢;obtain ⟨gs,g4⟩:=zak w3.heap.size;rw [<-g4] at b7;rw [<-g4];obtain ⟨gb,T⟩:=zak (gs+1);rw [<-T] at b7;rw [<-T];clear g4 T;have i7:Hid (zb w2 w3):=V;clear V;go_loopw [32] (fun i wr=>∃k s,k<=fixed.length/\i=.int .i64 (k:Nat)/\Hid (UI w3 wr gs gb s)/\Hid (∀x,x∈s↔x∈(fixed.take k).flatten)) (fun i _=>fixed.length - (intOf i).toNat)
 case atStart=>exact ⟨0,[],Fb _,rfl,b7,by simp [Hid]⟩
 clear b7
 case round=>
  obtain ⟨k,s,hk,rfl,hU,Q⟩:=hrel;obtain ⟨wk,rfl⟩:∃wk:World,wk=wr:=⟨_,rfl⟩;by_cases I:k<fixed.length
  ·obtain ⟨b,off,u,rfl,_,o,hu⟩:=zO HR.out m3.out I I;have z:wk.cell? ⟨b,off+k,none⟩=some u:=(d5.out.trans hU.out.ext).cell o;have p8:=m5.out _ (EO I)
   have e5:Hid (∀x,x∈(fixed.take (k+1)).flatten↔x∈(fixed.take k).flatten\/x∈fixed[k]):=fun x=>by
    rw [EU I,List.flatten_append];simp
   obtain ⟨l,hl⟩:=zak (fixed[k]);rw [<-hl] at hu p8 e5;clear hl o;obtain ⟨Al,cl,rfl,s8,l4⟩:=hu;have n3:=zh l4;clear l4
   go_wp2_with fail
   go_loopw [38] (fun i wi=>∃j s',j<=l.length/\i=.int .i64 (j:Nat)/\Hid (UI w3 wi gs gb s')/\Hid (∀x,x∈s'↔x∈(fixed.take k).flatten\/x∈l.take j)) (fun i _=>l.length - (intOf i).toNat)
   case atStart=>exact ⟨0,s,Fb _,rfl,hU,fun x=>by rw [Q.out];simp⟩
   clear hU Q z
   case round=>
    obtain ⟨j,s',hj,rfl,hU,Q⟩:=hrel;obtain ⟨wi,rfl⟩:∃wi:World,wi=wr:=⟨_,rfl⟩;by_cases a3:j<l.length
    ·obtain ⟨b2,off2,rfl,_,o⟩:=zy n3.out a3 a3;have z:wi.cell? ⟨b2,off2+j,none⟩=some (.int .i64 l[j]):=(d5.out.trans hU.out.ext).cell o;have e8:Hid (∀x,x∈l.take (j+1)↔x∈l.take j\/x=l[j]):=Aj a3;obtain ⟨y,hy⟩:=zak (l[j]);rw [<-hy] at z e8;clear hy o;have s6:=hU.out.cb
     go_wp2_with (at_mapUpdate;refine CS rfl _ _ _ _ rfl Tryz.underlying78 gs s' y rfl rfl rfl hU.out.set ?_)
     intro wa l5 a0;have n9:=zh (hU.out.add l5 a0);clear l5 a0;go_wp2;go_roundw
     case rel=>exact ⟨j+1,ins s' y,by omega,by go_num,n9,fun x=>by rw [mem_ins,Q.out,e8.out];exact or_assoc⟩
     case measure=>simp [intOf];omega
    ·obtain rfl:j=l.length:=by omega
     have d8:Hid (∀x,x∈s'↔x∈(fixed.take (k+1)).flatten):=fun x=>by rw [Q.out,e5.out,EY]
     go_wp2;go_roundw
     case rel=>exact ⟨k+1,s',by omega,by go_num,hU,d8⟩
     case measure=>simp [intOf];omega
  ·obtain rfl:k=fixed.length:=by omega
   have d8:Hid (∀x,x∈s↔x∈fixed.flatten):=fun x=>by rw [Q.out,EY]
   clear Q I hk;have V:zb w2 wk:=i7.out.trans hU.out.ext;have m4:=zh (d5.out.trans hU.out.ext);have i3:Hid (FreeM wk okm gm gt gb gs m t Af cf fixed s):=⟨r3 wk V,q0 wk V,hU.out.cb,m9.out.below m4.out,hU.out.set,d8.out⟩;clear hU d8 i7;have d6:Hid (zb w2 wk):=V;clear V;have V:zb w2 (wk.alloc (.map #[] 0)):=d6.out.alloc _
   go_wp2_with fail
   have b1:Hid (PI wk (wk.alloc (.map #[] 0)) wk.heap.size [] (.slice none 0 0) []):=⟨(zb.refl wk).alloc _,EN _,Cc.new wk,Que.nil _ _⟩;obtain ⟨gf,g3⟩:=zak wk.heap.size;rw [<-g3] at b1⊢;have q5:Hid (gf=wk.heap.size):=g3;clear g3;generalize wk.alloc (.map #[] 0)=w4 at b1 V⊢;have b1:Hid (∃F v,PI wk w4 gf F v (F.map Prod.fst)/\F=zw (DJ m t fixed) 0 (tk.2.take 0) []/\v=.slice none 0 0):=⟨[],_,b1.out,rfl,rfl⟩;clear V;go_loopw [15,55] (fun v i wr=>∃k F,k<=tk.2.length/\i=.int .i64 (k:Nat)/\Hid (PI wk wr gf F v (F.map Prod.fst))/\Hid (F=zw (DJ m t fixed) 0 (tk.2.take k) [])) (fun _ i _=>tk.2.length - (intOf i).toNat)
   case atStart=>exact ⟨0,[],Fb _,rfl,by obtain ⟨F,v,h1,h2,h3⟩:=b1.out;subst h3;rw [show F=[] from h2] at h1;exact h1,rfl⟩
   clear b1
   case round=>
    obtain ⟨k,F,hk,rfl,J,hF⟩:=hrel;obtain ⟨wi,rfl⟩:∃wi:World,wi=wr:=⟨_,rfl⟩;by_cases I:k<tk.2.length
    ·obtain ⟨b2,off2,rfl,_,o⟩:=zy m7.out I I;have z:wi.cell? ⟨b2,off2+k,none⟩=some (.int .i64 tk.2[k]):=(d6.out.trans J.out.ext).cell o;have D:Hid (zw (DJ m t fixed) 0 (tk.2.take (k+1)) []=addS (DJ m t fixed) 0 F tk.2[k]):=by show _=_;rw [hF.out];exact Er I
     have d4:=f3.out tk.2[k] (.inr (EO I));have b6:F.length<=300:=by rw [hF.out];exact start_len G.out (fun x V=>f3.out x (.inr V)) k
     obtain ⟨y,hy⟩:=zak (tk.2[k]);rw [<-hy] at z D d4;clear hy o;obtain ⟨h8,h9⟩:=d4
     cases E:F.lookup y with
     | some d=>
      have c6:=Dx J.out.far E;have O:Hid (F=zw (DJ m t fixed) 0 (tk.2.take (k+1)) []):=by show _=_;rw [D.out,addS_old E]
      clear E;go_wp2;go_roundw
      case rel=>exact ⟨k+1,F,by omega,by go_num,J,O⟩
      case measure=>simp [intOf];omega
     | none=>
      have c6:=Ef J.out.far E;have f4:=zh E;have Z:=zh (path1_calls y wi (i3.out.ext J.out.ext) G.out.fn l6 h8 h9)
      cases L:DJ m t fixed y with
      | false=>
       have O:Hid (F=zw (DJ m t fixed) 0 (tk.2.take (k+1)) []):=by show _=_;rw [D.out,addS_not L]
       rw [L] at Z;clear E L
       go_wp2_with fail
       refine Z.out.mono ?_;rintro e w' ⟨rfl,rfl⟩;go_wp2;go_roundw
       case rel=>exact ⟨k+1,F,by omega,by go_num,J,O⟩
       case measure=>simp [intOf];omega
      | true=>
       have O:Hid (F++[(y,0)]=zw (DJ m t fixed) 0 (tk.2.take (k+1)) []):=by show _=_;rw [D.out,addS_new E L]
       rw [L] at Z;clear E L
       go_wp2_with fail
       refine Z.out.mono ?_;rintro e w' ⟨rfl,rfl⟩
       go_wp2_with (at_mapUpdate;refine wpFarAdd rfl _ _ _ _ rfl Tryz.underlying83 gf F y 0 f4.out rfl rfl rfl J.out.far ?_)
       intro wa b9 a0;have a1:=zh (J.out.put b9 a0);have k7:=a1.out.lt;clear b9 a0 c6;have k9:(F.map Prod.fst).length<=300:=by rw [Fy];exact b6
       go_wp2_with (at_builtin;refine wpQueApp rfl _ _ rfl _ (F.map Prod.fst) y (gf+1) wa.heap.size 1 _ rfl rfl (a1.out.more ((zb.refl _).alloc _)).que ?d1 ?d2 ?d3 ?_)
       (try case d1=>exact zr _ _ _ (by simp))
       case d2=>(first | (simp;done) | (simp;omega) | omega)
       case d3=>omega
       intro v' wb c7 T d7
       have f8:Hid (PI wk wb gf (F++[(y,0)]) v' ((F++[(y,0)]).map Prod.fst)):=by
        have:=(a1.out.more ((zb.refl _).alloc _)).app c7 T;rw [FG];exact this
       clear c7 T d7;go_wp2;go_roundw
       case rel=>exact ⟨k+1,F++[(y,0)],by omega,by go_num,f8,O⟩
       case measure=>simp [intOf];omega
    ·obtain rfl:k=tk.2.length:=by omega
     have f1:Hid (F=zw (DJ m t fixed) 0 (m.tasks.getD t ([],[])).2 []):=by have:=hF.out;rwa [EY,i6.out] at this
     have M:Hid (DY m (DJ m t fixed) (m.tasks.getD t ([],[])).2 0 F):=by
      rw [f1.out];exact DY.start fun x V=>f3.out x (.inr (by rw [i6.out];exact V))
     have a4:Hid (∃f,bfs m (DJ m t fixed) f 0 F=farP m t fixed/\m.n.toNat<f+0):=⟨m.n.toNat+1,by rw [f1.out];rfl,by omega⟩;clear hF f1 I hk;go_wp2
     go_loopg [15] 301 (fun gk v wr=>∃k F,gk+k=301/\k<=F.length/\Hid (PI wk wr gf F v ((F.drop k).map Prod.fst))/\Hid (DY m (DJ m t fixed) (m.tasks.getD t ([],[])).2 k F)/\Hid (∃f,bfs m (DJ m t fixed) f k F=farP m t fixed/\m.n.toNat<f+k))
     case atStart=>exact ⟨0,F,rfl,Fb _,J,M,a4⟩
     clear J M a4
     case round=>
      obtain ⟨k,F,t0,t1,J,M,a4⟩:=hrel;obtain ⟨wo,rfl⟩:∃wo:World,wo=wr:=⟨_,rfl⟩;have f6:=M.out.len;have p3:=G.out.dim.n1;have b6:F.length<=300:=by unfold MZ.n at f6;omega
      clear f6 p3;by_cases I:k<F.length
      ·obtain ⟨p,hp⟩:=zak (F[k]);have a6:F[k]?=some p:=by rw [EL I,hp]
       have a5:(F.drop k).map Prod.fst=p.1 :: (F.drop (k+1)).map Prod.fst:=by rw [List.drop_eq_getElem_cons I,<-hp,List.map_cons]
       have hq:=J.out.que;rw [a5] at hq;obtain ⟨gq,oq,cq,v2,hv,o8,z,h4,o0,e6,e7⟩:=hq.head;subst hv;have j2:Hid (PI wk wo gf F v2 ((F.drop (k+1)).map Prod.fst)):=J.out.que2 h4;have j8:=J.out.lt;have l7:Hid (∀j,v2.ownBlock=some j->j<wo.heap.size):=fun j hj=>(h4.ge hj).2
       have p5:=M.out.rg _ (List.mem_of_getElem? a6);obtain ⟨⟨g6,g7⟩,_,_⟩:=p5;have g8:F.lookup p.1=some p.2:=Db M.out.nd (List.mem_of_getElem? a6);have p4:=M.out.dist G.out g8;have b4:=zh (M.out.part G.out a6);have b5:=zh (M.out.step G.out.dim a6)
       have d9:Hid (∃f,bfs m (DJ m t fixed) f (k+1) (zw (DJ m t fixed) (p.2+1) (zm m p.1) F)=farP m t fixed/\m.n.toNat<f+(k+1)):=by
        obtain ⟨f,h1,h2⟩:=a4.out;have f6:=M.out.len
        cases f with
        | zero=>omega
        | succ f=>exact ⟨f,by rw [<-h1,bfs_next a6],by omega⟩
       have i5:=zh g8;have s1:=zh a6;have r9:Hid (∀G',(((F++G').drop (k+1)).map Prod.fst:List Int)=(F.drop (k+1)).map Prod.fst++G'.map Prod.fst):=fun G'=>by rw [List.drop_append_of_le_length (by omega),FG]
       obtain ⟨x,d⟩:=p;simp only at z g6 g7 p4 b4 b5 d9 i5 a5;have a7:Hid (zb w2 wo):=d6.out.trans J.out.ext;have V:zb w2 wo:=a7.out;have HN:Hid (BC m x=zm m x):=by show _=_;unfold BC;rw [if_pos ⟨HC.out,g6,g7⟩]
       have k6:(List.map Prod.fst (List.drop (k+1) F)).length=F.length - (k+1):=by simp
       rw [k6] at e6 e7 o8;have q8:(0:Int)<((F.length - (k+1)+1:Nat):Int):=by omega
       clear hp a6 hq a5 h4 o0 M a4 g8 J k6;have j5:(List.map Prod.fst (List.drop k F)).length=F.length - (k+1)+1:=by simp;omega
       try rw [j5]
       clear j5
       go_wp2_with fail
       refine (rNext_calls x wo (f2.out.below (b0.out.trans a7.out)) HL.out).mono ?_;rintro e w9 ⟨vn,rfl,j0⟩;have a8:Hid (Mk wo w9 vn (zm m x)):=by have:=j0;rw [HN.out] at this;exact this
       clear j0 HN;have j3:=zh (j2.out.more a8.out.ext);have j1:Hid (NL wo w9 w9 v2):=NL.start l7.out;have q6:gf<wo.heap.size:=j8;obtain ⟨A3,c3,rfl,s5,l3⟩:=a8.out.ints;have n2:=zh l3;have t2:=Ba m x;have t8:=a8.out.ext.size;have i2:Hid (k+1<=F.length):=I;clear l3 a8 j2 l7 V z e6 e7
       go_wp2_with fail
       go_loopw [15,91] (fun v i wr=>∃j F',j<=(zm m x).length/\i=.int .i64 (j:Nat)/\Hid (PI wk wr gf F' v ((F'.drop (k+1)).map Prod.fst))/\Hid (F'=zw (DJ m t fixed) (d+1) ((zm m x).take j) F)/\Hid (NL wo w9 wr v)) (fun _ i _=>(zm m x).length - (intOf i).toNat)
       case atStart=>exact ⟨0,F,Fb _,rfl,j3,rfl,j1⟩
       clear j3 j1
       case round=>
        obtain ⟨j,F',hj,rfl,J,hF,hN⟩:=hrel;obtain ⟨wi,rfl⟩:∃wi:World,wi=wr:=⟨_,rfl⟩;by_cases a3:j<(zm m x).length
        ·obtain ⟨b2,off2,rfl,b3,o⟩:=zy n2.out a3 a3;have b8:=zp o;have z:wi.cell? ⟨b2,off2+j,none⟩=some (.int .i64 (zm m x)[j]):=(CZ (hN.out.same b2 ⟨b3,b8⟩ b8)).trans o;have D:Hid (zw (DJ m t fixed) (d+1) ((zm m x).take (j+1)) F=addS (DJ m t fixed) (d+1) F' (zm m x)[j]):=by show _=_;rw [hF.out];exact Er a3
         have d4:=AG G.out.dim g6 g7 (EO a3);have m0:F'.length<=300:=by rw [hF.out];exact b4.out j
         have n5:Hid (k+1<=F'.length):=by
          obtain ⟨G',hG,-⟩:=zR (DJ m t fixed) (d+1) ((zm m x).take j) F;have:=i2.out;show _<=_;rw [hF.out,hG,EV];omega
         have o9:Hid (F'.lookup x=some d):=by show _=_;rw [hF.out];exact addAll_lookup i5.out
         obtain ⟨y,hy⟩:=zak ((zm m x)[j]);rw [<-hy] at z D d4;clear hy o;obtain ⟨h8,h9⟩:=d4
         cases E:F'.lookup y with
         | some e=>
          have c6:=Dx J.out.far E;have O:Hid (F'=zw (DJ m t fixed) (d+1) ((zm m x).take (j+1)) F):=by show _=_;rw [D.out,addS_old E]
          clear E;go_wp2;go_roundw
          case rel=>exact ⟨j+1,F',by omega,by go_num,J,O,hN⟩
          case measure=>simp [intOf];omega
         | none=>
          have c6:=Ef J.out.far E;have f4:=zh E;have Z:=zh (path1_calls y wi (i3.out.ext J.out.ext) G.out.fn l6 h8 h9)
          cases L:DJ m t fixed y with
          | false=>
           have O:Hid (F'=zw (DJ m t fixed) (d+1) ((zm m x).take (j+1)) F):=by show _=_;rw [D.out,addS_not L]
           rw [L] at Z;clear E L
           go_wp2_with fail
           refine Z.out.mono ?_;rintro e w' ⟨rfl,rfl⟩;go_wp2;go_roundw
           case rel=>exact ⟨j+1,F',by omega,by go_num,J,O,hN⟩
           case measure=>simp [intOf];omega
          | true=>
           have O:Hid (F'++[(y,d+1)]=zw (DJ m t fixed) (d+1) ((zm m x).take (j+1)) F):=by show _=_;rw [D.out,addS_new E L]
           rw [L] at Z;clear E L;have k5:=far_some J.out.far o9.out;have t7:IntKind.i64.wrap (d+1)=d+1:=by rw [Fi];omega
           go_wp2_with fail
           refine Z.out.mono ?_;rintro e w' ⟨rfl,rfl⟩
           go_wp2_with (at_mapUpdate;refine wpFarAdd rfl _ _ _ _ rfl Tryz.underlying83 gf F' y (d+1) f4.out rfl rfl rfl J.out.far ?_)
           intro wa b9 a0;have a1:=zh (J.out.put b9 a0);have n8:=zh (hN.out.put a0 (by assumption));have k7:=a1.out.lt;clear b9 a0 c6 k5;have k9:(List.map Prod.fst (List.drop (k+1) F')).length<=300:=by rw [Fy,List.length_drop];omega
           obtain ⟨td,h5⟩:=zak (List.map Prod.fst (List.drop (k+1) F'))
           have n4:Hid ((List.drop (k+1) (F'++[(y,d+1)])).map Prod.fst=td++[y]):=by
            show _=_;rw [List.drop_append_of_le_length n5.out,FG,h5];rfl
           rw [<-h5] at a1 k9;clear h5
           go_wp2_with (at_builtin;refine wpQueApp rfl _ _ rfl _ td y (gf+1) wa.heap.size 1 _ rfl rfl (a1.out.more ((zb.refl _).alloc _)).que ?d1 ?d2 ?d3 ?_)
           (try case d1=>exact zr _ _ _ (by simp))
           case d2=>(first | (simp;done) | (simp;omega) | omega)
           case d3=>omega
           intro v' wb c7 T d7
           have f8:Hid (PI wk wb gf (F'++[(y,d+1)]) v' ((List.drop (k+1) (F'++[(y,d+1)])).map Prod.fst)):=by
            rw [n4.out];exact (a1.out.more ((zb.refl _).alloc _)).app c7 T
           have n7:=zh ((n8.out.more ((zb.refl _).alloc _)).app T (by have h:=d7.out;show _\/_;simpa using h));clear c7 T d7;go_wp2;go_roundw
           case rel=>exact ⟨j+1,F'++[(y,d+1)],by omega,by go_num,f8,O,n7⟩
           case measure=>simp [intOf];omega
        ·have o5:j=(zm m x).length:=by omega
         subst o5;rw [EY] at hF;have i9:Hid (DY m (DJ m t fixed) (m.tasks.getD t ([],[])).2 (k+1) F'):=by rw [hF.out];exact b5.out
         have i8:Hid (∃f,bfs m (DJ m t fixed) f (k+1) F'=farP m t fixed/\m.n.toNat<f+(k+1)):=by rw [hF.out];exact d9.out
         have g5:Hid (k+1<=F'.length):=by
          obtain ⟨G',hG,-⟩:=zR (DJ m t fixed) (d+1) (zm m x) F;have:=i2.out;show _<=_;rw [hF.out,hG,EV];omega
         go_wp2
         go_roundg (gk - 1)
         case measure=>omega
         case rel=>exact ⟨k+1,F',by omega,g5.out,J,i9,i8⟩
      ·have o7:k=F.length:=by omega
       subst o7
       have e4:Hid (F=farP m t fixed):=by
        obtain ⟨f,h1,-⟩:=a4.out;show _=_;rw [<-h1,bfs_end]
       have hq:=J.out.que;rw [List.drop_length,List.map_nil] at hq;obtain ⟨A0,c0,hv,g0⟩:=hq.slice;subst hv;have a7:Hid (zb w2 wo):=d6.out.trans J.out.ext;have V:zb w2 wo:=a7.out;have n6:=zh J.out.far;have i4:=zh (m6.out.below a7.out);have HD:Hid (CV m F tk.1=Br m t fixed):=by show _=_;rw [HP.out,<-e4.out]
       have hz:(List.map Prod.fst (List.drop F.length F)).length=0:=by simp
       have l8:([]:List Int).length=0:=rfl;clear hq J a4 e4
       try rw [hz]
       try rw [l8]
       clear hz l8
       go_wp2_with fail
       go_region_held3 (fun w'=>zb w2 w'/\zb wo w')
        (first | (exact DR V) | (exact held_ext (by assumption) f7.ext))
        ((go_at_call 49;refine (descend_calls wo.drew (f2.out.below (b0.out.trans a7.out.drew)) HL.out HC.out (i4.out.below (zb.refl wo).drew) (by omega) (n6.out.below (zb.refl wo).drew) M.out).mono ?_;rintro e w9 ⟨v9,rfl,f7⟩))
       rename_i hS
       have m8:=zh f7;clear f7 hS;go_wp2
       go_ret2
       rw [<-HD.out];exact ⟨v9,rfl,(b0.out.trans a7.out.drew).mono_mk m8.out⟩
structure TK (w1 wr:World) (gt n:Nat) (tk:List Int):Prop where
 ext:zb w1 wr
 lo:w1.heap.size<=gt
 tak:wr.rowIs gt 4 n (memF tk)
section
variable {w1 wr w':World} {gt n:Nat} {tk:List Int}
theorem TK.more (h:TK w1 wr gt n tk) (o:zb wr w'):TK w1 w' gt n tk:=⟨h.ext.trans o,h.lo,h.tak.of_block (o.block _ h.tak.lt)⟩
theorem TK.set {x:Int} (h:TK w1 wr gt n tk) (o:0<=x):TK w1 (wr.setCell ⟨gt,x.toNat,none⟩ (.bool true)) gt n (tk++[x]):=
 ⟨h.ext.setCell (p:=⟨gt,x.toNat,none⟩) h.lo _,h.lo,(h.tak.set x.toNat (.bool true)).congr fun j _=>memF_set o j⟩
theorem TK.skip {x:Int} (h:TK w1 wr gt n tk) (z:¬ (0<=x/\x<n)):TK w1 wr gt n (tk++[x]):=⟨h.ext,h.lo,h.tak.congr fun j o=>memF_more z o⟩
theorem TK.cell (h:TK w1 wr gt n tk) {x:Int} (h0:0<=x) (h1:x<n):wr.cell? ⟨gt,x.toNat,none⟩=some (.bool (decide (x∈tk)))/\wr.frozen? ⟨gt,x.toNat,none⟩=false:=by
 refine ⟨?_,h.tak.frozen _⟩;rw [h.tak.cell (by omega)];unfold memF;rw [Int.toNat_of_nonneg h0]
end
theorem taken_calls {v:Value} (w:World) (hm:zt w ok v m) (g:zI m) (hl:Lens m) (hf:zq w okf vf fixed) (d5:fixed.length<=20000000000000) (U:∀x∈fixed,x.length<=20000000000000):
  Calls Tryz.prog 52 #[v,vf] w fun e w'=>∃gt,e=.returned (.slice (some ⟨gt,0,none⟩) m.n.toNat m.n.toNat)/\TK w w' gt m.n.toNat fixed.flatten:=by
 obtain ⟨Af,cf,Au,cu,At,ct,rfl,-,-,-⟩:=hm.parts;have HF:=zh hf;have a7:=zh U;obtain ⟨vs,⟨A,c,rfl,hc,hr⟩,he⟩:=hf;have HR:=zh hr;have HE:=zh he;obtain ⟨e0,e3⟩:=g.dim.layer;obtain ⟨dw1,dw2,d7,d8,ll1,ll2,n1,-⟩:=g.dim;clear hm hr he hl U;obtain ⟨N,hN⟩:∃N:Nat,m.w*m.h*m.l=(N:Int):=⟨(m.w*m.h*m.l).toNat,by omega⟩;have c8:N<=300:=by omega
 have a8:Hid (m.n.toNat=N):=by (show _=_);unfold MZ.n;omega
 have a1:IntKind.i64.wrap (m.w*m.h)=m.w*m.h:=by rw [Fi];omega
 have a3:IntKind.i64.wrap (m.w*m.h*m.l)=m.w*m.h*m.l:=by rw [Fi];omega
 have HN:=zh hN;clear hN
 have b2:∀W:World,(Instr.makeSlice 29 (.int .i64 (m.w*m.h*m.l)) (.int .i64 (m.w*m.h*m.l))).run Tryz.prog W=.ok (.slice (some ⟨W.heap.size,0,none⟩) N N) (W.alloc (.cells (madeCells #[.bool false] N) 4)):=fun W=>by
  rw [HN.out];exact run_make_row' 29 4 (.bool false) 1 Tryz.underlying29 Tryz.infoBool rfl .i64 .i64 N (by omega) (by omega) W
 rw [a8.out]
 go_enter Tryz.func52,Tryz.ntmps52
 go_upto_region 1 with fail;obtain ⟨J,r0,r1,r2,r3,r4,r5⟩:=CG w (.int .i64 m.w) (.int .i64 m.h) (.int .i64 m.l) (.slice Af m.free.length cf) (.slice Au m.up.length cu) (.slice At m.tasks.length ct);generalize w.alloc _=w1 at J r0 r1 r2 r3 r4 r5⊢;obtain ⟨gm,V⟩:=zak w.heap.size;rw [<-V] at r0 r1 r2 r3 r4 r5⊢;have Q:=zh J;clear V J;have hx:zb w1 w1:=zb.refl w1
 go_wp2_with fail
 have G:Hid (TK w (w1.alloc (.cells (madeCells #[.bool false] N) 4)) w1.heap.size N []):=⟨Q.out.alloc _,Q.out.size,World.rowIs_made w1 (.bool false) N 4⟩;generalize w1.alloc _=w2 at G⊢;obtain ⟨gt,Z⟩:=zak w1.heap.size;rw [<-Z] at G⊢;clear Z b2 r0 r1 r2 r3 r4 r5 hx a1 a3;go_loopw [6] (fun i wr=>∃k:Nat,k<=fixed.length/\i=.int .i64 k/\Hid (TK w wr gt N (fixed.take k).flatten)) (fun i _=>fixed.length - (intOf i).toNat)
 case atStart=>exact ⟨0,Fb _,rfl,G.out⟩
 clear G
 case round=>
  obtain ⟨k,hk,rfl,o⟩:=hrel;obtain ⟨wk,rfl⟩:∃wk:World,wk=wr:=⟨_,rfl⟩;have hx:zb w wk:=o.out.ext;by_cases I:k<fixed.length
  ·have b8:(k:Int)<(fixed.length:Int):=by omega
   have kk0:(0:Int)<=(k:Int):=by omega
   obtain ⟨bp,offp,up,rfl,-,T,M⟩:=zO HR.out HE.out I I;have b3:=a7.out _ (EO I);have HS:Hid ((fixed.take (k+1)).flatten=(fixed.take k).flatten++fixed[k]):=by (show _=_);rw [EU I,List.flatten_append];simp
   obtain ⟨x,a4⟩:=zak (fixed[k]);rw [<-a4] at M b3 HS;have c7:=zh M;obtain ⟨Aq,cq,rfl,c9,a0⟩:=M;have a9:=zh a0;have rp:=zb.rule T;obtain ⟨B,hB⟩:=zak ((fixed.take k).flatten);rw [<-hB] at o HS;have O:Hid (TK w wk gt N (B++x.take 0)):=by (show TK _ _ _ _ _);rw [List.take_zero,List.append_nil];exact o.out
   clear T a0 a4 hB o
   go_wp2_with fail
   clear hx;go_loopw [7] (fun i wr=>∃j:Nat,j<=x.length/\i=.int .i64 j/\Hid (TK w wr gt N (B++x.take j))) (fun i _=>x.length - (intOf i).toNat)
   case atStart=>exact ⟨0,Fb _,rfl,O.out⟩
   clear O
   case round=>
    obtain ⟨j,hj,rfl,o⟩:=hrel;obtain ⟨wj,rfl⟩:∃wj:World,wj=wr:=⟨_,rfl⟩;have hx:zb w wj:=o.out.ext;by_cases D:j<x.length
    ·have b1:(j:Int)<(x.length:Int):=by omega
     have kk1:(0:Int)<=(j:Int):=by omega
     obtain ⟨bq,offq,rfl,-,L⟩:=zy a9.out D D;have E:=zh (EU D);obtain ⟨y,hy⟩:=zak (x[j]);rw [<-hy] at L E;have ry:=zb.rule L;clear L hy;by_cases a5:0<=y
     ·by_cases b4:y<(N:Int)
      ·obtain ⟨d4,d6⟩:=o.out.cell a5 b4;have z:=zh (o.out.set a5)
       go_wp2_with fail
       go_roundw
       case rel=>exact ⟨j+1,by omega,by go_num,by rw [E.out,<-List.append_assoc];exact z⟩
       case measure=>simp [intOf];omega
      ·have z:=zh (o.out.skip (x:=y) (by omega))
       go_wp2_with fail
       go_roundw
       case rel=>exact ⟨j+1,by omega,by go_num,by rw [E.out,<-List.append_assoc];exact z⟩
       case measure=>simp [intOf];omega
     ·have z:=zh (o.out.skip (x:=y) (by omega))
      go_wp2_with fail
      go_roundw
      case rel=>exact ⟨j+1,by omega,by go_num,by rw [E.out,<-List.append_assoc];exact z⟩
      case measure=>simp [intOf];omega
    ·obtain rfl:j=x.length:=by omega
     rw [EY] at o
     go_wp2_with fail
     go_roundw
     case rel=>exact ⟨k+1,by omega,by go_num,by rw [HS.out];exact o⟩
     case measure=>simp [intOf];omega
  ·obtain rfl:k=fixed.length:=by omega
   rw [EY] at o
   go_wp2_with fail
   go_ret;exact ⟨gt,rfl,o.out⟩
end
section
open Go.RowKit
def Apart (ps:List (List Int)):Prop:=(∀i,(ps.getD i []).Nodup)/\∀i j x,x∈ps.getD i []->x∈ps.getD j []->i=j
theorem BS {ps:List (List Int)} {x:Int}:x∈ps.flatten↔∃i,x∈ps.getD i []:=by
 rw [List.mem_flatten];constructor
 ·rintro ⟨p,hp,o⟩;obtain ⟨i,z,rfl⟩:=Fu hp;exact ⟨i,by rw [EM,EL z];exact o⟩
 ·rintro ⟨i,o⟩;by_cases z:i<ps.length
  ·exact ⟨_,getD_mem z,o⟩
  ·rw [EM,Fg (by omega)] at o;cases o
theorem DL {ps:List (List Int)} {x:Int}:x∈(ps.take t).flatten↔∃i,i<t/\x∈ps.getD i []:=by
 rw [BS];constructor
 ·rintro ⟨i,o⟩;rw [EM,List.getElem?_take] at o
  split at o
  ·rename_i h;exact ⟨i,h,by rw [EM];exact o⟩
  ·cases o
 ·rintro ⟨i,h,o⟩;exact ⟨i,by rw [EM,List.getElem?_take,if_pos h,<-EM];exact o⟩
theorem apart_iff:∀{ps:List (List Int)},ps.flatten.Nodup↔Apart ps
 | []=>by simp [Apart]
 | p :: ps=>by
  rw [List.flatten_cons,List.nodup_append,apart_iff (ps:=ps)];constructor
  ·rintro ⟨h1,⟨h2,h3⟩,D⟩;refine ⟨fun i=>?_,fun i j x o z=>?_⟩
   ·cases i with
    | zero=>simpa using h1
    | succ i=>simpa using h2 i
   ·cases i with
    | zero=>cases j with
     | zero=>rfl
     | succ j=>exact absurd rfl (D x (by simpa using o) x (BS.2 ⟨j,by simpa using z⟩))
    | succ i=>cases j with
     | zero=>exact absurd rfl (D x (by simpa using z) x (BS.2 ⟨i,by simpa using o⟩))
     | succ j=>rw [h3 i j x (by simpa using o) (by simpa using z)]
  ·rintro ⟨h1,h2⟩;refine ⟨by simpa using h1 0,⟨fun i=>by simpa using h1 (i+1),fun i j x o z=>?_⟩,fun a E b G e=>?_⟩
   ·have:=h2 (i+1) (j+1) x (by simpa using o) (by simpa using z);omega
   ·subst e;obtain ⟨i,o⟩:=BS.1 G;have:=h2 0 (i+1) a (by simpa using E) (by simpa using o);omega
theorem DQ {α:Type} {l:List α} {i j:Nat} {a d:α}:(l.set i a).getD j d=if i=j/\j<l.length then a else l.getD j d:=by
 rw [EM,EM,List.getElem?_set];by_cases h:i=j
 ·subst h;by_cases h2:i<l.length
  ·simp [h2]
  ·simp [h2]
 ·simp [h]
theorem Apart.set {ps:List (List Int)} {k:Nat} {p:List Int} (h:Apart ps) (hp:p.Nodup) (G:∀x∈p,∀i,i≠k->x∉ps.getD i []):Apart (ps.set k p):=by
 refine ⟨fun i=>?_,fun i j x z o=>?_⟩
 ·rw [DQ]
  split
  ·exact hp
  ·exact h.1 i
 ·rw [DQ] at z o
  split at z
  ·split at o
   ·omega
   ·rename_i h1 h2
    by_cases E:j=k
    ·subst E;omega
    ·exact absurd o (G x z j E)
  ·split at o
   ·rename_i h1 h2
    by_cases D:i=k
    ·subst D;omega
    ·exact absurd z (G x o i D)
   ·exact h.2 i j x z o
theorem Apart.map {ps:List (List Int)} {l:List Nat} (h:Apart ps) (G:l.Nodup):Apart (l.map (ps.getD · [])):=by
 have key:∀i,(l.map (ps.getD · [])).getD i []=match l[i]? with | some k=>ps.getD k [] | none=>[]:=fun i=>by
  rw [EM,Fx]
  cases l[i]? <;> rfl
 refine ⟨fun i=>?_,fun i j x D E=>?_⟩
 ·rw [key]
  cases l[i]? with
  | none=>exact List.nodup_nil
  | some k=>exact h.1 k
 ·rw [key] at D E
  cases o:l[i]? with
  | none=>rw [o] at D;cases D
  | some k=>cases z:l[j]? with
   | none=>rw [z] at E;cases E
   | some k'=>
    rw [o] at D;rw [z] at E;have e:=h.2 k k' x D E;subst e;obtain ⟨h1,e1⟩:=FM.1 o;obtain ⟨h3,e3⟩:=FM.1 z;rcases Nat.lt_trichotomy i j with h4 | h4 | h4
    ·exact absurd (e1.trans e3.symm) (List.pairwise_iff_getElem.1 (List.nodup_iff_pairwise_ne.1 G) i j h1 h3 h4)
    ·exact h4
    ·exact absurd (e3.trans e1.symm) (List.pairwise_iff_getElem.1 (List.nodup_iff_pairwise_ne.1 G) j i h3 h1 h4)
structure PathT (m:MZ) (t:Nat) (p:List Int):Prop where
 ne:p≠[]
 hd:p.getD 0 0∈(m.tasks.getD t ([],[])).1
 lt:p.getD (p.length - 1) 0∈(m.tasks.getD t ([],[])).2
 rg:∀x∈p,0<=x/\x<m.n
 fr:∀x∈p,zl m t x=true
 ch:∀(i:Nat) x y,p[i]?=some x->p[i+1]?=some y->y∈zm m x
theorem pathB_iff {pre:List Int}:pathB m t p pre=true↔PathT m t p/\p.Nodup/\∀x∈p,x∉pre:=by
 have gk:∀{k:Nat} (o:k<p.length),p.getD k 0=p[k]:=fun o=>by rw [EM,EL o,Ft]
 constructor
 ·intro h;unfold pathB at h;simp only [EZ,Bool.not_eq_true',Fl,EX,zag,zad] at h;obtain ⟨h0,h1,h2,h3⟩:=h
  have D:∀k (o:k<p.length),(0<=p[k]/\p[k]<m.n)/\p[k]∉pre++p.take k/\zl m t p[k]=true/\(k=0\/p[k]∈zm m (p.getD (k - 1) 0)):=fun k o=>by
   have:=h3 k o;unfold BE at this;rw [gk o] at this;simp only [EZ,zae,Bool.not_eq_true',Fl,EX] at this;exact ⟨⟨this.1,this.2.1⟩,this.2.2.1,this.2.2.2.1,this.2.2.2.2⟩
  refine ⟨⟨h0,h1,h2,fun x z=>?_,fun x z=>?_,fun i x y z O=>?_⟩,?_,fun x z hp=>?_⟩
  ·obtain ⟨k,o,rfl⟩:=Fu z;exact (D k o).1
  ·obtain ⟨k,o,rfl⟩:=Fu z;exact (D k o).2.2.1
  ·obtain ⟨E,rfl⟩:=FM.1 z;obtain ⟨I,rfl⟩:=FM.1 O;rcases (D _ I).2.2.2 with h5 | h5
   ·omega
   ·rw [Nat.add_sub_cancel,gk E] at h5;exact h5
  ·rw [List.nodup_iff_pairwise_ne,List.pairwise_iff_getElem];intro i j E I L e;refine (D j I).2.1 (List.mem_append_right _ ?_);rw [<-e];exact List.mem_iff_getElem.2 ⟨i,by rw [FH];omega,by rw [List.getElem_take]⟩
  ·obtain ⟨k,o,rfl⟩:=Fu z;exact (D k o).2.1 (List.mem_append_left _ hp)
 ·rintro ⟨h,M,hp⟩;refine pathB_ok h.ne h.hd h.lt fun k o=>?_
  have hm:=EO o;have J:=h.rg _ hm;unfold BE;rw [gk o,EQ J.1,EQ J.2,h.fr _ hm]
  have h1:p[k]∉pre++p.take k:=fun hc=>by
   rcases FE.1 hc with hc | hc
   ·exact hp _ hm hc
   ·obtain ⟨i,E,e⟩:=Fu hc;rw [List.getElem_take] at e;have G:i<k:=by rw [FH] at E;omega
    exact List.pairwise_iff_getElem.1 (List.nodup_iff_pairwise_ne.1 M) i k (by omega) o G e
  rw [ER h1];rcases Fz k with rfl | h0
  ·rfl
  ·have h3:=h.ch (k - 1) _ _ (EL (by omega)) (by rw [show k - 1+1=k by omega];exact EL o);rw [gk (show k - 1<p.length by omega),EQ h3];simp
theorem DE {ps:List (List Int)}:zJ m ps=true↔AY m=0/\ps.length=m.tasks.length/\(∀t,t<ps.length->PathT m t (ps.getD t []))/\Apart ps:=by
 constructor
 ·intro h;unfold zJ at h;simp only [EZ,EX,zag,zad,pathB_iff] at h;obtain ⟨h0,h1,h2⟩:=h;refine ⟨h0,h1,fun t E=>(h2 t E).1,fun i=>?_,fun i j x o D=>?_⟩
  ·by_cases o:i<ps.length
   ·exact (h2 i o).2.1
   ·rw [EM,Fg (by omega)];exact List.nodup_nil
  ·have lt:∀{i:Nat},x∈ps.getD i []->i<ps.length:=fun {i} z=>by
    by_cases o:i<ps.length
    ·exact o
    ·rw [EM,Fg (by omega)] at z;cases z
   rcases Nat.lt_trichotomy i j with h4 | h4 | h4
   ·exact absurd (DL.2 ⟨i,h4,o⟩) ((h2 j (lt D)).2.2 x D)
   ·exact h4
   ·exact absurd (DL.2 ⟨j,h4,D⟩) ((h2 i (lt o)).2.2 x o)
 ·rintro ⟨h0,h1,h2,h3⟩;refine rightB_ok h0 h1 fun t E=>pathB_iff.2 ⟨h2 t E,h3.1 t,fun x z hp=>?_⟩
  obtain ⟨i,o,G⟩:=DL.1 hp;have:=h3.2 i t x G z;omega
theorem PathT.congr {m':MZ} {t':Nat} (h:PathT m t p) (h1:m'.w=m.w) (h2:m'.h=m.h) (h3:m'.l=m.l) (D:m'.up=m.up) (z:m'.tasks.getD t' ([],[])=m.tasks.getD t ([],[])) (E:m'.free.getD t' []=m.free.getD t []):PathT m' t' p:=by
 have J:m'.n=m.n:=by unfold MZ.n;rw [h1,h2,h3]
 have o:∀x,zm m' x=zm m x:=fun x=>by unfold zm;rw [h1,h2,h3,D]
 exact ⟨h.ne,by rw [z];exact h.hd,by rw [z];exact h.lt,by rw [J];exact h.rg,fun x o=>by unfold zl;rw [E];exact h.fr x o,fun i x y G I=>by rw [o];exact h.ch i x y G I⟩
theorem good_part (g:zI m) {l:List Nat} (G:l.length<=6) (D:∀k∈l,k<m.tasks.length):zI ⟨m.w,m.h,m.l,l.map (m.free.getD · []),m.up,l.map (m.tasks.getD · ([],[]))⟩:=by
 have d:=g.dim;refine ⟨⟨d.w1,d.w2,d.h1,d.h2,d.l1,d.l2,d.n1,d.up⟩,by simp,fun f E=>?_,by simpa using G,fun t z x I=>?_⟩
 ·obtain ⟨k,o,rfl⟩:=zac.1 E;have:=D k o;have h2:=g.fl;exact g.fn _ (getD_mem (by omega))
 ·obtain ⟨k,o,rfl⟩:=zac.1 z;have:=D k o;refine g.tn _ ?_ x I;rw [EM,EL this];exact EO this
theorem ownM_good (g:zI m) (o:k<m.tasks.length):zI (ownM m k):=good_part (l:=[k]) g (by simp) (by simpa using o)
theorem keepL_mem {ps:List (List Int)}:k∈Dj ps t↔k<ps.length/\Bx ps t k=true:=by
 unfold Dj;rw [zab,zad]
theorem keepL_len (ps:List (List Int)) (t:Nat):(Dj ps t).length<=ps.length:=EP (Fr _ _) (by simp)
theorem range_nodup:∀n:Nat,(List.range n).Nodup:=fun n=>List.nodup_range
theorem subM_good (g:zI m) {ps:List (List Int)} (hp:ps.length=m.tasks.length) (t:Nat):zI (CK m ps t):=
 good_part g (by have:=keepL_len ps t;have:=g.tk;omega) (fun k o=>by have:=(keepL_mem.1 o).1;omega)
theorem AS {ps:List (List Int)}:AV m ps=true↔AY m=0/\ps.length=m.tasks.length/\(∀k,k<ps.length->ps.getD k []≠[]->PathT m k (ps.getD k []))/\Apart ps:=by
 unfold AV;simp only [EZ,EX,zag,zad,apart_iff];constructor
 ·rintro ⟨h0,h1,h2,h3⟩;refine ⟨h0,h1,fun k z o=>?_,h3⟩;have:=h2 k z;unfold CF at this;rw [ER o,Bool.false_or,DE] at this;exact (this.2.2.1 0 (by simp)).congr rfl rfl rfl rfl rfl rfl
 ·rintro ⟨h0,h1,h2,h3⟩;refine ⟨h0,h1,fun k z=>?_,h3⟩;unfold CF;by_cases o:ps.getD k []=[]
  ·rw [EQ o,Bool.true_or]
  ·rw [ER o,Bool.false_or,DE];refine ⟨good_chk (ownM_good (zI.of h0) (by omega)),by simp [ownM],fun t G=>?_,fun i=>?_,fun i j x D E=>?_⟩
   ·have:t=0:=by simpa using G
    subst this;exact (h2 k z o).congr rfl rfl rfl rfl rfl rfl
   ·cases i with
    | zero=>simpa using h3.1 k
    | succ i=>simp
   ·cases i with
    | zero=>cases j with
     | zero=>rfl
     | succ j=>simp at E
    | succ i=>simp at D
structure PathR (m:MZ) (t:Nat) (p:List Int):Prop where
 hd:∀x,p.head?=some x->x∈(m.tasks.getD t ([],[])).1
 fr:∀x∈p,zl m t x=true
 nb:∀k x y,p[k]?=some x->p[k+1]?=some y->y∈zm m x
def FinP (m:MZ) (t:Nat) (p:List Int):Prop:=∃x,p.getLast?=some x/\x∈(m.tasks.getD t ([],[])).2
theorem PathR.nil (m:MZ) (t:Nat):PathR m t []:=⟨(fun x h=>by cases h),(fun x h=>by cases h),(fun k x y h=>by simp at h)⟩
theorem PathR.snoc {m:MZ} {t:Nat} {p:List Int} {n:Int} (h:PathR m t p) (D:zl m t n=true) (h0:p=[]->n∈(m.tasks.getD t ([],[])).1) (h1:∀x,p.getLast?=some x->n∈zm m x):PathR m t (p++[n]):=by
 refine ⟨fun x hx=>?_,fun x hx=>?_,fun k x y hx o=>?_⟩
 ·cases p with
  | nil=>
   have:n=x:=by simpa using hx
   subst this;exact h0 rfl
  | cons a p=>exact h.hd x (by simpa using hx)
 ·rcases FE.1 hx with hx | hx
  ·exact h.fr x hx
  ·rw [Fv] at hx;subst hx;exact D
 ·rcases Fk (k+1) p.length with hk | hk
  ·rw [ES (by omega)] at hx;rw [ES hk] at o;exact h.nb k x y hx o
  ·have z:k+1<(p++[n]).length:=by
    rcases Fk (k+1) (p++[n]).length with h2 | h2
    ·exact h2
    ·rw [Fg h2] at o;cases o
   have E:k+1=p.length:=by simp at z;omega
   rw [ET (by omega),show k+1 - p.length=0 from by omega] at o;have:n=y:=by simpa using o
   subst this;rw [ES (by omega)] at hx;refine h1 x ?_;rw [List.getLast?_eq_getElem?,show p.length - 1=k from by omega];exact hx
structure PsR (m:MZ) (ps:List (List Int)):Prop where
 one:∀t p,ps[t]?=some p->PathR m t p
 fin:∀t p,ps[t]?=some p->t+1<ps.length->FinP m t p
theorem cand_step {ps:List (List Int)} {n:Int} (h:n∈CC m ps us):zl m (ps.length - 1) n=true/\((ps.getD (ps.length - 1) [])=[]->n∈(m.tasks.getD (ps.length - 1) ([],[])).1)/\(∀x,(ps.getD (ps.length - 1) []).getLast?=some x->n∈zm m x):=by
 unfold CC at h
 split at h
 ·cases h
 ·split at h
  ·rename_i o
   obtain ⟨h1,h2⟩:=zab.1 h;simp only [EZ] at h2;exact ⟨h2.1,fun _=>mem_sortL.1 (Ey h1),fun x D=>by rw [o] at D;cases D⟩
  ·rename_i x o
   obtain ⟨h1,h2⟩:=zab.1 h;unfold zT at h2;simp only [EZ] at h2;refine ⟨h2.1.1.1,(fun h0=>by rw [h0] at o;cases o),fun y z=>?_⟩;rw [o] at z;injection z with z;subst z;exact h1
theorem PsR.add {ps:List (List Int)} {n:Int} (h:PsR m ps) (hp:0<ps.length) (I:n∈CC m ps us):PsR m (Ct ps n):=by
 obtain ⟨h1,h2,h3⟩:=cand_step I;obtain ⟨qs,p,rfl,he⟩:=addN_eq hp n;rw [he];have G:(qs++[p]).length - 1=qs.length:=by simp
 have E:(qs++[p]).getD qs.length []=p:=by simp
 rw [G] at h1 h2 h3;rw [E] at h2 h3;refine ⟨fun t q z=>?_,fun t q z J=>?_⟩
 ·rcases Fk t qs.length with o | hge
  ·rw [ES o] at z;exact h.one t q (by rw [ES o];exact z)
  ·have D:t=qs.length:=by
    rcases Fk t (qs++[p++[n]]).length with h4 | h4
    ·simp at h4;omega
    ·rw [Fg h4] at z;cases z
   subst D;rw [ET (EN _),Nat.sub_self] at z;have:p++[n]=q:=by simpa using z
   subst this;exact (h.one qs.length p (by simp)).snoc h1 h2 h3
 ·have o:t<qs.length:=by simp at J;omega
  rw [ES o] at z;exact h.fin t q (by rw [ES o];exact z) (by simp;omega)
theorem PsR.with {m:MZ} {ps:List (List Int)} {us:List Int} {n:Int} (h:PsR m ps) (hp:0<ps.length) (J:n∈CC m ps us):PsR m (Ca m ps n):=by
 have h1:=h.add hp J;unfold Ca
 split
 ·rename_i I
  have z:(Ct ps n).length=ps.length:=Du
  have hF:∀t p,(Ct ps n)[t]?=some p->t+1=ps.length->FinP m t p:=fun t p o he=>by
   have h2:=I.1;unfold finB at h2;rw [z,show ps.length - 1=t from by omega,EM,o] at h2;simp only [Ft] at h2
   split at h2
   ·cases h2
   ·rename_i x L
    exact ⟨x,L,zah h2⟩
  refine ⟨fun t p o=>?_,fun t p o D=>?_⟩
  ·rcases Fk t (Ct ps n).length with h2 | h2
   ·rw [ES h2] at o;exact h1.one t p o
   ·rw [ET h2] at o
    have E:p=[]:=by
     cases G:t - (Ct ps n).length with
     | zero=>rw [G] at o;simpa using o.symm
     | succ j=>rw [G] at o;simp at o
    subst E;exact PathR.nil m t
  ·have h2:t<(Ct ps n).length:=by simp at D;omega
   rw [ES h2] at o;rcases Fk (t+1) (Ct ps n).length with h3 | h3
   ·exact h1.fin t p o h3
   ·exact hF t p o (by omega)
 ·exact h1
theorem zC.psR (h:zC m ch):PsR m (zY m ch):=by
 induction h with
 | nil=>
  rw [psOf_nil];unfold ps0
  split
  ·exact ⟨fun t p h=>by simp at h,fun t p h=>by simp at h⟩
  ·refine ⟨fun t p h=>?_,fun t p h z=>by simp at z⟩
   match t,h with
   | 0,h=>
    have:p=[]:=by simpa using h.symm
    subst this;exact PathR.nil m 0
 | @snoc ch n h o ih=>
  rw [DX];exact ih.with (h.psOk.pn (Cx (CD o))) o
theorem zC.all (h:zC m ch) (z:AZ m ch=true):(zY m ch).length=m.tasks.length/\(∀t p,(zY m ch)[t]?=some p->PathR m t p/\FinP m t p):=by
 have D:=h.psR;have E:=h.psOk;unfold AZ cmpB at z;rw [zae,EX,EZ,EX] at z;rcases z with h0 | ⟨h0,h1⟩
 ·have:=E.pl;refine ⟨by omega,fun t p o=>?_⟩;rw [Fg (by omega)] at o;cases o
 ·refine ⟨h0,fun t p o=>⟨D.one t p o,?_⟩⟩
  have G:t<(zY m ch).length:=by
   rcases Fk t (zY m ch).length with h2 | h2
   ·exact h2
   ·rw [Fg h2] at o;cases o
  rcases Fk (t+1) (zY m ch).length with h2 | h2
  ·exact D.fin t p o h2
  ·unfold finB at h1;rw [show (zY m ch).length - 1=t from by omega,EM,o] at h1;simp only [Ft] at h1
   split at h1
   ·cases h1
   ·rename_i x I
    exact ⟨x,I,zah h1⟩
theorem right_ch (g:zI m) (h:zC m ch) (J:AZ m ch=true):zJ m (zY m ch)=true:=by
 obtain ⟨h1,h2⟩:=h.all J;have O:=h.range g;have D:=h.psOk.fl;have L:∀t x,x∈(zY m ch).getD t []->x∈ch:=fun t x z=>by rw [<-D];exact BS.2 ⟨t,z⟩
 refine DE.2 ⟨good_chk g,h1,fun t Q=>?_,apart_iff.1 (by rw [D];exact O.2)⟩;have e:(zY m ch).getD t []=(zY m ch)[t]:=zgd Q
 obtain ⟨I,x,z,M⟩:=h2 t _ (EL Q);have o:=L t;rw [e] at o⊢;generalize (zY m ch)[t]=p at I z o;have E:p≠[]:=fun e=>by subst e;cases z
 have G:0<p.length:=List.length_pos_iff.2 E;refine ⟨E,I.hd _ ?_,?_,fun y T=>O.1 y (o y T),I.fr,I.nb⟩
 ·rw [List.head?_eq_getElem?,EM,EL G];rfl
 ·rw [List.getLast?_eq_getElem?,EL (by omega)] at z;have e2:p.getD (p.length - 1) 0=p[p.length - 1]:=by rw [EM,EL (by omega),Ft]
  injection z with z;rw [e2,z];exact M
theorem combos_sub:∀(k:Nat) (l s:List Int),s∈zF k l->s.Sublist l
 | 0,l,s,h=>by
  have:s=[]:=by simpa [zF] using h
  subst this;exact List.nil_sublist l
 | k+1,[],s,h=>by simp [zF] at h
 | k+1,x :: l,s,h=>by
  unfold zF at h;rcases FE.1 h with h | h
  ·obtain ⟨s',o,rfl⟩:=zac.1 h;exact (combos_sub k l s' o).cons_cons x
  ·exact (combos_sub (k+1) l s h).cons x
theorem subsP_sub {s:List Int} (h:s∈AX l):s.Sublist l:=by
 unfold AX at h;obtain ⟨k,-,h⟩:=List.mem_flatMap.1 h;exact combos_sub k l s h
theorem mem_laidL {ps:List (List Int)} {x:Int}:x∈Ci ps↔∃k:Nat,k<ps.length/\x=(k:Int)/\ps.getD k []≠[]:=by
 unfold Ci;rw [zac];constructor
 ·rintro ⟨k,o,rfl⟩;rw [zab,zad] at o;exact ⟨k,o.1,rfl,zah o.2⟩
 ·rintro ⟨k,o,rfl,z⟩;exact ⟨k,zab.2 ⟨zad.2 o,EQ z⟩,rfl⟩
theorem nodup_ints {l:List Nat} (h:l.Nodup):(l.map Int.ofNat).Nodup:=by
 rw [List.nodup_iff_pairwise_ne] at h⊢;rw [List.pairwise_map];exact h.imp fun o e=>o (Int.ofNat.inj e)
theorem clearP_len:∀(s:List Int) (ps:List (List Int)),(Cu ps s).length=ps.length
 | [],ps=>rfl
 | x :: s,ps=>by
  have o:=clearP_len s (ps.set x.toNat []);unfold Cu at o⊢;rw [List.foldl_cons,o,List.length_set]
theorem PathI.pathT (h:PathI m t fixed p):PathT m t p:=⟨h.ne,h.hd,h.lt,h.rg,fun x o=>(h.fr x o).1,h.ch⟩
theorem okC_of (o:AY m=0) (h:zC m ch):EH m ch=true:=by
 unfold EH;rw [EQ o,By.2 h];rfl
theorem curF_eq {m:MZ} {pp:List (List Int)} {c:Nat}:∀(f t:Nat),t<=c->c<=t+f->(∀j,t<=j->j<c->j<pp.length/\endB m pp j=true)->¬ (c<pp.length/\endB m pp c=true)->curF m pp f t=c
 | 0,t,h0,h1,_,_=>by unfold curF;omega
 | f+1,t,h0,h1,h2,h3=>by
  unfold curF;by_cases h:t=c
  ·subst h;rw [if_neg h3]
  ·rw [if_pos (h2 t (EN _) (by omega))];exact curF_eq f (t+1) (by omega) (by omega) (fun j z o=>h2 j (by omega) o) h3
theorem fin_last (h:zC m ch) (o:(zY m ch).length<m.tasks.length):finB m (zY m ch)=false:=by
 have z:∀l:List (List Int),finB m (l++[[]])=false:=fun l=>by
  unfold finB
  have:(l++[([]:List Int)]).getD ((l++[([]:List Int)]).length - 1) []=[]:=by
   rw [EV,Fo,Nat.add_sub_cancel,EM,ET (EN _)];simp
  rw [this];rfl
 cases h with
 | nil=>
  rw [psOf_nil] at o⊢;unfold ps0 at o⊢
  split
  ·rename_i h0;omega
  ·exact z []
 | @snoc ch n h E=>
  rw [DX] at o⊢;unfold Ca at o⊢
  split
  ·exact z _
  ·rename_i h0
   rw [if_neg h0,Du] at o
   cases D:finB m (Ct (zY m ch) n) with
   | false=>rfl
   | true=>exact absurd ⟨D,o⟩ h0
structure Cur (m:MZ) (ch:List Int) (qs:List (List Int)) (a:List Int):Prop where
 ps:zY m ch=qs++[a]
 lt:qs.length<m.tasks.length
 cur:AD m ch=qs.length
 pp:zv m ch=if a=[] then qs else qs++[a]
theorem ne_of_fin (h:FinP m t p):p≠[]:=by
 obtain ⟨x,o,-⟩:=h;intro e;subst e;cases o
theorem endB_fin {pp:List (List Int)} (hp:pp[t]?=some p) (h:FinP m t p):endB m pp t=true:=by
 obtain ⟨x,o,h2⟩:=h;unfold endB;rw [EM,hp,Ft,o];exact EQ h2
theorem filter_ne {l:List (List Int)} (h:∀q∈l,q≠[]):l.filter (fun p=>decide (p.length≠0))=l:=
 List.filter_eq_self.2 fun q o=>EQ (fun e=>h q o (List.length_eq_zero_iff.1 e))
theorem cur_of (hc:AY m=0) (h:zC m ch):(AZ m ch=true/\AD m ch=m.tasks.length)\/(AZ m ch=false/\∃qs a,Cur m ch qs a):=by
 have g:=zI.of hc;have hO:=h.psOk;have hR:=h.psR;have T:zv m ch=(zY m ch).filter (fun p=>decide (p.length≠0)):=by unfold zv;rw [if_pos (okC_of hc h)]
 cases D:AZ m ch with
 | true=>
  left
  obtain ⟨h1,h2⟩:=h.all D
  have M:zv m ch=zY m ch:=by
   rw [T];refine filter_ne fun q hq=>?_
   obtain ⟨i,Z,rfl⟩:=Fu hq;exact ne_of_fin (h2 i _ (EL Z)).2
  refine ⟨rfl,?_⟩;unfold AD;rw [M];refine curF_eq _ _ (Fb _) (by omega) (fun j _ o=>?_) (fun hx=>by omega);have J:j<(zY m ch).length:=by omega
  exact ⟨J,endB_fin (EL J) (h2 j _ (EL J)).2⟩
 | false=>
  right
  refine ⟨rfl,?_⟩;have ht:=Cx (ps:=zY m ch) D;have I:=hO.pn ht;rcases List.eq_nil_or_concat (zY m ch) with he | ⟨qs,a,he⟩
  ·rw [he] at I;cases I
  ·rw [List.concat_eq_append] at he;have G:(zY m ch).length=qs.length+1:=by rw [he];simp
   have E:∀j (o:j<qs.length),FinP m j qs[j]:=fun j o=>hR.fin j _ (by rw [he,ES o,EL o]) (by omega)
   have a1:∀q∈qs,q≠[]:=fun q hq=>by
    obtain ⟨i,Z,rfl⟩:=Fu hq;exact ne_of_fin (E i Z)
   have z:zv m ch=if a=[] then qs else qs++[a]:=by
    rw [T,he,FC,filter_ne a1];by_cases L:a=[]
    ·subst L;simp
    ·rw [if_neg L,filter_ne (l:=[a]) (by simpa using L)]
   have a8:=hO.pl;refine ⟨qs,a,he,by omega,?_,z⟩
   have o:∀j (o:j<qs.length),(zv m ch)[j]?=some qs[j]:=fun j o=>by
    rw [z]
    split
    ·exact EL o
    ·rw [ES o,EL o]
   unfold AD;refine curF_eq _ _ (Fb _) ?_ (fun j _ Q=>?_) ?_
   ·rw [z];split <;> simp
   ·have h3:=o j Q;obtain ⟨U,-⟩:=FM.1 h3;exact ⟨U,endB_fin h3 (E j Q)⟩
   ·rintro ⟨U,V⟩;have L:a≠[]:=fun e=>by rw [z,if_pos e] at U;omega
    have h6:(zv m ch).getD qs.length []=a:=by
     rw [z,if_neg L,EM,ET (EN _)];simp
    unfold endB at V;rw [h6] at V
    have O:finB m (zY m ch)=true:=by
     unfold finB;rw [G,Nat.add_sub_cancel]
     have:(zY m ch).getD qs.length []=a:=by
      rw [he,EM,ET (EN _)];simp
     rw [this];exact V
    unfold AZ cmpB at D;rw [O,Bool.and_true,Bool.or_eq_false_iff,Fl,Fl] at D;have h7:qs.length+1<m.tasks.length:=by omega
    exact absurd O (by rw [fin_last h (by rw [G];exact h7)];simp)
theorem headP_range {qs:List (List Int)} {a:List Int} (E:AY m=0) (z:zC m ch) (h:Cur m ch qs a) (D:t<m.tasks.length):∀x∈BP m ch t,0<=x/\x<m.n:=by
 have g:=zI.of E;intro x o;unfold BP at o
 split at o
 ·rw [Option.mem_toList] at o;have h1:x∈(zv m ch).flatten:=BS.2 ⟨t,List.mem_of_getLast? o⟩;refine (z.range g).1 x ?_;rw [<-z.psOk.fl,h.ps];rw [h.pp] at h1
  split at h1
  ·rw [List.flatten_append];exact List.mem_append_left _ h1
  ·exact h1
 ·rw [zab,EM,EL D] at o;exact g.tn _ (EO D) x (.inl o.1)
theorem sideP_eq (o:AY m=0) (z:t<m.tasks.length):Dl m ch t=Cz m t (BP m ch t) ch:=by
 unfold Dl reachO;rw [if_pos ⟨o,by omega,by omega⟩,FF]
inductive All2 (P:Int->PT->Prop):List Int->List PT->Prop
 | nil:All2 P [] []
 | cons {n:Int} {p:PT} {l:List Int} {ps:List PT}:P n p->All2 P l ps->All2 P (n :: l) (p :: ps)
theorem kidsR_ok {f:Int->Nat->Int×PT×Nat} {P:Int->PT->Prop}:∀(l:List Int) (k:Nat) (acc:List PT),(∀n∈l,∀k,k<=3000->(f n k).1=0->P n (f n k).2.1/\(f n k).2.2=k+(f n k).2.1.size/\(f n k).2.2<=3000)->k<=3000->(AJ f l k acc).1=0->
  ∃ps,(AJ f l k acc).2.1=acc++ps/\All2 P l ps/\(AJ f l k acc).2.2=k+PT.sizeL ps/\(AJ f l k acc).2.2<=3000
 | [],k,acc,_,o,_=>⟨[],by simp [AJ],.nil,by simp [AJ,PT.sizeL],o⟩
 | n :: l,k,acc,z,o,h=>by
  unfold AJ at h⊢;by_cases h0:(f n k).1=0
  ·rw [if_pos h0] at h⊢;obtain ⟨h1,h2,h3⟩:=z n (FA ..) k o h0;obtain ⟨ps,q1,q2,q3,q4⟩:=kidsR_ok l _ (acc++[(f n k).2.1]) (fun n' D=>z n' (Fh _ D)) h3 h;exact ⟨(f n k).2.1 :: ps,by rw [q1];simp,.cons h1 q2,by rw [q3,h2];simp only [PT.sizeL];omega,q4⟩
  ·rw [if_neg h0] at h;exact absurd h h0
theorem holdsL_of {ps:List PT} (h:All2 (fun n p=>Cp m p (ch++[n])=true) l ps):Ch m ps ch l=true:=by
 induction h with
 | nil=>simp [Ch]
 | cons h1 _ ih=>unfold Ch;rw [h1,ih];rfl
theorem incB_of {N:Int}:∀{l:List Int} {b:Int},l.Pairwise (·<·)->(∀x∈l,b<x)->(∀x∈l,x<N)->incB N b l=true
 | [],_,_,_,_=>rfl
 | x :: l,b,hp,h1,h2=>by
  rw [List.pairwise_cons] at hp;unfold incB;rw [EQ (h1 x (FA ..)),EQ (h2 x (FA ..)),incB_of hp.2 hp.1 (fun y o=>h2 y (Fh _ o))];rfl
theorem cutT_some (h:cutT m ch=some t):AD m ch<=t/\t<m.tasks.length/\offB m ch t=true:=by
 unfold cutT at h;have h1:=List.find?_some h;have h2:=List.mem_of_find?_eq_some h;obtain ⟨k,o,rfl⟩:=zac.1 h2;rw [zad] at o;exact ⟨by omega,by omega,h1⟩
theorem cut_holds (z:AY m=0) (J:zC m ch) (h:cutT m ch=some t):cutB m ch t (Dl m ch t) 0=true/\((t:Int)≠AD m ch\/Dl m ch t≠[]):=by
 obtain ⟨h1,h2,h3⟩:=cutT_some h;have g:=zI.of z;have d:=g.dim;rcases cur_of z J with ⟨-,V⟩ | ⟨-,qs,a,T⟩
 ·omega
 ·have U:=sideP_eq (ch:=ch) z h2;have L:=headP_range z J T h2;unfold offB at h3;rw [EZ,zae,EX,EX,Bool.not_eq_true'] at h3;obtain ⟨O,h6⟩:=h3;refine ⟨?_,h6.symm.imp (fun h=>by omega) id⟩;unfold cutB;rw [if_neg]
  ·rw [FF,O,Bool.not_false,Bool.true_and,EZ,EZ];rw [U];refine ⟨incB_of (reachL_pw ..) (fun x o=>?_) (fun x o=>?_),?_,?_⟩
   ·have:=((Cw d).1 o).range d;omega
   ·exact (((Cw d).1 o).range d).2
   ·rw [zag];intro x o;exact EQ ((Cw d).2 (RP.base o (L x o).1 (L x o).2))
   ·unfold wallB;rw [zag];intro x o;rw [zag];intro y D;have G:=(Cw d).1 o;unfold BC at D
    split at D
    ·by_cases I:zl m t y=true
     ·by_cases M:y∈ch
      ·rw [EQ M];simp
      ·rw [EQ ((Cw d).2 (G.step D I M))];simp
     ·have E:zl m t y=false:=by simpa using I
      rw [E];simp
    ·cases D
  ·rintro (h7 | h7 | ⟨h7,Q⟩ | h7)
   ·omega
   ·omega
   ·rcases h6 with h6 | h6
    ·exact h6 Q
    ·omega
   ·exact h7 rfl
theorem DW {m:MZ} (o:AY m=0):∀(f:Nat) (ch:List Int) (k:Nat),zC m ch->k<=3000->(zG m f ch k).1=0->Cp m (zG m f ch k).2.1 ch=true/\(zG m f ch k).2.2=k+(zG m f ch k).2.1.size/\(zG m f ch k).2.2<=3000
 | 0,ch,k,_,_,h=>by simp [zG] at h
 | f+1,ch,k,z,J,h=>by
  unfold zG at h⊢
  split at h
  ·simp at h
  ·rename_i h1
   rw [if_neg h1]
   split at h
   ·simp at h
   ·rename_i h2
    rw [if_neg h2]
    split at h
    ·rename_i t I
     obtain ⟨h3,G⟩:=cut_holds o z I;refine ⟨?_,by simp [PT.size,PT.sizeL],by show k+1<=3000;omega⟩;unfold Cp;rw [if_neg h1,if_pos G];exact h3
    ·rename_i E
     have e:AK m ch=Bw m ch:=by unfold AK;rw [if_pos (okC_of o z)]
     simp only at h⊢
     split at h
     ·rename_i h3
      rw [if_pos h3];obtain ⟨ps,q1,q2,q3,q4⟩:=kidsR_ok (P:=fun n p=>Cp m p (ch++[n])=true) (AK m ch) (k+1) [] (fun n E k' D h0=>DW o f (ch++[n]) k' (.snoc z (by rw [<-e];exact E)) D h0) (by omega) h3;rw [q1,List.nil_append];refine ⟨?_,by rw [q3];simp only [PT.size];omega,q4⟩;unfold Cp;rw [if_neg h1,if_neg (by simp)];exact holdsL_of q2
     ·rename_i h3;exact absurd h h3
end
section
open Go.RowKit
attribute [local go_sem ↓] Go.wp_at_zero Go.wp_at_succ
def selL (f:Nat->Bool) (k:Nat):List Int:=((List.range k).filter f).map Int.ofNat
theorem selL_t {f:Nat->Bool} (h:f k=true):selL f (k+1)=selL f k++[(k:Int)]:=by
 unfold selL;rw [List.range_succ,FC,FJ h,FG];rfl
theorem selL_f {f:Nat->Bool} (h:f k=false):selL f (k+1)=selL f k:=by
 unfold selL;rw [List.range_succ,FC,Fw (by simp [h])];simp
theorem selL_len (f:Nat->Bool) (k:Nat):(selL f k).length<=k:=by
 unfold selL;rw [Fy];exact EP (Fr _ _) (by simp)
theorem zM.ext {w w':World} (h:zM w w'):zb w w':=h.below _
theorem crossed1_calls {v:Value} {gp:Nat} (x:Int) (w:World) (D:w.cell? ⟨gp,0,none⟩=some v) (hp:zi w ok v p) (z:p.length<=20000000000000):
  Calls Tryz.prog 55 #[.int .i64 x,.pointer (some ⟨gp,0,none⟩)] w fun e w'=>e=.returned (.bool (decide (x∈p)))/\zM w w':=by
 have o:=zh hp;clear hp
 go_enter Tryz.func55,Tryz.ntmps55
 go_wp2_with fail
 refine (zE x w o.out z).mono ?_;rintro e w8 ⟨rfl,rfl⟩;go_wp2;go_ret;exact ⟨rfl,zM.refl _⟩
theorem crossed_calls {ok':Nat->Prop} {v vp:Value} {ps:List (List Int)} (w:World) (h:zq w ok v ps) (hl:ps.length<=1000000000000) (I:∀x∈ps,x.length<=20000000000000) (hp:zi w ok' vp p) (b0:p.length<=20000000000000):
  Calls Tryz.prog 20 #[v,vp] w fun e w'=>∃v',e=.returned v'/\Mk w w' v' (CM ps p):=by
 obtain ⟨vs,⟨A,c,rfl,hc,hr⟩,he⟩:=h;have HR:=zh hr;have HE:=zh he;have HP:=zh hp;obtain ⟨Ap,cp,rfl,-⟩:=hp;have HX:=zh I;clear hr he I;have b9:∀(fn:Fn) (first cap:Array Value) (w:World),(Instr.makeFunc fn first cap).run Tryz.prog w=.ok (.func fn first cap) w:=fun _ _ _ _=>rfl
 go_enter Tryz.func20,Tryz.ntmps20
 go_wp2_with fail
 obtain ⟨D,q0⟩:=box1 w (.slice Ap p.length cp) 23;generalize w.alloc _=w1 at D q0⊢;obtain ⟨gp,M⟩:=zak w.heap.size;rw [<-M] at q0⊢;clear M;have J:=zh (Mk.nil w1);go_loopw [5,10] (fun v i wr=>∃k:Nat,k<=ps.length/\i=.int .i64 (k:Nat)/\Hid (Mk w1 wr v (selL (Cg ps p) k))) (fun _ i _=>ps.length - (intOf i).toNat)
 case atStart=>exact ⟨0,Fb _,rfl,J⟩
 clear J
 case round=>
  obtain ⟨k,hk,rfl,hM⟩:=hrel;have I:zb w1 wr:=hM.out.ext;obtain ⟨wk,rfl⟩:∃wk:World,wk=wr:=⟨_,rfl⟩;by_cases E:k<ps.length
  ·obtain ⟨b,off,u,rfl,_,o,hu⟩:=zO HR.out HE.out E E;have rc:=zb.rule o;have o:wk.cell? ⟨b,off+k,none⟩=some u:=(D.trans I).cell o;have T:=HX.out _ (EO E);have G:Cg ps p k=(ps[k]).any fun n=>decide (n∈p):=by unfold Cg;rw [EM,EL E];rfl
   obtain ⟨q,hq⟩:=zak (ps[k]);rw [<-hq] at hu T G;clear hq;have HU:=zh (zi.below hu (D.trans I));clear hu;have a1:=zh G;clear G;have a4:Hid (∀W,zb wk W->W.cell? ⟨gp,0,none⟩=some (.slice Ap p.length cp)):=fun W hW=>q0 W (I.trans hW)
   have a3:=zh (HP.out.below (D.trans I));clear rc
   go_wp2_with fail
   refine (Bh 55 #[.pointer (some ⟨gp,0,none⟩)] (fun n=>decide (n∈p)) wk HU.out T (Bi (P:=Tryz.prog) Tryz.func55 (by kernel_rfl) (by kernel_rfl)) (fun x _ w2 U=>crossed1_calls x w2 (a4.out w2 U.ext) (a3.out.below U.ext) b0)).mono ?_;rintro e w9 ⟨rfl,a8⟩;have z:=zh (hM.out.more a8.ext);have V:=z.out.ext;rw [<-a1.out];have a9:=selL_len (Cg ps p) k
   cases hb:Cg ps p k with
   | true=>
    have Z:=zh (selL_t hb);clear hb;obtain ⟨l,O⟩:=zak (selL (Cg ps p) k);rw [<-O] at z a9 Z;clear O
    go_wp2_with (at_builtin;refine AP rfl _ _ rfl _ l (k:Int) w1.heap.size w9.heap.size 1 _ rfl rfl (z.out.own.alloc _) ?d1 ?d2 ?d3 ?_)
    (try case d1=>exact zr _ _ _ (by simp))
    case d2=>(first | (simp;done) | (have:=V.size;simp;omega) | (have:=V.size;omega))
    case d3=>omega
    intro v' wb Q L a7;have a6:=zh ((z.out.alloc _).app Q L);clear Q L a7;go_wp2;go_roundw
    case rel=>exact ⟨k+1,by omega,by go_num,by rw [Z.out];exact a6⟩
    case measure=>simp [intOf];omega
   | false=>
    have Z:=zh (selL_f hb);clear hb;go_wp2;go_roundw
    case rel=>exact ⟨k+1,by omega,by go_num,by rw [Z.out];exact z⟩
    case measure=>simp [intOf];omega
  ·obtain rfl:k=ps.length:=by omega
   go_wp2;go_ret;exact ⟨_,rfl,D.mono_mk hM.out⟩
structure CP (w wr:World) (g:Nat) (ps:List (List Int)):Prop where
 ext:zb w wr
 lo:w.heap.size<=g
 row:∃vs:List Value,zg wr g 23 vs.toArray/\vs.length=ps.length/\∀(i:Nat) x,ps[i]?=some x->∃u,vs[i]?=some u/\zi wr (fun b=>b≠g/\w.heap.size<=b) u x
section
variable {w wr w':World} {g:Nat} {ps:List (List Int)}
theorem CP.lt (h:CP w wr g ps):g<wr.heap.size:=by obtain ⟨vs,o,-⟩:=h.row;exact zd o
theorem CP.more (h:CP w wr g ps) (o:zb wr w'):CP w w' g ps:=by
 obtain ⟨vs,z,E,he⟩:=h.row;exact ⟨h.ext.trans o,h.lo,vs,z.ext o,E,fun i x I=>by obtain ⟨u,G,D⟩:=he i x I;exact ⟨u,G,D.below o⟩⟩
theorem CP.intss (h:CP w wr g ps) (c:Nat) (D:ps.length<=c):zq wr (fun _=>True) (.slice (some ⟨g,0,none⟩) ps.length c) ps:=by
 obtain ⟨vs,z,I,he⟩:=h.row;refine ⟨vs,⟨_,c,rfl,D,by omega,fun _=>⟨g,0,rfl,trivial,fun j u o=>?_⟩⟩,fun i x G=>by obtain ⟨u,o,E⟩:=he i x G;exact ⟨u,o,E.weaken fun _ _=>trivial⟩⟩;rw [Nat.zero_add];exact z.cell (by simpa using o)
theorem CP.at_ (h:CP w wr g ps) (D:k<ps.length):∃u,wr.cell? ⟨g,k,none⟩=some u/\wr.frozen? ⟨g,k,none⟩=false/\zi wr (fun b=>b≠g/\w.heap.size<=b) u ps[k]:=by
 obtain ⟨vs,o,G,he⟩:=h.row;obtain ⟨u,E,z⟩:=he k _ (EL D);exact ⟨u,o.cell (by simpa using E),o.frozen k,z⟩
theorem CP.set (h:CP w wr g ps) (k:Nat) {u:Value} {x:List Int} (L:zi wr (fun b=>b≠g/\w.heap.size<=b) u x):CP w (wr.setCell ⟨g,k,none⟩ u) g (ps.set k x):=by
 obtain ⟨vs,D,I,he⟩:=h.row;have G:∀{v:Value} {l:List Int},zi wr (fun b=>b≠g/\w.heap.size<=b) v l->zi (wr.setCell ⟨g,k,none⟩ u) (fun b=>b≠g/\w.heap.size<=b) v l:=fun z=>z.keep fun b D _=>EW wr ⟨g,k,none⟩ u b D.1
 refine ⟨h.ext.setCell (p:=⟨g,k,none⟩) h.lo _,h.lo,vs.set k u,?_,by simp [I],fun i y o=>?_⟩
 ·have:=D.set (k:=k) u
  rwa [List.setIfInBounds_toArray] at this
 ·rw [List.getElem?_set] at o⊢;by_cases z:k=i
  ·subst z;rw [if_pos rfl] at o⊢
   split at o
   ·rename_i J
    rw [if_pos (by omega)];injection o with o;subst o;exact ⟨u,rfl,G L⟩
   ·cases o
  ·rw [if_neg z] at o⊢;obtain ⟨v,M,E⟩:=he i y o;exact ⟨v,M,G E⟩
theorem CP.new (w:World) (n:Nat):CP w (w.alloc (.cells (madeCells #[.slice none 0 0] n) 23)) w.heap.size (List.replicate n []):=by
 refine ⟨(zb.refl w).alloc _,EN _,List.replicate n (.slice none 0 0),?_,by simp,fun i x z=>?_⟩
 ·have:(madeCells #[Value.slice none 0 0] n)=(List.replicate n (Value.slice none 0 0)).toArray:=by
   apply Array.ext';apply List.ext_getElem
   ·simp [madeCells]
   ·intro i h1 h2;simp [madeCells,Nat.mod_one]
  rw [this];exact zg.new _ _ _ rfl
 ·obtain ⟨o,e⟩:=FM.1 z;rw [List.getElem_replicate] at e;subst e;exact ⟨.slice none 0 0,by rw [List.getElem?_replicate,if_pos (by simpa using o)],zi.nil _ _⟩
end
theorem take_rep_succ {ps:List (List Int)} (z:k<ps.length):(ps.take k++List.replicate (ps.length - k) []).set k ps[k]=ps.take (k+1)++List.replicate (ps.length - (k+1)) []:=by
 have D:(ps.take k).length=k:=by rw [FH];omega
 rw [List.set_append_right _ _ (by omega),D,Nat.sub_self,EU z,List.append_assoc];obtain ⟨r,E⟩:∃r,ps.length - k=r+1:=⟨ps.length - k - 1,by omega⟩;have o:ps.length - (k+1)=r:=by omega
 rw [E,o,List.replicate_succ];rfl
theorem copied_calls {v:Value} {ps:List (List Int)} (w:World) (h:zq w ok v ps) (hl:ps.length<=1000000) (hx:∀x∈ps,x.length<=100000000000):
  Calls Tryz.prog 39 #[v] w fun e w'=>∃g,e=.returned (.slice (some ⟨g,0,none⟩) ps.length ps.length)/\CP w w' g ps:=by
 obtain ⟨vs,⟨A,c,rfl,hc,Z⟩,he⟩:=h;have HR:=zh Z;have HE:=zh he;have HX:=zh hx;clear Z he hx;obtain ⟨n,hn⟩:=zak ps.length
 have b0:∀W:World,(Instr.makeSlice 22 (.int .i64 (ps.length:Nat)) (.int .i64 (ps.length:Nat))).run Tryz.prog W=.ok (.slice (some ⟨W.heap.size,0,none⟩) ps.length ps.length) (W.alloc (.cells (madeCells #[.slice none 0 0] ps.length) 23)):=fun W=>
  run_make_row' 22 23 (.slice none 0 0) 24 Tryz.underlying22 Tryz.infoInts rfl .i64 .i64 ps.length (by omega) (by omega) W
 go_enter Tryz.func39,Tryz.ntmps39
 go_wp2_with fail
 have z:=zh (CP.new w ps.length);generalize w.alloc _=w1 at z⊢;generalize w.heap.size=g at z⊢;go_loopw [11] (fun i wr=>∃k:Nat,k<=ps.length/\i=.int .i64 (k:Nat)/\Hid (CP w wr g (ps.take k++List.replicate (ps.length - k) []))) (fun i _=>ps.length - (intOf i).toNat)
 case atStart=>exact ⟨0,Fb _,rfl,z⟩
 clear z
 case round=>
  obtain ⟨k,hk,rfl,G⟩:=hrel;obtain ⟨wk,rfl⟩:∃wk:World,wk=wr:=⟨_,rfl⟩;by_cases E:k<ps.length
  ·obtain ⟨b,off,u,rfl,_,o,Q⟩:=zO HR.out HE.out E E;have O:wk.cell? ⟨b,off+k,none⟩=some u:=G.out.ext.cell o;have J:=HX.out _ (EO E);have T:=zh (take_rep_succ E);obtain ⟨q,V⟩:=zak (ps[k]);rw [<-V] at Q J T;have HU:=zh (zi.below Q G.out.ext);clear Q V o
   go_wp2_with fail
   refine (Eb wk HU.out J).mono ?_;rintro e w9 ⟨v9,rfl,D⟩;obtain ⟨A9,c9,rfl,a7⟩:=D.slice;have a9:=G.out.lt;have I:=zh (G.out.more D.ext);have M:Hid (zi w9 (fun b=>b≠g/\w.heap.size<=b) (.slice A9 q.length c9) q):=D.ints.weaken fun b hb=>⟨by omega,EP G.out.ext.size hb⟩
   clear D;obtain ⟨u0,U,a8,-⟩:=I.out.at_ (k:=k) (by simp;omega);go_wp2;go_roundw
   case rel=>exact ⟨k+1,by omega,by go_num,by rw [<-T.out];exact I.out.set k M.out⟩
   case measure=>simp [intOf];omega
  ·obtain rfl:k=ps.length:=by omega
   have L:Hid (CP w wk g ps):=by have:=G.out;rw [EY,Nat.sub_self,List.replicate_zero,List.append_nil] at this;exact this
   go_wp2;go_ret;exact ⟨g,rfl,L.out⟩
end
end Go.Proofs.YthbjngbhbbkkgaaGreat
