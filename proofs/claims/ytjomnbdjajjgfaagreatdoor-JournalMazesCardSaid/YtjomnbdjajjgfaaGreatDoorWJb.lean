import Derived.Test.YtjomnbdjajjgfaaGreatDoorWJa
import Derived.Deep.AppendSrc
import Derived.Deep.AppendLies
import Derived.Shelf.Strings.BuilderK
import Derived.Shelf.LaysM
import Derived.Shelf.Strconv.Itoa3
import Derived.Shelf.LaysC
import Derived.Shelf.Strconv.ErrVarAll
import Derived.Shelf.Strings.Search2
import Derived.Lib.UnsafeStr
import Derived.Lib.AppendStr
import Derived.Deep.DeepCutAuto
import Derived.Deep.OwnRows
import Derived.BigQuiet
import Derived.Deep.RegionHeld3
import Derived.Deep.DrawnRows
set_option linter.unusedVariables false
set_option linter.unusedSimpArgs false
set_option maxRecDepth 100000
set_option maxHeartbeats 16000000
namespace Go.Proofs.YtjomnbdjajjgfaaGreatDoor
variable {a:Act} {K:Act->World->Prop} {ops:Array Oper} {c i:Array Value} {Q:Exit->Act->World->Prop} {x:Int} {from_ l' used:List Int} {m:MZ} {g j k t:Nat} {ok:Nat->Prop} {o:Oper} {A:Option Addr} {v':Value} {W b w wk:World}
section
open Go.RowKit
theorem BA {α:Type} {l:List α} (p:α->Bool) (h:k<l.length):(l.take (k+1)).any p=((l.take k).any p || p l[k]):=by
 rw [FF h,List.any_append];simp
theorem BT {P: Program} {n: FuncId} {fn: Func} (h : P.funcs[n]? = some fn) (hn : (fn.name == "runtime.NumGoroutine") = false) (hb : fn.body.isNone = false) (a : Array Value) (w : World) : (callFunc n a).run P w = .ok (.enter n a) w := by
 unfold callFunc;simp only [Sem.run_bind,run_program,Result.andThen_ok,h,hn,hb,Bool.false_eq_true,if_false,Sem.run_pure]
theorem Er {v:Value} {l:List Int} (n:FuncId) (caps:Array Value) (p:Int->Bool) (w:World) (h:zg w ok v l) (hl:l.length<=20000000000000)
  (a7:∀(a:Array Value) (w:World),(callFunc n a).run Tryz.prog w=.ok (.enter n a) w)
  (hp:∀x∈l,∀w1,zT w w1->Calls Tryz.prog n (#[.int .i64 x]++caps) w1 fun e w'=>e=.returned (.bool (p x))/\zT w1 w'):
  Calls Tryz.prog 182 #[v,.func (.func n) #[] caps] w fun e w'=>∃r:Int,e=.returned (.int .i64 r)/\(0<=r↔l.any p=true)/\-1<=r/\zT w w':=by
 obtain ⟨A,c,rfl,hc,hr⟩:=h;have HR:=zh hr;clear hr;have HP:=zh hp;clear hp
 go_enter Tryz.func182,Tryz.ntmps182
 go_wp2_with fail
 go_loopw [8] (fun i wr=>∃k:Nat,k<=l.length/\i=.int .i64 k/\Hid ((l.take k).any p=false)/\Hid (zT w wr)) (fun i _=>l.length - (intOf i).toNat)
 case atStart=>exact ⟨0,FN _,rfl,by simp [Hid],zT.refl _⟩
 case round=>
  obtain ⟨k,hk,rfl,hn,hd⟩:=hrel;by_cases U:k<l.length
  ·obtain ⟨b,off,rfl,_,O⟩:=Ai (HR.out.keep (hd.out.same ok)) U U;obtain ⟨x,hx⟩:=zaI (l[k]);rw [<-hx] at O;have a1:x∈l:=by rw [hx];exact Fz _
   have I:=zh (BA p U);rw [<-hx] at I;clear hx;have D:=zh (HP.out x a1 wr hd.out);by_cases G:p x=true
   ·go_wp2_with fail
    refine D.out.mono ?_;rintro e w1 ⟨rfl,E⟩;rw [G];have J:=zh (hd.out.trans E);clear E;have M:=zh G;clear G
    go_wp2_with fail
    go_ret;refine ⟨_,rfl,⟨fun _=>?_,fun _=>by omega⟩,by omega,J.out⟩;rw [zaE];exact ⟨x,a1,M.out⟩
   ·have V:p x=false:=by simpa using G
    clear G
    go_wp2_with fail
    refine D.out.mono ?_;rintro e w1 ⟨rfl,E⟩;rw [V];have J:=zh (hd.out.trans E);clear E;have M:=zh V;clear V
    go_wp2_with fail
    go_roundw
    case rel=>exact ⟨k+1,by omega,by go_num,by
     show _=false;rw [I.out,hn.out,M.out];rfl,J⟩
    case measure=>simp [intOf];omega
  ·obtain rfl:k=l.length:=by omega
   go_wp2;go_ret;have h:=hn.out;rw [FJ] at h;refine ⟨_,rfl,⟨fun h'=>by omega,fun h'=>?_⟩,by omega,hd.out⟩;rw [h] at h'
   cases h'
theorem indexFuncB_calls {v:Value} {l:List (List Bool)} (n:FuncId) (caps:Array Value) (p:List Bool->Bool) (w:World) (h:Each (AR w ok) w ok v l) (hl:l.length<=20000000000000)
  (a9:∀(a:Array Value) (w:World),(callFunc n a).run Tryz.prog w=.ok (.enter n a) w)
  (hp:∀x∈l,∀u,AR w ok u x->∀w1,zT w w1->Calls Tryz.prog n (#[u]++caps) w1 fun e w'=>e=.returned (.bool (p x))/\zT w1 w'):
  Calls Tryz.prog 181 #[v,.func (.func n) #[] caps] w fun e w'=>∃r:Int,e=.returned (.int .i64 r)/\(0<=r↔l.any p=true)/\-1<=r/\zT w w':=by
 obtain ⟨vs,⟨A,c,rfl,hc,hr⟩,he⟩:=h;have HR:=zh hr;clear hr;have HE:=zh he;clear he;have HP:=zh hp;clear hp
 go_enter Tryz.func181,Tryz.ntmps181
 go_wp2_with fail
 go_loopw [8] (fun i wr=>∃k:Nat,k<=l.length/\i=.int .i64 k/\Hid ((l.take k).any p=false)/\Hid (zT w wr)) (fun i _=>l.length - (intOf i).toNat)
 case atStart=>exact ⟨0,FN _,rfl,by simp [Hid],zT.refl _⟩
 case round=>
  obtain ⟨k,hk,rfl,hn,V⟩:=hrel;by_cases O:k<l.length
  ·obtain ⟨b,off,u,rfl,_,a3,hu⟩:=AW (HR.out.keep (V.out.same ok)) HE.out O O;obtain ⟨x,hx⟩:=zaI (l[k]);rw [<-hx] at hu;have a0:x∈l:=by rw [hx];exact Fz _
   have I:=zh (BA p O);rw [<-hx] at I;clear hx;have D:=zh (HP.out x a0 u hu wr V.out);clear hu;by_cases G:p x=true
   ·go_wp2_with fail
    refine D.out.mono ?_;rintro e w1 ⟨rfl,E⟩;rw [G];have J:=zh (V.out.trans E);clear E;have M:=zh G;clear G
    go_wp2_with fail
    go_ret;refine ⟨_,rfl,⟨fun _=>?_,fun _=>by omega⟩,by omega,J.out⟩;rw [zaE];exact ⟨x,a0,M.out⟩
   ·have U:p x=false:=by simpa using G
    clear G
    go_wp2_with fail
    refine D.out.mono ?_;rintro e w1 ⟨rfl,E⟩;rw [U];have J:=zh (V.out.trans E);clear E;have M:=zh U;clear U
    go_wp2_with fail
    go_roundw
    case rel=>exact ⟨k+1,by omega,by go_num,by
     show _=false;rw [I.out,hn.out,M.out];rfl,J⟩
    case measure=>simp [intOf];omega
  ·obtain rfl:k=l.length:=by omega
   go_wp2;go_ret;have h:=hn.out;rw [FJ] at h;refine ⟨_,rfl,⟨fun h'=>by omega,fun h'=>?_⟩,by omega,V.out⟩;rw [h] at h'
   cases h'
theorem BC {v:Value} {l:List (Int)} (n:FuncId) (caps:Array Value) (p:Int->Bool) (w:World) (h:zg w ok v l) (M:l.length<=20000000000000) (E:∀(a:Array Value) (w:World),(callFunc n a).run Tryz.prog w=.ok (.enter n a) w)
  (hp:∀x∈l,∀w1,zT w w1->Calls Tryz.prog n (#[.int .i64 x]++caps) w1 fun e w'=>e=.returned (.bool (p x))/\zT w1 w'):
  Calls Tryz.prog 128 #[v,.func (.func n) #[] caps] w fun e w'=>e=.returned (.bool (l.any p))/\zT w w':=by
 have H:=zh (Er n caps p w h M E hp);clear hp;obtain ⟨A,c,rfl,U,D⟩:=h;clear D
 go_enter Tryz.func128,Tryz.ntmps128
 go_wp2_with fail
 refine H.out.mono ?_;rintro e w1 ⟨r,rfl,D,O,G⟩;have J:=zh D;clear D;have I:=zh G;clear G
 go_wp2_with fail
 go_ret;refine ⟨zm ?_,I.out⟩;rw [Bool.eq_iff_iff,decide_eq_true_iff];exact J.out
theorem Ft {v:Value} {l:List (List Bool)} (n:FuncId) (caps:Array Value) (p:List Bool->Bool) (w:World) (h:Each (AR w ok) w ok v l) (M:l.length<=20000000000000) (E:∀(a:Array Value) (w:World),(callFunc n a).run Tryz.prog w=.ok (.enter n a) w)
  (hp:∀x∈l,∀u,AR w ok u x->∀w1,zT w w1->Calls Tryz.prog n (#[u]++caps) w1 fun e w'=>e=.returned (.bool (p x))/\zT w1 w'):
  Calls Tryz.prog 125 #[v,.func (.func n) #[] caps] w fun e w'=>e=.returned (.bool (l.any p))/\zT w w':=by
 have H:=zh (indexFuncB_calls n caps p w h M E hp);clear hp;obtain ⟨vs,⟨A,c,rfl,U,D⟩,he⟩:=h;clear D he
 go_enter Tryz.func125,Tryz.ntmps125
 go_wp2_with fail
 refine H.out.mono ?_;rintro e w1 ⟨r,rfl,D,O,G⟩;have J:=zh D;clear D;have I:=zh G;clear G
 go_wp2_with fail
 go_ret;refine ⟨zm ?_,I.out⟩;rw [Bool.eq_iff_iff,decide_eq_true_iff];exact J.out
def Ar (n x:Int):Bool:=decide (x<0) || decide (n<=x)
def side (x:Int):Bool:=decide (x<1) || decide (300<x)
def AV (m:MZ):Int:=
 if [m.w,m.h,m.l].any side then 2
 else if 300<m.n\/6<m.tasks.length then 2
 else if m.free.length≠m.tasks.length\/(m.up.length:Int)≠m.n\/m.free.any (fun f=>(f.length:Int) != m.n)=true then 1
 else if m.tasks.any (fun t=>t.1.any (Ar m.n) || t.2.any (Ar m.n)) then 50
 else 0
theorem cf51 (a:Array Value) (w:World):(callFunc 126 a).run Tryz.prog w=.ok (.enter 126 a) w:=BT Tryz.func126 (by kernel_rfl) (by kernel_rfl) a w
theorem cf52 (a:Array Value) (w:World):(callFunc 127 a).run Tryz.prog w=.ok (.enter 127 a) w:=BT Tryz.func127 (by kernel_rfl) (by kernel_rfl) a w
theorem check1_calls {u:Value} {f:List Bool} (g:Nat) (n:Int) (w:World) (G:AR w ok u f) (I:w.cell? ⟨g,0,none⟩=some (.int .i64 n)):
  Calls Tryz.prog 126 #[u,.pointer (some ⟨g,0,none⟩)] w fun e w'=>e=.returned (.bool ((f.length:Int) != n))/\zT w w':=by
 obtain ⟨A,c,rfl,D,E⟩:=G;clear E
 go_enter Tryz.func126,Tryz.ntmps126
 go_wp2;go_ret;exact ⟨rfl,zT.refl _⟩
theorem check2_calls (g:Nat) (n x:Int) (w:World) (E:w.cell? ⟨g,0,none⟩=some (.int .i64 n)):
  Calls Tryz.prog 127 #[.int .i64 x,.pointer (some ⟨g,0,none⟩)] w fun e w'=>e=.returned (.bool (Ar n x))/\zT w w':=by
 by_cases D:x<0
 ·go_enter Tryz.func127,Tryz.ntmps127
  go_wp2;go_ret;exact ⟨zm (by simp [Ar,D]),zT.refl _⟩
 ·go_enter Tryz.func127,Tryz.ntmps127
  go_wp2;go_ret;refine ⟨zm ?_,zT.refl _⟩;simp [Ar];omega
structure Lens (m:MZ):Prop where
 fr:m.free.length<=20000000000000
 up:m.up.length<=20000000000000
 ts:m.tasks.length<=20000000000000
 tl:∀t∈m.tasks,t.1.length<=400000000000/\t.2.length<=400000000000
theorem three_cells {t:TypeId} {a b c:Int} (h:ze w g t #[.int .i64 a,.int .i64 b,.int .i64 c]) (k:Nat) (D:k<3):w.cell? ⟨g,k,none⟩=some (.int .i64 ([a,b,c][k])):=by
 unfold ze at h;unfold World.cell?;simp only [h]
 match k,D with
 | 0,_=>rfl
 | 1,_=>rfl
 | 2,_=>rfl
theorem Bz {n c:Nat} {l:List (List Int×List Int)} (h:Cv w ok (.slice A n c) l) (G:k<l.length):
  ∃b off s u1 u2,A=some ⟨b,off,none⟩/\ok b/\w.cell? ⟨b,off+k*3,none⟩=some (.string s)/\w.cell? ⟨b,off+k*3+1,none⟩=some u1/\w.cell? ⟨b,off+k*3+2,none⟩=some u2/\zg w ok u1 l[k].1/\zg w ok u2 l[k].2:=by
 obtain ⟨vs,⟨A',c',I,_,J,D⟩,he⟩:=h;injection I with e1 e2 e3;subst e1;obtain ⟨b,off,rfl,E,D⟩:=D (by omega);obtain ⟨s,u1,u2,h0,h1,h2,i1,i2⟩:=he k _ (Fw G);exact ⟨b,off,s,u1,u2,rfl,E,D _ _ h0,by rw [Nat.add_assoc];exact D _ _ h1,by rw [Nat.add_assoc];exact D _ _ h2,i1,i2⟩
structure CI (w wr:World) (cells:Array Value) (ints:Array Value):Prop where
 below:Below w.heap.size w wr
 box:ze wr w.heap.size 32 cells
 ints:ze wr (w.heap.size+1) 3 ints
theorem CI.call {wr w':World} (h:CI w wr c i) (D:Below wr.heap.size wr w'):CI w w' c i:=
 ⟨BH h.below D (Fy _),h.box.below D (zd h.box),h.ints.below D (zd h.ints)⟩
theorem CI.new (w:World) (c i:Array Value):CI w ((w.alloc (.cells c 32)).alloc (.cells i 3)) c i:=
 ⟨((Below.refl _ _).alloc (Fy _) _).alloc (by simp) _,ze.alloc (zax w _) _,by
  have:=zax (w.alloc (.cells c 32)) (.cells i 3);simpa [ze] using this⟩
theorem chk_side (h:[m.w,m.h,m.l].any side=true):AV m=2:=by
 unfold AV;rw [if_pos h]
structure CJ (w wr:World) (cells:Array Value) (g:Nat) (n:Int):Prop where
 below:Below w.heap.size w wr
 box:ze wr w.heap.size 32 cells
 all:wr.cell? ⟨g,0,none⟩=some (.int .i64 n)
theorem CJ.call {wr w':World} {n:Int} (h:CJ w wr c g n) (D:Below wr.heap.size wr w'):CJ w w' c g n:=
 ⟨BH h.below D (Fy _),h.box.below D (zd h.box),(En (D.block g (zo h.all))).trans h.all⟩
theorem CJ.new {w':World} (h:CI w w' c i) (n:Int):CJ w (w'.alloc (.cells #[.int .i64 n] 3)) c w'.heap.size n:=
 ⟨h.below.alloc (Nat.le_of_lt (zd h.box)) _,h.box.alloc _,by
  have:=zax w' (.cells #[.int .i64 n] 3);unfold World.cell?;simp only [this];rfl⟩
theorem CJ.alloc {w wr:World} {c:Array Value} {g:Nat} {n:Int} (h:CJ w wr c g n) (o:Obj):CJ w (wr.alloc o) c g n:=
 ⟨h.below.alloc (Nat.le_of_lt (zd h.box)) _,h.box.alloc _,(En (zad wr o g (zo h.all))).trans h.all⟩
theorem cells3 {t:TypeId} {a0 a1 a2:Value} (h:ze w g t #[a0,a1,a2]):
  w.cell? ⟨g,0,none⟩=some a0/\w.cell? ⟨g,1,none⟩=some a1/\w.cell? ⟨g,2,none⟩=some a2:=by
 unfold ze at h;unfold World.cell?;simp only [h];exact ⟨rfl,rfl,rfl⟩
theorem sides (h:[m.w,m.h,m.l].any side=false):(1<=m.w/\m.w<=300)/\(1<=m.h/\m.h<=300)/\(1<=m.l/\m.l<=300):=by
 simp [side] at h;omega
theorem sides_mul (h:[m.w,m.h,m.l].any side=false):(1<=m.w*m.h/\m.w*m.h<=90000)/\(1<=m.w*m.h*m.l/\m.w*m.h*m.l<=27000000):=by
 obtain ⟨⟨a1,a2⟩,⟨b1,b2⟩,c1,c2⟩:=sides h;have h1:1<=m.w*m.h:=by have:=Int.mul_pos (a:=m.w) (b:=m.h) (by omega) (by omega);omega
 have h2:m.w*m.h<=300*300:=Int.mul_le_mul a2 b2 (by omega) (by omega);have h3:1<=m.w*m.h*m.l:=by have:=Int.mul_pos (a:=m.w*m.h) (b:=m.l) (by omega) (by omega);omega
 have h4:m.w*m.h*m.l<=300*300*300:=Int.mul_le_mul h2 c2 (by omega) (by omega);omega
theorem BQ {v:Value} (w:World) (hm:zL w ok v m) (hl:Lens m):
  Calls Tryz.prog 62 #[v] w fun e w'=>e=.returned (.int .i64 (AV m))/\Below w.heap.size w w':=by
 have f4:=hm;obtain ⟨vfr,vup,vts,rfl,f1,g0,f8⟩:=hm;obtain ⟨vsf,⟨Af,cf,rfl,e9,d5⟩,c8⟩:=f1;obtain ⟨Au,cu,rfl,g8,f7⟩:=g0;obtain ⟨vst,⟨At,ct,rfl,f0,d6⟩,c9⟩:=f8;obtain ⟨l1,l2,l3,l4⟩:=hl;have e3:=zh d5;clear d5;have e0:=zh c8;clear c8;have e4:=zh d6;clear d6;have e1:=zh c9;clear c9;have e2:=zh l4;clear l4;clear f7 f4
 go_enter Tryz.func62,Tryz.ntmps62
 go_wp2;have b9:=CI.new w #[.int .i64 m.w,.int .i64 m.h,.int .i64 m.l,.slice Af m.free.length cf,.slice Au m.up.length cu,.slice At m.tasks.length ct] #[.int .i64 m.w,.int .i64 m.h,.int .i64 m.l];go_loopw [17] (fun i wr=>∃k:Nat,k<=3/\i=.int .i64 k/\Hid (([m.w,m.h,m.l].take k).any side=false)/\Hid (CI w wr #[.int .i64 m.w,.int .i64 m.h,.int .i64 m.l,.slice Af m.free.length cf,.slice Au m.up.length cu,.slice At m.tasks.length ct] #[.int .i64 m.w,.int .i64 m.h,.int .i64 m.l])) (fun i _=>3 - (intOf i).toNat)
 case atStart=>exact ⟨0,by omega,rfl,by simp [Hid],b9⟩
 clear b9
 case round=>
  obtain ⟨k,hk,rfl,U,hI⟩:=hrel;by_cases O:k<3
  ·obtain ⟨x,hx⟩:=zaI ([m.w,m.h,m.l][k]'O);have a9:=three_cells hI.out.ints k O;rw [<-hx] at a9;have E:=zh (BA (l:=[m.w,m.h,m.l]) side O);rw [<-hx] at E;have HX:=zh (show x∈[m.w,m.h,m.l] by rw [hx];exact Fz _);clear hx;by_cases h1:x<1
   ·go_wp2;go_ret;refine ⟨Bh ?_,hI.out.below⟩;rw [chk_side];exact zaE.2 ⟨x,HX.out,by simp [side,h1]⟩
   ·by_cases h2:300<x
    ·go_wp2;go_ret;refine ⟨Bh ?_,hI.out.below⟩;rw [chk_side];exact zaE.2 ⟨x,HX.out,by simp [side,h2]⟩
    ·have HS:=zh (show side x=false by simp [side,h1,h2]);go_wp2;go_roundw
     case rel=>exact ⟨k+1,by omega,by go_num,by
      show _=false;rw [E.out,U.out,HS.out];rfl,hI⟩
     case measure=>simp [intOf];omega
  ·obtain rfl:k=3:=by omega
   have HN:Hid ([m.w,m.h,m.l].any side=false):=U.out;clear U;obtain ⟨m0,m1,m2,m3,m4,m5⟩:=zt hI.out.box;obtain ⟨⟨p1,p2⟩,p3,p4⟩:=sides_mul HN.out
   have a0:300<m.n\/6<m.tasks.length->AV m=2:=by
    intro h;unfold AV;rw [if_neg (by rw [HN.out];simp),if_pos h]
   have b6:=zh a0;clear a0
   go_wp2_with fail
   refine (Bi _ _ _ _ _ _ _ (by omega) (by omega)).mono ?_;rintro e w' ⟨rfl,hb⟩;have D:=zh (hI.out.call hb);clear hI m0 m1 m2 m3 m4 m5 hb;have e5:∀o,_:=fun o=>zt (D.out.box.alloc o)
   by_cases U:300<m.w*m.h*m.l
   ·go_wp2;go_ret;exact ⟨Bh (b6.out (.inl U)).symm,D.out.below.alloc (Nat.le_of_lt (zd D.out.box)) _⟩
   by_cases ht:6<m.tasks.length
   ·go_wp2;go_ret;exact ⟨Bh (b6.out (.inr ht)).symm,D.out.below.alloc (Nat.le_of_lt (zd D.out.box)) _⟩
   have V:(m.free.length≠m.tasks.length\/(m.up.length:Int)≠m.n\/m.free.any (fun f=>(f.length:Int) != m.n)=true)->AV m=1:=by
    intro h;unfold AV;rw [if_neg (by rw [HN.out];simp),if_neg (by unfold MZ.n;omega),if_pos h]
   have a5:=zh V;clear V;by_cases hf:m.free.length=m.tasks.length
   case neg=>
    go_wp2;go_ret;exact ⟨Bh (a5.out (.inl hf)).symm,D.out.below.alloc (Nat.le_of_lt (zd D.out.box)) _⟩
   by_cases hu:(m.up.length:Int)=m.w*m.h*m.l
   case neg=>
    go_wp2;go_ret;exact ⟨Bh (a5.out (.inr (.inl hu))).symm,D.out.below.alloc (Nat.le_of_lt (zd D.out.box)) _⟩
   have a1:=zh (CJ.new D.out (m.w*m.h*m.l));have g9:w.heap.size<w'.heap.size:=zd D.out.box;clear D
   have b8:BG w ok (.slice Af m.tasks.length cf) m.free:=by
    rw [<-hf];exact ⟨vsf,⟨Af,cf,rfl,e9,e3.out⟩,e0.out⟩
   go_wp2_with fail
   refine (Ft (ok:=ok) 126 _ (fun f=>(f.length:Int) != m.w*m.h*m.l) _ (b8.below a1.out.below) l1 cf51 ?hp).mono ?_
   case hp=>exact fun x hx u hu w1 I=>check1_calls w'.heap.size _ w1 (hu.keep (I.same ok)) (a1.out.call (I.below _)).all
   rintro e w1 ⟨rfl,I⟩;have G:=zh (a1.out.call (I.below _));clear a1 I e5;by_cases ha:m.free.any (fun f=>(f.length:Int) != m.w*m.h*m.l)=true
   ·rw [ha];go_wp2;go_ret;exact ⟨Bh (a5.out (.inr (.inr ha))).symm,G.out.below⟩
   have a8:=zh (show m.free.any (fun f=>(f.length:Int) != m.w*m.h*m.l)=false by simpa using ha);clear ha;rw [a8.out];obtain ⟨m0,m1,m2,m3,m4,m5⟩:=zt G.out.box;have a7:Cv w ok (.slice At m.tasks.length ct) m.tasks:=⟨vst,⟨At,ct,rfl,f0,e4.out⟩,e1.out⟩
   go_wp2_with fail
   go_loopw [62] (fun i wr=>∃k:Nat,k<=m.tasks.length/\i=.int .i64 k/\Hid ((m.tasks.take k).any (fun t=>t.1.any (Ar m.n) || t.2.any (Ar m.n))=false)/\Hid (CJ w wr #[.int .i64 m.w,.int .i64 m.h,.int .i64 m.l,.slice Af m.free.length cf,.slice Au m.up.length cu,.slice At m.tasks.length ct] w'.heap.size (m.w*m.h*m.l))) (fun i _=>m.tasks.length - (intOf i).toNat)
   case atStart=>exact ⟨0,by omega,rfl,by simp [Hid],G⟩
   clear G m0 m1 m2 m3 m4 m5 b8
   case round=>
    obtain ⟨k,hk,rfl,U,hI⟩:=hrel;by_cases O:k<m.tasks.length
    ·obtain ⟨b,off,sn,u1,u2,rfl,_,g7,e7,e8,b0,b1⟩:=Bz (a7.below hI.out.below) O;obtain ⟨A1,c1,rfl,c6,f5⟩:=b0.open;obtain ⟨A2,c2,rfl,c7,f6⟩:=b1.open;obtain ⟨f2,f3⟩:=e2.out _ (Fz O);clear f5 f6;have b3:=zh b0;clear b0;have b4:=zh b1;clear b1;have g6:=zh a7;clear a7;obtain ⟨t,ht⟩:=zaI (m.tasks[k]);rw [<-ht] at b3 b4 e7 e8 c6 c7 f2 f3;have E:=zh (BA (fun t=>t.1.any (Ar m.n) || t.2.any (Ar m.n)) O);rw [<-ht] at E;have HM:=zh (show t∈m.tasks by rw [ht];exact Fz _);clear ht;have G:=zh (hI.out.alloc (.cells #[.string sn,.slice A1 t.1.length c1,.slice A2 t.2.length c2] 87));have a6:=zh (zax wr (.cells #[.string sn,.slice A1 t.1.length c1,.slice A2 t.2.length c2] 87))
     have a4:(t.1.any (Ar m.n) || t.2.any (Ar m.n))=true->AV m=50:=by
      intro h;unfold AV;rw [if_neg (by rw [HN.out];simp),if_neg (by unfold MZ.n;omega),if_neg (by unfold MZ.n;rw [a8.out];simp;omega),if_pos (zaE.2 ⟨t,HM.out,h⟩)]
     have a3:=zh a4;clear a4
     go_wp2_with fail
     refine (BC (ok:=ok) 127 _ (Ar (m.w*m.h*m.l)) _ (b3.out.below ((Below.refl _ _).alloc (Fy _) _)) (by omega) cf52 ?hp).mono ?_
     case hp=>exact fun x hx w1 I=>check2_calls w'.heap.size _ x w1 (G.out.call (I.below _)).all
     rintro e w4 ⟨rfl,I⟩;have a2:=zh (G.out.call (I.below _));have b7:Hid (ze w4 wr.heap.size 87 _):=ze.below a6.out (I.below _) (zd a6.out);have e6:Hid (Below wr.heap.size wr w4):=((Below.refl _ _).alloc (Fy _) _).trans (I.below _);clear I G a6;obtain ⟨q0,q1,q2⟩:=cells3 b7.out;by_cases J:t.1.any (Ar (m.w*m.h*m.l))=true
     ·rw [J];go_wp2;go_ret;exact ⟨Bh (a3.out (by show (t.1.any (Ar (m.w*m.h*m.l)) || _)=true;rw [J];rfl)).symm,a2.out.below⟩
     ·have J:t.1.any (Ar (m.w*m.h*m.l))=false:=by simpa using J
      rw [J];have d8:=zh J;clear J
      go_wp2_with fail
      refine (BC (ok:=ok) 127 _ (Ar (m.w*m.h*m.l)) _ (b4.out.below e6.out) (by omega) cf52 ?hp).mono ?_
      case hp=>exact fun x hx w1 I=>check2_calls w'.heap.size _ x w1 (a2.out.call (I.below _)).all
      rintro e w5 ⟨rfl,I⟩;have c0:=zh (a2.out.call (I.below _));clear I a2 b7 q0 q1 q2;by_cases M:t.2.any (Ar (m.w*m.h*m.l))=true
      ·rw [M];go_wp2;go_ret;exact ⟨Bh (a3.out (by show (_ || t.2.any (Ar (m.w*m.h*m.l)))=true;rw [M];simp)).symm,c0.out.below⟩
      ·have M:t.2.any (Ar (m.w*m.h*m.l))=false:=by simpa using M
       rw [M];have d9:=zh M;clear M
       go_wp2_with fail
       go_roundw
       case rel=>exact ⟨k+1,by omega,by go_num,by
        show _=false;rw [E.out,U.out];show (_ || (t.1.any (Ar (m.w*m.h*m.l)) || t.2.any (Ar (m.w*m.h*m.l))))=false;rw [d8.out,d9.out];rfl,c0⟩
       case measure=>simp [intOf];omega
    ·obtain rfl:k=m.tasks.length:=by omega
     go_wp2;go_ret;refine ⟨Bh ?_,hI.out.below⟩;have U:=U.out;rw [FJ] at U;unfold AV;rw [if_neg (by rw [HN.out];simp),if_neg (by unfold MZ.n;omega),if_neg (by unfold MZ.n;rw [a8.out];simp;omega),if_neg (by rw [U];simp)]
theorem setCells_nil (w:World) (b off:Nat):w.setCells b off []=w:=by
 unfold World.setCells;rfl
theorem Fk (w:World) (base:Nat) (t ty e:TypeId) (i:TypeInfo) (z:Value) (bytes:Nat) (ht:Tryz.prog.underlying t=some (.slice e)) (V:Tryz.prog.info? e=some i) (hz:i.zero=some z)
  (D:i.size=1) (O:i.bytes=bytes) (U:z.cells.size=1)
  (v:Value) (n:Nat) (xs:List Value) (I:w.ownsRow base e 1 v n xs) (u:Value) (m:Nat) (news:List Value) (hu:AS w ok 1 u m news) (h1:∀u∈news,u.oneCell'=true)
  (M:n+m<=maxLen) (E:(n+m)*bytes<=140737488355328) (J:base<=w.heap.size):
  ∃v' w',(Builtin.append_ #[t,t] ty #[v,u]).run Tryz.prog w=.ok v' w'/\w'.ownsRow base e 1 v' (n+m) (xs++news)/\w.grownBy w' v.ownBlock/\(v'.ownBlock=v.ownBlock\/v'.ownBlock=some w.heap.size):=by
 obtain ⟨A,c,rfl,hc,hl,G⟩:=hu;rcases A with _ | a
 ·have hm:m=0:=by
   rcases zav m with h | h
   ·exact h
   ·obtain ⟨b,off,e,_⟩:=G h;cases e
  subst hm;have hn:news=[]:=zac (by simpa using hl);subst hn;refine ⟨v,w,?_,by simpa using I,⟨rfl,rfl,rfl,Fy _,fun _ _ _=>rfl⟩,.inl rfl⟩;rcases I.2 with ⟨rfl,rfl⟩ | ⟨g,cap,cur,rfl,a6,hg,b0,a7,a8,a4⟩
  ·simp [Builtin.append_,run_underlying ht,sizeOf,typeInfo,V,D,Builtin.lenOf,Builtin.firstCells,loadCells,loadCellsFrom]
  ·have h:=run_append_room_src (P:=Tryz.prog) w t t ty e i ht V g 0 n cap (.slice none 0 c) 0 [] (by rw [D];exact Src.ofNil w ht c) (by omega) (by simp) (by simp);rw [setCells_nil] at h;simpa using h
 ·rcases zav m with h0 | hpos
  ·subst h0;have hn:news=[]:=zac (by simpa using hl);subst hn;obtain ⟨v',w',h1,h2,h3,h4,h5⟩:=run_append_own_at (P:=Tryz.prog) w base t ty e i z 1 bytes ht V hz D O U (by decide) v n xs I a 0 c [] (by simp) (by simp) (by simp) M E J;exact ⟨v',w',h1,h2,h3,h5⟩
  ·obtain ⟨b,off,he,_,a1⟩:=G hpos;injection he with he;subst he;obtain ⟨v',w',h1,h2,h3,h4,h5⟩:=run_append_own_at (P:=Tryz.prog) w base t ty e i z 1 bytes ht V hz D O U (by decide) v n xs I ⟨b,off,none⟩ m c news (by simpa using hl) (fun j u hj=>by rw [Addr.add_lit];exact a1 j u hj) h1 M E J;exact ⟨v',w',h1,h2,h3,h5⟩
theorem Dg (W:World) (s x:Operand)
  (V:o.op=.call { callee:=.builtin .append,args:=#[s,x],argTypes:=#[23,23] }) (base:Nat) (l l2:List Int) (v u:Value) (hs:a.eval s=v) (hx:a.eval x=u)
  (E:zQ W base v l) (G:zg W ok u l2) (D:base<=W.heap.size) (hl:l.length+l2.length<=1000000000000)
  (h:∀v' w',zQ w' base v' (l++l2)->Hid (W.grownBy w' v.ownBlock)->Hid (v'.ownBlock=v.ownBlock\/v'.ownBlock=some W.heap.size)->K (a.put o.dst v') w'):Oper.wp Tryz.prog o a W K Q:=by
 obtain ⟨i0,U,I,J,M⟩:=info_parts Tryz.infoInt
 obtain ⟨v',w',hr,h2,h3,O⟩:=Fk (ok:=ok) W base 23 o.type 3 i0 (.int .i64 0) 8 Tryz.underlying23 U I J M rfl v _ _ E u _ _ G (by
  intro u G;obtain ⟨_,_,rfl⟩:=zaA.1 G;rfl) (by unfold maxLen;omega) (by omega) D
 unfold Oper.wp execOp;simp only [V,resolve,invoke,builtin,Sem.run_bind,Sem.run_pure,Result.andThen_ok,List.map_toArray,List.map_cons,List.map_nil,hs,hx,hr];refine h v' w' ?_ h3 O;unfold zQ;rw [za2,FG];exact h2
theorem zE {E:Prop} (I:o.guard=none) (W:World) (s x:Operand)
  (M:o.op=.call { callee:=.builtin .append,args:=#[s,x],argTypes:=#[23,23] }) (base:Nat) (l l2:List Int) (v u:Value) (O:a.eval s=v) (hx:a.eval x=u)
  (G:zQ W base v l) (U:zg W ok u l2) (D:base<=W.heap.size) (J:l.length+l2.length<=1000000000000)
  (h:∀v' w',zQ w' base v' (l++l2)->Hid (W.grownBy w' v.ownBlock)->Hid (v'.ownBlock=v.ownBlock\/v'.ownBlock=some W.heap.size)->K (a.put o.dst v') w'):
  if Region.wanted o (yielded ops a.tmps)=true then Oper.wp Tryz.prog o a W K Q else E:=by
 have V:Region.wanted o (yielded ops a.tmps)=true:=by simp [Region.wanted,I]
 rw [if_pos V];exact Dg W s x M base l l2 v u O hx G U D J h
theorem Cb {rest:List Oper} (G:o.guard=none) (W:World) (s x:Operand)
  (M:o.op=.call { callee:=.builtin .append,args:=#[s,x],argTypes:=#[23,23] }) (base:Nat) (l l2:List Int) (v u:Value) (O:a.eval s=v) (V:a.eval x=u)
  (E:zQ W base v l) (U:zg W ok u l2) (D:base<=W.heap.size) (J:l.length+l2.length<=1000000000000)
  (h:∀v' w',zQ w' base v' (l++l2)->Hid (W.grownBy w' v.ownBlock)->Hid (v'.ownBlock=v.ownBlock\/v'.ownBlock=some W.heap.size)->wpList Tryz.prog ops Q rest (a.put o.dst v') w'):wpList Tryz.prog ops Q (o :: rest) a W:=by
 refine wpList_plain G fun K I=>?_
 exact Dg W s x M base l l2 v u O V E U D J fun v' w' h1 h2 h3=>I _ _ (h v' w' h1 h2 h3)
theorem Ad {B:Nat} {v:Value} {l:List Int} (h:zQ W B v l) (D:v.ownBlock=some k):B<=k:=by
 rcases h.2 with ⟨rfl,_⟩ | ⟨g,cap,cur,rfl,E,_⟩
 ·cases D
 ·have D:some g=some k:=D;injection D with D;omega
theorem Bw (W:World) (B:Nat) (D:B<=W.heap.size):zQ (W.alloc (.cells #[] 3)) B (.slice (some ⟨W.heap.size,0,none⟩) 0 0) []:=
 ⟨rfl,.inr ⟨W.heap.size,0,#[],rfl,D,zax W _,Fy _,by decide,rfl,rfl⟩⟩
theorem zK {B:Nat} {a w':World} {v:Value} (h:Below B a W) (E:Hid (W.grownBy w' v.ownBlock)) (D:B<=W.heap.size) (G:∀k,v.ownBlock=some k->B<=k):Below B a w':=h.grown E.out D G
def za (w w':World):Prop:=Below w.heap.size w w'
theorem za.refl (w:World):za w w:=Below.refl _ _
theorem za.trans {a c:World} (h:za a b) (D:za b c):za a c:=BH h D (Fy _)
theorem za.alloc {a b:World} (h:za a b) (o:Obj):za a (b.alloc o):=Below.alloc h h.size o
theorem za.drew {a b:World} (h:za a b):za a b.drew:=Below.drew h
theorem za.drewN {a b:World} (h:za a b) (n:Nat):za a (b.drewN n):=Du h n
theorem za.cell {w W:World} {p:Addr} {v:Value} (h:w.cell? p=some v) (hW:za w W):W.cell? p=some v:=(Below.cell hW (zo h)).trans h
theorem za.rule {p:Addr} {v:Value} (h:w.cell? p=some v):∀W,za w W->W.cell? p=some v:=fun _ hW=>hW.cell h
theorem za.lt (h:za w W) (D:g<w.heap.size):g<W.heap.size:=zam D h.size
theorem Dn (w:World):∀W o,za w W->za w (W.alloc o):=fun _ o h=>h.alloc o
structure Mk (w1 w:World) (v:Value) (l:List Int):Prop where
 own:zQ w w1.heap.size v l
 ext:za w1 w
theorem Mk.nil (w1:World):Mk w1 w1 (.slice none 0 0) []:=⟨World.ownsRow_nil _ _ _ _,za.refl _⟩
theorem Mk.nil' {w1:World} (h:za w1 w):Mk w1 w (.slice none 0 0) []:=⟨World.ownsRow_nil _ _ _ _,h⟩
theorem Mk.app {w1 w':World} {v:Value} {l:List Int} (h:Mk w1 w v l) (G:zQ w' w1.heap.size v' l') (D:Hid (w.grownBy w' v.ownBlock)):Mk w1 w' v' l':=
 ⟨G,zK h.ext D h.ext.size (fun k E=>Ad h.own E)⟩
theorem Mk.more {w1 w':World} {v:Value} {l:List Int} (h:Mk w1 w v l) (D:za w w'):Mk w1 w' v l:=
 ⟨h.own.kept (row:=none) ⟨D.os,D.tape,D.output,D.size,fun i E _=>D.block i E⟩ (by cases h:v.ownBlock <;> simp),h.ext.trans D⟩
theorem Mk.alloc {w1 w:World} {v:Value} {l:List Int} (h:Mk w1 w v l) (o:Obj):Mk w1 (w.alloc o) v l:=h.more ((za.refl _).alloc o)
theorem Mk.drew {w1 w:World} {v:Value} {l:List Int} (h:Mk w1 w v l):Mk w1 w.drew v l:=⟨h.own,h.ext.drew⟩
theorem Mk.drewN {w1 w:World} {v:Value} {l:List Int} (h:Mk w1 w v l) (n:Nat):Mk w1 (w.drewN n) v l:=⟨h.own,h.ext.drewN n⟩
theorem Mk.cast {w1:World} {v:Value} {l:List Int} (h:Mk w1 w v l) (e:l'=l):Mk w1 w v l':=e ▸ h
theorem Mk.ints {w1:World} {v:Value} {l:List Int} (h:Mk w1 w v l):zg w (fun b=>w1.heap.size<=b) v l:=AS.of_own h.own
theorem Mk.slice {w1 w:World} {v:Value} {l:List Int} (h:Mk w1 w v l):∃A c,v=.slice A l.length c/\l.length<=c:=by
 obtain ⟨A,c,e,D,_⟩:=h.ints;exact ⟨A,c,e,D⟩
theorem za.mono_mk {w1 w':World} {v:Value} {l:List Int} (h:za w w1) (hm:Mk w1 w' v l):Mk w w' v l:=⟨hm.own.mono h.size,h.trans hm.ext⟩
theorem held_ext {w1 a:World} (h:za w1 a/\za wk a) (D:Below a.heap.size a b):za w1 b/\za wk b:=⟨h.1.trans D,h.2.trans D⟩
theorem Ep {w1:World} (h:za w1 wk):za w1 wk.drew/\za wk wk.drew:=⟨h.drew,(za.refl wk).drew⟩
theorem Bl {B:Nat} {v:Value} {l:List Int} (h:zQ w B v l):∃A c,v=.slice A l.length c/\l.length<=c:=by
 obtain ⟨A,c,e,D,_⟩:=AS.of_own h;exact ⟨A,c,e,D⟩
theorem own_at {B n c:Nat} {l:List Int} (h:zQ w B (.slice A n c) l) (E:k<l.length):∃b,A=some ⟨b,0,none⟩/\B<=b/\w.cell? ⟨b,k,none⟩=some (.int .i64 l[k]):=by
 obtain ⟨g,cap,I,D,G⟩:=World.ownsRow.form h (by omega);injection I with h1 h2 h3;subst h1 h2 h3;refine ⟨g,rfl,D,?_⟩;rw [World.ownsRow.cellAt h k (by omega)];simp [E]
theorem zy (W:World) (v:Value) (t:TypeId) (h:g=W.heap.size):(W.alloc (.cells #[v] t)).cell? ⟨g,0,none⟩=some v:=by
 subst h;unfold World.cell?;simp only [zax];rfl
end
section
open Go.RowKit Go.Shelf
def sStr_ren:Go.Shelf.Ren:=⟨fun | 169=>86 | n=>n,fun | 70=>132 | 9=>9 | 0=>0 | 72=>134 | 37=>76 | 127=>208 | 3=>3 | 5=>5 | n=>n,fun | n=>n⟩
theorem sStr:Go.Proofs.Lays.n169 Tryz.prog sStr_ren:=by
 constructor
 iterate 4 (all_goals first | kernel_rfl | (intro _;kernel_rfl) | exact ⟨_,by decide,by kernel_rfl⟩ | constructor)
def sItoa_ren:Go.Shelf.Ren:=⟨fun | 171=>107 | 243=>168 | 246=>216 | 283=>230 | 284=>231 | 285=>232 | 286=>233 | 129=>242 | 317=>241 | 318=>243 | 319=>244 | 320=>245 | 337=>259 | 338=>260 | n=>n,fun | 3=>3 | 9=>9 | 2=>2 | 4=>4 | 171=>256 | 0=>0 | 53=>252 | 37=>76 | 5=>5 | 173=>259 | 212=>267 | 51=>268 | 20=>20 | 213=>269 | 46=>226 | 232=>291 | 233=>292 | n=>n,fun | 17=>0 | 18=>1 | 19=>2 | n=>n⟩
theorem sItoa:Go.Proofs.LaysM.n171 Tryz.prog sItoa_ren:=by
 constructor
 iterate 4 (all_goals first | kernel_rfl | (intro _;kernel_rfl) | exact ⟨_,by decide,by kernel_rfl⟩ | constructor)
def sAtoi_ren:Go.Shelf.Ren:=⟨fun | 172=>235 | 244=>247 | 245=>248 | 247=>262 | 279=>263 | 280=>264 | 281=>265 | 282=>266 | 287=>277 | 316=>237 | 171=>107 | 205=>278 | 321=>282 | 322=>283 | 243=>168 | 246=>216 | 283=>230 | 284=>231 | 285=>232 | 286=>233 | 129=>242 | 317=>241 | 318=>243 | 319=>244 | 320=>245 | 337=>259 | 338=>260 | n=>n,fun | 9=>9 | 3=>3 | 75=>136 | 76=>137 | 4=>4 | 5=>5 | 167=>279 | 37=>76 | 0=>0 | 85=>280 | 2=>2 | 168=>282 | 53=>252 | 175=>294 | 46=>226 | 210=>297 | 127=>208 | 145=>308 | 143=>306 | 21=>21 | 171=>256 | 173=>259 | 212=>267 | 51=>268 | 20=>20 | 213=>269 | 232=>291 | 233=>292 | 80=>144 | n=>n,fun | 15=>4 | 16=>5 | 17=>0 | 18=>1 | 19=>2 | n=>n⟩
theorem sAtoi:Go.Proofs.LaysC.n172 Tryz.prog sAtoi_ren:=by
 constructor
 iterate 4 (all_goals first | kernel_rfl | (intro _;kernel_rfl) | exact ⟨_,by decide,by kernel_rfl⟩ | constructor)
def sIdx_ren:Go.Shelf.Ren:=⟨fun | 219=>261 | 217=>273 | 225=>274 | 224=>275 | 267=>276 | 266=>280 | 314=>281 | n=>n,fun | 9=>9 | 3=>3 | 4=>4 | 5=>5 | 46=>226 | 146=>302 | 51=>268 | n=>n,fun | 1=>3 | n=>n⟩
theorem sIdx:Go.Proofs.Lays.n219 Tryz.prog sIdx_ren:=by
 constructor
 iterate 4 (all_goals first | kernel_rfl | (intro _;kernel_rfl) | exact ⟨_,by decide,by kernel_rfl⟩ | constructor)
theorem sExt:Builder.Extra Tryz.prog sStr_ren:=by
 constructor
 iterate 4 (all_goals first | kernel_rfl | (intro _;kernel_rfl) | decide | constructor)
end
section
open Go.RowKit
theorem ap_t {c:Bool} (h:c=true) (x:Int) (l:List Int):ap c x l=l++[x]:=by rw [h];rfl
theorem ap_f {c:Bool} (h:c=false) (x:Int) (l:List Int):ap c x l=l:=by rw [h];rfl
theorem Fj {v:Value} (m:MZ) (node:Int) (w:World) (hm:zL w ok v m) (d:Dim m) (h0:0<=node) (h1:node<m.w*m.h*m.l):
  Calls Tryz.prog 165 #[v,.int .i64 node] w fun e w'=>∃v',e=.returned v'/\Below w.heap.size w w'/\w'.ownsRow w.heap.size 3 1 v' (zp m node).length ((zp m node).map (Value.int .i64)):=by
 obtain ⟨f,u,t,rfl,_,hu,_⟩:=hm;obtain ⟨A,c,rfl,c0,b6⟩:=hu;have hl:=d.layer;obtain ⟨a4,a5⟩:=hl;obtain ⟨dw1,dw2,c6,c7,ll1,ll2,n1,b5⟩:=d;obtain ⟨W,H,L,fr,up,ts⟩:=m;simp only at*;have HU:=zh b6;clear b6;have a9:=zh b5;clear b5
 go_enter Tryz.func165,Tryz.ntmps165
 have d5:0<=node / W:=Int.ediv_nonneg h0 (by omega);have d6:node / W<=node:=Int.ediv_le_self _ h0
 go_wp2_with fail
 go_quiet (fail)
 have d7:0<=node / W % H:=Int.emod_nonneg _ (by omega);have d8:node / W % H<H:=Int.emod_lt_of_pos _ (by omega);have d9:0<=node % W:=Int.emod_nonneg _ (by omega);have e0:node % W<W:=Int.emod_lt_of_pos _ (by omega);generalize a6:((w.alloc (.cells #[.int .i64 W,.int .i64 H,.int .i64 L,f,.slice A up.length c,t] 32)).drewN nq)=w1;have a3:za w w1:=by rw [<-a6];exact ((za.refl w).alloc _).drewN _
 have b1:ze w1 w.heap.size 32 #[.int .i64 W,.int .i64 H,.int .i64 L,f,.slice A up.length c,t]:=by rw [<-a6];exact zax _ _
 have a8:=zh (HU.out.keep (Ao.of_below a3):Ba w1 ok 1 A up.length (up.map Value.bool));clear a6 HU;have a7:=zh a3;clear a3;obtain ⟨m0,m1,m2,m3,m4,m5⟩:=zt b1;have r0:=za.rule m0;have r1:=za.rule m1;have r2:=za.rule m2;have r3:=za.rule m3;have r4:=za.rule m4;have r5:=za.rule m5;clear m0 m1 m2 m3 m4 m5 b1;have ra:=Dn w1;have V:za w1 w1:=za.refl w1;have D:=zh (Mk.nil w1);obtain ⟨c1,M⟩:∃b,b=(decide (W*H<=node) && up.getD (node - W*H).toNat false):=⟨_,rfl⟩;obtain ⟨c2,b0⟩:∃b,b=(decide (node+W*H<W*H*L) && up.getD node.toNat false):=⟨_,rfl⟩;have a0:=zh M;clear M;have a1:=zh b0;clear b0;go_upto_region 5 with fail;go_cut [36] (fun s wx=>s=.bool c1/\w1=wx)
 case first=>
  by_cases hp:W*H<=node
  ·have U:(node - W*H).toNat<up.length:=by have:=a9.out;omega
   obtain ⟨b,off,rfl,_,M⟩:=BS a8.out U U;have J:up[(node - W*H).toNat]=c1:=(a0.out.trans (by simp [hp,U])).symm;rw [J] at M;have rc:=za.rule M;clear M J
   go_wp2_with fail
   go_meet
   case rel=>exact ⟨rfl,rfl⟩
  ·have J:c1=false:=a0.out.trans (by simp [hp]);have a2:=zh J;clear J
   go_wp2_with fail
   go_meet
   case rel=>exact ⟨by rw [a2.out],rfl⟩
 case rest=>
 obtain ⟨rfl,rfl⟩:=hcut
 go_upto_if 36 with fail
 go_cut [5] (fun s wx=>Hid (Mk w1 wx s (ap c1 (node - W*H) [])))
 case first=>
  obtain rfl | rfl:c1=true\/c1=false:=by cases c1 <;> simp
  ·skip
   have hz:w1.heap.size<=w1.heap.size:=V.size
   go_wp2_with (at_builtin;refine AZ rfl _ _ rfl _ [] (node - W*H) w1.heap.size w1.heap.size 1 _ rfl rfl (D.out.own.alloc _) ?d1 ?d2 ?d3 ?_)
   (try case d1=>simp)
   case d2=>(first | (simp;done) | (simp;omega) | omega)
   case d3=>exact FA (show [].length<=0 from Fy _) (by omega)
   intro v' wb G E _;have I:=zh ((D.out.alloc _).app G E);clear G E
   go_wp2_with fail
   go_meet
   case rel=>exact I.out.cast (ap_t (by rfl) _ _)
  ·skip
   go_wp2_with fail
   go_meet
   case rel=>exact D.out.cast (ap_f (by rfl) _ _)
 case rest=>
 have D:=hcut;clear hcut;have V:za w1 wc:=D.out.ext;have a4:(ap c1 (node - W*H) []).length<=1:=FA (ap_len _ _ _) (Nat.succ_le_succ (FN _));obtain ⟨wp,rfl⟩:∃wp:World,wp=wc:=⟨_,rfl⟩
 go_upto_if 44 with fail
 go_cut [5] (fun s wx=>Hid (Mk w1 wx s (ap (decide (0<node / W % H)) (node - W) (ap c1 (node - W*H) []))))
 case first=>
  by_cases hp:0<node / W % H
  ·have HP:=zh hp;have hz:w1.heap.size<=wp.heap.size:=V.size
   go_wp2_with (at_builtin;refine AZ rfl _ _ rfl _ (ap c1 (node - W*H) []) (node - W) w1.heap.size wp.heap.size 1 _ rfl rfl (D.out.own.alloc _) ?d1 ?d2 ?d3 ?_)
   (try case d1=>simp)
   case d2=>(first | (simp;done) | (simp;omega) | omega)
   case d3=>exact FA (show (ap c1 (node - W*H) []).length<=1 from a4) (by omega)
   intro v' wb G E _;have I:=zh ((D.out.alloc _).app G E);clear G E
   go_wp2_with fail
   go_meet
   case rel=>exact I.out.cast (ap_t (by exact FB HP.out) _ _)
  ·have HP:=zh hp
   go_wp2_with fail
   go_meet
   case rel=>exact D.out.cast (ap_f (by exact FC (by have:=HP.out;omega)) _ _)
 case rest=>
 have D:=hcut;clear hcut;have V:za w1 wc:=D.out.ext;have a5:(ap (decide (0<node / W % H)) (node - W) (ap c1 (node - W*H) [])).length<=2:=FA (ap_len _ _ _) (Nat.succ_le_succ a4);obtain ⟨wp,rfl⟩:∃wp:World,wp=wc:=⟨_,rfl⟩
 go_upto_if 53 with fail
 go_cut [5] (fun s wx=>Hid (Mk w1 wx s (ap (decide (0<node % W)) (node - 1) (ap (decide (0<node / W % H)) (node - W) (ap c1 (node - W*H) [])))))
 case first=>
  by_cases hp:0<node % W
  ·have HP:=zh hp;have hz:w1.heap.size<=wp.heap.size:=V.size
   go_wp2_with (at_builtin;refine AZ rfl _ _ rfl _ (ap (decide (0<node / W % H)) (node - W) (ap c1 (node - W*H) [])) (node - 1) w1.heap.size wp.heap.size 1 _ rfl rfl (D.out.own.alloc _) ?d1 ?d2 ?d3 ?_)
   (try case d1=>simp)
   case d2=>(first | (simp;done) | (simp;omega) | omega)
   case d3=>exact FA (show (ap (decide (0<node / W % H)) (node - W) (ap c1 (node - W*H) [])).length<=2 from a5) (by omega)
   intro v' wb G E _;have I:=zh ((D.out.alloc _).app G E);clear G E
   go_wp2_with fail
   go_meet
   case rel=>exact I.out.cast (ap_t (by exact FB HP.out) _ _)
  ·have HP:=zh hp
   go_wp2_with fail
   go_meet
   case rel=>exact D.out.cast (ap_f (by exact FC (by have:=HP.out;omega)) _ _)
 case rest=>
 have D:=hcut;clear hcut;have V:za w1 wc:=D.out.ext;have b2:(ap (decide (0<node % W)) (node - 1) (ap (decide (0<node / W % H)) (node - W) (ap c1 (node - W*H) []))).length<=3:=FA (ap_len _ _ _) (Nat.succ_le_succ a5);obtain ⟨wp,rfl⟩:∃wp:World,wp=wc:=⟨_,rfl⟩
 go_upto_if 63 with fail
 go_cut [5] (fun s wx=>Hid (Mk w1 wx s (ap (decide (node % W+1<W)) (node+1) (ap (decide (0<node % W)) (node - 1) (ap (decide (0<node / W % H)) (node - W) (ap c1 (node - W*H) []))))))
 case first=>
  by_cases hp:node % W+1<W
  ·have HP:=zh hp;have hz:w1.heap.size<=wp.heap.size:=V.size
   go_wp2_with (at_builtin;refine AZ rfl _ _ rfl _ (ap (decide (0<node % W)) (node - 1) (ap (decide (0<node / W % H)) (node - W) (ap c1 (node - W*H) []))) (node+1) w1.heap.size wp.heap.size 1 _ rfl rfl (D.out.own.alloc _) ?d1 ?d2 ?d3 ?_)
   (try case d1=>simp)
   case d2=>(first | (simp;done) | (simp;omega) | omega)
   case d3=>exact FA (show (ap (decide (0<node % W)) (node - 1) (ap (decide (0<node / W % H)) (node - W) (ap c1 (node - W*H) []))).length<=3 from b2) (by omega)
   intro v' wb G E _;have I:=zh ((D.out.alloc _).app G E);clear G E
   go_wp2_with fail
   go_meet
   case rel=>exact I.out.cast (ap_t (by exact FB HP.out) _ _)
  ·have HP:=zh hp
   go_wp2_with fail
   go_meet
   case rel=>exact D.out.cast (ap_f (by exact FC (by have:=HP.out;omega)) _ _)
 case rest=>
 have D:=hcut;clear hcut;have V:za w1 wc:=D.out.ext;have b3:(ap (decide (node % W+1<W)) (node+1) (ap (decide (0<node % W)) (node - 1) (ap (decide (0<node / W % H)) (node - W) (ap c1 (node - W*H) [])))).length<=4:=FA (ap_len _ _ _) (Nat.succ_le_succ b2);obtain ⟨wp,rfl⟩:∃wp:World,wp=wc:=⟨_,rfl⟩
 go_upto_if 73 with fail
 go_cut [5] (fun s wx=>Hid (Mk w1 wx s (ap (decide (node / W % H+1<H)) (node+W) (ap (decide (node % W+1<W)) (node+1) (ap (decide (0<node % W)) (node - 1) (ap (decide (0<node / W % H)) (node - W) (ap c1 (node - W*H) [])))))))
 case first=>
  by_cases hp:node / W % H+1<H
  ·have HP:=zh hp;have hz:w1.heap.size<=wp.heap.size:=V.size
   go_wp2_with (at_builtin;refine AZ rfl _ _ rfl _ (ap (decide (node % W+1<W)) (node+1) (ap (decide (0<node % W)) (node - 1) (ap (decide (0<node / W % H)) (node - W) (ap c1 (node - W*H) [])))) (node+W) w1.heap.size wp.heap.size 1 _ rfl rfl (D.out.own.alloc _) ?d1 ?d2 ?d3 ?_)
   (try case d1=>simp)
   case d2=>(first | (simp;done) | (simp;omega) | omega)
   case d3=>exact FA (show (ap (decide (node % W+1<W)) (node+1) (ap (decide (0<node % W)) (node - 1) (ap (decide (0<node / W % H)) (node - W) (ap c1 (node - W*H) [])))).length<=4 from b3) (by omega)
   intro v' wb G E _;have I:=zh ((D.out.alloc _).app G E);clear G E
   go_wp2_with fail
   go_meet
   case rel=>exact I.out.cast (ap_t (by exact FB HP.out) _ _)
  ·have HP:=zh hp
   go_wp2_with fail
   go_meet
   case rel=>exact D.out.cast (ap_f (by exact FC (by have:=HP.out;omega)) _ _)
 case rest=>
 have D:=hcut;clear hcut;have V:za w1 wc:=D.out.ext;have b4:(ap (decide (node / W % H+1<H)) (node+W) (ap (decide (node % W+1<W)) (node+1) (ap (decide (0<node % W)) (node - 1) (ap (decide (0<node / W % H)) (node - W) (ap c1 (node - W*H) []))))).length<=5:=FA (ap_len _ _ _) (Nat.succ_le_succ b3);obtain ⟨wp,rfl⟩:∃wp:World,wp=wc:=⟨_,rfl⟩;go_upto_region 15 with fail;go_cut [93] (fun s wx=>s=.bool c2/\Hid (za wp wx))
 case first=>
  by_cases hp:node+W*H<W*H*L
  ·have U:node.toNat<up.length:=by have:=a9.out;omega
   obtain ⟨b,off,rfl,_,M⟩:=BS a8.out U U;have J:up[node.toNat]=c2:=(a1.out.trans (by simp [hp,U])).symm;rw [J] at M;have rc:=za.rule M;clear M J
   go_wp2_with fail
   refine (AB W H L _ _ _ _ (by omega) (by omega)).mono ?_;rintro e kn ⟨rfl,O⟩;have b8:za w1 kn:=V.trans O
   go_wp2_with fail
   go_meet
   case rel=>exact ⟨rfl,O⟩
  ·have J:c2=false:=a1.out.trans (by simp [hp]);have a2:=zh J;clear J
   go_wp2_with fail
   refine (AB W H L _ _ _ _ (by omega) (by omega)).mono ?_;rintro e kn ⟨rfl,O⟩;have b8:za w1 kn:=V.trans O
   go_wp2_with fail
   go_meet
   case rel=>exact ⟨by rw [a2.out],O⟩
 case rest=>
 obtain ⟨rfl,O⟩:=hcut;have D:=zh (D.out.more O.out);have V:za w1 wc:=D.out.ext;obtain ⟨wp,rfl⟩:∃wp:World,wp=wc:=⟨_,rfl⟩
 go_upto_if 93 with fail
 go_cut [5] (fun s wx=>Hid (Mk w1 wx s (ap c2 (node+W*H) (ap (decide (node / W % H+1<H)) (node+W) (ap (decide (node % W+1<W)) (node+1) (ap (decide (0<node % W)) (node - 1) (ap (decide (0<node / W % H)) (node - W) (ap c1 (node - W*H) []))))))))
 case first=>
  obtain rfl | rfl:c2=true\/c2=false:=by cases c2 <;> simp
  ·skip
   have hz:w1.heap.size<=wp.heap.size:=V.size
   go_wp2_with (at_builtin;refine AZ rfl _ _ rfl _ (ap (decide (node / W % H+1<H)) (node+W) (ap (decide (node % W+1<W)) (node+1) (ap (decide (0<node % W)) (node - 1) (ap (decide (0<node / W % H)) (node - W) (ap c1 (node - W*H) []))))) (node+W*H) w1.heap.size wp.heap.size 1 _ rfl rfl (D.out.own.alloc _) ?d1 ?d2 ?d3 ?_)
   (try case d1=>simp)
   case d2=>(first | (simp;done) | (simp;omega) | omega)
   case d3=>exact FA (show (ap (decide (node / W % H+1<H)) (node+W) (ap (decide (node % W+1<W)) (node+1) (ap (decide (0<node % W)) (node - 1) (ap (decide (0<node / W % H)) (node - W) (ap c1 (node - W*H) []))))).length<=5 from b4) (by omega)
   intro v' wb G E _;have I:=zh ((D.out.alloc _).app G E);clear G E
   go_wp2_with fail
   go_meet
   case rel=>exact I.out.cast (ap_t (by rfl) _ _)
  ·skip
   go_wp2_with fail
   go_meet
   case rel=>exact D.out.cast (ap_f (by rfl) _ _)
 case rest=>
 have D:=hcut;clear hcut;have V:za w1 wc:=D.out.ext;have c9:(ap c2 (node+W*H) (ap (decide (node / W % H+1<H)) (node+W) (ap (decide (node % W+1<W)) (node+1) (ap (decide (0<node % W)) (node - 1) (ap (decide (0<node / W % H)) (node - W) (ap c1 (node - W*H) [])))))).length<=6:=FA (ap_len _ _ _) (Nat.succ_le_succ b4);obtain ⟨wp,rfl⟩:∃wp:World,wp=wc:=⟨_,rfl⟩
 go_wp2_with fail
 go_ret;refine ⟨_,rfl,BH a7.out D.out.ext (Fy _),?_⟩;exact next_fin (D.out.own.mono a7.out.size) (next_eq ⟨W,H,L,fr,up,ts⟩ node c1 c2 a0.out a1.out)
end
section
open Go.RowKit
attribute [local go_sem ↓] Go.wp_at_zero Go.wp_at_succ
theorem Tryz.infoBool:(Tryz.prog.info? 4).map (fun i=>(i.zero,i.size,i.bytes))=some (some (.bool false),1,1):=by kernel_rfl
def memF (s:List Int) (i:Nat):Value:=.bool (decide ((i:Int)∈s))
open Classical in
noncomputable def Cq (m:MZ) (t:Nat) (from_ used:List Int):List Int:=((List.range m.n.toNat).map Int.ofNat).filter (fun x=>decide (RP m t from_ used x))
theorem reachL_of {s:List Int} (h:∀x,x∈s↔RP m t from_ used x):((List.range m.n.toNat).map Int.ofNat).filter (fun x=>decide (x∈s))=Cq m t from_ used:=by
 unfold Cq;apply List.filter_congr;intro x _;rw [decide_eq_decide];exact h x
theorem CN (d:Dim m):x∈Cq m t from_ used↔RP m t from_ used x:=by
 unfold Cq;simp only [za9,zaA,zaB,FI];constructor
 ·rintro ⟨_,h⟩;exact h
 ·intro h;have D:=h.range d;exact ⟨⟨x.toNat,by omega,by simp;omega⟩,h⟩
structure QR (w1 wr:World) (gi gt n:Nat) (s tk:List Int) (v:Value) (todo:List Int):Prop where
 ext:za w1 wr
 hi:w1.heap.size<=gi
 lt:gi<gt
 inn:wr.rowIs gi 4 n (memF s)
 tak:wr.rowIs gt 4 n (memF tk)
 own:zQ wr (gt+1) v todo
section
variable {w1 wr w':World} {gi gt n:Nat} {s tk todo:List Int} {v:Value}
theorem memF_more {s:List Int} {n:Nat} (h:¬ (0<=x/\x<n)) (D:j<n):memF s j=memF (s++[x]) j:=by
 unfold memF;congr 1;rw [decide_eq_decide,za0,zar];constructor
 ·exact .inl
 ·rintro (h1 | h1)
  ·exact h1
  ·omega
theorem memF_set {s:List Int} (h:0<=x) (j:Nat):(if j=x.toNat then Value.bool true else memF s j)=memF (s++[x]) j:=by
 unfold memF;by_cases D:j=x.toNat
 ·rw [if_pos D];congr 1;symm;rw [FI,za0,zar]
  right;omega
 ·rw [if_neg D];congr 1;rw [decide_eq_decide,za0,zar];constructor
  ·exact .inl
  ·rintro (h1 | h1)
   ·exact h1
   ·omega
theorem QR.more (h:QR w1 wr gi gt n s tk v todo) (D:za wr w'):QR w1 w' gi gt n s tk v todo:=
 ⟨h.ext.trans D,h.hi,h.lt,h.inn.of_block (D.block _ h.inn.lt),h.tak.of_block (D.block _ h.tak.lt),
  h.own.kept (row:=none) ⟨D.os,D.tape,D.output,D.size,fun i E _=>D.block i E⟩ (by cases h:v.ownBlock <;> simp)⟩
theorem QR.setI (h:QR w1 wr gi gt n s tk v todo) (D:0<=x):QR w1 (wr.setCell ⟨gi,x.toNat,none⟩ (.bool true)) gi gt n (s++[x]) tk v todo:=
 ⟨h.ext.setCell h.hi _,h.hi,h.lt,(h.inn.set x.toNat (.bool true)).congr fun j _=>memF_set D j,h.tak.setOther (by show gt≠gi;have:=h.lt;omega) _,
  ownsRow_setCell_below h.own (by show gi<gt+1;have:=h.lt;omega) _⟩
theorem QR.setT (h:QR w1 wr gi gt n s tk v todo) (D:0<=x):QR w1 (wr.setCell ⟨gt,x.toNat,none⟩ (.bool true)) gi gt n s (tk++[x]) v todo:=
 ⟨h.ext.setCell (by show _<=gt;have:=h.lt;have:=h.hi;omega) _,h.hi,h.lt,h.inn.setOther (by show gi≠gt;have:=h.lt;omega) _,(h.tak.set x.toNat (.bool true)).congr fun j _=>memF_set D j,
  ownsRow_setCell_below h.own (by show gt<gt+1;omega) _⟩
theorem QR.skipT (h:QR w1 wr gi gt n s tk v todo) (E:¬ (0<=x/\x<n)):QR w1 wr gi gt n s (tk++[x]) v todo:=
 ⟨h.ext,h.hi,h.lt,h.inn,h.tak.congr fun j D=>memF_more E D,h.own⟩
theorem QR.app {l:List Int} (h:QR w1 wr gi gt n s tk v todo) (G:zQ w' (gt+1) v' l) (D:Hid (wr.grownBy w' v.ownBlock)):QR w1 w' gi gt n s tk v' l:=
 ⟨zK h.ext D h.ext.size (fun k E=>by have:=Ad h.own E;have:=h.lt;have:=h.hi;omega),h.hi,h.lt,
  h.inn.of_block (D.out.block _ h.inn.lt (fun e=>by have:=Ad h.own e.symm;have:=h.lt;omega)),
  h.tak.of_block (D.out.block _ h.tak.lt (fun e=>by have:=Ad h.own e.symm;omega)),G⟩
theorem QR.cellI (h:QR w1 wr gi gt n s tk v todo) (h0:0<=x) (h1:x<n):wr.cell? ⟨gi,x.toNat,none⟩=some (.bool (decide (x∈s)))/\wr.frozen? ⟨gi,x.toNat,none⟩=false:=by
 refine ⟨?_,h.inn.frozen _⟩;rw [h.inn.cell (by omega)];unfold memF;rw [Int.toNat_of_nonneg h0]
theorem QR.cellT (h:QR w1 wr gi gt n s tk v todo) (h0:0<=x) (h1:x<n):wr.cell? ⟨gt,x.toNat,none⟩=some (.bool (decide (x∈tk)))/\wr.frozen? ⟨gt,x.toNat,none⟩=false:=by
 refine ⟨?_,h.tak.frozen _⟩;rw [h.tak.cell (by omega)];unfold memF;rw [Int.toNat_of_nonneg h0]
end
structure QL (wr:World) (B:Nat) (vl v:Value) (l:List Int):Prop where
 own:zQ wr B vl l
 ne:∀k,vl.ownBlock=some k->v.ownBlock≠some k
section
variable {w1 wr w':World} {B:Nat} {l:List Int} {v vl:Value}
theorem QL.more (h:QL wr B vl v l) (D:za wr w'):QL w' B vl v l:=⟨h.own.kept (row:=none) ⟨D.os,D.tape,D.output,D.size,fun i E _=>D.block i E⟩ (by cases h:vl.ownBlock <;> simp),h.ne⟩
theorem QL.set (h:QL wr B vl v l) {a:Addr} (D:a.block<B) (u:Value):QL (wr.setCell a u) B vl v l:=⟨ownsRow_setCell_below h.own D u,h.ne⟩
theorem QL.app (h:QL wr B vl v l) (E:Hid (wr.grownBy w' v.ownBlock)) (G:Hid (v'.ownBlock=v.ownBlock\/v'.ownBlock=some wr.heap.size)):QL w' B vl v' l:=by
 refine ⟨h.own.kept E.out ?_,fun k D=>?_⟩
 ·cases D:vl.ownBlock with
  | none=>exact .inl rfl
  | some k=>exact .inr (fun e=>h.ne k D e.symm)
 ·rcases G.out with e | e
  ·rw [e];exact h.ne k D
  ·rw [e];intro e';injection e' with e';have:=(h.own.lt k D).2;omega
end
structure QO (m:MZ) (t:Nat) (from_ used s:List Int) (k:Nat):Prop where
 nd:s.Nodup
 rp:∀x∈s,RP m t from_ used x
 fr:∀x∈from_,0<=x->x<m.n->x∈s
 cl:∀y∈s.take k,∀z∈zp m y,zj m t z=true->z∉used->z∈s
 kl:k<=s.length
structure QJ (m:MZ) (t:Nat) (from_ used s:List Int) (k:Nat) (x:Int) (j:Nat):Prop where
 nd:s.Nodup
 rp:∀x∈s,RP m t from_ used x
 fr:∀x∈from_,0<=x->x<m.n->x∈s
 cl:∀y∈s.take k,∀z∈zp m y,zj m t z=true->z∉used->z∈s
 kl:k<s.length
 xs:s[k]?=some x
 cx:∀z∈(zp m x).take j,zj m t z=true->z∉used->z∈s
theorem QO.take_ {s:List Int} (h:QO m t from_ used s k) (D:k<s.length):QJ m t from_ used s k s[k] 0:=
 ⟨h.nd,h.rp,h.fr,h.cl,D,Fw D,by simp⟩
theorem QJ.xm {s:List Int} (h:QJ m t from_ used s k x j):x∈s:=List.mem_of_getElem? h.xs
theorem QJ.skip {s:List Int} (h:QJ m t from_ used s k x j) (E:j<(zp m x).length) (G:(zp m x)[j]∈s\/zj m t (zp m x)[j]=false\/(zp m x)[j]∈used):QJ m t from_ used s k x (j+1):=
 ⟨h.nd,h.rp,h.fr,h.cl,h.kl,h.xs,fun z I hf D=>by
  rcases (zF E z).1 I with h1 | h1
  ·exact h.cx z h1 hf D
  ·subst h1;rcases G with h2 | h2 | h2
   ·exact h2
   ·rw [hf] at h2;cases h2
   ·exact absurd h2 D⟩
theorem QJ.push {s:List Int} (h:QJ m t from_ used s k x j) (J:j<(zp m x).length) (M:(zp m x)[j]∉s) (hf:zj m t (zp m x)[j]=true) (O:(zp m x)[j]∉used):QJ m t from_ used (s++[(zp m x)[j]]) k x (j+1):=
 ⟨EG h.nd M,fun y D=>by
   rw [za0,zar] at D;rcases D with D | rfl
   ·exact h.rp y D
   ·exact (h.rp x h.xm).step (Fz J) hf O,
  fun y D h0 h1=>by simp [h.fr y D h0 h1],
  fun y D z I E G=>by
   rw [List.take_append_of_le_length (by have:=h.kl;omega)] at D;simp [h.cl y D z I E G],
  by have:=h.kl;simp;omega,
  by rw [FD h.kl];exact h.xs,
  fun z I E G=>by
   rcases (zF J z).1 I with h1 | h1
   ·simp [h.cx z h1 E G]
   ·simp [h1]⟩
theorem QJ.done {s:List Int} (h:QJ m t from_ used s k x j) (E:(zp m x).length<=j):QO m t from_ used s (k+1):=
 ⟨h.nd,h.rp,h.fr,fun y I z J hf D=>by
  have G:s[k]'h.kl=x:=by
   have:=h.xs;rw [Fw h.kl] at this;injection this
  rcases (zF h.kl y).1 I with h1 | h1
  ·exact h.cl y h1 z J hf D
  ·rw [G] at h1;subst h1;exact h.cx z (by rwa [List.take_of_length_le E]) hf D,h.kl⟩
theorem QO.end_ {s:List Int} (h:QO m t from_ used s s.length) (x:Int):x∈s↔RP m t from_ used x:=
 ⟨h.rp x,fun D=>D (·∈s) h.fr (fun y z I G hf E=>h.cl y (by rwa [FJ]) z G hf E)⟩
theorem EK {ok' ok2:Nat->Prop} {vm vf vu:Value} (t:Nat) (w:World) (hm:zL w ok vm m) (d:Dim m) (ht:t<m.free.length) (h7:∀f∈m.free,(f.length:Int)=m.n)
  (hf:zg w ok' vf from_) (hl:from_.length<=20000000000000) (hu:zg w ok2 vu used) (s2:used.length<=20000000000000):
  Calls Tryz.prog 179 #[vm,.int .i64 t,vf,vu] w fun e w'=>∃v',e=.returned v'/\Mk w w' v' (Cq m t from_ used):=by
 have i3:=hm;obtain ⟨vfr,vup,vts,rfl,c7,_,_⟩:=hm;obtain ⟨vsf,⟨Af,cf,rfl,q6,i7⟩,h5⟩:=c7;obtain ⟨A,c,rfl,hc,hr⟩:=hf;obtain ⟨A2,c2,rfl,p9,i4⟩:=hu;obtain ⟨r9,s0⟩:=d.layer;have D:=zh d;obtain ⟨dw1,dw2,q8,q9,ll1,ll2,n1,n3⟩:=d;have k5:=zh i3;clear i3;have k7:=zh i7;clear i7;have j7:=zh h5;clear h5;have HR:=zh hr;clear hr;have k6:=zh i4;clear i4;have j9:=zh h7;clear h7 n3;obtain ⟨N,hN⟩:∃N:Nat,m.w*m.h*m.l=(N:Int):=⟨(m.w*m.h*m.l).toNat,by omega⟩;have p6:N<=300:=by omega
 have HN:=zh hN;clear hN
 have n0:∀W:World,(Instr.makeSlice 29 (.int .i64 (m.w*m.h*m.l)) (.int .i64 (m.w*m.h*m.l))).run Tryz.prog W=.ok (.slice (some ⟨W.heap.size,0,none⟩) N N) (W.alloc (.cells (madeCells #[.bool false] N) 4)):=fun W=>by
  rw [HN.out];exact run_make_row' 29 4 (.bool false) 1 Tryz.underlying29 Tryz.infoBool rfl .i64 .i64 N (by omega) (by omega) W
 go_enter Tryz.func179,Tryz.ntmps179
 go_wp2_with fail
 generalize f6:w.alloc (.cells #[.int .i64 m.w,.int .i64 m.h,.int .i64 m.l,.slice Af m.free.length cf,vup,vts] 32)=w1;have b0:za w w1:=by rw [<-f6];exact (za.refl w).alloc _
 have h9:ze w1 w.heap.size 32 #[.int .i64 m.w,.int .i64 m.h,.int .i64 m.l,.slice Af m.free.length cf,vup,vts]:=by rw [<-f6];exact zax _ _
 clear f6;obtain ⟨m0,m1,m2,m3,m4,m5⟩:=zt h9;have r0:=za.rule m0;have r1:=za.rule m1;have r2:=za.rule m2;have r3:=za.rule m3;have r4:=za.rule m4;have r5:=za.rule m5;clear m0 m1 m2 m3 m4 m5 h9;have ra:=Dn w1;have hx:za w1 w1:=za.refl w1
 go_wp2_with fail
 refine (AB _ _ _ _ _ _ _ (by omega) (by omega)).mono ?_;rintro e wA ⟨rfl,g8⟩;have f8:za w1 wA:=hx.trans g8
 go_wp2_with fail
 refine (AB _ _ _ _ _ _ _ (by omega) (by omega)).mono ?_;rintro e wB ⟨rfl,e0⟩;have f9:za w1 wB:=(f8.alloc _).trans e0;have n6:w1.heap.size<=wA.heap.size:=f8.size;have n7:wA.heap.size<wB.heap.size:=by have:=e0.size;simp at this;omega
 have hQ:Hid (QR w1 (wB.alloc (.cells (madeCells #[.bool false] N) 4)) wA.heap.size wB.heap.size N [] [] (.slice none 0 0) []):=by
  refine ⟨f9.alloc _,n6,n7,?_,?_,World.ownsRow_nil _ _ _ _⟩
  ·exact ((World.rowIs_made wA (.bool false) N 4).of_block (e0.block _ (by simp))).alloc _
  ·exact World.rowIs_made wB (.bool false) N 4
 have j3:=f9.alloc (.cells (madeCells #[.bool false] N) 4);generalize n4:wB.alloc (.cells (madeCells #[.bool false] N) 4)=wC at hQ j3
 go_wp2_with fail
 skip
 clear n4;generalize l8:wA.heap.size=gi at*;generalize m7:wB.heap.size=gt at*;clear l8 m7 g8 e0 hx f8 f9 n0;go_loopw [12] (fun i wr=>∃k:Nat,k<=used.length/\i=.int .i64 k/\Hid (QR w1 wr gi gt N [] (used.take k) (.slice none 0 0) [])) (fun i _=>used.length - (intOf i).toNat)
 case atStart=>exact ⟨0,by omega,rfl,hQ⟩
 clear hQ j3
 case round=>
  obtain ⟨k,hk,rfl,hQ⟩:=hrel;have hx:za w1 wr:=hQ.out.ext;by_cases G:k<used.length
  ·obtain ⟨b,off,rfl,_,E⟩:=Ai (k6.out.keep (Ao.of_below (b0.trans hx))) G G;obtain ⟨y,hy⟩:=zaI (used[k]);have a1:=zh (FF G);rw [<-hy] at E a1;clear hy;by_cases O:0<=y
   ·by_cases b3:y<N
    ·obtain ⟨e3,l7⟩:=hQ.out.cellT O b3;have a5:=zh (hQ.out.setT O);go_wp2;go_roundw
     case rel=>exact ⟨k+1,by omega,by go_num,by rw [a1.out];exact a5⟩
     case measure=>simp [intOf];omega
    ·have a5:=zh (hQ.out.skipT (x:=y) (by omega));go_wp2;go_roundw
     case rel=>exact ⟨k+1,by omega,by go_num,by rw [a1.out];exact a5⟩
     case measure=>simp [intOf];omega
   ·have a5:=zh (hQ.out.skipT (x:=y) (by omega));go_wp2;go_roundw
    case rel=>exact ⟨k+1,by omega,by go_num,by rw [a1.out];exact a5⟩
    case measure=>simp [intOf];omega
  ·obtain rfl:k=used.length:=by omega
   rw [FJ] at hQ
   go_wp2_with fail
   go_loopw [11,13] (fun v i wr=>∃k s,k<=from_.length/\i=.int .i64 (k:Nat)/\Hid (QR w1 wr gi gt N s used v s)/\Hid (s.Nodup)/\Hid (∀x,x∈s↔x∈from_.take k/\0<=x/\x<m.n)) (fun _ i _=>from_.length - (intOf i).toNat)
   case atStart=>exact ⟨0,[],by omega,rfl,hQ,List.nodup_nil,by simp [Hid]⟩
   clear hQ hx G hk
   case round=>
    obtain ⟨k,s,hk,rfl,hQ,hnd,M⟩:=hrel;have hx:za w1 wr:=hQ.out.ext;by_cases G:k<from_.length
    ·obtain ⟨b,off,rfl,_,U⟩:=Ai HR.out G G;have l5:Hid (b<w1.heap.size):=(zam (zo U) b0.size:b<w1.heap.size);have E:=(b0.trans hx).cell U;clear U;obtain ⟨y,hy⟩:=zaI (from_[k]);rw [<-hy] at E;have HY:=zh hy;clear hy;by_cases O:0<=y
     ·by_cases b3:y<N
      ·obtain ⟨e3,l7⟩:=hQ.out.cellI O b3;by_cases I:y∈s
       ·have a8:=zh I;rw [FB I] at e3;clear I;go_wp2;go_roundw
        case rel=>exact ⟨k+1,s,by omega,by go_num,hQ,hnd,fun x=>by
         rw [zF G,M.out,<-HY.out];constructor
         ·rintro ⟨h1,h2⟩;exact ⟨.inl h1,h2⟩
         ·rintro ⟨h1 | rfl,h2⟩
          ·exact ⟨h1,h2⟩
          ·exact (M.out x).1 a8.out⟩
        case measure=>simp [intOf];omega
       ·have a8:=zh I;rw [FC I] at e3;clear I;have b7:=Cf hnd.out m.n (fun x a2=>((M.out x).1 a2).2);have m9:s.length<=300:=by unfold MZ.n at b7;omega
        clear b7;have a5:=zh (hQ.out.setI O);have m6:gt+1<=wr.heap.size:=hQ.out.tak.lt;have b5:(wr.setCell ⟨gi,y.toNat,none⟩ (.bool true)).cell? ⟨b,off+k,none⟩=some (.int .i64 y):=(zaa (w:=wr) (FH wr _ _ b (by show b≠gi;have:=l5.out;omega))).trans E
        go_wp2_with (at_builtin;refine AZ rfl _ _ rfl _ s y (gt+1) wr.heap.size 1 _ rfl rfl (a5.out.own.alloc _) ?d1 ?d2 ?d3 ?_)
        (try case d1=>exact zy _ _ _ (by simp))
        case d2=>(first | (simp;done) | (simp;omega) | omega)
        case d3=>omega
        intro v' wb a6 V _;have J:=zh ((a5.out.more ((za.refl _).alloc _)).app a6 V);clear a6 V;go_wp2;go_roundw
        case rel=>exact ⟨k+1,s++[y],by omega,by go_num,J,EG hnd.out a8.out,fun x=>by
         rw [za0,zar,zF G,M.out,<-HY.out];have a4:m.n=N:=HN.out;constructor
         ·rintro (⟨h1,h2⟩ | rfl)
          ·exact ⟨.inl h1,h2⟩
          ·exact ⟨.inr rfl,O,by omega⟩
         ·rintro ⟨h1 | rfl,h2⟩
          ·exact .inl ⟨h1,h2⟩
          ·exact .inr rfl⟩
        case measure=>simp [intOf];omega
      ·go_wp2;go_roundw
       case rel=>exact ⟨k+1,s,by omega,by go_num,hQ,hnd,fun x=>by
        rw [zF G,M.out,<-HY.out];have a4:m.n=N:=HN.out;constructor
        ·rintro ⟨h1,h2⟩;exact ⟨.inl h1,h2⟩
        ·rintro ⟨h1 | rfl,h2,h3⟩
         ·exact ⟨h1,h2,h3⟩
         ·omega⟩
       case measure=>simp [intOf];omega
     ·go_wp2;go_roundw
      case rel=>exact ⟨k+1,s,by omega,by go_num,hQ,hnd,fun x=>by
       rw [zF G,M.out,<-HY.out];constructor
       ·rintro ⟨h1,h2⟩;exact ⟨.inl h1,h2⟩
       ·rintro ⟨h1 | rfl,h2,h3⟩
        ·exact ⟨h1,h2,h3⟩
        ·omega⟩
      case measure=>simp [intOf];omega
    ·obtain rfl:k=from_.length:=by omega
     have hO:Hid (QO m t from_ used s 0):=⟨hnd.out,fun x h=>RP.base (by have:=((M.out x).1 h).1;rwa [FJ] at this) ((M.out x).1 h).2.1 ((M.out x).1 h).2.2,fun x h h0 h1=>(M.out x).2 ⟨by rwa [FJ],h0,h1⟩,by simp,FN _⟩;clear hnd M
     go_wp2_with fail
     go_loopw [11,14] (fun v i wr=>∃k s,i=.int .i64 (k:Nat)/\Hid (QR w1 wr gi gt N s used v s)/\Hid (QO m t from_ used s k)) (fun _ i _=>N - (intOf i).toNat)
     case atStart=>exact ⟨0,s,rfl,hQ,hO⟩
     clear hQ hO hx G hk
     case round=>
      obtain ⟨k,s,rfl,hQ,hO⟩:=hrel;have hx:za w1 wr:=hQ.out.ext;have a4:m.n=N:=HN.out;have n2:=Cf hO.out.nd m.n (fun y hy=>(hO.out.rp y hy).range D.out);have o4:s.length<=N:=by omega
      have r8:=hO.out.kl;clear n2 a4;obtain ⟨wk,rfl⟩:∃wk:World,wk=wr:=⟨_,rfl⟩;by_cases G:k<s.length
      ·obtain ⟨g9,c9,hv,q7,o1⟩:=hQ.out.own.form (by omega);subst hv
       have f3:wk.cell? ⟨g9,k,none⟩=some (.int .i64 s[k]):=by
        have:=hQ.out.own.cellAt k (by omega);rw [this];simp [G]
       have e3:=Bq hQ.out.own;have hJ:=zh (hO.out.take_ G);have i9:=(hO.out.rp s[k] (Fz G)).range D.out;obtain ⟨x,a2⟩:=zaI (s[k]);rw [<-a2] at f3 hJ i9;clear a2;obtain ⟨j2,f7⟩:=i9;unfold MZ.n at f7;have rx:=za.rule f3;have hR:=zh (za.refl wk);clear f3
       go_wp2_with fail
       go_region_held3 (fun w'=>za w1 w'/\za wk w')
        (first | (exact Ep hx) | (exact held_ext (by assumption) g7))
        ((go_at_call 165;refine (Fj m x _ (k5.out.keep (Ao.of_below (b0.trans hx.drew))) D.out j2 f7).mono ?_;rintro e w9 ⟨v9,rfl,g7,e4⟩))
       rename_i hS
       have g5:=zh (hQ.out.more hS.2)
       have g1:Hid (QL w9 wk.heap.size v9 (.slice (some ⟨g9,0,none⟩) s.length c9) (zp m x)):=⟨e4,fun k hk e=>by
        have h1:wk.heap.size<=k:=Ad e4 hk;have e:some g9=some k:=e;injection e with e;omega⟩
       obtain ⟨A3,c3,rfl,q5,i5⟩:=AS.of_own e4;have o8:=zh i5;clear i5;clear e4 g7 hS rx hQ hO;have s1:=Dp m x
       go_wp2_with fail
       go_loopw [11,16] (fun v i wi=>∃j s',j<=(zp m x).length/\i=.int .i64 (j:Nat)/\Hid (QR w1 wi gi gt N s' used v s')/\Hid (QL wi wk.heap.size (.slice A3 (zp m x).length c3) v (zp m x))/\Hid (QJ m t from_ used s' k x j)) (fun _ i _=>(zp m x).length - (intOf i).toNat)
       case atStart=>exact ⟨0,s,FN _,rfl,g5,g1,hJ⟩
       clear g5 g1 hJ
       case round=>
        obtain ⟨j,s',hj,rfl,hQ,hL,hJ⟩:=hrel;obtain ⟨wi,rfl⟩:∃wi:World,wi=wr:=⟨_,rfl⟩;have hx:za w1 wi:=hQ.out.ext;by_cases c8:j<(zp m x).length
        ·obtain ⟨b2,rfl,p7,E⟩:=own_at hL.out.own c8;have j4:=Co D.out j2 f7 (Fz c8);have a0:=zh (hJ.out.skip c8);have d5:=zh (hJ.out.push c8);obtain ⟨y,hy⟩:=zaI ((zp m x)[j]);rw [<-hy] at E j4 a0 d5;have o9:=zh hy;clear hy;obtain ⟨O,n5⟩:=j4;have b3:y<N:=by have a4:m.n=N:=HN.out;omega
         obtain ⟨bf,off3,uf,rfl,_,e7,l4⟩:=AW (k7.out.keep (Ao.of_below (b0.trans hx))) j7.out ht ht;have b1:=j9.out _ (Fz ht);obtain ⟨A4,c4,rfl,l6,i6⟩:=l4;have e5:y.toNat<(m.free[t]).length:=by omega
         obtain ⟨b4,off4,rfl,_,b6⟩:=BS (i6.keep (Ao.of_below (b0.trans hx))) e5 e5;have c7:(m.free[t])[y.toNat]=zj m t y:=by simp [zj,ht,e5]
         rw [c7] at b6;have o5:=zh c7;clear c7;obtain ⟨nf,f5⟩:=zaI ((m.free[t]).length);rw [<-f5] at e7 e5 b1 l6;have o6:=zh f5;clear f5;have n8:=zh b1;clear b1;clear i6 n5;obtain ⟨e2,h6⟩:=hQ.out.cellI O b3;obtain ⟨c6,h8⟩:=hQ.out.cellT O b3;have e8:=Cf hJ.out.nd m.n (fun y hy=>(hJ.out.rp y hy).range D.out);have j1:s'.length<=N:=by have a4:m.n=N:=HN.out;omega
         clear e8;by_cases I:y∈s'
         ·rw [FB I] at e2;have a8:=zh I;clear I
          go_wp2_with fail
          go_quiet (fail)
          have J:=zh (hQ.out.more ((za.refl wi).drewN nq));have a9:=zh (hL.out.more ((za.refl wi).drewN nq));go_wp2;go_roundw
          case rel=>exact ⟨j+1,s',by omega,by go_num,J,a9,a0.out (.inl a8.out)⟩
          case measure=>simp [intOf];omega
         ·rw [FC I] at e2;have a8:=zh I;clear I;by_cases hf:zj m t y=true
          ·rw [hf] at b6;have HF:=zh hf;clear hf;by_cases b9:y∈used
           ·rw [FB b9] at c6;have f0:=zh b9;clear b9
            go_wp2_with fail
            go_quiet (fail)
            have J:=zh (hQ.out.more ((za.refl wi).drewN nq));have a9:=zh (hL.out.more ((za.refl wi).drewN nq));go_wp2;go_roundw
            case rel=>exact ⟨j+1,s',by omega,by go_num,J,a9,a0.out (.inr (.inr f0.out))⟩
            case measure=>simp [intOf];omega
           ·rw [FC b9] at c6;have f0:=zh b9;clear b9;have k9:=zh (d5.out a8.out HF.out f0.out)
            go_wp2_with fail
            go_quiet (fail)
            generalize g6:wi.drewN nq=W2;have f1:za wi W2:=by rw [<-g6];exact (za.refl wi).drewN _
            clear g6 e2 h6 c6 h8 e7 b6;have J:=zh (hQ.out.more f1);have a9:=zh (hL.out.more f1);have b5:W2.cell? ⟨b2,j,none⟩=some (.int .i64 y):=f1.cell E;clear E hx;have hx:=J.out.ext;obtain ⟨e2,h6⟩:=J.out.cellI O b3;have g4:=zh (J.out.setI O);have l9:gi<wk.heap.size:=by omega
            have l0:=zh (a9.out.set (a:=⟨gi,y.toNat,none⟩) l9 (.bool true));have m6:gt+1<=W2.heap.size:=J.out.tak.lt;have j6:(W2.setCell ⟨gi,y.toNat,none⟩ (.bool true)).cell? ⟨b2,j,none⟩=some (.int .i64 y):=(zaa (w:=W2) (FH W2 _ _ b2 (by show b2≠gi;omega))).trans b5
            go_wp2_with (at_builtin;refine AZ rfl _ _ rfl _ s' y (gt+1) W2.heap.size 1 _ rfl rfl (g4.out.own.alloc _) ?d1 ?d2 ?d3 ?_)
            (try case d1=>exact zy _ _ _ (by simp))
            case d2=>(first | (simp;done) | (simp;omega) | omega)
            case d3=>omega
            intro v' wb a6 V e1;have l3:=zh ((g4.out.more ((za.refl _).alloc _)).app a6 V);have l1:=zh ((l0.out.more ((za.refl _).alloc _)).app V (by have h:=e1.out;show _\/_;simpa using h));clear a6 V e1;go_wp2;go_roundw
            case rel=>exact ⟨j+1,s'++[y],by omega,by go_num,l3,l1,k9⟩
            case measure=>simp [intOf];omega
          ·have f4:zj m t y=false:=by simpa using hf
           rw [f4] at b6;have HF:=zh f4;clear hf f4
           go_wp2_with fail
           go_quiet (fail)
           have J:=zh (hQ.out.more ((za.refl wi).drewN nq));have a9:=zh (hL.out.more ((za.refl wi).drewN nq));go_wp2;go_roundw
           case rel=>exact ⟨j+1,s',by omega,by go_num,J,a9,a0.out (.inr (.inl HF.out))⟩
           case measure=>simp [intOf];omega
        ·have d9:=zh (hJ.out.done (by omega));have e8:=Cf d9.out.nd m.n (fun y hy=>(d9.out.rp y hy).range D.out);have j1:s'.length<=N:=by have a4:m.n=N:=HN.out;omega
         have r7:=d9.out.kl;go_wp2;go_roundw
         case rel=>exact ⟨k+1,s',by go_num,hQ,d9⟩
         case measure=>simp [intOf];omega
      ·have i1:k=s.length:=by omega
       subst i1;obtain ⟨A0,c0,rfl,p8⟩:=Bl hQ.out.own;have hE:=zh (reachL_of hO.out.end_);have g3:=zh (Mk.nil wk)
       go_wp2_with fail
       go_loopw [17,18] (fun v i wr=>∃k:Nat,k<=N/\i=.int .i64 (k:Nat)/\Hid (Mk wk wr v (((List.range k).map Int.ofNat).filter (fun x=>decide (x∈s))))) (fun _ i _=>N - (intOf i).toNat)
       case atStart=>exact ⟨0,by omega,rfl,g3⟩
       clear g3
       case round=>
        obtain ⟨j,hj,rfl,hM⟩:=hrel;have a2:=hM.out.ext;by_cases c8:j<N
        ·obtain ⟨f2,_⟩:=(hQ.out.more a2).cellI (x:=(j:Int)) (by omega) (by omega);rw [za1] at f2;have s5:=hx.trans a2
         have d6:((List.range (j+1)).map Int.ofNat).filter (fun x=>decide (x∈s))=((List.range j).map Int.ofNat).filter (fun x=>decide (x∈s))++[(j:Int)].filter (fun x=>decide (x∈s)):=by
          rw [List.range_succ,za2,zay];rfl
         have HS:=zh d6;clear d6;by_cases b8:(j:Int)∈s
         ·rw [FB b8] at f2;have e9:=zh b8;clear b8;have b7:(((List.range j).map Int.ofNat).filter (fun x=>decide (x∈s))).length<=j:=FA (zan _ _) (by simp);obtain ⟨lj,i2⟩:=zaI (((List.range j).map Int.ofNat).filter (fun x=>decide (x∈s)));rw [<-i2] at hM b7 HS;clear i2
          go_wp2_with (at_builtin;refine AZ rfl _ _ rfl _ lj (j:Int) wk.heap.size wr.heap.size 1 _ rfl rfl (hM.out.own.alloc _) ?d1 ?d2 ?d3 ?_)
          (try case d1=>exact zy _ _ _ (by simp))
          case d2=>(first | (simp;done) | (have:=a2.size;simp;omega) | (have:=a2.size;omega))
          case d3=>omega
          intro v' wb a6 V e1;have l2:=zh ((hM.out.alloc _).app a6 V);clear a6 V e1;go_wp2;go_roundw
          case rel=>exact ⟨j+1,by omega,by go_num,by rw [HS.out,za4 (by simpa using e9.out)];exact l2⟩
          case measure=>simp [intOf];omega
         ·rw [FC b8] at f2;have e9:=zh b8;clear b8;go_wp2;go_roundw
          case rel=>exact ⟨j+1,by omega,by go_num,by rw [HS.out,zas (by simpa using e9.out),List.filter_nil,List.append_nil];exact hM⟩
          case measure=>simp [intOf];omega
        ·have m8:j=N:=by omega
         subst m8
         go_wp2_with fail
         go_ret;refine ⟨_,rfl,(b0.trans hx).mono_mk ?_⟩;rw [<-hE.out];have a4:m.n.toNat=j:=by have:m.n=(j:Int):=HN.out;omega
         rw [a4];exact hM.out
end
end Go.Proofs.YtjomnbdjajjgfaaGreatDoor
