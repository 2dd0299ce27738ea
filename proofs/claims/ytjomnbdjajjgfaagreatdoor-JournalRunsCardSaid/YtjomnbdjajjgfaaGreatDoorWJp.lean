import Derived.Test.YtjomnbdjajjgfaaGreatDoorWJh
import Derived.Test.YtjomnbdjajjgfaaGreatDoorWJo
import Derived.Shelf.Strings.Prefix
set_option linter.unusedVariables false
set_option linter.unusedSimpArgs false
set_option maxRecDepth 100000
set_option maxHeartbeats 16000000
namespace Go.Proofs.YtjomnbdjajjgfaaGreatDoor
variable {cs:Array Value} {st steps:Int} {ns:List ByteArray} {ch:List Int} {b id l s sg t x y:List UInt8} {bs:List Value} {m:MZ} {B base g k n r:Nat} {ok:Nat->Prop} {v:Value} {w:World}
section
open Go.RowKit
def Cd (s:Rd):List UInt8×Rd:=match Cc 58 s with
 | none=>([],([],true))
 | some (n,b)=>if n<0\/(b.length:Int)<n then ([],([],true)) else (b.take n.toNat,(b.drop n.toNat,false))
theorem textF_wT (rest:List UInt8) (h:t.length<=9223372036854775807):Cd (wT t++rest,false)=(t,(rest,false)):=by
 have e:wT t++rest=Lib.itoa t.length++58 :: (t++rest):=by simp [wT]
 have o:=numP_itoa (c:=58) (n:=(t.length:Int)) ⟨by omega,by omega⟩ (by unfold nuB;decide) (t++rest);unfold Cd Cc;simp only [e,o];simp;omega
structure JS where
 ch:List Int
 steps:Int
 fin:Nat
 sg:List UInt8
def BP (ch:List Int) (steps:Int):List UInt8:=wL ch++wI steps
def zY (sg:List UInt8) (ch:List Int) (steps:Int):List UInt8:=Dl sg (BP ch steps)
def Ay (sg:List UInt8) (ch:List Int) (steps:Int):List UInt8:=wT (BP ch steps)++wT (zY sg ch steps)
noncomputable def Aj (m:MZ) (s:List UInt8) (x:JS):Option JS:=
 let t1:=Cd (s.drop x.fin,false)
 let t2:=Cd t1.2
 let c:=AJ (t1.1,false)
 let k:=Br c.2
 if t2.2.2=true\/k.2.2=true\/k.1<=x.steps then none
 else if ¬ Ay x.sg c.1 k.1 <+: s.drop x.fin then none
 else if loadE m c.1 k.1≠0 then none
 else some ⟨c.1,k.1,x.fin+(Ay x.sg c.1 k.1).length,zY x.sg c.1 k.1⟩
noncomputable def Dy (m:MZ) (s:List UInt8):Nat->JS->JS
 | 0,x=>x
 | f+1,x=>match Aj m s x with
  | none=>x
  | some y=>Dy m s f y
def RecOk (ch:List Int) (steps:Int):Prop:=(∀x∈ch,Cz x)/\Cz steps/\(BP ch steps).length<=9223372036854775807
theorem By (sg:List UInt8) (ch:List Int) (steps:Int):(zY sg ch steps).length=8:=rfl
theorem rec_read {sg ch rest} (h:RecOk ch steps):
  Cd (Ay sg ch steps++rest,false)=(BP ch steps,(wT (zY sg ch steps)++rest,false))/\Cd (wT (zY sg ch steps)++rest,false)=(zY sg ch steps,(rest,false))/\
   AJ (BP ch steps,false)=(ch,(wI steps,false))/\Br (wI steps,false)=(steps,([],false)):=by
 refine ⟨?_,textF_wT rest (by rw [By];omega),?_,?_⟩
 ·unfold Ay;rw [List.append_assoc];exact textF_wT _ h.2.2
 ·exact intsF_wL h.1 (wI steps)
 ·have:=intF_wI h.2.1 []
  rwa [List.append_nil] at this
theorem nextJ_rec {x:JS} (h:RecOk ch steps) (hp:Ay x.sg ch steps <+: s.drop x.fin) (E:x.steps<steps) (o:loadE m ch steps=0):
  Aj m s x=some ⟨ch,steps,x.fin+(Ay x.sg ch steps).length,zY x.sg ch steps⟩:=by
 obtain ⟨rest,D⟩:=hp;obtain ⟨h1,h2,h3,h4⟩:=rec_read (sg:=x.sg) (rest:=rest) h;unfold Aj;simp only [<-D,h1,h2,h3,h4];rw [if_neg (by simp;omega),if_neg (by simp),if_neg (by simp [o])]
theorem EF {x y:JS} (h:Aj m s x=some y):
  ∃ch steps,x.steps<steps/\loadE m ch steps=0/\Ay x.sg ch steps <+: s.drop x.fin/\(∀n∈ch,Cz n)/\Cz steps/\y=⟨ch,steps,x.fin+(Ay x.sg ch steps).length,zY x.sg ch steps⟩:=by
 unfold Aj at h;simp only at h
 split at h
 ·cases h
 rename_i h1
 split at h
 ·cases h
 rename_i h2
 split at h
 ·cases h
 rename_i h3
 injection h with h;have h2:=Decidable.not_not.1 h2;exact ⟨_,_,by omega,by simpa using h3,h2,(intsF_lv _).2,Do _,h.symm⟩
theorem recB_pos (sg:List UInt8) (ch:List Int) (steps:Int):0<(Ay sg ch steps).length:=by
 unfold Ay wT;simp;omega
theorem Cu {x y:JS} (h:Aj m s x=some y):x.fin<y.fin/\y.fin<=s.length:=by
 obtain ⟨ch,st,-,-,hp,-,-,rfl⟩:=EF h;have h1:=recB_pos x.sg ch st;have h2:=hp.length_le;rw [zaC] at h2;exact ⟨by show x.fin<x.fin+_;omega,by show x.fin+_<=_;omega⟩
theorem lastJ_fuel {m:MZ} {s:List UInt8}:∀(f f':Nat) (x:JS),s.length<=x.fin+f->s.length<=x.fin+f'->Dy m s f x=Dy m s f' x
 | 0,0,x,_,_=>rfl
 | 0,f'+1,x,h,_=>by
  unfold Dy
  cases o:Aj m s x with
  | none=>rfl
  | some y=>have:=Cu o;omega
 | f+1,0,x,_,h=>by
  conv=>rhs;unfold Dy
  unfold Dy
  cases o:Aj m s x with
  | none=>rfl
  | some y=>have:=Cu o;omega
 | f+1,f'+1,x,h,D=>by
  unfold Dy
  cases o:Aj m s x with
  | none=>rfl
  | some y=>have:=Cu o;exact lastJ_fuel f f' y (by omega) (by omega)
noncomputable def endJ (m:MZ) (s:List UInt8) (x:JS):JS:=Dy m s s.length x
theorem DN {x:JS} (h:Aj m s x=none):endJ m s x=x:=by
 unfold endJ
 cases s.length with
 | zero=>rfl
 | succ n=>unfold Dy;rw [h]
theorem endJ_some {x y:JS} (h:Aj m s x=some y):endJ m s x=endJ m s y:=by
 obtain ⟨h1,h2⟩:=Cu h;unfold endJ;obtain ⟨n,o⟩:∃n,s.length=n+1:=⟨s.length - 1,by omega⟩
 conv=>lhs;rw [o];unfold Dy
 rw [h];exact lastJ_fuel n s.length y (by omega) (by omega)
theorem rec_same {ch':List Int} {st':Int} (h:RecOk ch st) (J:RecOk ch' st') (hp:Ay sg ch st <+: l) (G:Ay sg ch' st' <+: l):ch=ch'/\st=st':=by
 obtain ⟨r,M⟩:=hp;obtain ⟨r',I⟩:=G;obtain ⟨h1,-,h3,h4⟩:=rec_read (sg:=sg) (rest:=r) h;obtain ⟨o,-,D,E⟩:=rec_read (sg:=sg) (rest:=r') J;rw [M] at h1;rw [I,h1] at o;injection o with e1 e2;rw [<-e1,h3] at D;injection D with e3 e4;injection e4 with e4 e5;rw [<-e4,h4] at E;injection E with e6 e7;exact ⟨e3,e6⟩
noncomputable def AN (m:MZ) (n:Nat):RS:=RS.run m n (loadS m [] 0)
theorem Dx (m:MZ):∀(a b:Nat) (s:RS),RS.run m (a+b) s=RS.run m b (RS.run m a s)
 | 0,b,s=>by rw [Nat.zero_add];rfl
 | a+1,b,s=>by
  rw [show a+1+b=(a+b)+1 by omega];by_cases h:s.done=true
  ·rw [RS.run_done h,RS.run_done h,RS.run_done h]
  ·show (if s.done=true then s else RS.run m (a+b) (s.one m))=RS.run m b (if s.done=true then s else RS.run m a (s.one m));rw [if_neg h,if_neg h];exact Dx m a b (s.one m)
theorem one_steps (m:MZ) (s:RS):(s.one m).steps=s.steps+1:=by
 unfold RS.one
 split <;> rfl
theorem CL (m:MZ):∀(n:Nat) (s:RS),s.steps<=(RS.run m n s).steps/\(RS.run m n s).steps<=s.steps+n/\((RS.run m n s).done=false->(RS.run m n s).steps=s.steps+n)/\(s.done=false->0<n->s.steps<(RS.run m n s).steps)
 | 0,s=>⟨Int.le_refl _,by simp [RS.run],fun _=>by simp [RS.run],fun _ h=>absurd h (by omega)⟩
 | n+1,s=>by
  by_cases h:s.done=true
  ·rw [RS.run_done h];exact ⟨Int.le_refl _,by omega,(fun h2=>by rw [h] at h2;cases h2),(fun h2=>by rw [h] at h2;cases h2)⟩
  ·have e:RS.run m (n+1) s=RS.run m n (s.one m):=by
    show (if s.done=true then s else RS.run m n (s.one m))=_;rw [if_neg h]
   rw [e];obtain ⟨h1,h2,h3,h4⟩:=CL m n (s.one m);rw [one_steps] at h1 h2 h3;exact ⟨by omega,by omega,fun h=>by have:=h3 h;omega,fun _ _=>by omega⟩
theorem atS_steps (m:MZ) (n:Nat):0<=(AN m n).steps/\(AN m n).steps<=n/\((AN m n).done=false->(AN m n).steps=n):=by
 obtain ⟨h1,h2,h3,-⟩:=CL m n (loadS m [] 0);have h0:(loadS m [] 0).steps=0:=rfl;rw [h0] at h1 h2 h3;exact ⟨h1,by unfold AN;omega,fun h=>by have:=h3 h;unfold AN;omega⟩
theorem run_early (m:MZ):∀(n:Nat) (s:RS),RS.run m ((RS.run m n s).steps - s.steps).toNat s=RS.run m n s
 | 0,s=>by show RS.run m (s.steps - s.steps).toNat s=s;rw [Int.sub_self];rfl
 | n+1,s=>by
  by_cases h:s.done=true
  ·rw [RS.run_done h,RS.run_done h]
  ·have e:RS.run m (n+1) s=RS.run m n (s.one m):=by
    show (if s.done=true then s else RS.run m n (s.one m))=_;rw [if_neg h]
   rw [e];have ih:=run_early m n (s.one m);obtain ⟨h1,-⟩:=CL m n (s.one m);rw [one_steps] at ih h1;obtain ⟨k,o⟩:∃k:Nat,(k:Int)=(RS.run m n (s.one m)).steps - (s.steps+1):=⟨((RS.run m n (s.one m)).steps - (s.steps+1)).toNat,by omega⟩;rw [show ((RS.run m n (s.one m)).steps - s.steps).toNat=k+1 by omega];rw [show ((RS.run m n (s.one m)).steps - (s.steps+1)).toNat=k by omega] at ih;show (if s.done=true then s else RS.run m k (s.one m))=_;rw [if_neg h];exact ih
theorem atS_early (m:MZ) (n:Nat):AN m (AN m n).steps.toNat=AN m n:=by
 have h:=run_early m n (loadS m [] 0);have h0:(loadS m [] 0).steps=0:=rfl;rw [h0,Int.sub_zero] at h;exact h
theorem atS_inv (m:MZ) (n:Nat):CZ m (AN m n):=rinv_load.run n
theorem wIs_len2:∀{l:List Int},(∀x∈l,Cz x)->(wL l).length<=22*l.length+2:=fun h=>by
 have:=wIs_len h;unfold wL;simp at this⊢;omega
theorem atS_ok (g:zZ m) (O:n<=1000000):RecOk (AN m n).ch (AN m n).steps/\(BP (AN m n).ch (AN m n).steps).length<=10000:=by
 have D:=(atS_inv m n).ch;have M:=D.len300 g;have I:=(D.range g).1;obtain ⟨h1,h2,-⟩:=atS_steps m n;have G:m.n<=300:=g.1.n1;have hI:∀x∈(AN m n).ch,Cz x:=fun x J=>by have:=I x J;exact ⟨by omega,by omega⟩
 have o:Cz (AN m n).steps:=⟨by omega,by omega⟩;have b1:=wIs_len2 hI;have b2:=Ca o
 have E:(BP (AN m n).ch (AN m n).steps).length<=10000:=by
  unfold BP;rw [FG];omega
 exact ⟨⟨hI,o,by omega⟩,E⟩
noncomputable def recS (m:MZ) (n:Nat) (x:JS):JS:=⟨(AN m n).ch,(AN m n).steps,x.fin+(Ay x.sg (AN m n).ch (AN m n).steps).length,zY x.sg (AN m n).ch (AN m n).steps⟩
noncomputable def wrt (m:MZ):List Nat->JS->List UInt8
 | [],_=>[]
 | n :: ns,x=>Ay x.sg (AN m n).ch (AN m n).steps++wrt m ns (recS m n x)
noncomputable def wrtS (m:MZ):List Nat->JS->JS
 | [],x=>x
 | n :: ns,x=>wrtS m ns (recS m n x)
def Ups (m:MZ):List Nat->Int->Prop
 | [],_=>True
 | n :: ns,k=>k<n/\n<=1000000/\(AN m n).steps=n/\Ups m ns n
theorem rec_next (g:zZ m) {x:JS} (o:n<=1000000) (D:x.steps<n) (E:(AN m n).steps=n) (hp:Ay x.sg (AN m n).ch (AN m n).steps <+: s.drop x.fin):Aj m s x=some (recS m n x):=
 nextJ_rec (atS_ok g o).1 hp (by omega) ((atS_inv m n).loadE (good_chk g))
theorem read_wrt {m:MZ} (g:zZ m):∀(ns:List Nat) (x:JS) (pre tail:List UInt8),Ups m ns x.steps->pre.length=x.fin->endJ m (pre++(wrt m ns x++tail)) x=endJ m (pre++(wrt m ns x++tail)) (wrtS m ns x)/\(wrtS m ns x).fin=x.fin+(wrt m ns x).length
 | [],x,pre,tail,_,_=>⟨rfl,rfl⟩
 | n :: ns,x,pre,tail,h,o=>by
  obtain ⟨h1,h2,h3,h4⟩:=h
  have D:(pre++(wrt m (n :: ns) x++tail)).drop x.fin=Ay x.sg (AN m n).ch (AN m n).steps++(wrt m ns (recS m n x)++tail):=by
   rw [<-o,List.drop_left];show (Ay x.sg (AN m n).ch (AN m n).steps++wrt m ns (recS m n x))++tail=_;rw [List.append_assoc]
  have E:=rec_next g (s:=pre++(wrt m (n :: ns) x++tail)) h2 h1 h3 (by rw [D];exact List.prefix_append ..);rw [endJ_some E];obtain ⟨i1,i2⟩:=read_wrt g ns (recS m n x) (pre++Ay x.sg (AN m n).ch (AN m n).steps) tail (by show Ups m ns (AN m n).steps;rw [h3];exact h4) (by rw [FG,o];rfl)
  have e:pre++(wrt m (n :: ns) x++tail)=pre++Ay x.sg (AN m n).ch (AN m n).steps++(wrt m ns (recS m n x)++tail):=by
   show pre++((Ay x.sg (AN m n).ch (AN m n).steps++wrt m ns (recS m n x))++tail)=_;simp only [List.append_assoc]
  rw [e];refine ⟨i1,?_⟩;show (wrtS m ns (recS m n x)).fin=x.fin+(Ay x.sg (AN m n).ch (AN m n).steps++wrt m ns (recS m n x)).length;rw [i2,FG];show x.fin+(Ay x.sg (AN m n).ch (AN m n).steps).length+_=_;omega
theorem take_prefix {a:List UInt8} (h:t <+: a++b) (D:a.length<=t.length):∃u,t=a++u/\u <+: b:=by
 obtain ⟨r,o⟩:=h;have h1:a <+: t:=List.prefix_of_prefix_length_le (List.prefix_append a b) ⟨r,o⟩ D;obtain ⟨u,rfl⟩:=h1;refine ⟨u,rfl,r,?_⟩;rw [List.append_assoc] at o;exact List.append_cancel_left o
theorem atS_done (h:(AN m n).done=true) (o:n<=k):AN m k=AN m n:=by
 obtain ⟨d,rfl⟩:∃d,k=n+d:=⟨k - n,by omega⟩;unfold AN at h⊢;rw [Dx,RS.run_done h]
structure AtN (m:MZ) (x:JS) (n:Nat):Prop where
 ch:x.ch=(AN m n).ch
 st:x.steps=n
 own:(AN m n).steps=n
theorem atN_zero (m:MZ) (k:Nat) (id:List UInt8):AtN m ⟨[],0,k,id⟩ 0:=⟨rfl,rfl,rfl⟩
theorem atN_rec {x:JS} (h:(AN m n).steps=n):AtN m (recS m n x) n:=⟨rfl,h,h⟩
theorem wrt_append (m:MZ):∀(a b:List Nat) (x:JS),wrt m (a++b) x=wrt m a x++wrt m b (wrtS m a x)/\wrtS m (a++b) x=wrtS m b (wrtS m a x)
 | [],b,x=>⟨rfl,rfl⟩
 | n :: a,b,x=>by
  obtain ⟨h1,h2⟩:=wrt_append m a b (recS m n x);refine ⟨?_,h2⟩;show Ay x.sg (AN m n).ch (AN m n).steps++wrt m (a++b) (recS m n x)=(Ay x.sg (AN m n).ch (AN m n).steps++wrt m a (recS m n x))++wrt m b (wrtS m a (recS m n x));rw [h1,List.append_assoc]
theorem ups_append {m:MZ}:∀(a b:List Nat) (x:JS),Ups m a x.steps->Ups m b (wrtS m a x).steps->Ups m (a++b) x.steps
 | [],b,x,_,h=>h
 | n :: a,b,x,⟨h1,h2,h3,h4⟩,h=>by
  refine ⟨h1,h2,h3,?_⟩;have:=ups_append a b (recS m n x) (by show Ups m a (AN m n).steps;rw [h3];exact h4) h;have e:(recS m n x).steps=n:=h3;rw [e] at this;exact this
noncomputable def runN (m:MZ) (lim:Nat):Nat->Nat->List Nat
 | 0,_=>[]
 | f+1,n=>if (AN m n).done=true\/lim<=n then [] else (AN m (n+min (16 - n % 16) (lim - n))).steps.toNat :: runN m lim f (AN m (n+min (16 - n % 16) (lim - n))).steps.toNat
theorem next_steps (h:(AN m n).steps=n) (o:(AN m n).done=false) (D:0<k):n<(AN m (n+k)).steps.toNat/\(AN m (n+k)).steps.toNat<=n+k/\(AN m (AN m (n+k)).steps.toNat).steps=((AN m (n+k)).steps.toNat:Nat)/\AN m (AN m (n+k)).steps.toNat=AN m (n+k):=by
 obtain ⟨a1,a2,-⟩:=atS_steps m (n+k);have e:=atS_early m (n+k);have h4:=(CL m k (AN m n)).2.2.2 o D;have e2:RS.run m k (AN m n)=AN m (n+k):=(Dx m n k _).symm;rw [e2,h] at h4;exact ⟨by omega,by omega,by rw [e];omega,e⟩
theorem run_wrt {m:MZ} {lim:Nat} (o:lim<=1000000):∀(f n:Nat) (x:JS),AtN m x n->n<=lim->lim<=n+f->Ups m (runN m lim f n) x.steps/\∃e,AtN m (wrtS m (runN m lim f n) x) e/\AN m e=AN m lim/\n<=e
 | 0,n,x,h,h1,h2=>by
  obtain rfl:n=lim:=by omega
  exact ⟨trivial,n,h,rfl,Fy _⟩
 | f+1,n,x,h,h1,h2=>by
  unfold runN;by_cases hc:(AN m n).done=true\/lim<=n
  ·rw [if_pos hc];refine ⟨trivial,n,h,?_,Fy _⟩;rcases hc with hc | hc
   ·exact (atS_done hc h1).symm
   ·obtain rfl:n=lim:=by omega
    rfl
  ·rw [if_neg hc]
   have E:(AN m n).done=false:=by
    cases J:(AN m n).done with
    | false=>rfl
    | true=>exact absurd (.inl J) hc
   have M:n<lim:=by
    rcases zah n lim with q | q
    ·exact q
    ·exact absurd (.inr q) hc
   have G:0<min (16 - n % 16) (lim - n):=by have:=Nat.mod_lt n (show 0<16 by omega);omega
   obtain ⟨b1,b2,b3,b4⟩:=next_steps h.own E G;generalize I:(AN m (n+min (16 - n % 16) (lim - n))).steps.toNat=n' at b1 b2 b3 b4⊢;obtain ⟨i1,e,i2,i3,i4⟩:=run_wrt o f n' (recS m n' x) (atN_rec b3) (by omega) (by omega);have D:=h.st;refine ⟨⟨by rw [D];omega,by omega,b3,?_⟩,e,i2,i3,by omega⟩;have e5:(recS m n' x).steps=n':=b3;rw [e5] at i1;exact i1
theorem torn_run {h:List UInt8} {ns:List Nat} {e lim f:Nat} (o:lim<=1000000) (D:Ups m ns 0) (he:AtN m (wrtS m ns ⟨[],0,h.length,id⟩) e) (h1:e<=lim) (h2:lim<=e+f):
  h++wrt m ns ⟨[],0,h.length,id⟩++wrt m (runN m lim f e) (wrtS m ns ⟨[],0,h.length,id⟩)=h++wrt m (ns++runN m lim f e) ⟨[],0,h.length,id⟩/\Ups m (ns++runN m lim f e) 0/\
   ∃e',AtN m (wrtS m (ns++runN m lim f e) ⟨[],0,h.length,id⟩) e'/\AN m e'=AN m lim/\e<=e':=by
 obtain ⟨a1,a2⟩:=wrt_append m ns (runN m lim f e) ⟨[],0,h.length,id⟩;obtain ⟨b1,e',b2,b3,b4⟩:=run_wrt o f e _ he h1 h2;exact ⟨by rw [a1,List.append_assoc],ups_append ns _ ⟨[],0,h.length,id⟩ D b1,e',by rw [a2];exact b2,b3,b4⟩
def bitB (b:Bool):UInt8:=if b=true then 49 else 48
def Bg (l:List Bool):List UInt8:=wT (l.map bitB)
def taskB (x:List Int×List Int) (s:ByteArray):List UInt8:=(wT s.data.toList++wL x.1)++wL x.2
def AM:List (List Int×List Int)->List ByteArray->List UInt8
 | x :: l,s :: ns=>taskB x s++AM l ns
 | _,_=>[]
def zr (m:MZ) (ns:List ByteArray):List UInt8:=
 (((wI m.w++wI m.h)++wI m.l)++wI (m.tasks.length:Nat))++(AM m.tasks ns++(wI (m.free.length:Nat)++(m.free.flatMap Bg++Bg m.up)))
def BJ:List UInt8:=[114,111,117,116,101]
def zx (id:List UInt8):List UInt8:=wT BJ++wT id
theorem tasksB_take {l:List (List Int×List Int)} (D:ns.length=l.length):∀(k:Nat) (o:k<l.length),AM (l.take (k+1)) (ns.take (k+1))=AM (l.take k) (ns.take k)++taskB l[k] (ns[k]'(by omega)):=by
 induction l generalizing ns with
 | nil=>intro k o;simp at o
 | cons x l ih=>
  cases ns with
  | nil=>simp at D
  | cons s ns=>
   intro k o
   cases k with
   | zero=>simp [AM]
   | succ k=>
    have:=ih (ns:=ns) (by simpa using D) k (by simpa using o);simp only [List.take_succ_cons,AM,List.getElem_cons_succ,this,List.append_assoc]
structure CP (m:MZ) (ns:List ByteArray):Prop where
 w:0<=m.w/\m.w<=1000
 h:0<=m.h/\m.h<=1000
 l:0<=m.l/\m.l<=1000
 tl:m.tasks.length<=1000
 nl:ns.length=m.tasks.length
 t:∀x∈m.tasks,x.1.length<=1000/\x.2.length<=1000/\∀n,n∈x.1\/n∈x.2->Cz n
 n:∀s∈ns,s.size<=1000
 fl:m.free.length<=1000
 f:∀x∈m.free,x.length<=1000
 u:m.up.length<=1000
theorem Bv (h:s.length<=1000000000):(wT s).length<=s.length+22:=by
 have:=Cn (n:=(s.length:Int)) ⟨by omega,by omega⟩;unfold wT;simp;omega
theorem taskB_len {x:List Int×List Int} {s:ByteArray} (h1:x.1.length<=1000/\x.2.length<=1000/\∀n,n∈x.1\/n∈x.2->Cz n) (h2:s.size<=1000):(taskB x s).length<=50000:=by
 have D:s.data.toList.length=s.size:=by rw [Array.length_toList];rfl
 have a:=Bv (s:=s.data.toList) (by omega);have b:=wIs_len2 (l:=x.1) fun n o=>h1.2.2 n (.inl o)
 have c:=wIs_len2 (l:=x.2) fun n o=>h1.2.2 n (.inr o)
 unfold taskB;simp only [FG];omega
theorem Dr:∀{l:List (List Int×List Int)} {ns:List ByteArray},(∀x∈l,x.1.length<=1000/\x.2.length<=1000/\∀n,n∈x.1\/n∈x.2->Cz n)->(∀s∈ns,s.size<=1000)->(AM l ns).length<=50000*l.length
 | [],ns,_,_=>by simp [AM]
 | x :: l,[],_,_=>by simp [AM]
 | x :: l,s :: ns,h,D=>by
  have h1:=taskB_len (h x (zaw ..)) (D s (zaw ..));have h2:=Dr (l:=l) (ns:=ns) (fun y o=>h y (zaf _ o)) (fun y o=>D y (zaf _ o));simp only [AM,FG,zaG];omega
theorem DK {l:List Bool} (h:l.length<=1000):(Bg l).length<=1100:=by
 unfold Bg;have:=Bv (s:=l.map bitB) (by rw [zau];omega);rw [zau] at this;omega
theorem DL:∀{l:List (List Bool)},(∀x∈l,x.length<=1000)->(l.flatMap Bg).length<=1100*l.length
 | [],_=>by simp
 | x :: l,h=>by
  have h1:=DK (h x (zaw ..));have h2:=DL (l:=l) (fun y o=>h y (zaf _ o));simp only [List.flatMap_cons,FG,zaG];omega
theorem descB_len (h:CP m ns):(zr m ns).length<=100000000:=by
 have a1:=Ca (n:=m.w) ⟨by have:=h.w;omega,by have:=h.w;omega⟩;have a2:=Ca (n:=m.h) ⟨by have:=h.h;omega,by have:=h.h;omega⟩;have a3:=Ca (n:=m.l) ⟨by have:=h.l;omega,by have:=h.l;omega⟩;have a4:=Ca (n:=(m.tasks.length:Int)) ⟨by omega,by have:=h.tl;omega⟩;have a5:=Ca (n:=(m.free.length:Int)) ⟨by omega,by have:=h.fl;omega⟩;have a6:=Dr h.t h.n;have a7:=DL h.f;have a8:=DK h.u;have:=h.tl;have:=h.fl;unfold zr;simp only [FG];omega
theorem MadeM.small (h:MadeM m) (E:ns.length=m.tasks.length) (o:∀s∈ns,s.size<=1):CP m ns:=by
 have O:=h.w;have hh:=h.h;have G:=h.l;have I:=h.n;have ht:=h.tk;have M:=h.good.1.up;have hf:=h.good.2;refine ⟨by omega,by omega,by omega,by omega,E,fun x D=>?_,fun s J=>by have:=o s J;omega,by omega,fun f hf=>?_,?_⟩
 ·have h1:=(h.te x D).2;refine ⟨by omega,by omega,fun n o=>?_⟩;have:=h.good.5 x D n o;have e:m.n=m.w*m.h*m.l:=rfl;exact ⟨by omega,by omega⟩
 ·have:=h.good.3 f hf;have e:m.n=m.w*m.h*m.l:=rfl;omega
 ·have e:m.n=m.w*m.h*m.l:=rfl;omega
end
section
open Go.RowKit Go.Shelf
attribute [local go_sem ↓] Go.wp_at_zero Go.wp_at_succ
theorem numS_bound {c:UInt8} {s:Rd} {n:Int} (h:Cc c s=some (n,b)):Cz n/\b.length<=s.1.length:=by
 unfold Cc numP at h
 split at h
 ·cases h
 ·split at h
  ·cases h
  ·rename_i a b' D
   have E:=(CG D).2
   split at h
   ·rename_i v o
    split at h
    ·injection h with h;injection h with h1 h2;subst h1 h2;exact ⟨⟨(Lib.atoiAll_bounds o).1,(Lib.atoiAll_bounds o).2⟩,by rw [E];simp;omega⟩
    ·cases h
   ·cases h
theorem textF_len (s:Rd):(Cd s).1.length<=s.1.length/\(Cd s).2.1.length<=s.1.length:=by
 unfold Cd
 cases o:Cc 58 s with
 | none=>exact ⟨FN _,FN _⟩
 | some p=>
  obtain ⟨n,b⟩:=p;have D:=(numS_bound o).2;simp only
  split
  ·exact ⟨FN _,FN _⟩
  ·simp;omega
theorem rText_calls {s:Rd} (w:World) (hv:zv w) (h:RdAt w r s) (hl:s.1.length<=281474976710656):Calls Tryz.prog 198 #[.pointer (some ⟨r,0,none⟩)] w fun e w'=>e=.returned (.string ⟨(Cd s).1.toArray⟩)/\zu (·=r) w w'/\RdAt w' r (Cd s).2:=by
 have HN:=zh (number_calls 58 w hv h hl);have I:Hid (∀o,o=Cc 58 s->Cd s=match o with | none=>([],([],true)) | some (n,b)=>if n<0\/(b.length:Int)<n then ([],([],true)) else (b.take n.toNat,(b.drop n.toNat,false))):=fun o ho=>by rw [ho];rfl
 have O:Hid (∀n b,Cc 58 s=some (n,b)->Cz n/\b.length<=s.1.length):=fun n b h=>numS_bound h
 generalize Cc 58 s=o at HN I O;have I:=zh (I.out o rfl);generalize Cd s=i at I⊢;clear hv h
 go_enter Tryz.func198,Tryz.ntmps198
 cases o with
 | none=>
  go_wp2_with fail
  refine HN.out.mono ?_;rintro e w1 ⟨hC,-,hn⟩;obtain ⟨rfl,U⟩:=hn rfl;have HR:=zh U;have V:=zh hC;clear hC hn U HN
  go_wp2_with fail
  refine (CX w1 HR.out).mono ?_;rintro e w2 ⟨rfl,D,E⟩;have G:=zh (V.out.tr D);have M:=zh E;clear D E
  go_wp2_with fail
  go_ret;have e:=I.out;subst e;exact ⟨rfl,G.out,M.out⟩
 | some p=>
  obtain ⟨n,b⟩:=p;obtain ⟨Q,b0⟩:=O.out n b rfl;have a6:=Q.1;have a7:=Q.2;clear Q O
  go_wp2_with fail
  refine HN.out.mono ?_;rintro e w1 ⟨hC,hs,-⟩;obtain ⟨rfl,U⟩:=hs n b rfl;have HR:=zh U;have V:=zh hC;have c0:=U.cell (k:=0) rfl;have hf:∀k,w1.frozen? ⟨r,k,none⟩=false:=fun k=>U.frozen k
  dsimp only at c0;clear hC hs U HN;by_cases a3:n<0
  ·have J:Hid (i=([],([],true))):=by (show _=_);rw [I.out];rw [if_pos (.inl a3)]
   clear I
   go_wp2_with fail
   refine (CX w1 HR.out).mono ?_;rintro e w2 ⟨rfl,D,E⟩;have G:=zh (V.out.tr D);have M:=zh E;clear D E
   go_wp2_with fail
   go_ret;have e:=J.out;subst e;exact ⟨rfl,G.out,M.out⟩
  ·by_cases a4:(b.length:Int)<n
   ·have J:Hid (i=([],([],true))):=by (show _=_);rw [I.out];rw [if_pos (.inr a4)]
    clear I
    go_wp2_with fail
    refine (CX w1 HR.out).mono ?_;rintro e w2 ⟨rfl,D,E⟩;have G:=zh (V.out.tr D);have M:=zh E;clear D E
    go_wp2_with fail
    go_ret;have e:=J.out;subst e;exact ⟨rfl,G.out,M.out⟩
   ·obtain ⟨k,rfl⟩:∃k:Nat,n=k:=⟨n.toNat,by omega⟩;have J:Hid (i=(b.take k,(b.drop k,false))):=by (show _=_);rw [I.out];rw [if_neg (by omega)];rfl
    have b1:k<=b.length:=by omega
    have e1:ByteArray.extract ⟨b.toArray⟩ 0 k=⟨(b.take k).toArray⟩:=Cl b k;have e2:ByteArray.extract ⟨b.toArray⟩ k b.length=⟨(b.drop k).toArray⟩:=Eo b k;clear I a4 a3
    go_wp2_with fail
    go_ret;have e:=J.out;subst e;exact ⟨rfl,Cs (X:=(·=r)) V.out r 0 _ rfl,HR.out.set (k:=0) _⟩
theorem CW (w:World) (O:s.length<=9223372036854775000):Calls Tryz.prog 142 #[.string ⟨s.toArray⟩] w fun e w'=>e=.returned (.string ⟨(wT s).toArray⟩)/\za w w':=by
 have E:Cz (s.length:Int):=⟨by omega,by omega⟩;have G:=zh (mdec_calls (2*(s.length:Int).natAbs+2) (s.length:Int) w E (by rw [if_neg (by omega)];omega));have o:=Cn E;obtain ⟨d,D⟩:=zaI (Lib.itoa (s.length:Int));have I:Hid (wT s=d++58 :: s):=by (show wT s=_);rw [D];rfl
 rw [<-D] at o G;have Q:∀w,(Op.stringOp .add ⟨d.toArray⟩ ⟨#[58]⟩).run Tryz.prog w=.ok (.string ⟨(d++[58]).toArray⟩) w:=fun w=>zJ (y:=[58]) (by simp;omega)
 have M:∀w,(Op.stringOp .add ⟨(d++[58]).toArray⟩ ⟨s.toArray⟩).run Tryz.prog w=.ok (.string ⟨(d++58 :: s).toArray⟩) w:=fun w=>by have:=zJ (w:=w) (x:=d++[58]) (y:=s) (by simp;omega);rwa [List.append_assoc] at this
 clear D o O E
 go_enter Tryz.func142,Tryz.ntmps142
 go_wp2_with fail
 refine G.out.mono ?_;rintro e w1 ⟨rfl,J⟩
 go_wp2_with fail
 go_ret;exact ⟨CE I.out.symm,J⟩
theorem mRText_calls {s:Rd} (w:World) (h:Cg w r l s) (hl:l.length<=1000000000000):Calls Tryz.prog 157 #[.pointer (some ⟨r,0,none⟩)] w fun e w'=>e=.returned (.string ⟨(Cd s).1.toArray⟩)/\zu (·=r) w w'/\Cg w' r l (Cd s).2:=by
 have HN:Hid (Calls Tryz.prog 210 #[.pointer (some ⟨r,0,none⟩),.int .u8 58] w (NumQ r l s (Cc 58 s) w)):=mNumber_calls 58 w h hl;have G:Hid (∀o,o=Cc 58 s->Cd s=match o with | none=>([],([],true)) | some (n,b)=>if n<0\/(b.length:Int)<n then ([],([],true)) else (b.take n.toNat,(b.drop n.toNat,false))):=fun o ho=>by rw [ho];rfl
 have a0:Hid (∀n b,Cc 58 s=some (n,b)->Cz n/\b.length<=s.1.length):=fun n b h=>numS_bound h
 have a8:=zh hl;generalize Cc 58 s=o at HN G a0;have G:=zh (G.out o rfl);generalize Cd s=i at G⊢;clear h hl
 go_enter Tryz.func157,Tryz.ntmps157
 cases o with
 | none=>
  go_wp2_with fail
  refine HN.out.mono ?_;rintro e w1 ⟨hC,-,hn⟩;obtain ⟨rfl,hr⟩:=hn rfl;have HF:=zh (Dz w1 hr);have HC:=zh hC;clear hC hn hr HN
  go_wp2_with fail
  refine HF.out.mono ?_;rintro e w2 ⟨rfl,M,b8⟩;have J:=zh b8;have D:Hid (zu (·=r) w w2):=HC.out.tr M;clear M b8 HF HC
  go_wp2_with fail
  go_ret;have e:=G.out;subst e;exact ⟨rfl,D.out,J.out⟩
 | some p=>
  obtain ⟨n,b⟩:=p;obtain ⟨a2,-⟩:=a0.out n b rfl;have e0:=a2.1;have e2:=a2.2;clear a2 a0
  go_wp2_with fail
  refine HN.out.mono ?_;rintro e w1 ⟨hC,hs,-⟩;obtain ⟨rfl,hr⟩:=hs n b rfl;have HR:=zh hr;have HC:=zh hC;have HF:=zh (Dz w1 hr);clear hC hs hr HN;by_cases b6:n<0
  ·have I:Hid (i=([],([],true))):=by (show _=_);rw [G.out];rw [if_pos (.inl b6)]
   clear G
   go_wp2_with fail
   refine HF.out.mono ?_;rintro e w2 ⟨rfl,M,b3⟩;have D:=zh (HC.out.tr M);have J:=zh b3;clear M b3
   go_wp2_with fail
   go_ret;have e:=I.out;subst e;exact ⟨rfl,D.out,J.out⟩
  ·have a1:=zh (mLeft_calls w1 HR.out a8.out);have b5:AH (b,false)=b.length:=rfl;rw [b5] at a1;clear b5;by_cases b7:(b.length:Int)<n
   ·have I:Hid (i=([],([],true))):=by (show _=_);rw [G.out];rw [if_pos (.inr b7)]
    clear G HF
    go_wp2_with fail
    refine a1.out.mono ?_;rintro e w2 ⟨rfl,E⟩;have J:=zh (HR.out.ext E);have D:=zh (HC.out.tr (chg_ext E));clear E
    go_wp2_with fail
    refine (Dz w2 J.out).mono ?_;rintro e w3 ⟨rfl,b2,b4⟩;have c9:=zh (D.out.tr b2);have d6:=zh b4;clear b2 b4
    go_wp2_with fail
    go_ret;have e:=I.out;subst e;exact ⟨rfl,c9.out,d6.out⟩
   ·obtain ⟨k,rfl⟩:∃k:Nat,n=k:=⟨n.toNat,by omega⟩;have I:Hid (i=(b.take k,(b.drop k,false))):=by (show _=_);rw [G.out];rw [if_neg (by omega)];rfl
    have e5:k<=b.length:=by omega
    clear G b7 b6 HF;go_upto_region 2 with fail;go_cut [22] (fun v wx=>v=.bool false/\Hid (za w1 wx))
    case first=>
     go_wp2_with fail
     refine a1.out.mono ?_;rintro e w2 ⟨rfl,E⟩;have Q:=zh E;clear E
     go_wp2_with fail
     go_meet;exact ⟨by first | rfl | simp;omega,Q.out⟩
    case rest=>
     obtain ⟨rfl,Q⟩:=hcut;obtain ⟨w2,rfl⟩:∃W:World,W=wc:=⟨_,rfl⟩;obtain ⟨p,hs,hb⟩:=HR.out.ext Q.out;have O:=hs.ok rfl;have f0:=hs.le;dsimp only at O;have d7:b.length=l.length - p:=by rw [O,zaC]
     have e6:=a8.out;have c0:=za.rule (hb.cell (k:=0) rfl);have c1:=za.rule (hb.cell (k:=1) rfl);have hx:za w2 w2:=za.refl w2;have e1:ByteArray.extract ⟨l.toArray⟩ p (p+k)=⟨(b.take k).toArray⟩:=by rw [ext_mid l p (p+k) (by omega),O,show p+k - p=k by omega]
     have V:p+k<=l.length:=by omega
     have b0:Hid (QrS l (b.drop k,false) (p+k)):=⟨V,fun _=>by rw [O,List.drop_drop],fun h=>by cases h⟩;obtain ⟨q,hq⟩:=zaI (p+k);rw [<-hq] at e1 V b0;have e8:IntKind.i64.wrap ((p:Int)+(k:Int))=(q:Int):=by rw [zag];omega
     have e9:p<=q:=by omega
     clear hq;have c7:=zh hb;have D:=zh (HC.out.tr (chg_ext Q.out));clear hs O hb d7;go_upto_region 5 with fail;go_cut [5] (fun v wx=>v=.string ⟨(b.take k).toArray⟩/\Hid (za w2 wx))
     case first=>
      go_quiet (fail)
      go_wp2_with fail
      go_meet;exact ⟨rfl,hx.drewN _⟩
     case rest=>
      obtain ⟨rfl,a7⟩:=hcut;obtain ⟨w3,rfl⟩:∃W:World,W=wc:=⟨_,rfl⟩;have b9:=a7.out;have U:=c7.out.ext b9;have c1':=U.cell (k:=1) rfl;have yf:∀j,w3.frozen? ⟨r,j,none⟩=false:=fun j=>U.frozen j
      have c8:=zh U;clear c0 c1 U b9 hx
      go_wp2_with fail
      go_ret;have e:=I.out;subst e;exact ⟨rfl,Cs (D.out.tr (chg_ext a7.out)) r 1 _ rfl,q,b0.out,c8.out.set (k:=1) _⟩
def sPre_ren:Go.Shelf.Ren:=⟨fun | 99=>144 | 206=>196 | n=>n,fun | 9=>9 | 4=>4 | 3=>3 | n=>n,fun | n=>n⟩
theorem sPre:Go.Proofs.Lays.n99 Tryz.prog sPre_ren:=by
 constructor
 iterate 4 (all_goals first | kernel_rfl | (intro _;kernel_rfl) | exact ⟨_,by decide,by kernel_rfl⟩ | constructor)
theorem pre_calls (s p:List UInt8) (w:World):Calls Tryz.prog 144 #[.string ⟨s.toArray⟩,.string ⟨p.toArray⟩] w fun e w'=>e=.returned (.bool (p.isPrefixOf s))/\w=w':=
 (Any.strings_HasPrefix sPre ⟨s.toArray⟩ ⟨p.toArray⟩ w).mono fun e w' h=>⟨by rw [h.1];rfl,h.2.symm⟩
theorem jBits_calls {l:List Bool} (w:World) (hv:zv w) (hl:AR w ok v l) (a7:l.length<=1000000000):Calls Tryz.prog 140 #[v] w fun e w'=>e=.returned (.string ⟨(Bg l).toArray⟩)/\za w w':=by
 have HL:=zh hl;have HV:=zh hv;obtain ⟨A,c,rfl,hc,hr⟩:=hl;clear hv hr
 go_enter Tryz.func140,Tryz.ntmps140
 go_wp2_with fail
 have J:Hid (Fs w.heap.size (Lib.byteCells []) (w.alloc (.cells #[.pointer none,.slice none 0 0] 134))):=Fs.new w;have O:Hid (za w (w.alloc (.cells #[.pointer none,.slice none 0 0] 134))):=(za.refl w).alloc _;generalize w.alloc _=w1 at J O⊢;go_loopw [8] (fun i wr=>∃k:Nat,k<=l.length/\i=.int .i64 k/\Hid (Fs w.heap.size (Lib.byteCells ((l.take k).map bitB)) wr)/\Hid (za w wr)) (fun i _=>l.length - (intOf i).toNat)
 case atStart=>exact ⟨0,FN _,rfl,J,O⟩
 clear J O
 case round=>
  obtain ⟨k,hk,rfl,HB,V⟩:=hrel;have I:((l.take k).map bitB).length<=l.length:=by simp;omega
  by_cases Q:k<l.length
  ·have hR:=HL.out.below V.out;obtain ⟨A',c',e',-,hr⟩:=hR;injection e' with e1 e2 e3;subst e1;obtain ⟨b,off,rfl,-,D⟩:=BS hr Q Q;obtain ⟨x,hx⟩:=zaI (l[k]);rw [<-hx] at D;have HS:Hid ((l.take (k+1)).map bitB=(l.take k).map bitB++[bitB x]):=by (show _=_);rw [FF Q,za2,hx];rfl
   have U:Hid ((Lib.byteCells ((l.take k).map bitB)).length+1<=140737488355328):=by (show _<=_);rw [bui_len];omega
   clear hx hr e2 e3 I
   cases x with
   | true=>
    go_wp2_with fail
    refine (Ef 49 HB.out U.out).mono ?_;rintro e w3 ⟨rfl,G,o⟩
    have M:Hid (Fs w.heap.size (Lib.byteCells ((l.take (k+1)).map bitB)) w3):=by
     rw [HS.out];have:=G;rw [show Value.int .u8 49=Value.int .u8 (49:UInt8).toNat from rfl,bui_bytes] at this;exact .inr this
    have E:Hid (za w w3):=Below.trans V.out o;clear G o D
    go_wp2_with fail
    go_roundw
    case rel=>exact ⟨k+1,by omega,by go_num,M,E⟩
    case measure=>simp [intOf];omega
   | false=>
    go_wp2_with fail
    refine (Ef 48 HB.out U.out).mono ?_;rintro e w3 ⟨rfl,G,o⟩
    have M:Hid (Fs w.heap.size (Lib.byteCells ((l.take (k+1)).map bitB)) w3):=by
     rw [HS.out];have:=G;rw [show Value.int .u8 48=Value.int .u8 (48:UInt8).toNat from rfl,bui_bytes] at this;exact .inr this
    have E:Hid (za w w3):=Below.trans V.out o;clear G o D
    go_wp2_with fail
    go_roundw
    case rel=>exact ⟨k+1,by omega,by go_num,M,E⟩
    case measure=>simp [intOf];omega
  ·obtain rfl:k=l.length:=by omega
   rw [FJ] at HB;have HT:Hid (∀W,za w W->Calls Tryz.prog 139 #[.string ⟨(l.map bitB).toArray⟩] W fun e w'=>e=.returned (.string ⟨(Bg l).toArray⟩)/\za W w'):=fun W hW=>CY W (HV.out.ext hW) (by rw [zau];omega)
   clear I
   go_wp2_with fail
   refine (Ez HB.out V.out.size).mono ?_;rintro e w3 ⟨rfl,o⟩;have E:Hid (za w w3):=Below.trans V.out o;clear o
   go_wp2_with fail
   refine (HT.out _ E.out).mono ?_;rintro e w4 ⟨rfl,a0⟩;have a3:Hid (za w w4):=E.out.trans a0;clear a0
   go_wp2_with fail
   go_ret;exact ⟨rfl,a3.out⟩
theorem Eh (w:World) (I:zv w) (Q:id.length<=1000000):Calls Tryz.prog 75 #[.string ⟨id.toArray⟩] w fun e w'=>e=.returned (.string ⟨(zx id).toArray⟩)/\za w w':=by
 have h1:=Bv (s:=BJ) (by decide);have h2:=Bv (s:=id) (by omega);have h0:BJ.length=5:=rfl;obtain ⟨x1,o⟩:∃x,x=wT BJ:=⟨_,rfl⟩;obtain ⟨x2,D⟩:∃x,x=wT id:=⟨_,rfl⟩;have O:Hid (zx id=x1++x2):=by (show _=_);rw [o,D];rfl
 rw [<-o] at h1;rw [<-D] at h2;have J:Hid (Calls Tryz.prog 139 #[.string ⟨#[114,111,117,116,101]⟩] w fun e w'=>e=.returned (.string ⟨x1.toArray⟩)/\za w w'):=by rw [o];exact CY (s:=BJ) w I (by decide)
 have M:Hid (∀W,za w W->Calls Tryz.prog 139 #[.string ⟨id.toArray⟩] W fun e w'=>e=.returned (.string ⟨x2.toArray⟩)/\za W w'):=fun W hW=>by rw [D];exact CY W (I.ext hW) (by omega)
 have U:∀w,(Op.stringOp .add ⟨x1.toArray⟩ ⟨x2.toArray⟩).run Tryz.prog w=.ok (.string ⟨(x1++x2).toArray⟩) w:=fun w=>zJ (by omega)
 clear o D I h0 h1 h2 Q
 go_enter Tryz.func75,Tryz.ntmps75
 go_wp2_with fail
 refine J.out.mono ?_;rintro e w1 ⟨rfl,E⟩
 go_wp2_with fail
 refine (M.out _ E).mono ?_;rintro e w2 ⟨rfl,G⟩
 go_wp2_with fail
 go_ret;exact ⟨CE O.out.symm,E.trans G⟩
end
section
open Go.RowKit Go.Shelf
attribute [local go_sem ↓] Go.wp_at_zero Go.wp_at_succ
attribute [local go_sem] Oper.semAt_some
theorem chain_l (a b:List UInt8) (w:World) (o:a.length<=1000000000) (D:b.length<=1000000000):Calls Tryz.prog 154 #[.string ⟨a.toArray⟩,.string ⟨b.toArray⟩] w fun e w'=>e=.returned (.string ⟨(Dl a b).toArray⟩)/\za w w':=
 Chain_calls ⟨a.toArray⟩ ⟨b.toArray⟩ w (by simpa [ByteArray.size] using o) (by simpa [ByteArray.size] using D)
theorem of_l (a:List UInt8) (w:World) (o:a.length<=1000000000):Calls Tryz.prog 141 #[.string ⟨a.toArray⟩] w fun e w'=>e=.returned (.string ⟨(BB a).toArray⟩)/\za w w':=
 Of_calls ⟨a.toArray⟩ w (by simpa [ByteArray.size] using o)
theorem body_len (h:∀x∈ch,Cz x) (o:Cz st):(BP ch st).length<=22*ch.length+24/\(wL ch).length<=22*ch.length+2/\(wI st).length<=22:=by
 have h1:=wIs_len h;have h2:=Ca o;unfold BP wL;simp only [FG,zaG,zaH];omega
abbrev Eg (w:World) (g:Nat) (sg:List UInt8):Prop:=ze w g 9 #[.string ⟨sg.toArray⟩]
theorem blk_ne_var {t:TypeId} (h:zv w) (D:ze w r t cs) (h1:cs.size<=8) (h2:∀t p,cs≠#[.iface t p]):∀g,g=r->¬ isVar g:=by
 rintro g rfl ⟨n,G,E⟩
 have f:∀ds,w.var? Tryz.prog n=some ds->ds=cs:=fun ds h=>by
  unfold World.var? at h;rw [E] at h;have o:w.heap[g]?=some (.cells cs t (0,0)):=D;simp only [Option.bind_some,o] at h;injection h with h;exact h.symm
 rcases G with rfl | rfl | rfl
 ·have:=congrArg Array.size (f _ h.tab);simp [Lib.pow10Tab] at this;omega
 ·obtain ⟨tp,p,h⟩:=h.syn;exact h2 _ _ (f _ h).symm
 ·obtain ⟨tp,p,h⟩:=h.rng;exact h2 _ _ (f _ h).symm
theorem seal_ne (h:zv w) (o:Eg w r sg):∀g,g=r->¬ isVar g:=
 blk_ne_var h o (by simp) (fun t p e=>by have:=congrArg (fun a:Array Value=>a[0]?) e;simp at this)
theorem jSealer_calls (sg:List UInt8) (w:World):Calls Tryz.prog 82 #[.string ⟨sg.toArray⟩] w fun e w'=>e=.returned (.func (.func 153) #[] #[.pointer (some ⟨w.heap.size,0,none⟩)])/\za w w'/\Eg w' w.heap.size sg:=by
 go_enter Tryz.func82,Tryz.ntmps82
 go_wp2_with fail
 go_ret;exact ⟨rfl,(za.refl w).alloc _,ze.new _ _ _ rfl⟩
theorem jSeal_calls {vc:Value} (w:World) (hv:zv w) (hg:Eg w g sg) (d6:sg.length<=1000) (hc:zg w ok vc ch) (hi:∀x∈ch,Cz x) (c9:ch.length<=40000000) (a7:Cz st):
  Calls Tryz.prog 153 #[vc,.int .i64 st,.pointer (some ⟨g,0,none⟩)] w fun e w'=>e=.returned (.string ⟨(Ay sg ch st).toArray⟩)/\zu (·=g) w w'/\Eg w' g (zY sg ch st)/\zv w':=by
 obtain ⟨c8,b4,b5⟩:=body_len hi a7;obtain ⟨x1,G⟩:∃x,x=wL ch:=⟨_,rfl⟩;obtain ⟨x2,I⟩:∃x,x=wI st:=⟨_,rfl⟩;obtain ⟨bd,o⟩:∃x,x=BP ch st:=⟨_,rfl⟩;have a6:bd=x1++x2:=by rw [o,G,I];rfl
 obtain ⟨s2,D⟩:∃x,x=zY sg ch st:=⟨_,rfl⟩;have O:s2=Dl sg bd:=by rw [D,o];rfl
 have b6:s2.length=8:=by rw [D];exact By _ _ _
 have a3:=Bv (s:=bd) (by rw [o];omega);have b0:=Bv (s:=s2) (by omega);obtain ⟨y1,J⟩:∃x,x=wT bd:=⟨_,rfl⟩;obtain ⟨y2,M⟩:∃x,x=wT s2:=⟨_,rfl⟩;have HR:Hid (Ay sg ch st=y1++y2):=by (show _=_);rw [J,M,o,D];rfl
 have H1:Hid (∀W,za w W->Calls Tryz.prog 52 #[vc] W fun e w'=>e=.returned (.string ⟨x1.toArray⟩)/\za W w'):=fun W hW=>by rw [G];exact Ec W (hv.ext hW) (hc.below hW) hi (by omega)
 have H2:Hid (∀W,za w W->Calls Tryz.prog 51 #[.int .i64 st] W fun e w'=>e=.returned (.string ⟨x2.toArray⟩)/\za W w'):=fun W hW=>by rw [I];exact ER W (hv.ext hW) a7
 have HC:Hid (∀W,Calls Tryz.prog 154 #[.string ⟨sg.toArray⟩,.string ⟨(x1++x2).toArray⟩] W fun e w'=>e=.returned (.string ⟨s2.toArray⟩)/\za W w'):=fun W=>by rw [O,<-a6];exact chain_l sg bd W (by omega) (by rw [o];omega)
 have H3:Hid (∀W,zv W->Calls Tryz.prog 139 #[.string ⟨(x1++x2).toArray⟩] W fun e w'=>e=.returned (.string ⟨y1.toArray⟩)/\za W w'):=fun W hW=>by rw [J,<-a6];exact CY W hW (by rw [o];omega)
 have H4:Hid (∀W,zv W->Calls Tryz.prog 139 #[.string ⟨s2.toArray⟩] W fun e w'=>e=.returned (.string ⟨y2.toArray⟩)/\za W w'):=fun W hW=>by rw [M];exact CY W hW (by omega)
 rw [<-G] at b4;rw [<-I] at b5;rw [<-J] at a3;rw [<-M] at b0;rw [o] at a3;have a1:∀w,(Op.stringOp .add ⟨x1.toArray⟩ ⟨x2.toArray⟩).run Tryz.prog w=.ok (.string ⟨(x1++x2).toArray⟩) w:=fun w=>zJ (by omega)
 have a2:∀w,(Op.stringOp .add ⟨y1.toArray⟩ ⟨y2.toArray⟩).run Tryz.prog w=.ok (.string ⟨(y1++y2).toArray⟩) w:=fun w=>zJ (by omega)
 have HG:=zh hg;have HV:=zh hv;have b9:=zh D;obtain ⟨A,c,rfl,-,-⟩:=hc;clear G I a6 o D O b6 a3 b0 J M c8 b4 b5 hi c9 a7 hv hg d6
 go_enter Tryz.func153,Tryz.ntmps153
 go_wp2_with fail
 refine (H1.out _ (za.refl w)).mono ?_;rintro e w1 ⟨rfl,a4⟩
 go_wp2_with fail
 refine (H2.out _ a4).mono ?_;rintro e w2 ⟨rfl,b1⟩;have a8:Hid (za w w2):=a4.trans b1;have a9:=zh (HG.out.ext a8.out);have c0:=a9.out.cell (k:=0) rfl;clear a4 b1
 go_wp2_with fail
 refine (HC.out _).mono ?_;rintro e w3 ⟨rfl,a5⟩;have b8:Hid (za w w3):=a8.out.trans a5;have V:=zh (a9.out.ext a5);have f0:=V.out.frozen 0;have c3:=V.out.cell (k:=0) rfl;clear a5 c0;go_upto_region 3 with fail;have Q:Hid (zu (·=g) w (w3.setCell ⟨g,0,none⟩ (.string ⟨s2.toArray⟩))):=Cs (X:=(·=g)) (chg_ext b8.out) g 0 _ rfl;have a0:Hid (Eg (w3.setCell ⟨g,0,none⟩ (.string ⟨s2.toArray⟩)) g s2):=V.out.set (k:=0) _;have E:Hid (zv (w3.setCell ⟨g,0,none⟩ (.string ⟨s2.toArray⟩))):=EP HV.out Q.out (seal_ne HV.out HG.out);generalize w3.setCell ⟨g,0,none⟩ (.string ⟨s2.toArray⟩)=w4 at Q a0 E⊢;have q0:=za.rule (a0.out.cell (k:=0) rfl);have hx:za w4 w4:=za.refl w4;clear f0 c3;refine zab (S:=(fun W=>za w4 W)) zG (hx.drew) fun zH=>?_;have b2:za w4 w4.drew:=zH;generalize w4.drew=wd at zH b2⊢;refine zi 0 zH ?_;refine zi 2 zH ?_;simp only [zc,Fv];refine BO 1 fun K hK=>?_;go_simp;go_at_call 139;refine (H3.out _ (E.out.ext zH)).mono ?_;rintro e w5 ⟨rfl,c6⟩;go_simp;refine zaJ hK (zH.trans c6) fun zH=>?_;clear hK K;try simp only [zc,Fv]
 refine BO 3 fun K hK=>?_;go_simp;go_at_call 139;refine (H4.out _ (E.out.ext zH)).mono ?_;rintro e w6 ⟨rfl,c7⟩;go_simp;refine zaJ hK (zH.trans c7) fun zH=>?_;clear hK K;try simp only [zc,Fv]
 refine zi 4 zH ?_;refine zi 5 zH ?_;simp only [zc,Fv];refine zao (by kernel_rfl) ?_ _;have U:=zh zH;clear zH b2 hx
 go_wp2_with fail
 go_ret;refine ⟨CE HR.out.symm,Q.out.tr (chg_ext U.out),?_,E.out.ext U.out⟩;rw [<-b9.out];exact a0.out.ext U.out
end
section
open Go.RowKit Go.Shelf
attribute [local go_sem ↓] Go.wp_at_zero Go.wp_at_succ
theorem own_blk_neF {e:TypeId} {size:Nat} {xs:List Value} {t:TypeId} (h:w.ownsRowF base e size v n xs) (o:ze w g t cs) (D:e≠t):v.ownBlock≠some g:=by
 rcases h.2 with ⟨rfl,_⟩ | ⟨g',cap,cur,fz,rfl,_,hh,_⟩
 ·simp [Value.ownBlock]
 ·intro he;have:g'=g:=by simpa [Value.ownBlock] using he
  subst this;unfold ze at o;rw [hh] at o;injection o with o;injection o with _ ht;exact D ht
theorem cc_keep (h:Fs B bs w):Calls Tryz.prog 152 #[.pointer (some ⟨B,0,none⟩)] w fun e w'=>e=.returned (.tuple #[])/\BuiU B bs w'/\Below B w w'/\∀g,g≠B->w'.heap[g]?=w.heap[g]?:=by
 rcases h with h | h
 ·refine (ccNew B w h.cell0 h.shape h.frozen0).mono ?_;rintro e w' ⟨rfl,rfl⟩;exact ⟨rfl,h.used _,(Below.refl B w).setCell (p:=⟨B,0,none⟩) (Fy _) _,fun g o=>FH w ⟨B,0,none⟩ _ g o⟩
 ·refine (ccUsed B w h.cell0).mono ?_;rintro e w' ⟨rfl,rfl⟩;exact ⟨rfl,h,Below.refl B w,fun _ _=>rfl⟩
theorem De (s:ByteArray) (h:Fs B bs w) (hl:bs.length+s.size<=140737488355328):
  Calls Tryz.prog 81 #[.pointer (some ⟨B,0,none⟩),.string s] w fun e w'=>e=.returned (.tuple #[.int .i64 s.size,.nilIface])/\BuiU B (bs++Lib.strCells s) w'/\Below B w w'/\∀g t cs,g≠B->t≠5->ze w g t cs->ze w' g t cs:=by
 obtain ⟨i0,hi,a1,a2,a3⟩:=info_parts sExt.infoByte;have H:=zh h;clear h
 go_enter Tryz.func81,Tryz.ntmps81
 go_wp2_with fail
 refine (cc_keep H.out).mono ?_;rintro e w1 ⟨rfl,⟨hB,v,I,o,V⟩,M,Q⟩;have c1:w1.cell? ⟨B,1,none⟩=some v:=by rw [Lib.cell_of_heap I];rfl
 have U:=DG I
 go_wp2_with (at_builtin;refine Lib.wpList_append_own_stringF _ rfl _ _ 76 9 rfl B 5 i0 Tryz.underlying76 Tryz.underlying9 hi a1 a2 a3 _ _ _ rfl o s rfl ?c3 ?c4 ?c5 ?_)
 case c3=>unfold maxLen;omega
 case c4=>omega
 case c5=>omega
 intro v' w2 D O _
 have G:w2.heap[B]?=some (.cells #[.pointer (some ⟨B,0,none⟩),v] 134 (0,0)):=by
  rw [O.block B U (fun e=>V e.symm)];exact I
 have d1:w2.cell? ⟨B,1,none⟩=some v:=by rw [Lib.cell_of_heap G];rfl
 have f1:w2.frozen? ⟨B,1,none⟩=false:=Lib.frozen_of_heap G 1
 obtain ⟨ao,n',cap,rfl⟩:∃ao n' cap,v'=.slice ao n' cap:=by
  rcases D.2 with ⟨hv,_⟩ | ⟨g,cap,cur,fz,hv,_⟩
  ·exact ⟨_,_,_,hv⟩
  ·exact ⟨_,_,_,hv⟩
 have HK:Hid (∀g t cs,g≠B->t≠5->ze w g t cs->ze w2 g t cs):=fun g t cs E ht J=>by
  have h1:ze w1 g t cs:=(Q g E).trans J;exact (O.block g (zd h1) (fun e=>own_blk_neF o h1 (Ne.symm ht) e.symm)).trans h1
 go_wp2
 go_ret2
 refine ⟨rfl,Lib.BuilderAtF.put (T:=134) (e:=5) hB G (bs':=bs++Lib.strCells s) (by simpa [Lib.strCells_length] using D) (by decide),?_,?_⟩
 ·exact (M.grown O (by omega) (fun k hk=>(o.lt k hk).1)).setCell (p:=⟨B,1,none⟩) hB _
 ·exact fun g t cs E ht J=>(HK.out g t cs E ht J).setOther (a:=⟨B,1,none⟩) E _
theorem tasksJAt {A:Option Addr} {c:Nat} {l:List (List Int×List Int)} (h:TasksN w ok (.slice A n c) l ns) (D:k<l.length) (E:k<ns.length):
  ∃b off u1 u2,A=some ⟨b,off,none⟩/\w.cell? ⟨b,off+k*3,none⟩=some (.string ns[k])/\w.cell? ⟨b,off+k*3+1,none⟩=some u1/\w.cell? ⟨b,off+k*3+2,none⟩=some u2/\zg w ok u1 l[k].1/\zg w ok u2 l[k].2:=by
 obtain ⟨-,vs,⟨A',c',G,_,J,o⟩,he⟩:=h;injection G with e1 e2 e3;subst e1;obtain ⟨b,off,rfl,I,o⟩:=o (by omega);obtain ⟨u1,u2,h0,h1,h2,i1,i2⟩:=he k _ _ (Fw D) (Fw E);exact ⟨b,off,u1,u2,rfl,o _ _ h0,by rw [Nat.add_assoc];exact o _ _ h1,by rw [Nat.add_assoc];exact o _ _ h2,i1,i2⟩
theorem bytes_self (s:ByteArray):(⟨s.data.toList.toArray⟩:ByteArray)=s:=by
 apply ByteArray.ext;simp
theorem nums4 (a b c d:Int) (k:Nat) (o:k<4):∃x,[a,b,c,d][k]?=some x/\(#[Value.int .i64 a,.int .i64 b,.int .i64 c,.int .i64 d]:Array Value)[k]?=some (.int .i64 x):=by
 match k,o with
 | 0,_=>exact ⟨_,rfl,rfl⟩
 | 1,_=>exact ⟨_,rfl,rfl⟩
 | 2,_=>exact ⟨_,rfl,rfl⟩
 | 3,_=>exact ⟨_,rfl,rfl⟩
theorem take_get {α:Type} {l:List α} {x:α} (h:l[k]?=some x):l.take (k+1)=l.take k++[x]:=by
 obtain ⟨o,e⟩:=za6.1 h;rw [FF o,e]
theorem bui_app {z:List UInt8} (h:BuiU B (Lib.byteCells x++Lib.strCells ⟨y.toArray⟩) w) (e:z=x++y):Fs B (Lib.byteCells z) w:=by
 rw [bui_str] at h;rw [e];exact .inr h
theorem DR (h:x.length+y.length<=140000000000000):(Lib.byteCells x).length+(ByteArray.mk y.toArray).size<=140737488355328:=by
 rw [bui_len];simp [ByteArray.size];omega
theorem ET (w:World) (hv:zv w) (hm:Bx w ok v m ns) (hs:CP m ns):
  Calls Tryz.prog 76 #[v] w fun e w'=>e=.returned (.string (dmk (BB (zr m ns))))/\za w w':=by
 have HV:=zh hv;have HS:=zh hs;obtain ⟨f,u,t,rfl,hF,hU,hT⟩:=hm;have HF:=zh hF;have HU:=zh hU;have HT:=zh hT;obtain ⟨_,⟨Af,cf,rfl,-,-⟩,-⟩:=hF;obtain ⟨Au,cu,rfl,-,-⟩:=hU;obtain ⟨-,_,⟨At,ct,rfl,-,-⟩,-⟩:=hT;have p8:=hs.tl;have p7:=hs.fl;clear hv hs
 go_enter Tryz.func76,Tryz.ntmps76
 go_upto_region 2 with fail;have M:=ze.new w #[.int .i64 m.w,.int .i64 m.h,.int .i64 m.l,.slice Af m.free.length cf,.slice Au m.up.length cu,.slice At m.tasks.length ct] 32 (g:=w.heap.size) rfl;have f5:za w (w.alloc (.cells #[.int .i64 m.w,.int .i64 m.h,.int .i64 m.l,.slice Af m.free.length cf,.slice Au m.up.length cu,.slice At m.tasks.length ct] 32)):=(za.refl w).alloc _;have b6:(w.alloc (.cells #[.int .i64 m.w,.int .i64 m.h,.int .i64 m.l,.slice Af m.free.length cf,.slice Au m.up.length cu,.slice At m.tasks.length ct] 32)).heap.size=w.heap.size+1:=by simp
 generalize w.alloc _=w1 at M f5 b6⊢;obtain ⟨gm,j4⟩:∃g,g=w.heap.size:=⟨_,rfl⟩;rw [<-j4] at M b6⊢;have b7:Hid (Fs w1.heap.size (Lib.byteCells []) (w1.alloc (.cells #[.pointer none,.slice none 0 0] 134))):=Fs.new w1;have g1:za w1 (w1.alloc (.cells #[.pointer none,.slice none 0 0] 134)):=(za.refl w1).alloc _;have b8:Hid ((w1.alloc (.cells #[.pointer none,.slice none 0 0] 134)).heap.size≠w1.heap.size):=by (show _≠_);simp
 generalize w1.alloc _=w2 at b7 g1 b8⊢;obtain ⟨B,hB⟩:=zaI w1.heap.size;rw [<-hB] at b7 b8 b6;rw [<-b6];have a5:=zh hB;have r0:=za.rule (M.cell (k:=0) rfl);have r1:=za.rule (M.cell (k:=1) rfl);have r2:=za.rule (M.cell (k:=2) rfl);have r3:=za.rule (M.cell (k:=3) rfl);have r4:=za.rule (M.cell (k:=4) rfl);have r5:=za.rule (M.cell (k:=5) rfl);have V:=zh f5;clear M f5 j4 hB b6;have g0:=nums4 m.w m.h m.l (m.tasks.length:Int);obtain ⟨N4,b4⟩:∃l,l=[m.w,m.h,m.l,(m.tasks.length:Int)]:=⟨_,rfl⟩;rw [<-b4] at g0;have i3:=zh b4;have i4:=zh g0
 have e7:Hid (∀x∈N4,Cz x):=fun x E=>by
  have h1:=HS.out.w;have h2:=HS.out.h;have h3:=HS.out.l;rw [b4] at E;simp at E;rcases E with rfl | rfl | rfl | rfl <;> exact ⟨by omega,by omega⟩
 have e8:Hid (∀k,((N4.take k).flatMap wI).length<=88):=fun k=>by
  have h0:N4.length=4:=by rw [b4];rfl
  have:=wIs_len (l:=N4.take k) fun x E=>e7.out x (List.mem_of_mem_take E)
  have h2:=List.length_take_le k N4;have h3:(N4.take k).length<=4:=by rw [za3];omega
  omega
 clear g0 b4
 go_wp2_with fail
 have b9:=ze.new w2 #[.int .i64 m.w,.int .i64 m.h,.int .i64 m.l,.int .i64 m.tasks.length] 3 (g:=w2.heap.size) rfl;have c0:za w2 (w2.alloc (.cells #[.int .i64 m.w,.int .i64 m.h,.int .i64 m.l,.int .i64 m.tasks.length] 3)):=(za.refl w2).alloc _;generalize w2.alloc _=w3 at b9 c0⊢;obtain ⟨ga,j3⟩:∃g,g=w2.heap.size:=⟨_,rfl⟩;rw [<-j3] at b9 b8⊢;have g8:=zh (b7.out.old c0);have i6:Hid (za w1 w3):=g1.trans c0;have g9:=zh b9;clear c0 j3 g1 b9 b7;go_loopw [21] (fun i wr=>∃k:Nat,k<=4/\i=.int .i64 k/\Hid (Fs B (Lib.byteCells ((N4.take k).flatMap wI)) wr)/\Hid (za w1 wr)/\Hid (ze wr ga 3 #[.int .i64 m.w,.int .i64 m.h,.int .i64 m.l,.int .i64 m.tasks.length])) (fun i _=>4 - (intOf i).toNat)
 case atStart=>exact ⟨0,FN _,rfl,g8,i6,g9⟩
 clear g8 i6 g9
 case round=>
  obtain ⟨k,hk,rfl,HB,HX,HA⟩:=hrel;obtain ⟨wk,rfl⟩:∃wk:World,wk=wr:=⟨_,rfl⟩;by_cases O:k<4
  ·have e0:(k:Int)<4:=by omega
   obtain ⟨x,g4,k8⟩:=i4.out k O;have cx:=HA.out.cell k8;have g3:Cz x:=e7.out x (List.mem_of_getElem? g4);have HC:Hid (Calls Tryz.prog 51 #[.int .i64 x] wk fun e w'=>e=.returned (.string ⟨(wI x).toArray⟩)/\za wk w'):=ER wk (HV.out.ext (V.out.trans HX.out)) g3;have m6:Hid ((N4.take (k+1)).flatMap wI=(N4.take k).flatMap wI++wI x):=by (show _=_);rw [take_get g4,List.flatMap_append];simp
   have HR:Hid ((Lib.byteCells ((N4.take k).flatMap wI)).length+(ByteArray.mk (wI x).toArray).size<=140737488355328):=DR (by have:=e8.out k;have:=Ca g3;omega);clear g4 k8 g3
   go_wp2_with fail
   refine HC.out.mono ?_;rintro e w5 ⟨rfl,o⟩;have Q:=zh (HB.out.old o);have l6:=zh (HA.out.ext o);have a3:Hid (za w1 w5):=HX.out.trans o;clear o cx
   go_wp2_with fail
   refine (De ⟨(wI x).toArray⟩ Q.out HR.out).mono ?_;rintro e w6 ⟨rfl,G,I,j5⟩;have U:Hid (Fs B (Lib.byteCells ((N4.take (k+1)).flatMap wI)) w6):=bui_app G m6.out;have l7:=zh (j5 ga _ _ b8.out (by decide) l6.out);have J:Hid (za w1 w6):=by have h:=I;rw [a5.out] at h;exact Below.trans a3.out h
   clear G I j5
   go_wp2_with fail
   go_roundw
   case rel=>exact ⟨k+1,by omega,by go_num,U,J,l7⟩
   case measure=>simp [intOf];omega
  ·obtain rfl:k=4:=by omega
   rw [show ((4:Nat):Int)=(4:Int) from rfl];have e4:N4.take 4=N4:=by rw [i3.out];rfl
   rw [e4] at HB;have e6:Hid ((N4.flatMap wI).length<=88):=by have h:=e8.out 4;rw [e4] at h;exact h
   obtain ⟨D1,f2⟩:∃D,D=N4.flatMap wI:=⟨_,rfl⟩;rw [<-f2] at HB e6;have m4:=zh f2;have E:za w1 wk:=HX.out;clear f2 e4 i4 e7 e8 HA
   go_wp2_with fail
   clear E;go_loopw [32] (fun i wr=>∃k:Nat,k<=m.tasks.length/\i=.int .i64 k/\Hid (Fs B (Lib.byteCells (D1++AM (m.tasks.take k) (ns.take k))) wr)/\Hid (za w1 wr)) (fun i _=>m.tasks.length - (intOf i).toNat)
   case atStart=>exact ⟨0,FN _,rfl,by rw [List.take_zero,List.take_zero,show D1++AM [] []=D1 from List.append_nil _];exact HB,HX⟩
   clear HB HX
   case round=>
    obtain ⟨k,hk,rfl,HB,HX⟩:=hrel;obtain ⟨wq,rfl⟩:∃wq:World,wq=wr:=⟨_,rfl⟩;have E:za w1 wq:=HX.out;by_cases O:k<m.tasks.length
    ·have e0:(k:Int)<(m.tasks.length:Int):=by omega
     have n7:(0:Int)<=(k:Int):=by omega
     have j9:k<ns.length:=by rw [HS.out.nl];exact O
     obtain ⟨bt,off,u1,u2,rfl,t0,t1,t2,c7,c8⟩:=tasksJAt (HT.out.below (V.out.trans E)) O j9;obtain ⟨z,hz⟩:=zaI (m.tasks[k]);obtain ⟨sn,c9⟩:∃s,s=ns[k]:=⟨_,rfl⟩;have d6:=HS.out.t z (by rw [hz];exact Fz _);have k6:=HS.out.n sn (by rw [c9];exact Fz _);have f6:AM (m.tasks.take (k+1)) (ns.take (k+1))=AM (m.tasks.take k) (ns.take k)++taskB z sn:=by rw [hz,c9];exact tasksB_take HS.out.nl k O
     have j6:=Dr (l:=m.tasks.take k) (ns:=ns.take k) (fun x E=>HS.out.t x (List.mem_of_mem_take E)) (fun x E=>HS.out.n x (List.mem_of_mem_take E));have f9:=taskB_len d6 k6;rw [<-hz] at c7 c8;rw [<-c9] at t0;obtain ⟨A1,c1,rfl,-,-⟩:=id c7;obtain ⟨A2,c2,rfl,-,-⟩:=id c8;have i1:=zh c7;have i2:=zh c8;have n8:sn.data.toList.length=sn.size:=by rw [Array.length_toList];rfl
     obtain ⟨y1,g5⟩:∃x,x=wT sn.data.toList:=⟨_,rfl⟩;obtain ⟨y2,g6⟩:∃x,x=wL z.1:=⟨_,rfl⟩;obtain ⟨y3,g7⟩:∃x,x=wL z.2:=⟨_,rfl⟩;have l0:taskB z sn=y1++(y2++y3):=by rw [<-List.append_assoc,g5,g6,g7];rfl
     rw [l0] at f6 f9;have n9:y1.length+y2.length+y3.length<=50000:=by have:=f9;simp only [FG] at this;omega
     have e9:Hid (D1++AM (m.tasks.take (k+1)) (ns.take (k+1))=(D1++AM (m.tasks.take k) (ns.take k))++(y1++(y2++y3))):=by (show _=_);rw [f6,List.append_assoc]
     have a9:Hid ((Lib.byteCells (D1++AM (m.tasks.take k) (ns.take k))).length+(ByteArray.mk (y1++(y2++y3)).toArray).size<=140737488355328):=DR (by have h1:=e6.out;have h2:(m.tasks.take k).length<=1000:=(by rw [za3];omega);simp only [FG];omega);have f0:Hid (∀W,za wq W->zv W):=fun W hW=>HV.out.ext ((V.out.trans E).trans hW)
     have m1:Hid (∀W,za wq W->Calls Tryz.prog 139 #[.string sn] W fun e w'=>e=.returned (.string ⟨y1.toArray⟩)/\za W w'):=fun W hW=>by have h:=CY (s:=sn.data.toList) W (f0.out W hW) (by omega);rw [bytes_self,<-g5] at h;exact h
     have h5:Hid (∀W,za wq W->Calls Tryz.prog 52 #[.slice A1 z.1.length c1] W fun e w'=>e=.returned (.string ⟨y2.toArray⟩)/\za W w'):=fun W hW=>by rw [g6];exact Ec W (f0.out W hW) (i1.out.below hW) (fun x E=>d6.2.2 x (.inl E)) (by omega)
     have h6:Hid (∀W,za wq W->Calls Tryz.prog 52 #[.slice A2 z.2.length c2] W fun e w'=>e=.returned (.string ⟨y3.toArray⟩)/\za W w'):=fun W hW=>by rw [g7];exact Ec W (f0.out W hW) (i2.out.below hW) (fun x E=>d6.2.2 x (.inr E)) (by omega)
     have a1:∀w,(Op.stringOp .add ⟨y1.toArray⟩ ⟨y2.toArray⟩).run Tryz.prog w=.ok (.string ⟨(y1++y2).toArray⟩) w:=fun w=>zJ (by omega)
     have a2:∀w,(Op.stringOp .add ⟨(y1++y2).toArray⟩ ⟨y3.toArray⟩).run Tryz.prog w=.ok (.string ⟨(y1++(y2++y3)).toArray⟩) w:=fun w=>by rw [<-List.append_assoc];exact zJ (by simp;omega)
     obtain ⟨n1,j7⟩:∃n,n=z.1.length:=⟨_,rfl⟩;obtain ⟨n2,j8⟩:∃n,n=z.2.length:=⟨_,rfl⟩;rw [<-j7] at t1 h5;rw [<-j8] at t2 h6;clear hz c9 d6 k6 f6 j6 f9 c7 c8 n8 g5 g6 g7 l0 n9 j9 j7 j8 i1 i2;go_upto_region 10 with fail;have a6:=ze.new wq #[.string sn,.slice A1 n1 c1,.slice A2 n2 c2] 87 (g:=wq.heap.size) rfl;have o:za wq (wq.alloc (.cells #[.string sn,.slice A1 n1 c1,.slice A2 n2 c2] 87)):=(za.refl wq).alloc _;generalize wq.alloc _=w5 at a6 o⊢;generalize wq.heap.size=gt at a6⊢;have q0:=za.rule (a6.cell (k:=0) rfl);have q1:=za.rule (a6.cell (k:=1) rfl);have q2:=za.rule (a6.cell (k:=2) rfl);have a8:=zh o;have hy:za w5 w5:=za.refl w5;clear a6 o t0 t1 t2;refine Cj fun Q' hP n4=>?_;refine zB (S:=(fun W=>za w5 W)) zG (hy.drew) fun zH=>?_;generalize w5.drew=wd at zH⊢;refine AQ 0 hP zH ?_;simp only [zc,Fv];refine AQ 1 hP zH ?_;simp only [zc,Fv];refine AQ 3 hP zH ?_;simp only [zc,Fv];refine AQ 4 hP zH ?_;simp only [zc,Fv];refine AQ 7 hP zH ?_;simp only [zc,Fv];refine AQ 8 hP zH ?_;simp only [zc,Fv];refine EM 2 fun K hK=>?_;go_simp;go_at_call 139;refine (m1.out _ (a8.out.trans zH)).mono ?_;rintro e w6 ⟨rfl,n0⟩;go_simp;refine zaJ hK (zH.trans n0) fun zH=>?_;clear hK K;try simp only [zc,Fv]
     refine EM 5 fun K hK=>?_;go_simp;go_at_call 52;refine (h5.out _ (a8.out.trans zH)).mono ?_;rintro e w7 ⟨rfl,n3⟩;go_simp;refine zaJ hK (zH.trans n3) fun zH=>?_;clear hK K;try simp only [zc,Fv]
     refine AQ 6 hP zH ?_;simp only [zc,Fv];refine EM 9 fun K hK=>?_;go_simp;go_at_call 52;refine (h6.out _ (a8.out.trans zH)).mono ?_;rintro e w8 ⟨rfl,c6⟩;go_simp;refine zaJ hK (zH.trans c6) fun zH=>?_;clear hK K;try simp only [zc,Fv]
     refine AQ 10 hP zH ?_;simp only [zc,Fv];refine rlZ 11 fun K hK=>?_;go_simp;have f1:Hid (za w1 _):=(E.trans a8.out).trans zH;have l8:=zh (HB.out.old (a8.out.trans zH));go_at_call 81;refine (De ⟨(y1++(y2++y3)).toArray⟩ l8.out a9.out).mono ?_;rintro e w9 ⟨rfl,i7,j2,-⟩;have l9:Hid (Fs B (Lib.byteCells (D1++AM (m.tasks.take (k+1)) (ns.take (k+1)))) w9):=bui_app i7 e9.out;have m8:Hid (za w1 w9):=by have h:=j2;rw [a5.out] at h;exact Below.trans f1.out h
     clear i7 j2;go_simp;refine hK.out _ _ ?_;clear hK K;refine zP (by kernel_rfl) ?_ _;subst n4;clear hy E q0 q1 q2 a1 a2;go_wp2;go_roundw
     case rel=>exact ⟨k+1,by omega,by go_num,l9,m8⟩
     case measure=>simp [intOf];omega
    ·obtain rfl:k=m.tasks.length:=by omega
     have e4:m.tasks.take m.tasks.length=m.tasks:=FJ;have e5:ns.take m.tasks.length=ns:=by rw [<-HS.out.nl];exact FJ
     rw [e4,e5] at HB
     have f3:(D1++AM m.tasks ns).length<=50001000:=by
      have h1:=Dr HS.out.t HS.out.n;have h2:=e6.out;rw [FG];omega
     obtain ⟨D2,b0⟩:∃D,D=D1++AM m.tasks ns:=⟨_,rfl⟩;rw [<-b0] at HB f3;have o7:=zh f3;have h9:=zh b0;have m2:Hid (Calls Tryz.prog 51 #[.int .i64 (m.free.length:Nat)] wq fun e w'=>e=.returned (.string ⟨(wI (m.free.length:Nat)).toArray⟩)/\za wq w'):=ER wq (HV.out.ext (V.out.trans E)) ⟨by omega,by omega⟩;have n6:=Ca (n:=(m.free.length:Int)) ⟨by omega,by omega⟩;have m5:Hid ((Lib.byteCells D2).length+(ByteArray.mk (wI (m.free.length:Nat)).toArray).size<=140737488355328):=DR (by omega);have f4:(D2++wI (m.free.length:Nat)).length<=50001100:=by rw [FG];omega
     obtain ⟨D3,b1⟩:∃D,D=D2++wI (m.free.length:Nat):=⟨_,rfl⟩;have d7:=zh b1;rw [<-b1] at f4;have h8:=zh f4;clear e4 e5 f3 b0 f4 b1 n6
     go_wp2_with fail
     refine m2.out.mono ?_;rintro e w5 ⟨rfl,o⟩;have Q:=zh (HB.out.old o);have a3:Hid (za w1 w5):=HX.out.trans o;clear o E
     go_wp2_with fail
     refine (De ⟨(wI (m.free.length:Nat)).toArray⟩ Q.out m5.out).mono ?_;rintro e w6 ⟨rfl,G,I,-⟩;have U:Hid (Fs B (Lib.byteCells D3) w6):=bui_app G d7.out;have k7:za w1 w6:=by have h:=I;rw [a5.out] at h;exact Below.trans a3.out h
     have J:=zh k7;clear G I
     go_wp2_with fail
     clear k7;go_loopw [57] (fun i wr=>∃k:Nat,k<=m.free.length/\i=.int .i64 k/\Hid (Fs B (Lib.byteCells (D3++(m.free.take k).flatMap Bg)) wr)/\Hid (za w1 wr)) (fun i _=>m.free.length - (intOf i).toNat)
     case atStart=>exact ⟨0,FN _,rfl,by rw [List.take_zero,show D3++([]:List (List Bool)).flatMap Bg=D3 from List.append_nil _];exact U,J⟩
     clear U J Q a3
     case round=>
      obtain ⟨k,hk,rfl,HB,HX⟩:=hrel;obtain ⟨wp,rfl⟩:∃wp:World,wp=wr:=⟨_,rfl⟩;have E:za w1 wp:=HX.out;have i5:Hid (zv wp):=HV.out.ext (V.out.trans E);by_cases O:k<m.free.length
      ·have e0:(k:Int)<(m.free.length:Int):=by omega
       have n7:(0:Int)<=(k:Int):=by omega
       obtain ⟨vs,⟨A',c',e',-,hr⟩,he⟩:=HF.out.below (V.out.trans E);injection e' with e1 e2 e3;subst e1;obtain ⟨bf,off,u,rfl,-,b5,hb⟩:=AW hr he O O;obtain ⟨x,d5⟩:=zaI (m.free[k]);rw [<-d5] at hb;have k9:x.length<=1000:=HS.out.f x (by rw [d5];exact Fz _);have h7:=zh (jBits_calls wp i5.out hb (by omega));have e9:Hid (D3++(m.free.take (k+1)).flatMap Bg=(D3++(m.free.take k).flatMap Bg)++Bg x):=by (show _=_);rw [FF O,List.flatMap_append,List.append_assoc,d5];simp
       have f7:=DK k9;have f8:=DL (l:=m.free.take k) fun y hy=>HS.out.f y (List.mem_of_mem_take hy)
       have a9:Hid ((Lib.byteCells (D3++(m.free.take k).flatMap Bg)).length+(ByteArray.mk (Bg x).toArray).size<=140737488355328):=DR (by have h1:=h8.out;have h2:(m.free.take k).length<=1000:=(by rw [za3];omega);simp only [FG];omega);obtain ⟨Ab,cb,rfl,-,-⟩:=hb;obtain ⟨nx,k5⟩:∃n,n=x.length:=⟨_,rfl⟩;rw [<-k5] at b5 h7;clear hr he e2 e3 d5 k9 f7 f8 k5
       go_wp2_with fail
       refine h7.out.mono ?_;rintro e w5 ⟨rfl,o⟩;have Q:=zh (HB.out.old o);have a3:Hid (za w1 w5):=HX.out.trans o;clear o E b5
       go_wp2_with fail
       refine (De ⟨(Bg x).toArray⟩ Q.out a9.out).mono ?_;rintro e w6 ⟨rfl,G,I,-⟩;have U:Hid (Fs B (Lib.byteCells (D3++(m.free.take (k+1)).flatMap Bg)) w6):=bui_app G e9.out;have J:Hid (za w1 w6):=by have h:=I;rw [a5.out] at h;exact Below.trans a3.out h
       clear G I;go_wp2;go_roundw
       case rel=>exact ⟨k+1,by omega,by go_num,U,J⟩
       case measure=>simp [intOf];omega
      ·obtain rfl:k=m.free.length:=by omega
       rw [FJ] at HB;have m3:=zh (jBits_calls wp i5.out (HU.out.below (V.out.trans E)) (by have:=HS.out.u;omega));have f7:=DK HS.out.u;have f8:=DL HS.out.f;have i9:(D3++m.free.flatMap Bg).length<=52001100:=by have h1:=h8.out;rw [FG];omega
       obtain ⟨D4,b2⟩:∃D,D=D3++m.free.flatMap Bg:=⟨_,rfl⟩;rw [<-b2] at HB i9;have a9:Hid ((Lib.byteCells D4).length+(ByteArray.mk (Bg m.up).toArray).size<=140737488355328):=DR (by omega);have i0:Hid ((D4++Bg m.up).length<=1000000000):=by (show _<=_);rw [FG];omega
       have d8:Hid (D4++Bg m.up=zr m ns):=by
        (show _=_)
        rw [b2,d7.out,h9.out,m4.out,i3.out];unfold zr;simp [List.append_assoc]
       clear f7 f8 i9 b2
       go_wp2_with fail
       refine m3.out.mono ?_;rintro e w5 ⟨rfl,o⟩;have Q:=zh (HB.out.old o);have a3:Hid (za w1 w5):=HX.out.trans o;clear o E
       go_wp2_with fail
       refine (De ⟨(Bg m.up).toArray⟩ Q.out a9.out).mono ?_;rintro e w6 ⟨rfl,G,I,-⟩;have U:Hid (Fs B (Lib.byteCells (zr m ns)) w6):=bui_app G d8.out.symm;have J:Hid (za w1 w6):=by have h:=I;rw [a5.out] at h;exact Below.trans a3.out h
       clear G I;rw [d8.out] at i0;have m0:Hid (B<=w6.heap.size):=by (show _<=_);rw [a5.out];exact J.out.size
       go_wp2_with fail
       refine (Ez U.out m0.out).mono ?_;rintro e w7 ⟨rfl,j1⟩;have m7:Hid (za w1 w7):=by have h:=j1;rw [a5.out] at h;exact Below.trans J.out h
       clear j1
       go_wp2_with fail
       refine (of_l (zr m ns) w7 i0.out).mono ?_;rintro e w8 ⟨rfl,c6⟩;have f1:Hid (za w w8):=(V.out.trans m7.out).trans c6;clear c6
       go_wp2_with fail
       go_ret;exact ⟨rfl,f1.out⟩
theorem eByte:ElemI 76 5 (.int .u8 0) 1 1:=⟨Tryz.underlying76,Tryz.infoU8,rfl,by decide⟩
def u8L (l:List UInt8):List Value:=(l.map fun b=>(b.toNat:Int)).map (Value.int .u8)
theorem u8L_str (l:List UInt8):strI (l.map fun b=>(b.toNat:Int))=⟨l.toArray⟩:=by
 rw [strI_eq,List.map_map];have:((fun n:Int=>UInt8.ofNat n.toNat) ∘ fun b:UInt8=>(b.toNat:Int))=id:=by funext b;simp
 rw [this,List.map_id];rfl
theorem u8L_one (l:List UInt8) (b:UInt8):u8L (l++[b])=u8L l++[.int .u8 b.toNat]:=by simp [u8L]
theorem conv_own (h:w.ownsRow base 5 1 v n (u8L l)):(convert 76 9 v).run Tryz.prog w=.ok (.string ⟨l.toArray⟩) w:=by
 obtain ⟨A,c,rfl,M,D,J⟩:=AS.of_own h;have I:l.length=n:=by simpa [u8L] using D
 rw [run_convert_bytes_string w 76 9 5 A n c Tryz.underlying76 Tryz.underlying5 Tryz.underlying9,<-u8L_str l];rcases zav n with h0 | h0
 ·subst h0;obtain rfl:=zac I
  cases A with
  | none=>simp [Conv.bytesToString,loadCells,loadCellsFrom,strI,Sem.run_bind,Sem.run_pure]
  | some a=>exact run_bytesToString w a 0 c [] (by simp [loadCells,loadCellsFrom,Sem.run_pure])
 ·obtain ⟨b,off,rfl,-,o⟩:=J h0;have E:=run_loadCells_list (P:=Tryz.prog) w ⟨b,off,none⟩ (u8L l) (fun j u G=>by rw [Addr.add_lit];exact o j u G);rw [show (u8L l).length=n by rw [D];omega] at E;exact run_bytesToString w _ n c _ E
theorem mBits_calls {l:List Bool} (w:World) (hl:AR w ok v l) (a4:l.length<=1000000000):Calls Tryz.prog 195 #[v] w fun e w'=>e=.returned (.string ⟨(Bg l).toArray⟩)/\za w w':=by
 have HL:=zh hl;obtain ⟨A,c,rfl,hc,V⟩:=hl;clear V
 go_enter Tryz.func195,Tryz.ntmps195
 go_wp2_with fail
 go_loopw [3,4] (fun u i wr=>∃k:Nat,k<=l.length/\i=.int .i64 k/\Hid (wr.ownsRow w.heap.size 5 1 u k (u8L ((l.map bitB).take k)))/\Hid (za w wr)) (fun u i _=>l.length - (intOf i).toNat)
 case atStart=>exact ⟨0,FN _,rfl,⟨by simp [u8L],.inl ⟨rfl,rfl⟩⟩,za.refl w⟩
 case round=>
  obtain ⟨k,U,rfl,J,o⟩:=hrel;by_cases I:k<l.length
  ·have hR:=HL.out.below o.out;obtain ⟨A',c',e',-,V⟩:=hR;injection e' with e1 e2 e3;subst e1;obtain ⟨b,off,rfl,-,G⟩:=BS V I I;obtain ⟨x,hx⟩:=zaI (l[k]);rw [<-hx] at G;have HS:Hid ((l.map bitB).take (k+1)=(l.map bitB).take k++[bitB x]):=by (show _=_);rw [FF (by rw [zau];exact I),List.getElem_map,hx]
   clear hx V e2 e3
   cases x with
   | true=>
    go_wp2_with (at_builtin;refine AE (ok:=fun _=>True) rfl _ _ _ eByte rfl w.heap.size k 1 (u8L ((l.map bitB).take k)) [.int .u8 49] _ _ rfl rfl (World.ownsRow.alloc J.out _) ⟨_,_,rfl,Fy _,Ba.block (ze.new _ _ _ rfl) trivial rfl⟩ (by simp [Value.oneCell']) (FA (Below.size o.out) (by simp)) (by unfold maxLen;omega) (by omega) ?_)
    intro v' w3 Q O _;have E:Hid (w3.ownsRow w.heap.size 5 1 v' (k+1) (u8L ((l.map bitB).take (k+1)))):=by rw [HS.out,u8L_one];exact Q
    have D:Hid (za w w3):=(o.out.alloc _).grown O (FA (Below.size o.out) (by simp)) (fun k U=>(J.out.lt k U).1);clear Q O
    go_wp2_with fail
    go_roundw
    case rel=>exact ⟨k+1,by omega,by go_num,E,D⟩
    case measure=>simp [intOf];omega
   | false=>
    go_wp2_with (at_builtin;refine AE (ok:=fun _=>True) rfl _ _ _ eByte rfl w.heap.size k 1 (u8L ((l.map bitB).take k)) [.int .u8 48] _ _ rfl rfl (World.ownsRow.alloc J.out _) ⟨_,_,rfl,Fy _,Ba.block (ze.new _ _ _ rfl) trivial rfl⟩ (by simp [Value.oneCell']) (FA (Below.size o.out) (by simp)) (by unfold maxLen;omega) (by omega) ?_)
    intro v' w3 Q O _;have E:Hid (w3.ownsRow w.heap.size 5 1 v' (k+1) (u8L ((l.map bitB).take (k+1)))):=by rw [HS.out,u8L_one];exact Q
    have D:Hid (za w w3):=(o.out.alloc _).grown O (FA (Below.size o.out) (by simp)) (fun k U=>(J.out.lt k U).1);clear Q O
    go_wp2_with fail
    go_roundw
    case rel=>exact ⟨k+1,by omega,by go_num,E,D⟩
    case measure=>simp [intOf];omega
  ·obtain rfl:k=l.length:=by omega
   rw [show (l.map bitB).take l.length=l.map bitB from List.take_of_length_le (by simp)] at J;have a8:=conv_own J.out;have HT:Hid (∀W,Calls Tryz.prog 142 #[.string ⟨(l.map bitB).toArray⟩] W fun e w'=>e=.returned (.string ⟨(Bg l).toArray⟩)/\za W w'):=fun W=>CW W (by rw [zau];omega)
   go_wp2_with fail
   refine (HT.out _).mono ?_;rintro e w4 ⟨rfl,M⟩;have a0:Hid (za w w4):=o.out.trans M;clear M
   go_wp2_with fail
   go_ret;exact ⟨rfl,a0.out⟩
end
end Go.Proofs.YtjomnbdjajjgfaaGreatDoor
