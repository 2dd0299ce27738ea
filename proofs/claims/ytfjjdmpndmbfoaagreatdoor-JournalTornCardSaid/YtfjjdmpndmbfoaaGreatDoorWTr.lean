import Derived.Test.YtfjjdmpndmbfoaaGreatDoorWTq
import Derived.Shelf.Strings.Prefix
import Derived.Deep.RegionHeld
import Derived.Test.YtfjjdmpndmbfoaaGreatDoorRows
set_option linter.unusedVariables false
set_option linter.unusedSimpArgs false
set_option maxRecDepth 100000
set_option maxHeartbeats 16000000
namespace Go.Proofs.YtfjjdmpndmbfoaaGreatDoor
variable {a:Act} {l:Array Bool} {lim st steps:Int} {ns:List ByteArray} {ch:List Int} {b h id s sg t:List UInt8} {m:MZ} {B K e f i k n:Nat} {oi:Oper} {r:RS} {v:Value} {w:World}
section
open Go.RowKit
def Ca (s:Rd):List UInt8×Rd:=match numS 58 s with
 | none=>([],([],true))
 | some (n,b)=>if n<0\/(b.length:Int)<n then ([],([],true)) else (b.take n.toNat,(b.drop n.toNat,false))
theorem textF_wT (rest:List UInt8) (h:t.length<=9223372036854775807):Ca (wT t++rest,false)=(t,(rest,false)):=by
 have e:wT t++rest=Lib.itoa t.length++58 :: (t++rest):=by simp [wT]
 have d:=numP_itoa (c:=58) (n:=(t.length:Int)) ⟨by omega,by omega⟩ (by unfold nuB;decide) (t++rest);unfold Ca numS;simp only [e,d];simp;omega
structure JS where
 ch:List Int
 steps:Int
 fin:Nat
 sg:List UInt8
def Bb (ch:List Int) (steps:Int):List UInt8:=wL ch++wI steps
def zT (sg:List UInt8) (ch:List Int) (steps:Int):List UInt8:=BO sg (Bb ch steps)
def zU (sg:List UInt8) (ch:List Int) (steps:Int):List UInt8:=wT (Bb ch steps)++wT (zT sg ch steps)
noncomputable def Aa (m:MZ) (s:List UInt8) (x:JS):Option JS:=
 let t1:=Ca (s.drop x.fin,false)
 let t2:=Ca t1.2
 let c:=AN (t1.1,false)
 let k:=AZ c.2
 if t2.2.2=true\/k.2.2=true\/k.1<=x.steps then none
 else if ¬ zU x.sg c.1 k.1 <+: s.drop x.fin then none
 else if loadE m c.1 k.1≠0 then none
 else some ⟨c.1,k.1,x.fin+(zU x.sg c.1 k.1).length,zT x.sg c.1 k.1⟩
noncomputable def lastJ (m:MZ) (s:List UInt8):Nat->JS->JS
 | 0,x=>x
 | f+1,x=>match Aa m s x with
  | none=>x
  | some y=>lastJ m s f y
def RecOk (ch:List Int) (steps:Int):Prop:=(∀x∈ch,Cp x)/\Cp steps/\(Bb ch steps).length<=9223372036854775807
theorem AT (sg:List UInt8) (ch:List Int) (steps:Int):(zT sg ch steps).length=8:=rfl
theorem rec_read {sg ch rest} (h:RecOk ch steps):
  Ca (zU sg ch steps++rest,false)=(Bb ch steps,(wT (zT sg ch steps)++rest,false))/\Ca (wT (zT sg ch steps)++rest,false)=(zT sg ch steps,(rest,false))/\
   AN (Bb ch steps,false)=(ch,(wI steps,false))/\AZ (wI steps,false)=(steps,([],false)):=by
 refine ⟨?_,textF_wT rest (by rw [AT];omega),?_,?_⟩
 ·unfold zU;rw [List.append_assoc];exact textF_wT _ h.2.2
 ·exact intsF_wL h.1 (wI steps)
 ·have:=intF_wI h.2.1 []
  rwa [List.append_nil] at this
theorem nextJ_rec {x:JS} (h:RecOk ch steps) (hp:zU x.sg ch steps <+: s.drop x.fin) (I:x.steps<steps) (E:loadE m ch steps=0):
  Aa m s x=some ⟨ch,steps,x.fin+(zU x.sg ch steps).length,zT x.sg ch steps⟩:=by
 obtain ⟨rest,G⟩:=hp;obtain ⟨h1,d,o,D⟩:=rec_read (sg:=x.sg) (rest:=rest) h;unfold Aa;simp only [<-G,h1,d,o,D];rw [if_neg (by simp;omega),if_neg (by simp),if_neg (by simp [E])]
theorem Dc {x y:JS} (h:Aa m s x=some y):
  ∃ch steps,x.steps<steps/\loadE m ch steps=0/\zU x.sg ch steps <+: s.drop x.fin/\(∀n∈ch,Cp n)/\Cp steps/\y=⟨ch,steps,x.fin+(zU x.sg ch steps).length,zT x.sg ch steps⟩:=by
 unfold Aa at h;simp only at h
 split at h
 ·cases h
 rename_i h1
 split at h
 ·cases h
 rename_i d
 split at h
 ·cases h
 rename_i o
 injection h with h;have d:=Decidable.not_not.1 d;exact ⟨_,_,by omega,by simpa using o,d,(intsF_lv _).2,intF_bound _,h.symm⟩
theorem recB_pos (sg:List UInt8) (ch:List Int) (steps:Int):0<(zU sg ch steps).length:=by
 unfold zU wT;simp;omega
theorem Bl {x y:JS} (h:Aa m s x=some y):x.fin<y.fin/\y.fin<=s.length:=by
 obtain ⟨ch,st,-,-,hp,-,-,rfl⟩:=Dc h;have h1:=recB_pos x.sg ch st;have d:=hp.length_le;rw [List.length_drop] at d;exact ⟨by show x.fin<x.fin+_;omega,by show x.fin+_<=_;omega⟩
theorem lastJ_fuel {m:MZ} {s:List UInt8}:∀(f f':Nat) (x:JS),s.length<=x.fin+f->s.length<=x.fin+f'->lastJ m s f x=lastJ m s f' x
 | 0,0,x,_,_=>rfl
 | 0,f'+1,x,h,_=>by
  unfold lastJ
  cases d:Aa m s x with
  | none=>rfl
  | some y=>have:=Bl d;omega
 | f+1,0,x,_,h=>by
  conv=>rhs;unfold lastJ
  unfold lastJ
  cases d:Aa m s x with
  | none=>rfl
  | some y=>have:=Bl d;omega
 | f+1,f'+1,x,h,o=>by
  unfold lastJ
  cases d:Aa m s x with
  | none=>rfl
  | some y=>have:=Bl d;exact lastJ_fuel f f' y (by omega) (by omega)
noncomputable def endJ (m:MZ) (s:List UInt8) (x:JS):JS:=lastJ m s s.length x
theorem endJ_none {x:JS} (h:Aa m s x=none):endJ m s x=x:=by
 unfold endJ
 cases s.length with
 | zero=>rfl
 | succ n=>unfold lastJ;rw [h]
theorem endJ_some {x y:JS} (h:Aa m s x=some y):endJ m s x=endJ m s y:=by
 obtain ⟨h1,o⟩:=Bl h;unfold endJ;obtain ⟨n,d⟩:∃n,s.length=n+1:=⟨s.length - 1,by omega⟩
 conv=>lhs;rw [d];unfold lastJ
 rw [h];exact lastJ_fuel n s.length y (by omega) (by omega)
theorem rec_same {ch':List Int} {st':Int} {l:List UInt8} (h:RecOk ch st) (I:RecOk ch' st') (hp:zU sg ch st <+: l) (E:zU sg ch' st' <+: l):ch=ch'/\st=st':=by
 obtain ⟨r,O⟩:=hp;obtain ⟨r',G⟩:=E;obtain ⟨h1,-,J,M⟩:=rec_read (sg:=sg) (rest:=r) h;obtain ⟨d,-,o,D⟩:=rec_read (sg:=sg) (rest:=r') I;rw [O] at h1;rw [G,h1] at d;injection d with e1 e2;rw [<-e1,J] at o;injection o with e3 e4;injection e4 with e4 e5;rw [<-e4,M] at D;injection D with e6 e7;exact ⟨e3,e6⟩
noncomputable def zK (m:MZ) (n:Nat):RS:=RS.run m n (loadS m [] 0)
theorem BX (m:MZ):∀(a b:Nat) (s:RS),RS.run m (a+b) s=RS.run m b (RS.run m a s)
 | 0,b,s=>by rw [Nat.zero_add];rfl
 | a+1,b,s=>by
  rw [show a+1+b=(a+b)+1 by omega];by_cases h:s.done=true
  ·rw [RS.run_done h,RS.run_done h,RS.run_done h]
  ·show (if s.done=true then s else RS.run m (a+b) (s.one m))=RS.run m b (if s.done=true then s else RS.run m a (s.one m));rw [if_neg h,if_neg h];exact BX m a b (s.one m)
theorem one_steps (m:MZ) (s:RS):(s.one m).steps=s.steps+1:=by
 unfold RS.one
 split <;> rfl
theorem BP (m:MZ):∀(n:Nat) (s:RS),s.steps<=(RS.run m n s).steps/\(RS.run m n s).steps<=s.steps+n/\((RS.run m n s).done=false->(RS.run m n s).steps=s.steps+n)/\(s.done=false->0<n->s.steps<(RS.run m n s).steps)
 | 0,s=>⟨Int.le_refl _,by simp [RS.run],fun _=>by simp [RS.run],fun _ h=>absurd h (by omega)⟩
 | n+1,s=>by
  by_cases h:s.done=true
  ·rw [RS.run_done h];exact ⟨Int.le_refl _,by omega,(fun d=>by rw [h] at d;cases d),(fun d=>by rw [h] at d;cases d)⟩
  ·have e:RS.run m (n+1) s=RS.run m n (s.one m):=by
    show (if s.done=true then s else RS.run m n (s.one m))=_;rw [if_neg h]
   rw [e];obtain ⟨h1,d,o,D⟩:=BP m n (s.one m);rw [one_steps] at h1 d o;exact ⟨by omega,by omega,fun h=>by have:=o h;omega,fun _ _=>by omega⟩
theorem CO (m:MZ) (n:Nat):0<=(zK m n).steps/\(zK m n).steps<=n/\((zK m n).done=false->(zK m n).steps=n):=by
 obtain ⟨h1,o,d,-⟩:=BP m n (loadS m [] 0);have h0:(loadS m [] 0).steps=0:=rfl;rw [h0] at h1 o d;exact ⟨h1,by unfold zK;omega,fun h=>by have:=d h;unfold zK;omega⟩
theorem run_early (m:MZ):∀(n:Nat) (s:RS),RS.run m ((RS.run m n s).steps - s.steps).toNat s=RS.run m n s
 | 0,s=>by show RS.run m (s.steps - s.steps).toNat s=s;rw [Int.sub_self];rfl
 | n+1,s=>by
  by_cases h:s.done=true
  ·rw [RS.run_done h,RS.run_done h]
  ·have e:RS.run m (n+1) s=RS.run m n (s.one m):=by
    show (if s.done=true then s else RS.run m n (s.one m))=_;rw [if_neg h]
   rw [e];have ih:=run_early m n (s.one m);obtain ⟨h1,-⟩:=BP m n (s.one m);rw [one_steps] at ih h1;obtain ⟨k,d⟩:∃k:Nat,(k:Int)=(RS.run m n (s.one m)).steps - (s.steps+1):=⟨((RS.run m n (s.one m)).steps - (s.steps+1)).toNat,by omega⟩;rw [show ((RS.run m n (s.one m)).steps - s.steps).toNat=k+1 by omega];rw [show ((RS.run m n (s.one m)).steps - (s.steps+1)).toNat=k by omega] at ih;show (if s.done=true then s else RS.run m k (s.one m))=_;rw [if_neg h];exact ih
theorem atS_early (m:MZ) (n:Nat):zK m (zK m n).steps.toNat=zK m n:=by
 have h:=run_early m n (loadS m [] 0);have h0:(loadS m [] 0).steps=0:=rfl;rw [h0,Int.sub_zero] at h;exact h
theorem atS_inv (m:MZ) (n:Nat):RInv m (zK m n):=rinv_load.run n
theorem wIs_len2:∀{l:List Int},(∀x∈l,Cp x)->(wL l).length<=22*l.length+2:=fun h=>by
 have:=wIs_len h;unfold wL;simp at this⊢;omega
theorem atS_ok (g:zX m) (O:n<=1000000):RecOk (zK m n).ch (zK m n).steps/\(Bb (zK m n).ch (zK m n).steps).length<=10000:=by
 have o:=(atS_inv m n).ch;have M:=o.len300 g;have G:=(o.range g).1;obtain ⟨h1,J,-⟩:=CO m n;have E:m.n<=300:=g.1.n1;have hI:∀x∈(zK m n).ch,Cp x:=fun x I=>by have:=G x I;exact ⟨by omega,by omega⟩
 have d:Cp (zK m n).steps:=⟨by omega,by omega⟩;have b1:=wIs_len2 hI;have b2:=wI_len d
 have D:(Bb (zK m n).ch (zK m n).steps).length<=10000:=by
  unfold Bb;rw [DM];omega
 exact ⟨⟨hI,d,by omega⟩,D⟩
noncomputable def recS (m:MZ) (n:Nat) (x:JS):JS:=⟨(zK m n).ch,(zK m n).steps,x.fin+(zU x.sg (zK m n).ch (zK m n).steps).length,zT x.sg (zK m n).ch (zK m n).steps⟩
noncomputable def DA (m:MZ):List Nat->JS->List UInt8
 | [],_=>[]
 | n :: ns,x=>zU x.sg (zK m n).ch (zK m n).steps++DA m ns (recS m n x)
noncomputable def wrtS (m:MZ):List Nat->JS->JS
 | [],x=>x
 | n :: ns,x=>wrtS m ns (recS m n x)
def Ups (m:MZ):List Nat->Int->Prop
 | [],_=>True
 | n :: ns,k=>k<n/\n<=1000000/\(zK m n).steps=n/\Ups m ns n
theorem rec_next (g:zX m) {x:JS} (d:n<=1000000) (o:x.steps<n) (D:(zK m n).steps=n) (hp:zU x.sg (zK m n).ch (zK m n).steps <+: s.drop x.fin):Aa m s x=some (recS m n x):=
 nextJ_rec (atS_ok g d).1 hp (by omega) ((atS_inv m n).loadE (good_chk g))
theorem read_wrt {m:MZ} (g:zX m):∀(ns:List Nat) (x:JS) (pre tail:List UInt8),Ups m ns x.steps->pre.length=x.fin->endJ m (pre++(DA m ns x++tail)) x=endJ m (pre++(DA m ns x++tail)) (wrtS m ns x)/\(wrtS m ns x).fin=x.fin+(DA m ns x).length
 | [],x,pre,tail,_,_=>⟨rfl,rfl⟩
 | n :: ns,x,pre,tail,h,o=>by
  obtain ⟨h1,D,d,E⟩:=h
  have G:(pre++(DA m (n :: ns) x++tail)).drop x.fin=zU x.sg (zK m n).ch (zK m n).steps++(DA m ns (recS m n x)++tail):=by
   rw [<-o,List.drop_left];show (zU x.sg (zK m n).ch (zK m n).steps++DA m ns (recS m n x))++tail=_;rw [List.append_assoc]
  have I:=rec_next g (s:=pre++(DA m (n :: ns) x++tail)) D h1 d (by rw [G];exact List.prefix_append ..);rw [endJ_some I];obtain ⟨i1,i2⟩:=read_wrt g ns (recS m n x) (pre++zU x.sg (zK m n).ch (zK m n).steps) tail (by show Ups m ns (zK m n).steps;rw [d];exact E) (by rw [DM,o];rfl)
  have e:pre++(DA m (n :: ns) x++tail)=pre++zU x.sg (zK m n).ch (zK m n).steps++(DA m ns (recS m n x)++tail):=by
   show pre++((zU x.sg (zK m n).ch (zK m n).steps++DA m ns (recS m n x))++tail)=_;simp only [List.append_assoc]
  rw [e];refine ⟨i1,?_⟩;show (wrtS m ns (recS m n x)).fin=x.fin+(zU x.sg (zK m n).ch (zK m n).steps++DA m ns (recS m n x)).length;rw [i2,DM];show x.fin+(zU x.sg (zK m n).ch (zK m n).steps).length+_=_;omega
theorem take_prefix {a:List UInt8} (h:t <+: a++b) (o:a.length<=t.length):∃u,t=a++u/\u <+: b:=by
 obtain ⟨r,d⟩:=h;have h1:a <+: t:=List.prefix_of_prefix_length_le (List.prefix_append a b) ⟨r,d⟩ o;obtain ⟨u,rfl⟩:=h1;refine ⟨u,rfl,r,?_⟩;rw [List.append_assoc] at d;exact List.append_cancel_left d
theorem read_torn {m:MZ} (g:zX m):∀(ns:List Nat) (x:JS) (pre t:List UInt8),Ups m ns x.steps->pre.length=x.fin->t <+: DA m ns x->∃i,i<=ns.length/\endJ m (pre++t) x=wrtS m (ns.take i) x/\DA m (ns.take i) x <+: t
 | [],x,pre,t,_,E,ht=>by
  have:t=[]:=List.prefix_nil.1 ht;subst this;refine ⟨0,DE _,?_,List.nil_prefix⟩;refine endJ_none ?_
  cases D:Aa m (pre++[]) x with
  | none=>rfl
  | some y=>have:=Bl D;rw [List.append_nil] at this;omega
 | n :: ns,x,pre,t,h,E,ht=>by
  obtain ⟨h1,J,M,O⟩:=h;by_cases o:(zU x.sg (zK m n).ch (zK m n).steps).length<=t.length
  ·obtain ⟨u,rfl,hu⟩:=take_prefix ht o;have D:=rec_next g (s:=pre++(zU x.sg (zK m n).ch (zK m n).steps++u)) J h1 M (by rw [<-E,List.drop_left];exact List.prefix_append ..);rw [endJ_some D];obtain ⟨i,i1,i2,i3⟩:=read_torn g ns (recS m n x) (pre++zU x.sg (zK m n).ch (zK m n).steps) u (by show Ups m ns (zK m n).steps;rw [M];exact O) (by rw [DM,E];rfl) hu;refine ⟨i+1,by simpa using i1,?_,?_⟩
   ·rw [<-List.append_assoc,i2];rfl
   ·show zU x.sg (zK m n).ch (zK m n).steps++DA m (ns.take i) (recS m n x) <+: _;exact (List.prefix_append_right_inj _).2 i3
  ·refine ⟨0,DS _,?_,List.nil_prefix⟩;show _=x;refine endJ_none ?_
   cases D:Aa m (pre++t) x with
   | none=>rfl
   | some y=>
    exfalso
    obtain ⟨ch,st,-,-,hp,hI,U,-⟩:=Dc D;rw [<-E,List.drop_left] at hp;have G:=hp.length_le;have I:t <+: zU x.sg (zK m n).ch (zK m n).steps:=List.prefix_of_prefix_length_le ht (List.prefix_append ..) (by omega);have hb:(Bb ch st).length<=(zU x.sg ch st).length:=by unfold zU wT;simp;omega
    have d:=atS_ok g J
    have V:(zU x.sg (zK m n).ch (zK m n).steps).length<=20000:=by
     unfold zU wT;simp only [DM,EF,AT];have a1:=CS (n:=((Bb (zK m n).ch (zK m n).steps).length:Int)) ⟨by omega,by have:=d.2;omega⟩;have a2:=CS (n:=((8:Nat):Int)) ⟨by decide,by decide⟩;have:=d.2;omega
    obtain ⟨e1,e2⟩:=rec_same (sg:=x.sg) (l:=zU x.sg (zK m n).ch (zK m n).steps) ⟨hI,U,by omega⟩ d.1 (hp.trans I) (List.prefix_rfl);rw [e1,e2] at G;omega
theorem atS_done (h:(zK m n).done=true) (o:n<=k):zK m k=zK m n:=by
 obtain ⟨d,rfl⟩:∃d,k=n+d:=⟨k - n,by omega⟩;unfold zK at h⊢;rw [BX,RS.run_done h]
structure AtN (m:MZ) (x:JS) (n:Nat):Prop where
 ch:x.ch=(zK m n).ch
 st:x.steps=n
 own:(zK m n).steps=n
theorem atN_zero (m:MZ) (k:Nat) (id:List UInt8):AtN m ⟨[],0,k,id⟩ 0:=⟨rfl,rfl,rfl⟩
theorem atN_rec {x:JS} (h:(zK m n).steps=n):AtN m (recS m n x) n:=⟨rfl,h,h⟩
theorem wrt_append (m:MZ):∀(a b:List Nat) (x:JS),DA m (a++b) x=DA m a x++DA m b (wrtS m a x)/\wrtS m (a++b) x=wrtS m b (wrtS m a x)
 | [],b,x=>⟨rfl,rfl⟩
 | n :: a,b,x=>by
  obtain ⟨h1,d⟩:=wrt_append m a b (recS m n x);refine ⟨?_,d⟩;show zU x.sg (zK m n).ch (zK m n).steps++DA m (a++b) (recS m n x)=(zU x.sg (zK m n).ch (zK m n).steps++DA m a (recS m n x))++DA m b (wrtS m a (recS m n x));rw [h1,List.append_assoc]
theorem ups_at {m:MZ}:∀(ns:List Nat) (x:JS) (n:Nat),AtN m x n->Ups m ns x.steps->∃e,AtN m (wrtS m ns x) e/\n<=e
 | [],x,n,h,_=>⟨n,h,DE _⟩
 | k :: ns,x,n,h,E=>by
  obtain ⟨h1,G,d,o⟩:=E;obtain ⟨e,D,I⟩:=ups_at ns (recS m k x) k (atN_rec d) (by show Ups m ns (zK m k).steps;rw [d];exact o);have:=h.st;exact ⟨e,D,by omega⟩
theorem ups_append {m:MZ}:∀(a b:List Nat) (x:JS),Ups m a x.steps->Ups m b (wrtS m a x).steps->Ups m (a++b) x.steps
 | [],b,x,_,h=>h
 | n :: a,b,x,⟨h1,o,d,D⟩,h=>by
  refine ⟨h1,o,d,?_⟩;have:=ups_append a b (recS m n x) (by show Ups m a (zK m n).steps;rw [d];exact D) h;have e:(recS m n x).steps=n:=d;rw [e] at this;exact this
theorem ups_take {m:MZ}:∀(a:List Nat) (i:Nat) (k:Int),Ups m a k->Ups m (a.take i) k
 | [],i,k,h=>by rw [List.take_nil];exact h
 | n :: a,0,k,_=>trivial
 | n :: a,i+1,k,⟨h1,d,o,D⟩=>⟨h1,d,o,ups_take a i n D⟩
noncomputable def runN (m:MZ) (lim:Nat):Nat->Nat->List Nat
 | 0,_=>[]
 | f+1,n=>if (zK m n).done=true\/lim<=n then [] else (zK m (n+min (16 - n % 16) (lim - n))).steps.toNat :: runN m lim f (zK m (n+min (16 - n % 16) (lim - n))).steps.toNat
theorem next_steps (h:(zK m n).steps=n) (o:(zK m n).done=false) (D:0<k):n<(zK m (n+k)).steps.toNat/\(zK m (n+k)).steps.toNat<=n+k/\(zK m (zK m (n+k)).steps.toNat).steps=((zK m (n+k)).steps.toNat:Nat)/\zK m (zK m (n+k)).steps.toNat=zK m (n+k):=by
 obtain ⟨a1,a2,-⟩:=CO m (n+k);have e:=atS_early m (n+k);have d:=(BP m k (zK m n)).2.2.2 o D;have e2:RS.run m k (zK m n)=zK m (n+k):=(BX m n k _).symm;rw [e2,h] at d;exact ⟨by omega,by omega,by rw [e];omega,e⟩
theorem run_wrt {m:MZ} {lim:Nat} (d:lim<=1000000):∀(f n:Nat) (x:JS),AtN m x n->n<=lim->lim<=n+f->Ups m (runN m lim f n) x.steps/\∃e,AtN m (wrtS m (runN m lim f n) x) e/\zK m e=zK m lim/\n<=e
 | 0,n,x,h,h1,D=>by
  obtain rfl:n=lim:=by omega
  exact ⟨trivial,n,h,rfl,DE _⟩
 | f+1,n,x,h,h1,D=>by
  unfold runN;by_cases hc:(zK m n).done=true\/lim<=n
  ·rw [if_pos hc];refine ⟨trivial,n,h,?_,DE _⟩;rcases hc with hc | hc
   ·exact (atS_done hc h1).symm
   ·obtain rfl:n=lim:=by omega
    rfl
  ·rw [if_neg hc]
   have E:(zK m n).done=false:=by
    cases J:(zK m n).done with
    | false=>rfl
    | true=>exact absurd (.inl J) hc
   have M:n<lim:=by
    rcases Ea n lim with q | q
    ·exact q
    ·exact absurd (.inr q) hc
   have G:0<min (16 - n % 16) (lim - n):=by have:=Nat.mod_lt n (show 0<16 by omega);omega
   obtain ⟨b1,b2,b3,b4⟩:=next_steps h.own E G;generalize I:(zK m (n+min (16 - n % 16) (lim - n))).steps.toNat=n' at b1 b2 b3 b4⊢;obtain ⟨i1,e,i2,i3,i4⟩:=run_wrt d f n' (recS m n' x) (atN_rec b3) (by omega) (by omega);have o:=h.st;refine ⟨⟨by rw [o];omega,by omega,b3,?_⟩,e,i2,i3,by omega⟩;have e5:(recS m n' x).steps=n':=b3;rw [e5] at i1;exact i1
theorem torn_run {ns:List Nat} {lim:Nat} (d:lim<=1000000) (D:Ups m ns 0) (he:AtN m (wrtS m ns ⟨[],0,h.length,id⟩) e) (h1:e<=lim) (o:lim<=e+f):
  h++DA m ns ⟨[],0,h.length,id⟩++DA m (runN m lim f e) (wrtS m ns ⟨[],0,h.length,id⟩)=h++DA m (ns++runN m lim f e) ⟨[],0,h.length,id⟩/\Ups m (ns++runN m lim f e) 0/\
   ∃e',AtN m (wrtS m (ns++runN m lim f e) ⟨[],0,h.length,id⟩) e'/\zK m e'=zK m lim/\e<=e':=by
 obtain ⟨a1,a2⟩:=wrt_append m ns (runN m lim f e) ⟨[],0,h.length,id⟩;obtain ⟨b1,e',b2,b3,b4⟩:=run_wrt d f e _ he h1 o;exact ⟨by rw [a1,List.append_assoc],ups_append ns _ ⟨[],0,h.length,id⟩ D b1,e',by rw [a2];exact b2,b3,b4⟩
theorem BJ (h:loadE m ch st=0):BS m=0/\RInv m (loadS m ch st):=by
 unfold loadE at h
 split at h
 ·rename_i h1;exact absurd h h1
 rename_i h1
 split at h
 ·cases h
 rename_i D
 split at h
 ·rename_i d
  rw [DQ,EC,DO] at d;refine ⟨Decidable.not_not.1 h1,AV.1 d.1,?_,rfl,fun o=>?_⟩
  ·show 0<=st;omega
  ·exact d.2.resolve_left o
 ·cases h
noncomputable def runJ (m:MZ) (b lim:Int):Nat->RS->List UInt8->List UInt8×RS
 | 0,r,_=>([],r)
 | f+1,r,sg=>if r.done=true\/lim<=r.steps - b then ([],r) else
   let r':=RS.run m (min (16 - r.steps % 16) (lim - (r.steps - b))).toNat r
   let p:=runJ m b lim f r' (zT sg r'.ch r'.steps)
   (zU sg r'.ch r'.steps++p.1,p.2)
theorem runJ_stop {b:Int} (h:r.done=true\/lim<=r.steps - b):runJ m b lim f r sg=([],r):=by
 cases f with
 | zero=>rfl
 | succ f=>unfold runJ;rw [if_pos h]
theorem runJ_go {b:Int} {r':RS} (h:¬ (r.done=true\/lim<=r.steps - b)) (d:RS.run m (min (16 - r.steps % 16) (lim - (r.steps - b))).toNat r=r'):
  runJ m b lim (f+1) r sg=(zU sg r'.ch r'.steps++(runJ m b lim f r' (zT sg r'.ch r'.steps)).1,(runJ m b lim f r' (zT sg r'.ch r'.steps)).2):=by
 subst d
 conv=>lhs;unfold runJ
 rw [if_neg h]
theorem runJ_wrt {m:MZ} {b L:Nat} (G:b<=L):∀(f n:Nat) (x:JS),AtN m x n->n<=L->L<=n+f->
  (runJ m b ((L:Int) - b) f (zK m n) x.sg).1=DA m (runN m L f n) x/\(runJ m b ((L:Int) - b) f (zK m n) x.sg).2=zK m L
 | 0,n,x,h,h1,E=>by
  obtain rfl:n=L:=by omega
  exact ⟨rfl,rfl⟩
 | f+1,n,x,h,h1,E=>by
  have d:=h.own;by_cases hc:(zK m n).done=true\/L<=n
  ·have o:(zK m n).done=true\/(L:Int) - b<=(zK m n).steps - b:=by rw [d];rcases hc with hc | hc;exact .inl hc;exact .inr (by omega)
   rw [runJ_stop o];unfold runN;rw [if_pos hc];refine ⟨rfl,?_⟩;rcases hc with hc | hc
   ·exact (atS_done hc h1).symm
   ·obtain rfl:n=L:=by omega
    rfl
  ·have o:¬ ((zK m n).done=true\/(L:Int) - b<=(zK m n).steps - b):=by
    rw [d];rintro (q | q)
    ·exact hc (.inl q)
    ·exact hc (.inr (by omega))
   have I:(zK m n).done=false:=by
    cases O:(zK m n).done with
    | false=>rfl
    | true=>exact absurd (.inl O) hc
   have V:n<L:=by
    rcases Ea n L with q | q
    ·exact q
    ·exact absurd (.inr q) hc
   have J:0<min (16 - n % 16) (L - n):=by have:=Nat.mod_lt n (show 0<16 by omega);omega
   have D:(min (16 - (zK m n).steps % 16) ((L:Int) - b - ((zK m n).steps - b))).toNat=min (16 - n % 16) (L - n):=by rw [d];omega
   obtain ⟨b1,b2,b3,b4⟩:=next_steps d I J
   have U:RS.run m (min (16 - (zK m n).steps % 16) ((L:Int) - b - ((zK m n).steps - b))).toNat (zK m n)=zK m (n+min (16 - n % 16) (L - n)):=by
    rw [D];exact (BX m n _ _).symm
   rw [runJ_go o U];unfold runN;rw [if_neg hc];generalize M:(zK m (n+min (16 - n % 16) (L - n))).steps.toNat=n' at b1 b2 b3 b4⊢;rw [<-b4];obtain ⟨i1,i2⟩:=runJ_wrt G f n' (recS m n' x) (atN_rec b3) (by omega) (by omega);refine ⟨?_,i2⟩;show zU x.sg (zK m n').ch (zK m n').steps++_=zU x.sg (zK m n').ch (zK m n').steps++DA m (runN m L f n') (recS m n' x);rw [<-i1];rfl
noncomputable def zE (m:MZ) (h id s:List UInt8):Option JS:=if h <+: s then some (endJ m s ⟨[],0,h.length,id⟩) else none
noncomputable def BC (m:MZ) (h id s:List UInt8) (n:Int):List UInt8×Bool×Int:=
 match zE m h id s with
 | none=>([],false,4)
 | some x=>if n<0 then ([],false,1) else
   let p:=runJ m x.steps (min (20000 - x.steps) n) (min (20000 - x.steps) n).toNat (loadS m x.ch x.steps) x.sg
   (s.take x.fin++p.1,p.2.done,0)
def JAt (m:MZ) (h id s:List UInt8) (K:Nat):Prop:=∃ns e,Ups m ns 0/\s=h++DA m ns ⟨[],0,h.length,id⟩/\AtN m (wrtS m ns ⟨[],0,h.length,id⟩) e/\zK m e=zK m K/\e<=K
theorem jat_begin (m:MZ) (h id:List UInt8):JAt m h id h 0:=⟨[],0,trivial,(List.append_nil h).symm,atN_zero m _ _,rfl,DE _⟩
theorem endJ_end {x:JS} (h:s.length<=x.fin):endJ m s x=x:=by
 refine endJ_none ?_
 cases d:Aa m s x with
 | none=>rfl
 | some y=>have:=Bl d;omega
theorem jat_open (g:zX m) (E:JAt m h id s K):∃x e,zE m h id s=some x/\x.fin=s.length/\AtN m x e/\zK m e=zK m K/\e<=K:=by
 obtain ⟨ns,e,G,rfl,he,D,d⟩:=E;obtain ⟨h1,o⟩:=read_wrt g ns ⟨[],0,h.length,id⟩ h [] G rfl;rw [List.append_nil] at h1;have hf:(wrtS m ns ⟨[],0,h.length,id⟩).fin=(h++DA m ns ⟨[],0,h.length,id⟩).length:=by rw [o,DM]
 refine ⟨_,e,?_,hf,he,D,d⟩;unfold zE;rw [if_pos (List.prefix_append ..),h1,endJ_end (by rw [hf];exact DE _)]
theorem jat_run (g:zX m) (U:JAt m h id s K) (hn:K+n<=20000):
  ∃t,BC m h id s n=(s++t,(zK m (K+n)).done,0)/\JAt m h id (s++t) (K+n):=by
 obtain ⟨x,e0,E,hf,-,-,-⟩:=jat_open g U;obtain ⟨ns,e,V,M,he,J,a3⟩:=U;obtain ⟨h1,h2⟩:=read_wrt g ns ⟨[],0,h.length,id⟩ h [] V rfl;rw [List.append_nil,<-M] at h1
 have o:x=wrtS m ns ⟨[],0,h.length,id⟩:=by
  unfold zE at E;rw [if_pos (by rw [M];exact List.prefix_append ..)] at E;injection E with E;rw [<-E,h1,endJ_end];rw [h2,M,DM];exact DE _
 have d:x.steps=e:=by rw [o];exact he.st
 have O:x.ch=(zK m e).ch:=by rw [o];exact he.ch
 have G:e+n<=1000000:=by omega
 obtain ⟨c1,c2,e',c3,c4,c5⟩:=torn_run (h:=h) (id:=id) (lim:=e+n) (f:=n) G V he (by omega) (by omega)
 have hL:loadS m x.ch x.steps=zK m e:=by
  have:=(atS_inv m e).loadS;rw [he.own] at this;rw [O,d,this]
 have I:(min (20000 - x.steps) (n:Int))=((e+n:Nat):Int) - e:=by rw [d];omega
 have D:(min (20000 - x.steps) (n:Int)).toNat=n:=by rw [d];omega
 obtain ⟨d1,d2⟩:=runJ_wrt (m:=m) (b:=e) (L:=e+n) (by omega) n e x (by rw [o];exact he) (by omega) (by omega);refine ⟨DA m (runN m (e+n) n e) x,?_,ns++runN m (e+n) n e,e',c2,?_,c3,?_,?_⟩
 ·unfold BC;rw [E];simp only;rw [if_neg (by omega),D,I,hL,d,d1,d2,hf,DP]
  have ea:zK m (e+n)=zK m (K+n):=by
   unfold zK at J⊢;rw [BX,BX,J]
  rw [ea]
 ·rw [<-c1,<-M,o]
 ·rw [c4];unfold zK at J⊢;rw [BX,BX,J]
 ·have a1:=CO m (e+n);have a2:(zK m e').steps=e':=c3.own;rw [c4] at a2;omega
theorem jat_read (g:zX m) (E:JAt m h id s K):∃x,zE m h id s=some x/\x.fin=s.length/\x.ch=(zK m K).ch/\x.steps=(zK m K).steps:=by
 obtain ⟨x,e,h1,D,d,o,G⟩:=jat_open g E;refine ⟨x,h1,D,by rw [d.ch,o],?_⟩;rw [d.st,<-o];exact d.own.symm
theorem ups_drop {m:MZ}:∀(ns:List Nat) (x:JS) (i:Nat),Ups m ns x.steps->Ups m (ns.drop i) (wrtS m (ns.take i) x).steps
 | [],x,i,h=>by rw [List.drop_nil];trivial
 | n :: ns,x,0,h=>h
 | n :: ns,x,i+1,⟨h1,D,d,o⟩=>ups_drop ns (recS m n x) i (by show Ups m ns (zK m n).steps;rw [d];exact o)
def TornB (m:MZ) (h id s:List UInt8) (B:Nat):Prop:=∃ns e t,Ups m ns 0/\AtN m (wrtS m ns ⟨[],0,h.length,id⟩) e/\e<=B/\t <+: DA m ns ⟨[],0,h.length,id⟩/\s=h++t
theorem tornB_begin (m:MZ) (h id:List UInt8):TornB m h id h 0:=⟨[],0,[],trivial,atN_zero m _ _,DE _,List.nil_prefix,(List.append_nil h).symm⟩
theorem tornB_take (D:TornB m h id s B) (o:h.length<=k):TornB m h id (s.take k) B:=by
 obtain ⟨ns,e,t,E,he,d,ht,rfl⟩:=D;refine ⟨ns,e,t.take (k - h.length),E,he,d,(List.take_prefix ..).trans ht,?_⟩;rw [List.take_append,List.take_of_length_le o]
theorem tornB_open (g:zX m) (V:TornB m h id s B):∃ns e,Ups m ns 0/\zE m h id s=some (wrtS m ns ⟨[],0,h.length,id⟩)/\AtN m (wrtS m ns ⟨[],0,h.length,id⟩) e/\e<=B/\
  s.take (wrtS m ns ⟨[],0,h.length,id⟩).fin=h++DA m ns ⟨[],0,h.length,id⟩:=by
 obtain ⟨ns,e,t,G,he,hB,ht,rfl⟩:=V;obtain ⟨i,-,I,J⟩:=read_torn g ns ⟨[],0,h.length,id⟩ h t G rfl ht;have d:=ups_take ns i 0 G;obtain ⟨e1,D,-⟩:=ups_at (ns.take i) ⟨[],0,h.length,id⟩ 0 (atN_zero m _ _) d;have M:=ups_drop ns ⟨[],0,h.length,id⟩ i G;obtain ⟨e2,E,U⟩:=ups_at (ns.drop i) _ e1 D M;have o:=(wrt_append m (ns.take i) (ns.drop i) ⟨[],0,h.length,id⟩).2;rw [List.take_append_drop] at o;rw [<-o] at E;have O:(e2:Int)=e:=by rw [<-E.st,he.st]
 have hf:=(read_wrt g (ns.take i) ⟨[],0,h.length,id⟩ h [] d rfl).2;refine ⟨ns.take i,e1,d,?_,D,by omega,?_⟩
 ·unfold zE;rw [if_pos (List.prefix_append ..),I]
 ·rw [hf];show (h++t).take (h.length+_)=_;rw [List.take_append,List.take_of_length_le (by omega),Nat.add_sub_cancel_left];obtain ⟨r,rfl⟩:=J;rw [List.take_left]
theorem tornB_run (g:zX m) (I:TornB m h id s B) (O:B+n<=20000):
  ∃t e,BC m h id s n=(t,(zK m (e+n)).done,0)/\h.length<=t.length/\e<=B/\JAt m h id t (e+n)/\TornB m h id t (B+n):=by
 obtain ⟨ns,e,J,M,he,G,E⟩:=tornB_open g I;have d:=he.st
 have hL:loadS m (wrtS m ns ⟨[],0,h.length,id⟩).ch (wrtS m ns ⟨[],0,h.length,id⟩).steps=zK m e:=by
  have:=(atS_inv m e).loadS;rw [he.own] at this;rw [he.ch,d,this]
 obtain ⟨c1,c2,e',c3,c4,c5⟩:=torn_run (h:=h) (id:=id) (lim:=e+n) (f:=n) (by omega) J he (by omega) (by omega);have D:(min (20000 - (wrtS m ns ⟨[],0,h.length,id⟩).steps) (n:Int))=((e+n:Nat):Int) - e:=by rw [d];omega
 have o:(min (20000 - (wrtS m ns ⟨[],0,h.length,id⟩).steps) (n:Int)).toNat=n:=by rw [d];omega
 obtain ⟨d1,d2⟩:=runJ_wrt (m:=m) (b:=e) (L:=e+n) (by omega) n e _ he (by omega) (by omega);have a1:=CO m (e+n);have a2:(zK m e').steps=e':=c3.own;rw [c4] at a2;refine ⟨h++DA m (ns++runN m (e+n) n e) ⟨[],0,h.length,id⟩,e,?_,by rw [DM];omega,G,⟨_,e',c2,rfl,c3,c4,by omega⟩,⟨_,e',_,c2,c3,by omega,List.prefix_rfl,rfl⟩⟩;unfold BC;rw [M];simp only;rw [if_neg (by omega),o,D,hL,d,d1,d2,E,c1]
theorem torn_law (g:zX m) (D:(zK m n).done=true) (E:JAt m h id s n) (ht:JAt m h id t (e+n)):
  (zK m (e+n)).done=true/\∃x y,zE m h id s=some x/\zE m h id t=some y/\x.ch=y.ch/\x.steps=y.steps/\loadE m x.ch x.steps=0/\loadS m x.ch x.steps=zK m n:=by
 have e1:zK m (e+n)=zK m n:=atS_done D (by omega);obtain ⟨x,h1,-,d,o⟩:=jat_read g E;obtain ⟨y,k1,-,k3,k4⟩:=jat_read g ht;refine ⟨by rw [e1];exact D,x,y,h1,k1,by rw [d,k3,e1],by rw [o,k4,e1],?_,?_⟩
 ·rw [d,o];exact (atS_inv m n).loadE (good_chk g)
 ·rw [d,o];exact (atS_inv m n).loadS
def bitB (b:Bool):UInt8:=if b=true then 49 else 48
def Bm (l:List Bool):List UInt8:=wT (l.map bitB)
def taskB (x:List Int×List Int) (s:ByteArray):List UInt8:=(wT s.data.toList++wL x.1)++wL x.2
def AJ:List (List Int×List Int)->List ByteArray->List UInt8
 | x :: l,s :: ns=>taskB x s++AJ l ns
 | _,_=>[]
def AG (m:MZ) (ns:List ByteArray):List UInt8:=
 (((wI m.w++wI m.h)++wI m.l)++wI (m.tasks.length:Nat))++(AJ m.tasks ns++(wI (m.free.length:Nat)++(m.free.flatMap Bm++Bm m.up)))
def Cy:List UInt8:=[114,111,117,116,101]
def zv (id:List UInt8):List UInt8:=wT Cy++wT id
theorem tasksB_take {l:List (List Int×List Int)} (o:ns.length=l.length):∀(k:Nat) (d:k<l.length),AJ (l.take (k+1)) (ns.take (k+1))=AJ (l.take k) (ns.take k)++taskB l[k] (ns[k]'(by omega)):=by
 induction l generalizing ns with
 | nil=>intro k d;simp at d
 | cons x l ih=>
  cases ns with
  | nil=>simp at o
  | cons s ns=>
   intro k d
   cases k with
   | zero=>simp [AJ]
   | succ k=>
    have:=ih (ns:=ns) (by simpa using o) k (by simpa using d);simp only [List.take_succ_cons,AJ,List.getElem_cons_succ,this,List.append_assoc]
structure Small (m:MZ) (ns:List ByteArray):Prop where
 w:0<=m.w/\m.w<=1000
 h:0<=m.h/\m.h<=1000
 l:0<=m.l/\m.l<=1000
 tl:m.tasks.length<=1000
 nl:ns.length=m.tasks.length
 t:∀x∈m.tasks,x.1.length<=1000/\x.2.length<=1000/\∀n,n∈x.1\/n∈x.2->Cp n
 n:∀s∈ns,s.size<=1000
 fl:m.free.length<=1000
 f:∀x∈m.free,x.length<=1000
 u:m.up.length<=1000
theorem Cb (h:s.length<=1000000000):(wT s).length<=s.length+22:=by
 have:=CS (n:=(s.length:Int)) ⟨by omega,by omega⟩;unfold wT;simp;omega
theorem taskB_len {x:List Int×List Int} {s:ByteArray} (h1:x.1.length<=1000/\x.2.length<=1000/\∀n,n∈x.1\/n∈x.2->Cp n) (o:s.size<=1000):(taskB x s).length<=50000:=by
 have D:s.data.toList.length=s.size:=by rw [Array.length_toList];rfl
 have a:=Cb (s:=s.data.toList) (by omega);have b:=wIs_len2 (l:=x.1) fun n d=>h1.2.2 n (.inl d)
 have c:=wIs_len2 (l:=x.2) fun n d=>h1.2.2 n (.inr d)
 unfold taskB;simp only [DM];omega
theorem tasksB_len:∀{l:List (List Int×List Int)} {ns:List ByteArray},(∀x∈l,x.1.length<=1000/\x.2.length<=1000/\∀n,n∈x.1\/n∈x.2->Cp n)->(∀s∈ns,s.size<=1000)->(AJ l ns).length<=50000*l.length
 | [],ns,_,_=>by simp [AJ]
 | x :: l,[],_,_=>by simp [AJ]
 | x :: l,s :: ns,h,o=>by
  have h1:=taskB_len (h x (Eo ..)) (o s (Eo ..));have D:=tasksB_len (l:=l) (ns:=ns) (fun y d=>h y (DY _ d)) (fun y d=>o y (DY _ d));simp only [AJ,DM,EF];omega
theorem bitsB_len {l:List Bool} (h:l.length<=1000):(Bm l).length<=1100:=by
 unfold Bm;have:=Cb (s:=l.map bitB) (by rw [Em];omega);rw [Em] at this;omega
theorem bitss_len:∀{l:List (List Bool)},(∀x∈l,x.length<=1000)->(l.flatMap Bm).length<=1100*l.length
 | [],_=>by simp
 | x :: l,h=>by
  have h1:=bitsB_len (h x (Eo ..));have o:=bitss_len (l:=l) (fun y d=>h y (DY _ d));simp only [List.flatMap_cons,DM,EF];omega
theorem MadeM.small (h:MadeM m) (D:ns.length=m.tasks.length) (d:∀s∈ns,s.size<=1):Small m ns:=by
 have M:=h.w;have hh:=h.h;have E:=h.l;have G:=h.n;have ht:=h.tk;have J:=h.good.1.up;have hf:=h.good.2;refine ⟨by omega,by omega,by omega,by omega,D,fun x o=>?_,fun s I=>by have:=d s I;omega,by omega,fun f hf=>?_,?_⟩
 ·have h1:=(h.te x o).2;refine ⟨by omega,by omega,fun n d=>?_⟩;have:=h.good.5 x o n d;have e:m.n=m.w*m.h*m.l:=rfl;exact ⟨by omega,by omega⟩
 ·have:=h.good.3 f hf;have e:m.n=m.w*m.h*m.l:=rfl;omega
 ·have e:m.n=m.w*m.h*m.l:=rfl;omega
noncomputable def allJ (m:MZ) (s:List UInt8):Nat->JS->List JS
 | 0,x=>[x]
 | f+1,x=>match Aa m s x with
  | none=>[x]
  | some y=>x :: allJ m s f y
theorem allJ_zero (m:MZ) (s:List UInt8) (f:Nat) (x:JS):(allJ m s f x)[0]?=some x:=by
 cases f with
 | zero=>rfl
 | succ f=>
  unfold allJ
  cases Aa m s x <;> rfl
theorem allJ_pos (m:MZ) (s:List UInt8) (f:Nat) (x:JS):0<(allJ m s f x).length:=by
 have:=(Ew.1 (allJ_zero m s f x)).1;exact this
theorem allJ_last (m:MZ) (s:List UInt8):∀(f:Nat) (x:JS),(allJ m s f x)[(allJ m s f x).length - 1]?=some (lastJ m s f x)
 | 0,x=>rfl
 | f+1,x=>by
  unfold allJ lastJ
  cases d:Aa m s x with
  | none=>rfl
  | some y=>
   have h:=allJ_last m s f y;have hp:=allJ_pos m s f y;show (x :: allJ m s f y)[(allJ m s f y).length+1 - 1]?=_;rw [Nat.add_sub_cancel,show (allJ m s f y).length=(allJ m s f y).length - 1+1 by omega,List.getElem?_cons_succ];exact h
theorem allJ_next {m:MZ} {s:List UInt8}:∀(f:Nat) (x:JS) (k:Nat) (y:JS),s.length<=x.fin+f->(allJ m s f x)[k]?=some y->
  (Aa m s y=none->k+1=(allJ m s f x).length)/\∀z,Aa m s y=some z->(allJ m s f x)[k+1]?=some z
 | 0,x,k,y,G,h=>by
  have D:k=0/\y=x:=by
   cases k with
   | zero=>exact ⟨rfl,by simpa [allJ] using h.symm⟩
   | succ k=>simp [allJ] at h
  obtain ⟨rfl,rfl⟩:=D;refine ⟨fun _=>rfl,fun z d=>?_⟩;have:=Bl d;omega
 | f+1,x,k,y,G,h=>by
  unfold allJ at h⊢
  cases o:Aa m s x with
  | none=>
   rw [o] at h
   have D:k=0/\y=x:=by
    cases k with
    | zero=>exact ⟨rfl,by simpa using h.symm⟩
    | succ k=>simp at h
   obtain ⟨rfl,rfl⟩:=D;refine ⟨fun _=>rfl,fun z d=>?_⟩;rw [o] at d;cases d
  | some x'=>
   rw [o] at h;simp only at h⊢;have hf:=Bl o
   cases k with
   | zero=>
    have:x=y:=by simpa using h
    subst this;refine ⟨fun h0=>?_,fun z d=>?_⟩
    ·rw [o] at h0;cases h0
    ·rw [o] at d;injection d with d;subst d;rw [List.getElem?_cons_succ];exact allJ_zero m s f x'
   | succ k=>
    rw [List.getElem?_cons_succ] at h;obtain ⟨h1,E⟩:=allJ_next f x' k y (by omega) h;refine ⟨fun h0=>by rw [EF,<-h1 h0],fun z d=>?_⟩;rw [List.getElem?_cons_succ];exact E z d
theorem wIs_ge:∀(l:List Int),l.length<=(l.flatMap wI).length
 | []=>DS _
 | n :: l=>by
  have:=wIs_ge l;simp only [List.flatMap_cons,DM,EF];have h:1<=(wI n).length:=by unfold wI;simp
  omega
theorem recB_ge (sg:List UInt8) (ch:List Int) (st:Int):ch.length<=(zU sg ch st).length:=by
 have:=wIs_ge ch;unfold zU wT Bb wL;simp only [DM,EF];omega
structure JSb (s:List UInt8) (x:JS):Prop where
 fin:x.fin<=s.length
 st:Cp x.steps
 sg:x.sg.length=8
 ch:∀n∈x.ch,Cp n
 cl:x.ch.length<=s.length
theorem nextJ_b {x y:JS} (h:Aa m s x=some y):JSb s y/\loadE m y.ch y.steps=0/\x.steps<y.steps:=by
 have hf:=(Bl h).2;obtain ⟨ch,st,h1,d,o,D,E,rfl⟩:=Dc h;have G:=o.length_le;have I:=recB_ge x.sg ch st;rw [List.length_drop] at G;exact ⟨⟨hf,E,AT _ _ _,D,by show ch.length<=_;omega⟩,d,h1⟩
theorem allJ_b {m:MZ} {s:List UInt8}:∀(f:Nat) (x:JS) (k:Nat) (y:JS),JSb s x->loadE m x.ch x.steps=0->(allJ m s f x)[k]?=some y->JSb s y/\loadE m y.ch y.steps=0
 | 0,x,k,y,d,o,h=>by
  cases k with
  | zero=>
   have:x=y:=by simpa [allJ] using h
   exact this ▸ ⟨d,o⟩
  | succ k=>simp [allJ] at h
 | f+1,x,k,y,d,o,h=>by
  unfold allJ at h
  cases D:Aa m s x with
  | none=>
   rw [D] at h
   cases k with
   | zero=>
    have:x=y:=by simpa using h
    exact this ▸ ⟨d,o⟩
   | succ k=>simp at h
  | some x'=>
   rw [D] at h
   cases k with
   | zero=>
    have:x=y:=by simpa using h
    exact this ▸ ⟨d,o⟩
   | succ k=>
    obtain ⟨h1,E,-⟩:=nextJ_b D;exact allJ_b f x' k y h1 E (by simpa using h)
end
section
open Go.RowKit Go.Shelf
attribute [local go_sem ↓] Go.wp_at_zero Go.wp_at_succ
theorem numS_bound {c:UInt8} {s:Rd} {n:Int} (h:numS c s=some (n,b)):Cp n/\b.length<=s.1.length:=by
 unfold numS numP at h
 split at h
 ·cases h
 ·split at h
  ·cases h
  ·rename_i a b' D
   have E:=(Ct D).2
   split at h
   ·rename_i v d
    split at h
    ·injection h with h;injection h with h1 o;subst h1 o;exact ⟨⟨(Lib.atoiAll_bounds d).1,(Lib.atoiAll_bounds d).2⟩,by rw [E];simp;omega⟩
    ·cases h
   ·cases h
theorem textF_len (s:Rd):(Ca s).1.length<=s.1.length/\(Ca s).2.1.length<=s.1.length:=by
 unfold Ca
 cases d:numS 58 s with
 | none=>exact ⟨DS _,DS _⟩
 | some p=>
  obtain ⟨n,b⟩:=p;have o:=(numS_bound d).2;simp only
  split
  ·exact ⟨DS _,DS _⟩
  ·simp;omega
theorem rText_calls {r:Nat} {s:Rd} (w:World) (hv:zq w) (h:RdAt w r s) (hl:s.1.length<=281474976710656):Calls Tryz.prog 87 #[.pointer (some ⟨r,0,none⟩)] w fun e w'=>e=.returned (.string ⟨(Ca s).1.toArray⟩)/\zk (·=r) w w'/\RdAt w' r (Ca s).2:=by
 have HN:=zh (number_calls 58 w hv h hl);have G:Hid (∀o,o=numS 58 s->Ca s=match o with | none=>([],([],true)) | some (n,b)=>if n<0\/(b.length:Int)<n then ([],([],true)) else (b.take n.toNat,(b.drop n.toNat,false))):=fun o ho=>by rw [ho];rfl
 have M:Hid (∀n b,numS 58 s=some (n,b)->Cp n/\b.length<=s.1.length):=fun n b h=>numS_bound h
 generalize numS 58 s=o at HN G M;have G:=zh (G.out o rfl);generalize Ca s=i at G⊢;clear hv h
 go_enter Tryz.func87,Tryz.ntmps87
 cases o with
 | none=>
  go_wp2_with fail
  refine HN.out.mono ?_;rintro e w1 ⟨hC,-,hn⟩;obtain ⟨rfl,U⟩:=hn rfl;have HR:=zh U;have V:=zh hC;clear hC hn U HN
  go_wp2_with fail
  refine (BA w1 HR.out).mono ?_;rintro e w2 ⟨rfl,d,D⟩;have E:=zh (V.out.tr d);have J:=zh D;clear d D
  go_wp2_with fail
  go_ret;have e:=G.out;subst e;exact ⟨rfl,E.out,J.out⟩
 | some p=>
  obtain ⟨n,b⟩:=p;obtain ⟨O,b0⟩:=M.out n b rfl;have a6:=O.1;have a7:=O.2;clear O M
  go_wp2_with fail
  refine HN.out.mono ?_;rintro e w1 ⟨hC,hs,-⟩;obtain ⟨rfl,U⟩:=hs n b rfl;have HR:=zh U;have V:=zh hC;have c0:=U.cell (k:=0) rfl;have hf:∀k,w1.frozen? ⟨r,k,none⟩=false:=fun k=>U.frozen k
  dsimp only at c0;clear hC hs U HN;by_cases a3:n<0
  ·have I:Hid (i=([],([],true))):=by (show _=_);rw [G.out];rw [if_pos (.inl a3)]
   clear G
   go_wp2_with fail
   refine (BA w1 HR.out).mono ?_;rintro e w2 ⟨rfl,d,D⟩;have E:=zh (V.out.tr d);have J:=zh D;clear d D
   go_wp2_with fail
   go_ret;have e:=I.out;subst e;exact ⟨rfl,E.out,J.out⟩
  ·by_cases a4:(b.length:Int)<n
   ·have I:Hid (i=([],([],true))):=by (show _=_);rw [G.out];rw [if_pos (.inr a4)]
    clear G
    go_wp2_with fail
    refine (BA w1 HR.out).mono ?_;rintro e w2 ⟨rfl,d,D⟩;have E:=zh (V.out.tr d);have J:=zh D;clear d D
    go_wp2_with fail
    go_ret;have e:=I.out;subst e;exact ⟨rfl,E.out,J.out⟩
   ·obtain ⟨k,rfl⟩:∃k:Nat,n=k:=⟨n.toNat,by omega⟩;have I:Hid (i=(b.take k,(b.drop k,false))):=by (show _=_);rw [G.out];rw [if_neg (by omega)];rfl
    have b1:k<=b.length:=by omega
    have e1:ByteArray.extract ⟨b.toArray⟩ 0 k=⟨(b.take k).toArray⟩:=ext_take b k;have e2:ByteArray.extract ⟨b.toArray⟩ k b.length=⟨(b.drop k).toArray⟩:=CQ b k;clear G a4 a3
    go_wp2_with fail
    go_ret;have e:=I.out;subst e;exact ⟨rfl,Ch (X:=(·=r)) V.out r 0 _ rfl,HR.out.set (k:=0) _⟩
def sPre_ren:Go.Shelf.Ren:=⟨fun | 99=>53 | 206=>84 | n=>n,fun | 9=>9 | 4=>4 | 3=>3 | n=>n,fun | n=>n⟩
theorem sPre:Go.Proofs.Lays.n99 Tryz.prog sPre_ren:=by
 constructor
 iterate 4 (all_goals first | kernel_rfl | (intro _;kernel_rfl) | exact ⟨_,by decide,by kernel_rfl⟩ | constructor)
theorem pre_calls (s p:List UInt8) (w:World):Calls Tryz.prog 53 #[.string ⟨s.toArray⟩,.string ⟨p.toArray⟩] w fun e w'=>e=.returned (.bool (p.isPrefixOf s))/\w=w':=
 (Any.strings_HasPrefix sPre ⟨s.toArray⟩ ⟨p.toArray⟩ w).mono fun e w' h=>⟨by rw [h.1];rfl,h.2.symm⟩
theorem jBits_calls {ok:Nat->Prop} {l:List Bool} (w:World) (hv:zq w) (hl:AR w ok v l) (a7:l.length<=1000000000):Calls Tryz.prog 51 #[v] w fun e w'=>e=.returned (.string ⟨(Bm l).toArray⟩)/\zc w w':=by
 have HL:=zh hl;have HV:=zh hv;obtain ⟨A,c,rfl,hc,hr⟩:=hl;clear hv hr
 go_enter Tryz.func51,Tryz.ntmps51
 go_wp2_with fail
 have I:Hid (Dx w.heap.size (Lib.byteCells []) (w.alloc (.cells #[.pointer none,.slice none 0 0] 83))):=Dx.new w;have M:Hid (zc w (w.alloc (.cells #[.pointer none,.slice none 0 0] 83))):=(zc.refl w).alloc _;generalize w.alloc _=w1 at I M⊢;go_loopw [8] (fun i wr=>∃k:Nat,k<=l.length/\i=.int .i64 k/\Hid (Dx w.heap.size (Lib.byteCells ((l.take k).map bitB)) wr)/\Hid (zc w wr)) (fun i _=>l.length - (intOf i).toNat)
 case atStart=>exact ⟨0,DS _,rfl,I,M⟩
 clear I M
 case round=>
  obtain ⟨k,hk,rfl,HB,V⟩:=hrel;have G:((l.take k).map bitB).length<=l.length:=by simp;omega
  by_cases O:k<l.length
  ·have hR:=HL.out.below V.out;obtain ⟨A',c',e',-,hr⟩:=hR;injection e' with e1 e2 e3;subst e1;obtain ⟨b,off,rfl,-,o⟩:=CE hr O O;obtain ⟨x,hx⟩:=EH (l[k]);rw [<-hx] at o;have HS:Hid ((l.take (k+1)).map bitB=(l.take k).map bitB++[bitB x]):=by (show _=_);rw [DL O,Et,hx];rfl
   have U:Hid ((Lib.byteCells ((l.take k).map bitB)).length+1<=140737488355328):=by (show _<=_);rw [bui_len];omega
   clear hx hr e2 e3 G
   cases x with
   | true=>
    go_wp2_with fail
    refine (CH 49 HB.out U.out).mono ?_;rintro e w3 ⟨rfl,E,d⟩
    have J:Hid (Dx w.heap.size (Lib.byteCells ((l.take (k+1)).map bitB)) w3):=by
     rw [HS.out];have:=E;rw [show Value.int .u8 49=Value.int .u8 (49:UInt8).toNat from rfl,bui_bytes] at this;exact .inr this
    have D:Hid (zc w w3):=Below.trans V.out d;clear E d o
    go_wp2_with fail
    go_roundw
    case rel=>exact ⟨k+1,by omega,by go_num,J,D⟩
    case measure=>simp [intOf];omega
   | false=>
    go_wp2_with fail
    refine (CH 48 HB.out U.out).mono ?_;rintro e w3 ⟨rfl,E,d⟩
    have J:Hid (Dx w.heap.size (Lib.byteCells ((l.take (k+1)).map bitB)) w3):=by
     rw [HS.out];have:=E;rw [show Value.int .u8 48=Value.int .u8 (48:UInt8).toNat from rfl,bui_bytes] at this;exact .inr this
    have D:Hid (zc w w3):=Below.trans V.out d;clear E d o
    go_wp2_with fail
    go_roundw
    case rel=>exact ⟨k+1,by omega,by go_num,J,D⟩
    case measure=>simp [intOf];omega
  ·obtain rfl:k=l.length:=by omega
   rw [DP] at HB;have HT:Hid (∀W,zc w W->Calls Tryz.prog 48 #[.string ⟨(l.map bitB).toArray⟩] W fun e w'=>e=.returned (.string ⟨(Bm l).toArray⟩)/\zc W w'):=fun W hW=>BB W (HV.out.ext hW) (by rw [Em];omega)
   clear G
   go_wp2_with fail
   refine (CY HB.out V.out.size).mono ?_;rintro e w3 ⟨rfl,d⟩;have D:Hid (zc w w3):=Below.trans V.out d;clear d
   go_wp2_with fail
   refine (HT.out _ D.out).mono ?_;rintro e w4 ⟨rfl,a0⟩;have a3:Hid (zc w w4):=D.out.trans a0;clear a0
   go_wp2_with fail
   go_ret;exact ⟨rfl,a3.out⟩
theorem CL (w:World) (G:zq w) (U:id.length<=1000000):Calls Tryz.prog 28 #[.string ⟨id.toArray⟩] w fun e w'=>e=.returned (.string ⟨(zv id).toArray⟩)/\zc w w':=by
 have h1:=Cb (s:=Cy) (by decide);have I:=Cb (s:=id) (by omega);have h0:Cy.length=5:=rfl;obtain ⟨x1,d⟩:∃x,x=wT Cy:=⟨_,rfl⟩;obtain ⟨x2,o⟩:∃x,x=wT id:=⟨_,rfl⟩;have O:Hid (zv id=x1++x2):=by (show _=_);rw [d,o];rfl
 rw [<-d] at h1;rw [<-o] at I;have J:Hid (Calls Tryz.prog 48 #[.string ⟨#[114,111,117,116,101]⟩] w fun e w'=>e=.returned (.string ⟨x1.toArray⟩)/\zc w w'):=by rw [d];exact BB (s:=Cy) w G (by decide)
 have M:Hid (∀W,zc w W->Calls Tryz.prog 48 #[.string ⟨id.toArray⟩] W fun e w'=>e=.returned (.string ⟨x2.toArray⟩)/\zc W w'):=fun W hW=>by rw [o];exact BB W (G.ext hW) (by omega)
 have V:∀w,(Op.stringOp .add ⟨x1.toArray⟩ ⟨x2.toArray⟩).run Tryz.prog w=.ok (.string ⟨(x1++x2).toArray⟩) w:=fun w=>Bi (by omega)
 clear d o G h0 h1 I U
 go_enter Tryz.func28,Tryz.ntmps28
 go_wp2_with fail
 refine J.out.mono ?_;rintro e w1 ⟨rfl,D⟩
 go_wp2_with fail
 refine (M.out _ D).mono ?_;rintro e w2 ⟨rfl,E⟩
 go_wp2_with fail
 go_ret;exact ⟨ret_str O.out.symm,D.trans E⟩
end
section
open Go
section
variable {P:Program} {ops:Array Oper} {Q:Exit->Act->World->Prop} {md:Region.Mode} {S:World->Prop}
def Cc (P:Program) (md:Region.Mode) (ops:Array Oper) (Q:Exit->Act->World->Prop) (S:World->Prop):Nat->Array Bool->Act->World->Prop
 | 0,l,a,w=>Region.ready md ops l=[]/\Q .normal a w
 | n+1,l,a,w=>(Region.ready md ops l=[]->Q .normal a w)/\
  ∀i∈Region.ready md ops l,wpOp P ops Q i (fun a' w'=>((∀k,(l.setIfInBounds i true).getD k true=true)\/S w')/\Cc P md ops Q S n (l.setIfInBounds i true) a' w') a w
theorem wpAny_of_last:∀(n:Nat) (l:Array Bool) (a:Act) (w:World),Cc P md ops Q S n l a w->wpAny P md ops Q n l a w
 | 0,_,_,_,h=>h
 | n+1,_,_,_,h=>⟨h.1,fun i o=>wpOp_mono (fun a' w' d=>wpAny_of_last n _ a' w' d.2) (h.2 i o)⟩
def waitB (md:Region.Mode) (ops:Array Oper) (l:Array Bool) (i:Nat):Bool:=(List.range ops.size).any fun k=>!(l.getD k true) && (match ops[k]? with | some o=>o.after.any (fun e=>Region.binds md e && e.on==i) | none=>false)
theorem wpAnyL_first {ok:Oper} (hi:ops[i]?=some oi) (hk:ops[k]?=some ok) (hw:∃e∈ok.after,Region.binds md e=true/\e.on=i)
  (J:∀(j:Nat) (o:Oper) cs b,ops[j]?=some o->o.op≠.select cs b) (hQ:∀c a w,Q (.panic c) (a.put oi.dst v) w->Q (.panic c) a w):
  ∀(n:Nat) (l:Array Bool) (a:Act) (w:World),l.getD k true=false->k≠i->
   (∀j oj,ops[j]?=some oj->j≠i->l.getD j true=false->(∀e∈oj.after,Region.binds md e=true->e.on≠i)->oi.apart ops oj=true)->
   i∈Region.ready md ops l->YieldsIf P ops S oi v a->S w->Cc P md ops Q S n (l.setIfInBounds i true) (a.put oi.dst v) w->Cc P md ops Q S (n+1) l a w:=by
 intro n
 induction n with
 | zero=>
  intro l a w _ _ _ M hy O H;refine ⟨fun h=>(by rw [h] at M;cases M),fun j hj=>?_⟩;by_cases d:j=i
  ·subst d;exact hy.wpOp hi O ⟨.inr O,H⟩
  ·have h:=ready_mono hj d;rw [H.1] at h;cases h
 | succ n ih=>
  intro l a w a4 a1 D M hy O H;refine ⟨fun h=>(by rw [h] at M;cases M),fun j hj=>?_⟩;by_cases d:j=i
  ·subst d;exact hy.wpOp hi O ⟨.inr O,H⟩
  ·have h1:=H.2 j (ready_mono hj d);obtain ⟨G,oj,E,V⟩:=mem_ready.1 hj
   have I:∀e∈oj.after,Region.binds md e=true->e.on≠i:=fun e he hb q=>by
    have h1:=V e he hb;have h0:=(mem_ready.1 M).1;rw [q] at h1;rcases Ea i l.size with h' | h'
    ·simp [h'] at h0 h1;rw [h0] at h1;cases h1
    ·simp [Array.getElem?_eq_none h'] at h1
   have a2:j≠k:=fun q=>by
    subst q;obtain ⟨e,he,hb,ho⟩:=hw;rw [hk] at E;injection E with E;subst E;exact I e he hb ho
   have h2:=wpOp_putIf E (D j oj E d G I) (fun cs b=>J i oi cs b hi) (fun cs b=>J j oj cs b E) hQ hy h1;have a5:(l.setIfInBounds j true).getD k true=false:=by rw [getD_set_ne true a2];exact a4
   refine wpOp_mono (fun a' w' h3=>?_) h2
   have U:S w':=h3.2.1.resolve_left fun q=>by
    have h:=q k;rw [getD_set_ne true a2,getD_set_ne true (Ne.symm a1),a4] at h;cases h
   refine ⟨.inr U,ih (l.setIfInBounds j true) a' w' a5 a1 (fun x ox hx a6 a7 a3=>?_) (ready_mono M (Ne.symm d)) h3.1 U ?_⟩
   ·by_cases a0:j=x
    ·subst a0;exact D j ox hx a6 G a3
    ·rw [getD_set_ne true a0] at a7;exact D x ox hx a6 a7 a3
   ·rw [Array.setIfInBounds_comm _ _ d];exact h3.2.2
theorem ze (U:ops[i]?=some oi) (hs:Region.noSelect ops=true) (hf:Region.free md ops l i=true) (hr:(Region.ready md ops l).contains i=true) (O:waitB md ops l i=true)
  (hQ:∀c a w,Q (.panic c) (a.put oi.dst v) w->Q (.panic c) a w) (hy:YieldsIf P ops S oi v a) (hS:S w) (h:Cc P md ops Q S n (l.setIfInBounds i true) (a.put oi.dst v) w):Cc P md ops Q S (n+1) l a w:=by
 unfold waitB at O;obtain ⟨k,-,V⟩:=ED.1 O;rw [DQ,Bool.not_eq_true'] at V;obtain ⟨h1,E⟩:=V
 cases G:ops[k]? with
 | none=>rw [G] at E;cases E
 | some ok=>
  rw [G] at E
  have hw:∃e∈ok.after,Region.binds md e=true/\e.on=i:=by
   obtain ⟨x,M,o,h4⟩:=(by simpa using E:∃x,∃h:x<ok.after.size,Region.binds md ok.after[x]=true/\ok.after[x].on=i);exact ⟨_,Array.getElem_mem M,o,h4⟩
  have I:k≠i:=fun q=>by
   subst q;have J:k∈Region.ready md ops l:=by simpa using hr
   obtain ⟨h0,oj,d,D⟩:=mem_ready.1 J;rw [G] at d;injection d with d;subst d;obtain ⟨e,he,hb,M⟩:=hw;have o:=D e he hb;rw [M] at o;rcases Ea k l.size with h' | h'
   ·simp [h'] at h0 o;rw [h0] at o;cases o
   ·simp [Array.getElem?_eq_none h'] at o
  exact wpAnyL_first U G hw (Region.noSelect_spec hs) hQ n l a w h1 I (Region.free_spec U hf) (by simpa using hr) hy hS h
def zj (P:Program) (md:Region.Mode) (ops:Array Oper) (Q:Exit->Act->World->Prop) (S:World->Prop) (n:Nat) (l:Array Bool) (a:Act) (w:World) (rs:List Nat):Prop:=
 ∀i∈rs,wpOp P ops Q i (fun a' w'=>((∀k,(l.setIfInBounds i true).getD k true=true)\/S w')/\Cc P md ops Q S n (l.setIfInBounds i true) a' w') a w
theorem zj.nil:zj P md ops Q S n l a w []:=fun _ h=>by cases h
theorem zj.cons {n:Nat} {l:Array Bool} {a:Act} {w:World} {i:Nat} {o:Oper} {rs:List Nat} (E:ops[i]?=some o)
  (h:∀K':Act->World->Prop,Shut (∀a w,S w->(S w->Cc P md ops Q S n (l.setIfInBounds i true) a w)->K' a w)->if Region.wanted o (yielded ops a.tmps)=true then Oper.wp P o a w K' Q else K' (a.put o.dst undef) w)
  (G:zj P md ops Q S n l a w rs):zj P md ops Q S n l a w (i :: rs):=fun j hj=>by
 rcases Er.1 hj with rfl | hj
 ·exact wpOp_step E (fun K' D=>h K' (fun a w d hW=>D a w ⟨.inr d,hW d⟩))
 ·exact G j hj
theorem zj.last {o:Oper} (G:ops[i]?=some o) (d:(l.setIfInBounds i true).all (fun b=>b)=true)
  (h:∀K':Act->World->Prop,Shut (∀a w,Cc P md ops Q S n (l.setIfInBounds i true) a w->K' a w)->if Region.wanted o (yielded ops a.tmps)=true then Oper.wp P o a w K' Q else K' (a.put o.dst undef) w):zj P md ops Q S n l a w [i]:=fun j E=>by
 obtain rfl:=Ek.1 E;refine wpOp_step G (fun K' D=>h K' (fun a w hW=>D a w ⟨.inl fun k=>?_,hW⟩));rw [Array.all_eq_true] at d;rcases Ea k (l.setIfInBounds j true).size with h' | h'
 ·rw [Array.getD_eq_getD_getElem?,Array.getElem?_eq_getElem h'];exact d k h'
 ·rw [Array.getD_eq_getD_getElem?,Array.getElem?_eq_none h'];rfl
theorem zt {rs:List Nat} (o:Region.ready md ops l=rs) (d:rs≠[]) (h:zj P md ops Q S n l a w rs):Cc P md ops Q S (n+1) l a w:=
 ⟨fun h0=>absurd (o ▸ h0) d,o ▸ h⟩
theorem Bh (d:Region.ready md ops l=[]) (h:Q .normal a w):∀n,Cc P md ops Q S n l a w
 | 0=>⟨d,h⟩
 | _+1=>⟨fun _=>h,by rw [d];simp⟩
theorem wp_dark {c:Code} (h:∀Q':Exit->Act->World->Prop,(∀c (a a':Act) w,a.defers=a'.defers->Q' (.panic c) a w->Q' (.panic c) a' w)->Q'=Q->c.wp P Q' a w) (hp:∀c (a a':Act) w,a.defers=a'.defers->Q (.panic c) a w->Q (.panic c) a' w):c.wp P Q a w:=h Q hp rfl
theorem AK {id:Nat} (hm:P.follows .mixedOrders=true) (d:S w.drew) (h:S w.drew->Cc P .any ops Q S ops.size (Array.replicate ops.size false) a w.drew):(Code.region id ops true).wp P Q a w:=
 wp_region_any hm (wpAny_of_last _ _ _ _ (h d))
end
end
end Go.Proofs.YtfjjdmpndmbfoaaGreatDoor
