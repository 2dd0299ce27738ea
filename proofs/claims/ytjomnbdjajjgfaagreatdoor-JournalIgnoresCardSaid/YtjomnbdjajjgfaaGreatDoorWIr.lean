import Derived.Test.YtjomnbdjajjgfaaGreatDoorWIq
import Derived.Shelf.Strings.Prefix
import Derived.Deep.RegionHeld
import Derived.Test.YtjomnbdjajjgfaaGreatDoorRows
set_option linter.unusedVariables false
set_option linter.unusedSimpArgs false
set_option maxRecDepth 100000
set_option maxHeartbeats 16000000
namespace Go.Proofs.YtjomnbdjajjgfaaGreatDoor
variable {a:Act} {l:Array Bool} {st:Int} {ns:List ByteArray} {ch:List Int} {s sg:List UInt8} {m:MZ} {i n r:Nat} {ok:Nat->Prop} {oi:Oper} {v:Value} {w:World}
section
open Go.RowKit
def bitB (b:Bool):UInt8:=if b=true then 49 else 48
def AE (l:List Bool):List UInt8:=wT (l.map bitB)
def taskB (x:List Int×List Int) (s:ByteArray):List UInt8:=(wT s.data.toList++wL x.1)++wL x.2
def Al:List (List Int×List Int)->List ByteArray->List UInt8
 | x :: l,s :: ns=>taskB x s++Al l ns
 | _,_=>[]
def zw (m:MZ) (ns:List ByteArray):List UInt8:=
 (((wI m.w++wI m.h)++wI m.l)++wI (m.tasks.length:Nat))++(Al m.tasks ns++(wI (m.free.length:Nat)++(m.free.flatMap AE++AE m.up)))
def BQ:List UInt8:=[114,111,117,116,101]
def zr (id:List UInt8):List UInt8:=wT BQ++wT id
theorem tasksB_take {l:List (List Int×List Int)} (o:ns.length=l.length):∀(k:Nat) (d:k<l.length),Al (l.take (k+1)) (ns.take (k+1))=Al (l.take k) (ns.take k)++taskB l[k] (ns[k]'(by omega)):=by
 induction l generalizing ns with
 | nil=>intro k d;simp at d
 | cons x l ih=>
  cases ns with
  | nil=>simp at o
  | cons s ns=>
   intro k d
   cases k with
   | zero=>simp [Al]
   | succ k=>
    have:=ih (ns:=ns) (by simpa using o) k (by simpa using d);simp only [List.take_succ_cons,Al,List.getElem_cons_succ,this,List.append_assoc]
structure CF (m:MZ) (ns:List ByteArray):Prop where
 w:0<=m.w/\m.w<=1000
 h:0<=m.h/\m.h<=1000
 l:0<=m.l/\m.l<=1000
 tl:m.tasks.length<=1000
 nl:ns.length=m.tasks.length
 t:∀x∈m.tasks,x.1.length<=1000/\x.2.length<=1000/\∀n,n∈x.1\/n∈x.2->BI n
 n:∀s∈ns,s.size<=1000
 fl:m.free.length<=1000
 f:∀x∈m.free,x.length<=1000
 u:m.up.length<=1000
theorem Br (h:s.length<=1000000000):(wT s).length<=s.length+22:=by
 have:=Bx (n:=(s.length:Int)) ⟨by omega,by omega⟩;unfold wT;simp;omega
theorem taskB_len {x:List Int×List Int} {s:ByteArray} (h1:x.1.length<=1000/\x.2.length<=1000/\∀n,n∈x.1\/n∈x.2->BI n) (h2:s.size<=1000):(taskB x s).length<=50000:=by
 have o:s.data.toList.length=s.size:=by rw [Array.length_toList];rfl
 have a:=Br (s:=s.data.toList) (by omega);have b:=wIs_len2 (l:=x.1) fun n d=>h1.2.2 n (.inl d)
 have c:=wIs_len2 (l:=x.2) fun n d=>h1.2.2 n (.inr d)
 unfold taskB;simp only [Eg];omega
theorem Cu:∀{l:List (List Int×List Int)} {ns:List ByteArray},(∀x∈l,x.1.length<=1000/\x.2.length<=1000/\∀n,n∈x.1\/n∈x.2->BI n)->(∀s∈ns,s.size<=1000)->(Al l ns).length<=50000*l.length
 | [],ns,_,_=>by simp [Al]
 | x :: l,[],_,_=>by simp [Al]
 | x :: l,s :: ns,h,o=>by
  have h1:=taskB_len (h x (EK ..)) (o s (EK ..));have h2:=Cu (l:=l) (ns:=ns) (fun y d=>h y (Et _ d)) (fun y d=>o y (Et _ d));simp only [Al,Eg,Fb];omega
theorem CO {l:List Bool} (h:l.length<=1000):(AE l).length<=1100:=by
 unfold AE;have:=Br (s:=l.map bitB) (by rw [EI];omega);rw [EI] at this;omega
theorem CP:∀{l:List (List Bool)},(∀x∈l,x.length<=1000)->(l.flatMap AE).length<=1100*l.length
 | [],_=>by simp
 | x :: l,h=>by
  have h1:=CO (h x (EK ..));have h2:=CP (l:=l) (fun y d=>h y (Et _ d));simp only [List.flatMap_cons,Eg,Fb];omega
theorem descB_len (h:CF m ns):(zw m ns).length<=100000000:=by
 have a1:=Bl (n:=m.w) ⟨by have:=h.w;omega,by have:=h.w;omega⟩;have a2:=Bl (n:=m.h) ⟨by have:=h.h;omega,by have:=h.h;omega⟩;have a3:=Bl (n:=m.l) ⟨by have:=h.l;omega,by have:=h.l;omega⟩;have a4:=Bl (n:=(m.tasks.length:Int)) ⟨by omega,by have:=h.tl;omega⟩;have a5:=Bl (n:=(m.free.length:Int)) ⟨by omega,by have:=h.fl;omega⟩;have a6:=Cu h.t h.n;have a7:=CP h.f;have a8:=CO h.u;have:=h.tl;have:=h.fl;unfold zw;simp only [Eg];omega
theorem MadeM.small (h:MadeM m) (B:ns.length=m.tasks.length) (d:∀s∈ns,s.size<=1):CF m ns:=by
 have J:=h.w;have hh:=h.h;have D:=h.l;have E:=h.n;have ht:=h.tk;have I:=h.good.1.up;have hf:=h.good.2;refine ⟨by omega,by omega,by omega,by omega,B,fun x o=>?_,fun s G=>by have:=d s G;omega,by omega,fun f hf=>?_,?_⟩
 ·have h1:=(h.te x o).2;refine ⟨by omega,by omega,fun n d=>?_⟩;have:=h.good.5 x o n d;have e:m.n=m.w*m.h*m.l:=rfl;exact ⟨by omega,by omega⟩
 ·have:=h.good.3 f hf;have e:m.n=m.w*m.h*m.l:=rfl;omega
 ·have e:m.n=m.w*m.h*m.l:=rfl;omega
noncomputable def allJ (m:MZ) (s:List UInt8):Nat->JS->List JS
 | 0,x=>[x]
 | f+1,x=>match zO m s x with
  | none=>[x]
  | some y=>x :: allJ m s f y
theorem allJ_zero (m:MZ) (s:List UInt8) (f:Nat) (x:JS):(allJ m s f x)[0]?=some x:=by
 cases f with
 | zero=>rfl
 | succ f=>
  unfold allJ
  cases zO m s x <;> rfl
theorem allJ_pos (m:MZ) (s:List UInt8) (f:Nat) (x:JS):0<(allJ m s f x).length:=by
 have:=(ES.1 (allJ_zero m s f x)).1;exact this
theorem allJ_last (m:MZ) (s:List UInt8):∀(f:Nat) (x:JS),(allJ m s f x)[(allJ m s f x).length - 1]?=some (CA m s f x)
 | 0,x=>rfl
 | f+1,x=>by
  unfold allJ CA
  cases d:zO m s x with
  | none=>rfl
  | some y=>
   have h:=allJ_last m s f y;have hp:=allJ_pos m s f y;show (x :: allJ m s f y)[(allJ m s f y).length+1 - 1]?=_;rw [Nat.add_sub_cancel,show (allJ m s f y).length=(allJ m s f y).length - 1+1 by omega,List.getElem?_cons_succ];exact h
theorem allJ_next {m:MZ} {s:List UInt8}:∀(f:Nat) (x:JS) (k:Nat) (y:JS),s.length<=x.fin+f->(allJ m s f x)[k]?=some y->
  (zO m s y=none->k+1=(allJ m s f x).length)/\∀z,zO m s y=some z->(allJ m s f x)[k+1]?=some z
 | 0,x,k,y,D,h=>by
  have B:k=0/\y=x:=by
   cases k with
   | zero=>exact ⟨rfl,by simpa [allJ] using h.symm⟩
   | succ k=>simp [allJ] at h
  obtain ⟨rfl,rfl⟩:=B;refine ⟨fun _=>rfl,fun z d=>?_⟩;have:=BD d;omega
 | f+1,x,k,y,D,h=>by
  unfold allJ at h⊢
  cases o:zO m s x with
  | none=>
   rw [o] at h
   have B:k=0/\y=x:=by
    cases k with
    | zero=>exact ⟨rfl,by simpa using h.symm⟩
    | succ k=>simp at h
   obtain ⟨rfl,rfl⟩:=B;refine ⟨fun _=>rfl,fun z d=>?_⟩;rw [o] at d;cases d
  | some x'=>
   rw [o] at h;simp only at h⊢;have hf:=BD o
   cases k with
   | zero=>
    have:x=y:=by simpa using h
    subst this;refine ⟨fun h0=>?_,fun z d=>?_⟩
    ·rw [o] at h0;cases h0
    ·rw [o] at d;injection d with d;subst d;rw [List.getElem?_cons_succ];exact allJ_zero m s f x'
   | succ k=>
    rw [List.getElem?_cons_succ] at h;obtain ⟨h1,h2⟩:=allJ_next f x' k y (by omega) h;refine ⟨fun h0=>by rw [Fb,<-h1 h0],fun z d=>?_⟩;rw [List.getElem?_cons_succ];exact h2 z d
theorem wIs_ge:∀(l:List Int),l.length<=(l.flatMap wI).length
 | []=>Em _
 | n :: l=>by
  have:=wIs_ge l;simp only [List.flatMap_cons,Eg,Fb];have h:1<=(wI n).length:=by unfold wI;simp
  omega
theorem recB_ge (sg:List UInt8) (ch:List Int) (st:Int):ch.length<=(zS sg ch st).length:=by
 have:=wIs_ge ch;unfold zS wT Bf wL;simp only [Eg,Fb];omega
structure JSb (s:List UInt8) (x:JS):Prop where
 fin:x.fin<=s.length
 st:BI x.steps
 sg:x.sg.length=8
 ch:∀n∈x.ch,BI n
 cl:x.ch.length<=s.length
theorem nextJ_b {x y:JS} (h:zO m s x=some y):JSb s y/\loadE m y.ch y.steps=0/\x.steps<y.steps:=by
 have hf:=(BD h).2;obtain ⟨ch,st,h1,h2,h3,d,o,rfl⟩:=Db h;have B:=h3.length_le;have D:=recB_ge x.sg ch st;rw [EX] at B;exact ⟨⟨hf,o,Bb _ _ _,d,by show ch.length<=_;omega⟩,h2,h1⟩
theorem allJ_b {m:MZ} {s:List UInt8}:∀(f:Nat) (x:JS) (k:Nat) (y:JS),JSb s x->loadE m x.ch x.steps=0->(allJ m s f x)[k]?=some y->JSb s y/\loadE m y.ch y.steps=0
 | 0,x,k,y,d,o,h=>by
  cases k with
  | zero=>
   have:x=y:=by simpa [allJ] using h
   exact this ▸ ⟨d,o⟩
  | succ k=>simp [allJ] at h
 | f+1,x,k,y,d,o,h=>by
  unfold allJ at h
  cases B:zO m s x with
  | none=>
   rw [B] at h
   cases k with
   | zero=>
    have:x=y:=by simpa using h
    exact this ▸ ⟨d,o⟩
   | succ k=>simp at h
  | some x'=>
   rw [B] at h
   cases k with
   | zero=>
    have:x=y:=by simpa using h
    exact this ▸ ⟨d,o⟩
   | succ k=>
    obtain ⟨h1,h2,-⟩:=nextJ_b B;exact allJ_b f x' k y h1 h2 (by simpa using h)
end
section
open Go.RowKit Go.Shelf
attribute [local go_sem ↓] Go.wp_at_zero Go.wp_at_succ
theorem numS_bound {c:UInt8} {s:Rd} {n:Int} {b:List UInt8} (h:Bm c s=some (n,b)):BI n/\b.length<=s.1.length:=by
 unfold Bm numP at h
 split at h
 ·cases h
 ·split at h
  ·cases h
  ·rename_i a b' o
   have B:=(BN o).2
   split at h
   ·rename_i v d
    split at h
    ·injection h with h;injection h with h1 h2;subst h1 h2;exact ⟨⟨(Lib.atoiAll_bounds d).1,(Lib.atoiAll_bounds d).2⟩,by rw [B];simp;omega⟩
    ·cases h
   ·cases h
theorem textF_len (s:Rd):(Bn s).1.length<=s.1.length/\(Bn s).2.1.length<=s.1.length:=by
 unfold Bn
 cases d:Bm 58 s with
 | none=>exact ⟨Em _,Em _⟩
 | some p=>
  obtain ⟨n,b⟩:=p;have o:=(numS_bound d).2;simp only
  split
  ·exact ⟨Em _,Em _⟩
  ·simp;omega
theorem rText_calls {s:Rd} (w:World) (hv:zq w) (h:RdAt w r s) (hl:s.1.length<=281474976710656):Calls Tryz.prog 198 #[.pointer (some ⟨r,0,none⟩)] w fun e w'=>e=.returned (.string ⟨(Bn s).1.toArray⟩)/\zC (·=r) w w'/\RdAt w' r (Bn s).2:=by
 have U:=zh (number_calls 58 w hv h hl);have E:Hid (∀o,o=Bm 58 s->Bn s=match o with | none=>([],([],true)) | some (n,b)=>if n<0\/(b.length:Int)<n then ([],([],true)) else (b.take n.toNat,(b.drop n.toNat,false))):=fun o ho=>by rw [ho];rfl
 have J:Hid (∀n b,Bm 58 s=some (n,b)->BI n/\b.length<=s.1.length):=fun n b h=>numS_bound h
 generalize Bm 58 s=o at U E J;have E:=zh (E.out o rfl);generalize Bn s=i at E⊢;clear hv h
 go_enter Tryz.func198,Tryz.ntmps198
 cases o with
 | none=>
  go_wp2_with fail
  refine U.out.mono ?_;rintro e w1 ⟨hC,-,hn⟩;obtain ⟨rfl,M⟩:=hn rfl;have V:=zh M;have O:=zh hC;clear hC hn M U
  go_wp2_with fail
  refine (BY w1 V.out).mono ?_;rintro e w2 ⟨rfl,d,B⟩;have D:=zh (O.out.tr d);have I:=zh B;clear d B
  go_wp2_with fail
  go_ret;have e:=E.out;subst e;exact ⟨rfl,D.out,I.out⟩
 | some p=>
  obtain ⟨n,b⟩:=p;obtain ⟨K,a8⟩:=J.out n b rfl;have a4:=K.1;have a5:=K.2;clear K J
  go_wp2_with fail
  refine U.out.mono ?_;rintro e w1 ⟨hC,hs,-⟩;obtain ⟨rfl,M⟩:=hs n b rfl;have V:=zh M;have O:=zh hC;have c0:=M.cell (k:=0) rfl;have hf:∀k,w1.frozen? ⟨r,k,none⟩=false:=fun k=>M.frozen k
  dsimp only at c0;clear hC hs M U;by_cases a1:n<0
  ·have G:Hid (i=([],([],true))):=by (show _=_);rw [E.out];rw [if_pos (.inl a1)]
   clear E
   go_wp2_with fail
   refine (BY w1 V.out).mono ?_;rintro e w2 ⟨rfl,d,B⟩;have D:=zh (O.out.tr d);have I:=zh B;clear d B
   go_wp2_with fail
   go_ret;have e:=G.out;subst e;exact ⟨rfl,D.out,I.out⟩
  ·by_cases a2:(b.length:Int)<n
   ·have G:Hid (i=([],([],true))):=by (show _=_);rw [E.out];rw [if_pos (.inr a2)]
    clear E
    go_wp2_with fail
    refine (BY w1 V.out).mono ?_;rintro e w2 ⟨rfl,d,B⟩;have D:=zh (O.out.tr d);have I:=zh B;clear d B
    go_wp2_with fail
    go_ret;have e:=G.out;subst e;exact ⟨rfl,D.out,I.out⟩
   ·obtain ⟨k,rfl⟩:∃k:Nat,n=k:=⟨n.toNat,by omega⟩;have G:Hid (i=(b.take k,(b.drop k,false))):=by (show _=_);rw [E.out];rw [if_neg (by omega)];rfl
    have a9:k<=b.length:=by omega
    have e1:ByteArray.extract ⟨b.toArray⟩ 0 k=⟨(b.take k).toArray⟩:=ext_take b k;have e2:ByteArray.extract ⟨b.toArray⟩ k b.length=⟨(b.drop k).toArray⟩:=Dm b k;clear E a2 a1
    go_wp2_with fail
    go_ret;have e:=G.out;subst e;exact ⟨rfl,BC (X:=(·=r)) O.out r 0 _ rfl,V.out.set (k:=0) _⟩
def sPre_ren:Go.Shelf.Ren:=⟨fun | 99=>144 | 206=>196 | n=>n,fun | 9=>9 | 4=>4 | 3=>3 | n=>n,fun | n=>n⟩
theorem sPre:Go.Proofs.Lays.n99 Tryz.prog sPre_ren:=by
 constructor
 iterate 4 (all_goals first | kernel_rfl | (intro _;kernel_rfl) | exact ⟨_,by decide,by kernel_rfl⟩ | constructor)
theorem pre_calls (s p:List UInt8) (w:World):Calls Tryz.prog 144 #[.string ⟨s.toArray⟩,.string ⟨p.toArray⟩] w fun e w'=>e=.returned (.bool (p.isPrefixOf s))/\w=w':=
 (Any.strings_HasPrefix sPre ⟨s.toArray⟩ ⟨p.toArray⟩ w).mono fun e w' h=>⟨by rw [h.1];rfl,h.2.symm⟩
theorem jBits_calls {l:List Bool} (w:World) (hv:zq w) (hl:Be w ok v l) (a5:l.length<=1000000000):Calls Tryz.prog 140 #[v] w fun e w'=>e=.returned (.string ⟨(AE l).toArray⟩)/\za w w':=by
 have HL:=zh hl;have HV:=zh hv;obtain ⟨A,c,rfl,hc,hr⟩:=hl;clear hv hr
 go_enter Tryz.func140,Tryz.ntmps140
 go_wp2_with fail
 have G:Hid (DS w.heap.size (Lib.byteCells []) (w.alloc (.cells #[.pointer none,.slice none 0 0] 134))):=DS.new w;have J:Hid (za w (w.alloc (.cells #[.pointer none,.slice none 0 0] 134))):=(za.refl w).alloc _;generalize w.alloc _=w1 at G J⊢;go_loopw [8] (fun i wr=>∃k:Nat,k<=l.length/\i=.int .i64 k/\Hid (DS w.heap.size (Lib.byteCells ((l.take k).map bitB)) wr)/\Hid (za w wr)) (fun i _=>l.length - (intOf i).toNat)
 case atStart=>exact ⟨0,Em _,rfl,G,J⟩
 clear G J
 case round=>
  obtain ⟨k,hk,rfl,V,O⟩:=hrel;have E:((l.take k).map bitB).length<=l.length:=by simp;omega
  by_cases K:k<l.length
  ·have hR:=HL.out.below O.out;obtain ⟨A',c',e',-,hr⟩:=hR;injection e' with e1 e2 e3;subst e1;obtain ⟨b,off,rfl,-,o⟩:=Bu hr K K;obtain ⟨x,hx⟩:=Fd (l[k]);rw [<-hx] at o;have HS:Hid ((l.take (k+1)).map bitB=(l.take k).map bitB++[bitB x]):=by (show _=_);rw [Ef K,EP,hx];rfl
   have M:Hid ((Lib.byteCells ((l.take k).map bitB)).length+1<=140737488355328):=by (show _<=_);rw [bui_len];omega
   clear hx hr e2 e3 E
   cases x with
   | true=>
    go_wp2_with fail
    refine (Dg 49 V.out M.out).mono ?_;rintro e w3 ⟨rfl,D,d⟩
    have I:Hid (DS w.heap.size (Lib.byteCells ((l.take (k+1)).map bitB)) w3):=by
     rw [HS.out];have:=D;rw [show Value.int .u8 49=Value.int .u8 (49:UInt8).toNat from rfl,bui_bytes] at this;exact .inr this
    have B:Hid (za w w3):=Below.trans O.out d;clear D d o
    go_wp2_with fail
    go_roundw
    case rel=>exact ⟨k+1,by omega,by go_num,I,B⟩
    case measure=>simp [intOf];omega
   | false=>
    go_wp2_with fail
    refine (Dg 48 V.out M.out).mono ?_;rintro e w3 ⟨rfl,D,d⟩
    have I:Hid (DS w.heap.size (Lib.byteCells ((l.take (k+1)).map bitB)) w3):=by
     rw [HS.out];have:=D;rw [show Value.int .u8 48=Value.int .u8 (48:UInt8).toNat from rfl,bui_bytes] at this;exact .inr this
    have B:Hid (za w w3):=Below.trans O.out d;clear D d o
    go_wp2_with fail
    go_roundw
    case rel=>exact ⟨k+1,by omega,by go_num,I,B⟩
    case measure=>simp [intOf];omega
  ·obtain rfl:k=l.length:=by omega
   rw [Ej] at V;have HT:Hid (∀W,za w W->Calls Tryz.prog 139 #[.string ⟨(l.map bitB).toArray⟩] W fun e w'=>e=.returned (.string ⟨(AE l).toArray⟩)/\za W w'):=fun W hW=>BZ W (HV.out.ext hW) (by rw [EI];omega)
   clear E
   go_wp2_with fail
   refine (Dq V.out O.out.size).mono ?_;rintro e w3 ⟨rfl,d⟩;have B:Hid (za w w3):=Below.trans O.out d;clear d
   go_wp2_with fail
   refine (HT.out _ B.out).mono ?_;rintro e w4 ⟨rfl,U⟩;have a1:Hid (za w w4):=B.out.trans U;clear U
   go_wp2_with fail
   go_ret;exact ⟨rfl,a1.out⟩
theorem Dk {id:List UInt8} (w:World) (E:zq w) (K:id.length<=1000000):Calls Tryz.prog 75 #[.string ⟨id.toArray⟩] w fun e w'=>e=.returned (.string ⟨(zr id).toArray⟩)/\za w w':=by
 have h1:=Br (s:=BQ) (by decide);have h2:=Br (s:=id) (by omega);have h0:BQ.length=5:=rfl;obtain ⟨x1,d⟩:∃x,x=wT BQ:=⟨_,rfl⟩;obtain ⟨x2,o⟩:∃x,x=wT id:=⟨_,rfl⟩;have J:Hid (zr id=x1++x2):=by (show _=_);rw [d,o];rfl
 rw [<-d] at h1;rw [<-o] at h2;have G:Hid (Calls Tryz.prog 139 #[.string ⟨#[114,111,117,116,101]⟩] w fun e w'=>e=.returned (.string ⟨x1.toArray⟩)/\za w w'):=by rw [d];exact BZ (s:=BQ) w E (by decide)
 have I:Hid (∀W,za w W->Calls Tryz.prog 139 #[.string ⟨id.toArray⟩] W fun e w'=>e=.returned (.string ⟨x2.toArray⟩)/\za W w'):=fun W hW=>by rw [o];exact BZ W (E.ext hW) (by omega)
 have M:∀w,(Op.stringOp .add ⟨x1.toArray⟩ ⟨x2.toArray⟩).run Tryz.prog w=.ok (.string ⟨(x1++x2).toArray⟩) w:=fun w=>zx (by omega)
 clear d o E h0 h1 h2 K
 go_enter Tryz.func75,Tryz.ntmps75
 go_wp2_with fail
 refine G.out.mono ?_;rintro e w1 ⟨rfl,B⟩
 go_wp2_with fail
 refine (I.out _ B).mono ?_;rintro e w2 ⟨rfl,D⟩
 go_wp2_with fail
 go_ret;exact ⟨BL J.out.symm,B.trans D⟩
end
section
open Go
section
variable {P:Program} {ops:Array Oper} {Q:Exit->Act->World->Prop} {md:Region.Mode} {S:World->Prop}
def CE (P:Program) (md:Region.Mode) (ops:Array Oper) (Q:Exit->Act->World->Prop) (S:World->Prop):Nat->Array Bool->Act->World->Prop
 | 0,l,a,w=>Region.ready md ops l=[]/\Q .normal a w
 | n+1,l,a,w=>(Region.ready md ops l=[]->Q .normal a w)/\
  ∀i∈Region.ready md ops l,wpOp P ops Q i (fun a' w'=>((∀k,(l.setIfInBounds i true).getD k true=true)\/S w')/\CE P md ops Q S n (l.setIfInBounds i true) a' w') a w
theorem wpAny_of_last:∀(n:Nat) (l:Array Bool) (a:Act) (w:World),CE P md ops Q S n l a w->wpAny P md ops Q n l a w
 | 0,_,_,_,h=>h
 | n+1,_,_,_,h=>⟨h.1,fun i o=>wpOp_mono (fun a' w' d=>wpAny_of_last n _ a' w' d.2) (h.2 i o)⟩
def waitB (md:Region.Mode) (ops:Array Oper) (l:Array Bool) (i:Nat):Bool:=(List.range ops.size).any fun k=>!(l.getD k true) && (match ops[k]? with | some o=>o.after.any (fun e=>Region.binds md e && e.on==i) | none=>false)
theorem wpAnyL_first {k:Nat} {ok:Oper} (hi:ops[i]?=some oi) (hk:ops[k]?=some ok) (hw:∃e∈ok.after,Region.binds md e=true/\e.on=i)
  (I:∀(j:Nat) (o:Oper) cs b,ops[j]?=some o->o.op≠.select cs b) (hQ:∀c a w,Q (.panic c) (a.put oi.dst v) w->Q (.panic c) a w):
  ∀(n:Nat) (l:Array Bool) (a:Act) (w:World),l.getD k true=false->k≠i->
   (∀j oj,ops[j]?=some oj->j≠i->l.getD j true=false->(∀e∈oj.after,Region.binds md e=true->e.on≠i)->oi.apart ops oj=true)->
   i∈Region.ready md ops l->YieldsIf P ops S oi v a->S w->CE P md ops Q S n (l.setIfInBounds i true) (a.put oi.dst v) w->CE P md ops Q S (n+1) l a w:=by
 intro n
 induction n with
 | zero=>
  intro l a w _ _ _ J hy K H;refine ⟨fun h=>(by rw [h] at J;cases J),fun j hj=>?_⟩;by_cases d:j=i
  ·subst d;exact hy.wpOp hi K ⟨.inr K,H⟩
  ·have h:=ready_mono hj d;rw [H.1] at h;cases h
 | succ n ih=>
  intro l a w a2 V B J hy K H;refine ⟨fun h=>(by rw [h] at J;cases J),fun j hj=>?_⟩;by_cases d:j=i
  ·subst d;exact hy.wpOp hi K ⟨.inr K,H⟩
  ·have h1:=H.2 j (ready_mono hj d);obtain ⟨E,oj,D,O⟩:=mem_ready.1 hj
   have G:∀e∈oj.after,Region.binds md e=true->e.on≠i:=fun e he hb q=>by
    have h1:=O e he hb;have h0:=(mem_ready.1 J).1;rw [q] at h1;rcases Ev i l.size with h' | h'
    ·simp [h'] at h0 h1;rw [h0] at h1;cases h1
    ·simp [Array.getElem?_eq_none h'] at h1
   have a0:j≠k:=fun q=>by
    subst q;obtain ⟨e,he,hb,ho⟩:=hw;rw [hk] at D;injection D with D;subst D;exact G e he hb ho
   have h2:=wpOp_putIf D (B j oj D d E G) (fun cs b=>I i oi cs b hi) (fun cs b=>I j oj cs b D) hQ hy h1;have a3:(l.setIfInBounds j true).getD k true=false:=by rw [getD_set_ne true a0];exact a2
   refine wpOp_mono (fun a' w' h3=>?_) h2
   have M:S w':=h3.2.1.resolve_left fun q=>by
    have h:=q k;rw [getD_set_ne true a0,getD_set_ne true (Ne.symm V),a2] at h;cases h
   refine ⟨.inr M,ih (l.setIfInBounds j true) a' w' a3 V (fun x ox hx a4 a5 a1=>?_) (ready_mono J (Ne.symm d)) h3.1 M ?_⟩
   ·by_cases U:j=x
    ·subst U;exact B j ox hx a4 E a1
    ·rw [getD_set_ne true U] at a5;exact B x ox hx a4 a5 a1
   ·rw [Array.setIfInBounds_comm _ _ d];exact h3.2.2
theorem ze (J:ops[i]?=some oi) (hs:Region.noSelect ops=true) (hf:Region.free md ops l i=true) (M:(Region.ready md ops l).contains i=true) (I:waitB md ops l i=true)
  (hQ:∀c a w,Q (.panic c) (a.put oi.dst v) w->Q (.panic c) a w) (hy:YieldsIf P ops S oi v a) (V:S w) (h:CE P md ops Q S n (l.setIfInBounds i true) (a.put oi.dst v) w):CE P md ops Q S (n+1) l a w:=by
 unfold waitB at I;obtain ⟨k,-,K⟩:=EZ.1 I;rw [Ek,Bool.not_eq_true'] at K;obtain ⟨h1,h2⟩:=K
 cases B:ops[k]? with
 | none=>rw [B] at h2;cases h2
 | some ok=>
  rw [B] at h2
  have O:∃e∈ok.after,Region.binds md e=true/\e.on=i:=by
   obtain ⟨x,G,h3,U⟩:=(by simpa using h2:∃x,∃h:x<ok.after.size,Region.binds md ok.after[x]=true/\ok.after[x].on=i);exact ⟨_,Array.getElem_mem G,h3,U⟩
  have D:k≠i:=fun q=>by
   subst q;have E:k∈Region.ready md ops l:=by simpa using M
   obtain ⟨h0,oj,d,o⟩:=mem_ready.1 E;rw [B] at d;injection d with d;subst d;obtain ⟨e,he,hb,G⟩:=O;have h3:=o e he hb;rw [G] at h3;rcases Ev k l.size with h' | h'
   ·simp [h'] at h0 h3;rw [h0] at h3;cases h3
   ·simp [Array.getElem?_eq_none h'] at h3
  exact wpAnyL_first J B O (Region.noSelect_spec hs) hQ n l a w h1 D (Region.free_spec J hf) (by simpa using M) hy V h
def zg (P:Program) (md:Region.Mode) (ops:Array Oper) (Q:Exit->Act->World->Prop) (S:World->Prop) (n:Nat) (l:Array Bool) (a:Act) (w:World) (rs:List Nat):Prop:=
 ∀i∈rs,wpOp P ops Q i (fun a' w'=>((∀k,(l.setIfInBounds i true).getD k true=true)\/S w')/\CE P md ops Q S n (l.setIfInBounds i true) a' w') a w
theorem zg.nil:zg P md ops Q S n l a w []:=fun _ h=>by cases h
theorem zg.cons {n:Nat} {l:Array Bool} {a:Act} {w:World} {i:Nat} {o:Oper} {rs:List Nat} (D:ops[i]?=some o)
  (h:∀K':Act->World->Prop,Shut (∀a w,S w->(S w->CE P md ops Q S n (l.setIfInBounds i true) a w)->K' a w)->if Region.wanted o (yielded ops a.tmps)=true then Oper.wp P o a w K' Q else K' (a.put o.dst undef) w)
  (E:zg P md ops Q S n l a w rs):zg P md ops Q S n l a w (i :: rs):=fun j hj=>by
 rcases EM.1 hj with rfl | hj
 ·exact wpOp_step D (fun K' B=>h K' (fun a w d hW=>B a w ⟨.inr d,hW d⟩))
 ·exact E j hj
theorem zg.last {o:Oper} (E:ops[i]?=some o) (d:(l.setIfInBounds i true).all (fun b=>b)=true)
  (h:∀K':Act->World->Prop,Shut (∀a w,CE P md ops Q S n (l.setIfInBounds i true) a w->K' a w)->if Region.wanted o (yielded ops a.tmps)=true then Oper.wp P o a w K' Q else K' (a.put o.dst undef) w):zg P md ops Q S n l a w [i]:=fun j D=>by
 obtain rfl:=EF.1 D;refine wpOp_step E (fun K' B=>h K' (fun a w hW=>B a w ⟨.inl fun k=>?_,hW⟩));rw [Array.all_eq_true] at d;rcases Ev k (l.setIfInBounds j true).size with h' | h'
 ·rw [Array.getD_eq_getD_getElem?,Array.getElem?_eq_getElem h'];exact d k h'
 ·rw [Array.getD_eq_getD_getElem?,Array.getElem?_eq_none h'];rfl
theorem zp {rs:List Nat} (o:Region.ready md ops l=rs) (d:rs≠[]) (h:zg P md ops Q S n l a w rs):CE P md ops Q S (n+1) l a w:=
 ⟨fun h0=>absurd (o ▸ h0) d,o ▸ h⟩
theorem AV (d:Region.ready md ops l=[]) (h:Q .normal a w):∀n,CE P md ops Q S n l a w
 | 0=>⟨d,h⟩
 | _+1=>⟨fun _=>h,by rw [d];simp⟩
theorem Di {c:Code} (h:∀Q':Exit->Act->World->Prop,(∀c (a a':Act) w,a.defers=a'.defers->Q' (.panic c) a w->Q' (.panic c) a' w)->Q'=Q->c.wp P Q' a w) (hp:∀c (a a':Act) w,a.defers=a'.defers->Q (.panic c) a w->Q (.panic c) a' w):c.wp P Q a w:=h Q hp rfl
theorem AA {id:Nat} (hm:P.follows .mixedOrders=true) (d:S w.drew) (h:S w.drew->CE P .any ops Q S ops.size (Array.replicate ops.size false) a w.drew):(Code.region id ops true).wp P Q a w:=
 wp_region_any hm (wpAny_of_last _ _ _ _ (h d))
end
end
section
open Go.RowKit Go.Shelf
attribute [local go_sem ↓] Go.wp_at_zero Go.wp_at_succ
attribute [local go_sem] Oper.semAt_some
theorem chain_l (a b:List UInt8) (w:World) (d:a.length<=1000000000) (o:b.length<=1000000000):Calls Tryz.prog 154 #[.string ⟨a.toArray⟩,.string ⟨b.toArray⟩] w fun e w'=>e=.returned (.string ⟨(Cm a b).toArray⟩)/\za w w':=
 Chain_calls ⟨a.toArray⟩ ⟨b.toArray⟩ w (by simpa [ByteArray.size] using d) (by simpa [ByteArray.size] using o)
theorem of_l (a:List UInt8) (w:World) (d:a.length<=1000000000):Calls Tryz.prog 141 #[.string ⟨a.toArray⟩] w fun e w'=>e=.returned (.string ⟨(BT a).toArray⟩)/\za w w':=
 Of_calls ⟨a.toArray⟩ w (by simpa [ByteArray.size] using d)
theorem body_len (h:∀x∈ch,BI x) (d:BI st):(Bf ch st).length<=22*ch.length+24/\(wL ch).length<=22*ch.length+2/\(wI st).length<=22:=by
 have h1:=wIs_len h;have h2:=Bl d;unfold Bf wL;simp only [Eg,Fb,Fc];omega
abbrev Dj (w:World) (g:Nat) (sg:List UInt8):Prop:=zl w g 9 #[.string ⟨sg.toArray⟩]
theorem blk_ne_var {t:TypeId} {cs:Array Value} (h:zq w) (o:zl w r t cs) (h1:cs.size<=8) (h2:∀t p,cs≠#[.iface t p]):∀g,g=r->¬ isVar g:=by
 rintro g rfl ⟨n,D,B⟩
 have f:∀ds,w.var? Tryz.prog n=some ds->ds=cs:=fun ds h=>by
  unfold World.var? at h;rw [B] at h;have d:w.heap[g]?=some (.cells cs t (0,0)):=o;simp only [Option.bind_some,d] at h;injection h with h;exact h.symm
 rcases D with rfl | rfl | rfl
 ·have:=congrArg Array.size (f _ h.tab);simp [Lib.pow10Tab] at this;omega
 ·obtain ⟨tp,p,h⟩:=h.syn;exact h2 _ _ (f _ h).symm
 ·obtain ⟨tp,p,h⟩:=h.rng;exact h2 _ _ (f _ h).symm
theorem seal_ne (h:zq w) (d:Dj w r sg):∀g,g=r->¬ isVar g:=
 blk_ne_var h d (by simp) (fun t p e=>by have:=congrArg (fun a:Array Value=>a[0]?) e;simp at this)
theorem jSealer_calls (sg:List UInt8) (w:World):Calls Tryz.prog 82 #[.string ⟨sg.toArray⟩] w fun e w'=>e=.returned (.func (.func 153) #[] #[.pointer (some ⟨w.heap.size,0,none⟩)])/\za w w'/\Dj w' w.heap.size sg:=by
 go_enter Tryz.func82,Tryz.ntmps82
 go_wp2_with fail
 go_ret;exact ⟨rfl,(za.refl w).alloc _,zl.new _ _ _ rfl⟩
theorem jSeal_calls {g:Nat} {vc:Value} (w:World) (hv:zq w) (hg:Dj w g sg) (d4:sg.length<=1000) (hc:zk w ok vc ch) (hi:∀x∈ch,BI x) (c8:ch.length<=40000000) (a6:BI st):
  Calls Tryz.prog 153 #[vc,.int .i64 st,.pointer (some ⟨g,0,none⟩)] w fun e w'=>e=.returned (.string ⟨(zS sg ch st).toArray⟩)/\zC (·=g) w w'/\Dj w' g (zJ sg ch st)/\zq w':=by
 obtain ⟨c7,b3,b4⟩:=body_len hi a6;obtain ⟨x1,D⟩:∃x,x=wL ch:=⟨_,rfl⟩;obtain ⟨x2,E⟩:∃x,x=wI st:=⟨_,rfl⟩;obtain ⟨bd,d⟩:∃x,x=Bf ch st:=⟨_,rfl⟩;have a5:bd=x1++x2:=by rw [d,D,E];rfl
 obtain ⟨s2,o⟩:∃x,x=zJ sg ch st:=⟨_,rfl⟩;have J:s2=Cm sg bd:=by rw [o,d];rfl
 have b5:s2.length=8:=by rw [o];exact Bb _ _ _
 have a0:=Br (s:=bd) (by rw [d];omega);have a9:=Br (s:=s2) (by omega);obtain ⟨y1,G⟩:∃x,x=wT bd:=⟨_,rfl⟩;obtain ⟨y2,I⟩:∃x,x=wT s2:=⟨_,rfl⟩;have HR:Hid (zS sg ch st=y1++y2):=by (show _=_);rw [G,I,d,o];rfl
 have H1:Hid (∀W,za w W->Calls Tryz.prog 52 #[vc] W fun e w'=>e=.returned (.string ⟨x1.toArray⟩)/\za W w'):=fun W hW=>by rw [D];exact Dc W (hv.ext hW) (hc.below hW) hi (by omega)
 have H2:Hid (∀W,za w W->Calls Tryz.prog 51 #[.int .i64 st] W fun e w'=>e=.returned (.string ⟨x2.toArray⟩)/\za W w'):=fun W hW=>by rw [E];exact DD W (hv.ext hW) a6
 have HC:Hid (∀W,Calls Tryz.prog 154 #[.string ⟨sg.toArray⟩,.string ⟨(x1++x2).toArray⟩] W fun e w'=>e=.returned (.string ⟨s2.toArray⟩)/\za W w'):=fun W=>by rw [J,<-a5];exact chain_l sg bd W (by omega) (by rw [d];omega)
 have H3:Hid (∀W,zq W->Calls Tryz.prog 139 #[.string ⟨(x1++x2).toArray⟩] W fun e w'=>e=.returned (.string ⟨y1.toArray⟩)/\za W w'):=fun W hW=>by rw [G,<-a5];exact BZ W hW (by rw [d];omega)
 have H4:Hid (∀W,zq W->Calls Tryz.prog 139 #[.string ⟨s2.toArray⟩] W fun e w'=>e=.returned (.string ⟨y2.toArray⟩)/\za W w'):=fun W hW=>by rw [I];exact BZ W hW (by omega)
 rw [<-D] at b3;rw [<-E] at b4;rw [<-G] at a0;rw [<-I] at a9;rw [d] at a0;have a1:∀w,(Op.stringOp .add ⟨x1.toArray⟩ ⟨x2.toArray⟩).run Tryz.prog w=.ok (.string ⟨(x1++x2).toArray⟩) w:=fun w=>zx (by omega)
 have a2:∀w,(Op.stringOp .add ⟨y1.toArray⟩ ⟨y2.toArray⟩).run Tryz.prog w=.ok (.string ⟨(y1++y2).toArray⟩) w:=fun w=>zx (by omega)
 have HG:=zh hg;have HV:=zh hv;have b8:=zh o;obtain ⟨A,c,rfl,-,-⟩:=hc;clear D E a5 d o J b5 a0 a9 G I c7 b3 b4 hi c8 a6 hv hg d4
 go_enter Tryz.func153,Tryz.ntmps153
 go_wp2_with fail
 refine (H1.out _ (za.refl w)).mono ?_;rintro e w1 ⟨rfl,a3⟩
 go_wp2_with fail
 refine (H2.out _ a3).mono ?_;rintro e w2 ⟨rfl,b0⟩;have a7:Hid (za w w2):=a3.trans b0;have a8:=zh (HG.out.ext a7.out);have c0:=a8.out.cell (k:=0) rfl;clear a3 b0
 go_wp2_with fail
 refine (HC.out _).mono ?_;rintro e w3 ⟨rfl,a4⟩;have b7:Hid (za w w3):=a7.out.trans a4;have U:=zh (a8.out.ext a4);have f0:=U.out.frozen 0;have c3:=U.out.cell (k:=0) rfl;clear a4 c0;go_upto_region 3 with fail;have M:Hid (zC (·=g) w (w3.setCell ⟨g,0,none⟩ (.string ⟨s2.toArray⟩))):=BC (X:=(·=g)) (chg_ext b7.out) g 0 _ rfl;have V:Hid (Dj (w3.setCell ⟨g,0,none⟩ (.string ⟨s2.toArray⟩)) g s2):=U.out.set (k:=0) _;have B:Hid (zq (w3.setCell ⟨g,0,none⟩ (.string ⟨s2.toArray⟩))):=DB HV.out M.out (seal_ne HV.out HG.out);generalize w3.setCell ⟨g,0,none⟩ (.string ⟨s2.toArray⟩)=w4 at M V B⊢;have q0:=za.rule (V.out.cell (k:=0) rfl);have hx:za w4 w4:=za.refl w4;clear f0 c3;refine Eo (S:=(fun W=>za w4 W)) AI (hx.drew) fun zH=>?_;have b1:za w4 w4.drew:=zH;generalize w4.drew=wd at zH b1⊢;refine z6 0 zH ?_;refine z6 2 zH ?_;simp only [zd,DV];refine AB 1 fun K hK=>?_;go_simp;go_at_call 139;refine (H3.out _ (B.out.ext zH)).mono ?_;rintro e w5 ⟨rfl,b9⟩;go_simp;refine Fe hK (zH.trans b9) fun zH=>?_;clear hK K;try simp only [zd,DV]
 refine AB 3 fun K hK=>?_;go_simp;go_at_call 139;refine (H4.out _ (B.out.ext zH)).mono ?_;rintro e w6 ⟨rfl,c6⟩;go_simp;refine Fe hK (zH.trans c6) fun zH=>?_;clear hK K;try simp only [zd,DV]
 refine z6 4 zH ?_;refine z6 5 zH ?_;simp only [zd,DV];refine EC (by kernel_rfl) ?_ _;have O:=zh zH;clear zH b1 hx
 go_wp2_with fail
 go_ret;refine ⟨BL HR.out.symm,M.out.tr (chg_ext O.out),?_,B.out.ext O.out⟩;rw [<-b8.out];exact V.out.ext O.out
end
section
open Go.RowKit
def GivesJ {α:Type} (n:Nat) (P:Program) (g:Nat) (lb:Array Value) (encs:α->Array Value) (G:Nat->Nat->Nat->α->World->Prop) (N:Nat) (Z:Nat->Prop) (w:World):Prop:=
 ∀(l:Nat) (J:Nat->Nat->World->Prop) (W:World),za w W->w.heap.size<=l->l<W.heap.size->(∀gx k A B,W.heap.size<=gx->J gx k A->zC (fun b=>b=gx) A B->J gx k B)->
  (∀gx k x W1,W.heap.size<=gx->k<N->J gx k W1->G W.heap.size gx k x W1->YieldAt Fence.wide (n - 1) P l (encs x) W1 fun e W'=>e=.returned (.bool true)/\J gx (k+1) W'/\zC (fun b=>b=l\/Z b) W1 W')->
  (∀gx,J gx 0 W)->
  CallsIn Fence.wide n P g (#[.func (.yield l) #[] #[]]++lb) W fun e W'=>(∃v,e=.returned v)/\∃gx,W.heap.size<=gx/\J gx N W'
def postJ (k:Nat) (I:Nat->World->Prop) (Z:Nat->Prop) (W:World):Exit->Act->World->Prop
 | .normal,_,W'=>zC Z W W'/\I (k+1) W'
 | _,_,_=>False
theorem chg_putObj {X:Nat->Prop} (w:World) {l:Nat} (o:Obj) (d:X l):zC X w (w.putObj l o):=
 (zC.refl X w).grown (grownBy_putObj' w l o) (fun k e _=>by injection e with e;exact e ▸ d)
theorem wpIn_loopJ {P:Program} {α:Type} {g:Operand} {ps:Array Tmp} {assign body:Code} {Q:Exit->Act->World->Prop}
  {gf:Nat} {lb:Array Value} (hg:a.eval g=.func (.func gf) #[] lb) (eg:∀args w,(callFunc gf args).run P w=.ok (.enter gf args) w)
  {encs:α->Array Value} {G:Nat->Nat->Nat->α->World->Prop} {N:Nat} {w0:World} {Z:Nat->Prop} (hZ:∀b,Z b->b<w.heap.size) (b1:GivesJ (n - 1) P gf lb encs G N Z w0) (a9:za w0 w) (c0:∀x,(encs x).size=ps.size)
  (I:Nat->Nat->World->Prop) (hI:∀gx k A B,w.heap.size+2<=gx->I gx k A->zC (fun b=>b=gx\/(w.heap.size<=b/\b<=w.heap.size+1)) A B->I gx k B)
  (Ax:Nat->Nat->α->Act->World->Prop) (hAx:∀gx k x a A l,Ax gx k x a A->w.heap.size<l->l<A.heap.size->(∃r,A.heap[l]?=some (.loop r))->∀o,Ax gx k x a (A.putObj l o)) (hI0:∀gx W,za w W->I gx 0 W)
  (hassign:∀(l gx k:Nat) (x:α) (W:World) (K:Act->World->Prop),w.heap.size+2<=gx->k<N->I gx k W->G (w.heap.size+2) gx k x W->w.heap.size<W.heap.size->(∀a' W',za W W'->Ax gx k x a' W'->K a' W')->
   assign.wpIn (Fence.wide.inRound l) (n - 1 - 1) P (Exit.then K (fun _ _ _=>False)) { tmps:=(ps.zip (encs x)).foldl (fun t (p,v)=>t.setIfInBounds p v) a.tmps,defers:=[] } W)
  (hbody:∀(l gx k:Nat) (x:α) (a':Act) (W:World),w.heap.size+2<=gx->k<N->I gx k W->Ax gx k x a' W->w.heap.size<W.heap.size->(∃r,W.heap[w.heap.size+1]?=some (.loop r))->body.wpIn (Fence.wide.inRound l) (n - 1 - 1) P (postJ k (I gx) Z W) a' W)
  (hdone:∀(D gx:Nat) (W:World),w.heap.size<=D->D<=w.heap.size->w.heap.size+2<=gx->I gx N W->W.heap[D]?=some (.deferred (some []))->Q .normal { a with defers:={ target:=.collected D,args:=#[] } :: a.defers } W):
  (Code.rangeFunc g ps assign body).wpIn Fence.wide n P Q a w:=by
 refine wpIn_rangeFunc ?_;intro fn hfn;obtain ⟨rec,E⟩:∃rec:LoopState->Option Code->Loop,rec=fun st pe=>{ state:=st,pending:=pe,fn,tmps:=a.tmps,params:=ps,assign,body,defers:=w.heap.size }:=⟨_,rfl⟩
 obtain ⟨W1,O⟩:∃W1,(w.alloc (.deferred (some []))).alloc (.loop (rec .ready none))=W1:=⟨_,rfl⟩;have b2:W1.heap.size=w.heap.size+2:=by rw [<-O];simp
 have b6:W1.heap[w.heap.size+1]?=some (.loop (rec .ready none)):=by
  rw [<-O];have:=World.alloc_heap_new (w.alloc (.deferred (some []))) (.loop (rec .ready none))
  rwa [World.size_alloc] at this
 have b3:W1.heap[w.heap.size]?=some (.deferred (some [])):=by
  rw [<-O];exact (Er _ _ _ (by simp)).trans (World.alloc_heap_new w _)
 have a8:za w W1:=by rw [<-O];exact ((za.refl w).alloc _).alloc _
 refine ⟨w.heap.size+1,[{ target:=.collected w.heap.size,args:=#[] }],W1,{ target:=.fn (.func gf) lb,args:=#[.func (.yield (w.heap.size+1)) #[] #[]] },W1,gf,
  #[.func (.yield (w.heap.size+1)) #[] #[]]++lb,W1,?_,?_,fun _ _=>trivial,?_,fun h=>absurd h (by simp [Fence.wide]),?_⟩
 ·rw [<-O,E];exact run_enterLoop_outer _ _ _ _ _
 ·simp only [resolve,hg];simp [go_sem]
 ·simp [invoke,go_sem,eg]
 ·refine (b1 (w.heap.size+1)
   (fun gx k W=>I gx k W/\W.heap[w.heap.size+1]?=some (.loop (rec .ready none))/\W.heap[w.heap.size]?=some (.deferred (some []))/\w.heap.size+1<W.heap.size)
   W1 (a9.trans a8) (by have:=a9.size;omega) (by omega) ?_ ?_ (fun gx=>⟨hI0 gx _ a8,b6,b3,by omega⟩)).mono ?_
  ·rintro gx k A B d ⟨h1,h2,h3,h4⟩ U;exact ⟨hI _ _ _ _ (by omega) h1 (U.wide fun b hb=>.inl hb),(U.block _ h4 (by omega)).trans h2,(U.block _ (by omega) (by omega)).trans h3,EA h4 U.size⟩
  ·-- one round
   rintro gx k x W d b0 ⟨hi,hl,hD,J⟩ hG;rw [b2] at hG d;have hy:=run_yield (P:=P) (args:=encs x) hl (by rw [E];exact c0 x);rw [E] at hy;refine ⟨fn,_,assign,body,hy,roundIn_of_wpIn hfn (hassign _ gx k x W _ d b0 hi hG (Nat.lt_trans (Nat.lt_succ_self _) J) (fun a' Wa M b7=>?_))⟩;have hl:=(M.block _ J).trans hl;have hD:=(M.block _ (by omega)).trans hD;have hi:=hI _ _ _ _ d hi (zC.of_ext M);have J:w.heap.size+1<Wa.heap.size:=EA J M.size;refine ⟨_,run_beginRound hl (by rw [E]),?_⟩;have a5:(Wa.putObj (w.heap.size+1) (.loop { rec .ready none with state:=.busy })).heap[w.heap.size+1]?=some (.loop { rec .ready none with state:=.busy }):=World.putObj_heap_same J;have b4:(Wa.putObj (w.heap.size+1) (.loop { rec .ready none with state:=.busy })).heap[w.heap.size]?=some (.deferred (some [])):=(World.putObj_heap_other (by omega)).trans hD;have a0:w.heap.size+1<(Wa.putObj (w.heap.size+1) (.loop { rec .ready none with state:=.busy })).heap.size:=(ET.1 a5).1;have b8:Wa.grownBy (Wa.putObj (w.heap.size+1) (.loop { rec .ready none with state:=.busy })) (some (w.heap.size+1)):=grownBy_putObj' _ _ _;refine wpIn_mono (hbody _ gx k x a' _ d b0 (hI _ _ _ _ d hi (chg_putObj _ _ (by omega))) (hAx _ _ _ _ _ _ b7 (by omega) J ⟨_,hl⟩ _) (Nat.lt_trans (Nat.lt_succ_self _) a0) ⟨_,a5⟩) ?_;generalize Wa.putObj (w.heap.size+1) (.loop { rec .ready none with state:=.busy })=W2 at*
   have fin:∀(jump:Option Code) (W3:World),W3.heap[w.heap.size+1]?=some (.loop { rec .ready none with state:=.busy })->
     (Instr.endRound (w.heap.size+1) jump).run P W3=.ok (.bool jump.isNone) (W3.putObj (w.heap.size+1) (.loop (rec (if jump.isNone then .ready else .done) jump))):=fun jump W3 V=>by
    have:=run_endRound (P:=P) jump V;rw [E] at this⊢;exact this
   rintro e a3 W3 hp
   cases e with
   | normal=>
    obtain ⟨a2,b9⟩:=hp;have V:=(a2.block _ a0 (fun h=>by have:=hZ _ h;omega)).trans a5;have a1:=(ET.1 V).1;have b5:=(a2.block _ (by omega) (fun h=>by have:=hZ _ h;omega)).trans b4;refine ⟨_,_,fin none W3 V,rfl,⟨hI _ _ _ _ d b9 (chg_putObj _ _ (by omega)),World.putObj_heap_same a1,(World.putObj_heap_other (by omega)).trans b5,?_⟩,?_⟩
    ·exact (ET.1 (World.putObj_heap_same a1)).1
    ·exact (((zC.of_ext (X:=fun b=>b=w.heap.size+1\/Z b) M).grown b8 (fun k e _=>by injection e with e;exact .inl e.symm)).trans a2 (fun k _ h=>.inr h)).grown (grownBy_putObj' _ _ _) (fun k e _=>by injection e with e;exact .inl e.symm)
   | ret=>exact hp.elim
   | exit id=>exact hp.elim
   | goto t=>exact hp.elim
   | panic ch=>exact hp.elim
   | outgrown=>exact hp.elim
  ·-- behind the iterator
   rintro e W2 ⟨⟨v,rfl⟩,gx,d,hi,hl,hD,J⟩;rw [b2] at d;exact ⟨none,_,by have:=run_endLoop (P:=P) hl (by rw [E];simp);rw [E] at this;exact this,hdone _ gx _ (DY _) (DY _) d (hI _ _ _ _ d hi (chg_putObj _ _ (by omega))) ((World.putObj_heap_other (by omega)).trans hD)⟩
end
end Go.Proofs.YtjomnbdjajjgfaaGreatDoor
