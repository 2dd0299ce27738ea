import Derived.Test.YtcnaogdgjkpkmaaGreatDoorWCh
import Derived.Deep.CutBlock
set_option linter.unusedVariables false
set_option linter.unusedSimpArgs false
set_option maxRecDepth 100000
set_option maxHeartbeats 16000000
namespace Go.Proofs.YtcnaogdgjkpkmaaGreatDoor
variable {n:Int} {acc ch:List Int} {a l l0:List UInt8} {m:MZ} {f i k p q r t:Nat} {s:Rd} {b c:UInt8} {w w':World}
section
open Go.RowKit Go.Shelf
attribute [local go_sem ↓] Go.wp_at_zero Go.wp_at_succ
theorem mdec_calls:∀(N:Nat) (n:Int) (w:World),Cp n->2*n.natAbs+(if n<0 then 1 else 0)<N->Calls Tryz.prog 82 #[.int .i64 n] w fun e w'=>e=.returned (.string ⟨(Lib.itoa n).toArray⟩)/\za w w'
 | 0,n,w,_,h=>by omega
 | N+1,n,w,O,E=>by
  have IH:Hid (∀(n:Int) (w:World),Cp n->2*n.natAbs+(if n<0 then 1 else 0)<N->Calls Tryz.prog 82 #[.int .i64 n] w fun e w'=>e=.returned (.string ⟨(Lib.itoa n).toArray⟩)/\za w w'):=mdec_calls N;have a4:=O;obtain ⟨a2,a3⟩:=a4;by_cases h0:0<=n
  ·rw [if_neg (by omega)] at E;by_cases h1:n<10
   ·have hc:=dconv1 w (48+n);have hw:IntKind.u8.wrap (48+n)=48+n:=by rw [IntKind.wrap_u8];omega
    have b5:IntKind.i64.wrap (48+n)=48+n:=by rw [Du];omega
    have d:Hid (strI [48+n]=⟨(Lib.itoa n).toArray⟩):=by
     (show _=_)
     rw [strI_eq,itoa_one h0 h1];show dmk [UInt8.ofNat (48+n).toNat]=_;rw [show (48+n).toNat=48+n.toNat from by omega];rfl
    clear E IH O
    go_enter Tryz.func82,Tryz.ntmps82
    go_wp2_with fail
    go_ret;exact ⟨by first | exact dret_str d.out | (simp;exact d.out),(za.refl w).alloc _⟩
   ·obtain ⟨q,J⟩:=DX (n.tdiv 10);obtain ⟨r,K⟩:=DX (n.tmod 10);have a7:q=n / 10:=by rw [J,Int.tdiv_eq_ediv_of_nonneg h0]
    have b0:r=n % 10:=by rw [K,Int.tmod_eq_emod_of_nonneg h0]
    have V:n.tdiv 10=q:=J.symm;have a0:n.tmod 10=r:=K.symm;have a5:IntKind.i64.wrap (n.tdiv 10)=q:=by rw [V,Du];omega
    have a8:IntKind.i64.wrap (n.tmod 10)=r:=by rw [a0,Du];omega
    have a6:wrap64 q=q:=IntWalk.wrap64_in _ (by omega);have a9:wrap64 r=r:=IntWalk.wrap64_in _ (by omega);have d:Hid (Lib.itoa n=Lib.itoa q++Lib.itoa r):=by (show _=_);rw [itoa_plus h0 h1,V,a0]
    have M:Hid (∀w,Calls Tryz.prog 82 #[.int .i64 q] w fun e w'=>e=.returned (.string ⟨(Lib.itoa q).toArray⟩)/\za w w'):=fun w=>IH.out q w ⟨by omega,by omega⟩ (by rw [if_neg (by omega)];omega)
    have B:Hid (∀w,Calls Tryz.prog 82 #[.int .i64 r] w fun e w'=>e=.returned (.string ⟨(Lib.itoa r).toArray⟩)/\za w w'):=fun w=>IH.out r w ⟨by omega,by omega⟩ (by rw [if_neg (by omega)];omega)
    have l1:=By (n:=q) ⟨by omega,by omega⟩;have l2:=By (n:=r) ⟨by omega,by omega⟩;obtain ⟨x,hx⟩:=DX (Lib.itoa q);obtain ⟨y,z⟩:=DX (Lib.itoa r);rw [<-hx] at d M l1;rw [<-z] at d B l2;have ha:∀w,(Op.stringOp .add ⟨x.toArray⟩ ⟨y.toArray⟩).run Tryz.prog w=.ok (.string ⟨(x++y).toArray⟩) w:=fun w=>Ab (by omega)
    clear E IH O J K a7 b0 hx z l1 l2
    go_enter Tryz.func82,Tryz.ntmps82
    go_wp2_with fail
    with_reducible refine (M.out w).mono ?_
    rintro e w1 ⟨rfl,o⟩
    go_wp2_with fail
    with_reducible refine (B.out w1).mono ?_
    rintro e w2 ⟨rfl,D⟩
    go_wp2_with fail
    go_ret;exact ⟨ret_str d.out.symm,o.trans D⟩
  ·rw [if_pos (by omega)] at E;have G:n<0:=by omega
   obtain ⟨k,rfl⟩:∃k:Nat,n=-(k:Int):=⟨n.natAbs,by omega⟩;have e1:(-(k:Int)).tdiv 10=-((k / 10:Nat):Int):=by rw [Int.neg_tdiv];rfl
   have e2:(-(k:Int)).tmod 10=-((k % 10:Nat):Int):=by rw [Int.neg_tmod];rfl
   obtain ⟨n,I⟩:=DX (-(k:Int));obtain ⟨q,J⟩:=DX (-((k / 10:Nat):Int));obtain ⟨r,K⟩:=DX (((k % 10:Nat):Int));rw [<-I] at e1 e2 G h0 E a2 a3⊢;rw [<-J] at e1;rw [<-K] at e2;have a5:IntKind.i64.wrap (n.tdiv 10)=q:=by rw [e1,Du];omega
   have a8:IntKind.i64.wrap (n.tmod 10)=-r:=by rw [e2,Du];omega
   have a6:wrap64 q=q:=IntWalk.wrap64_in _ (by omega);have b4:wrap64 r=r:=IntWalk.wrap64_in _ (by omega);have a9:IntKind.i64.wrap (- -r)=r:=by rw [Du];omega
   have b3:IntKind.i64.wrap r=r:=by rw [Du];omega
   have U:- -r=r:=by omega
   have Q:n.natAbs=k:=by omega
   have B:Hid (∀w,Calls Tryz.prog 82 #[.int .i64 r] w fun e w'=>e=.returned (.string ⟨(Lib.itoa r).toArray⟩)/\za w w'):=fun w=>IH.out r w ⟨by omega,by omega⟩ (by rw [if_neg (by omega)];omega)
   have l2:=By (n:=r) ⟨by omega,by omega⟩;by_cases L:q=0
   ·have b1:(q==0)=true:=by simp [L]
    have d:Hid (Lib.itoa n=45 :: Lib.itoa r):=by
     (show _=_)
     have h:=itoa_sign G (by rw [e1];exact L);rw [e2,U] at h;exact h
    obtain ⟨y,z⟩:=DX (Lib.itoa r);rw [<-z] at d B l2;have ha:∀w,(Op.stringOp .add ⟨#[45]⟩ ⟨y.toArray⟩).run Tryz.prog w=.ok (.string ⟨(45 :: y).toArray⟩) w:=fun w=>Ab (x:=[45]) (by simp;omega)
    clear E IH O I J K z l2 L Q
    go_enter Tryz.func82,Tryz.ntmps82
    go_wp2_with fail
    with_reducible refine (B.out w).mono ?_
    rintro e w1 ⟨rfl,o⟩
    go_wp2_with fail
    go_ret;exact ⟨ret_str d.out.symm,o⟩
   ·have b1:(q==0)=false:=by simp [L]
    have d:Hid (Lib.itoa n=Lib.itoa q++Lib.itoa r):=by
     (show _=_)
     have h:=itoa_more G (by rw [e1];exact L);rw [e1,e2,U] at h;exact h
    have M:Hid (∀w,Calls Tryz.prog 82 #[.int .i64 q] w fun e w'=>e=.returned (.string ⟨(Lib.itoa q).toArray⟩)/\za w w'):=fun w=>IH.out q w ⟨by omega,by omega⟩ (by rw [if_pos (by omega)];omega)
    have l1:=By (n:=q) ⟨by omega,by omega⟩;obtain ⟨x,hx⟩:=DX (Lib.itoa q);obtain ⟨y,z⟩:=DX (Lib.itoa r);rw [<-hx] at d M l1;rw [<-z] at d B l2;have ha:∀w,(Op.stringOp .add ⟨x.toArray⟩ ⟨y.toArray⟩).run Tryz.prog w=.ok (.string ⟨(x++y).toArray⟩) w:=fun w=>Ab (by omega)
    clear E IH O I J K hx z l1 l2 L Q
    go_enter Tryz.func82,Tryz.ntmps82
    go_wp2_with fail
    with_reducible refine (M.out w).mono ?_
    rintro e w1 ⟨rfl,o⟩
    go_wp2_with fail
    with_reducible refine (B.out w1).mono ?_
    rintro e w2 ⟨rfl,D⟩
    go_wp2_with fail
    go_ret;exact ⟨ret_str d.out.symm,o.trans D⟩
theorem mdecimal (w:World) (d:Cp n):Calls Tryz.prog 82 #[.int .i64 n] w fun e w'=>e=.returned (.string ⟨(Lib.itoa n).toArray⟩)/\za w w':=mdec_calls _ n w d (Nat.lt_succ_self _)
theorem mInt_calls (w:World) (z:Cp n):Calls Tryz.prog 38 #[.int .i64 n] w fun e w'=>e=.returned (.string ⟨(wI n).toArray⟩)/\za w w':=by
 have B:=zh (mdecimal w z);have D:=By z;obtain ⟨d,o⟩:=DX (Lib.itoa n);have E:Hid (wI n=d++[59]):=by rw [o];rfl
 rw [<-o] at D B;have I:∀w,(Op.stringOp .add ⟨d.toArray⟩ ⟨#[59]⟩).run Tryz.prog w=.ok (.string ⟨(d++[59]).toArray⟩) w:=fun w=>Ab (y:=[59]) (by simp;omega)
 clear o D z
 go_enter Tryz.func38,Tryz.ntmps38
 go_wp2_with fail
 refine B.out.mono ?_;rintro e w1 ⟨rfl,G⟩
 go_wp2_with fail
 go_ret;exact ⟨ret_str E.out.symm,G⟩
theorem wIs_take {l:List Int} (d:k<l.length):(l.take (k+1)).flatMap wI=(l.take k).flatMap wI++wI l[k]:=by
 rw [Dg d,List.flatMap_append];simp
theorem mInts_calls {ok:Nat->Prop} {v:Value} {l:List Int} (w:World) (hl:zk w ok v l) (hn:∀x∈l,Cp x) (a4:l.length<=1000000000000):Calls Tryz.prog 39 #[v] w fun e w'=>e=.returned (.string ⟨(wL l).toArray⟩)/\za w w':=by
 have HL:=zh hl;have Q:=zh hn;obtain ⟨A,c,rfl,-,K⟩:=hl;have U:=zh K;clear hn K
 go_enter Tryz.func39,Tryz.ntmps39
 go_wp2_with fail
 go_loopw [3,4] (fun s i wr=>∃k:Nat,k<=l.length/\i=.int .i64 k/\s=.string ⟨(91 :: (l.take k).flatMap wI).toArray⟩/\Hid (za w wr)) (fun _ i _=>l.length - (intOf i).toNat)
 case atStart=>exact ⟨0,Do _,rfl,by simp,za.refl _⟩
 case round=>
  obtain ⟨k,hk,rfl,rfl,V⟩:=hrel;obtain ⟨wk,rfl⟩:∃W:World,W=wr:=⟨_,rfl⟩;have hb:=wIs_len (l:=l.take k) (fun x o=>Q.out x (List.mem_of_mem_take o));have D:(l.take k).length<=l.length:=by simp;omega
  by_cases d:k<l.length
  ·have I:(k:Int)<(l.length:Int):=by omega
   have a8:(0:Int)<=(k:Int):=by omega
   obtain ⟨b,off,rfl,-,E⟩:=Am U.out d d;have a0:wk.cell? ⟨b,off+k,none⟩=some (.int .i64 l[k]):=V.out.cell E;have z:Hid (91 :: (l.take (k+1)).flatMap wI=(91 :: (l.take k).flatMap wI)++wI l[k]):=by (show _=_);rw [wIs_take d];rfl
   have L:=wI_len (Q.out _ (CZ d));have M:=zh (mInt_calls wk (Q.out _ (CZ d)));obtain ⟨n,J⟩:=DX (l[k]);rw [<-J] at a0 z M L;obtain ⟨x,o⟩:=DX (91 :: (l.take k).flatMap wI);obtain ⟨y,hy⟩:=DX (wI n);have a1:x.length<=22*l.length+1:=by rw [o,DV];omega
   rw [<-o] at z⊢;rw [<-hy] at z M L;have ha:∀w,(Op.stringOp .add ⟨x.toArray⟩ ⟨y.toArray⟩).run Tryz.prog w=.ok (.string ⟨(x++y).toArray⟩) w:=fun w=>Ab (by omega)
   clear J o hy E hb D
   go_wp2_with fail
   refine M.out.mono ?_;rintro e w5 ⟨rfl,B⟩;have O:Hid (za w w5):=V.out.trans B;clear B
   go_wp2_with fail
   go_roundw
   case rel=>exact ⟨k+1,by omega,by go_num,by rw [z.out],O⟩
   case measure=>simp [intOf];omega
  ·have G:k=l.length:=by omega
   have I:¬ ((k:Int)<(l.length:Int)):=by omega
   have z:Hid (wL l=(91 :: (l.take k).flatMap wI)++[93]):=by (show _=_);rw [G,Dl];rfl
   obtain ⟨x,o⟩:=DX (91 :: (l.take k).flatMap wI);have a1:x.length<=22*l.length+1:=by rw [o,DV];omega
   rw [<-o] at z⊢;have ha:∀w,(Op.stringOp .add ⟨x.toArray⟩ ⟨#[93]⟩).run Tryz.prog w=.ok (.string ⟨(x++[93]).toArray⟩) w:=fun w=>Ab (y:=[93]) (by simp;omega)
   clear G o hb D d
   go_wp2_with fail
   go_ret;exact ⟨ret_str z.out.symm,V.out⟩
structure QrS (l:List UInt8) (s:Rd) (p:Nat):Prop where
 le:p<=l.length
 ok:s.2=false->s.1=l.drop p
 bad:s.2=true->s.1=[]
def zW (w:World) (r:Nat) (l:List UInt8) (s:Rd):Prop:=∃p:Nat,QrS l s p/\ze w r 128 #[.string ⟨l.toArray⟩,.int .i64 p,.bool s.2]
theorem zW.ext {w w':World} {r:Nat} {l:List UInt8} {s:Rd} (h:zW w r l s) (d:za w w'):zW w' r l s:=by obtain ⟨p,h1,h2⟩:=h;exact ⟨p,h1,h2.ext d⟩
theorem zW.keep (h:zW w r l s) (d:w'.heap[r]?=w.heap[r]?):zW w' r l s:=by obtain ⟨p,h1,h2⟩:=h;exact ⟨p,h1,d.trans h2⟩
theorem mNew_calls (l:List UInt8) (w:World):Calls Tryz.prog 45 #[.string ⟨l.toArray⟩] w fun e w'=>e=.returned (.pointer (some ⟨w.heap.size,0,none⟩))/\za w w'/\zW w' w.heap.size l (l,false):=by
 go_enter Tryz.func45,Tryz.ntmps45
 go_wp2_with fail
 go_ret;exact ⟨rfl,(za.refl w).alloc _,0,⟨Do _,fun _=>rfl,fun h=>by cases h⟩,ze.new _ _ _ rfl⟩
theorem Cx (w:World) (h:zW w r l s):Calls Tryz.prog 47 #[.pointer (some ⟨r,0,none⟩)] w fun e w'=>e=.returned (.bool s.2)/\w=w':=by
 obtain ⟨p,-,d⟩:=h;have c2:=d.cell (k:=2) rfl;clear d
 go_enter Tryz.func47,Tryz.ntmps47
 go_wp2_with fail
 go_ret;exact ⟨rfl,rfl⟩
theorem mLeft_calls (w:World) (h:zW w r l s) (D:l.length<=1000000000000):Calls Tryz.prog 48 #[.pointer (some ⟨r,0,none⟩)] w fun e w'=>e=.returned (.int .i64 (zr s:Nat))/\za w w':=by
 obtain ⟨p,z,o⟩:=h;have c2:=o.cell (k:=2) rfl;have c0:=o.cell (k:=0) rfl;have c1:=o.cell (k:=1) rfl;obtain ⟨sl,b⟩:=s
 cases b with
 | true=>
  clear o c0 c1
  go_enter Tryz.func48,Tryz.ntmps48
  go_wp2_with fail
  go_ret;exact ⟨rfl,za.refl _⟩
 | false=>
  have h1:=z.ok rfl;have h2:=z.le;dsimp only at h1;have d:sl.length=l.length - p:=by rw [h1,List.length_drop]
  have E:IntKind.i64.wrap ((l.length:Int) - (p:Int))=((l.length - p:Nat):Int):=by rw [Du];omega
  have B:Hid (((zr (sl,false):Nat):Int)=((l.length - p:Nat):Int)):=by (show _=_);unfold zr;simp [d]
  clear o h1 d z
  go_enter Tryz.func48,Tryz.ntmps48
  go_wp2_with fail
  go_quiet (fail)
  go_wp2_with fail
  go_ret;exact ⟨congrArg (fun x=>Ending.returned (Value.int .i64 x)) B.out.symm,(za.refl w).drewN _⟩
theorem mFail_calls (w:World) (h:zW w r l s):Calls Tryz.prog 122 #[.pointer (some ⟨r,0,none⟩)] w fun e w'=>e=.returned (.tuple #[])/\zd (·=r) w w'/\zW w' r l ([],true):=by
 obtain ⟨p,o,d⟩:=h;have c2:=d.cell (k:=2) rfl;have hf:∀k,w.frozen? ⟨r,k,none⟩=false:=fun k=>d.frozen k
 have z:=zh d;have B:=zh o;clear d o
 go_enter Tryz.func122,Tryz.ntmps122
 go_wp2_with fail
 refine bodyPost_end (results_none rfl _ _ _) rfl ⟨rfl,Br (X:=(·=r)) (zd.refl _ _) r 2 _ rfl,p,⟨B.out.le,(fun h=>by cases h),fun _=>rfl⟩,z.out.set (k:=2) _⟩
theorem get_at (h:i<l.length) (d:i<(ByteArray.mk l.toArray).size):(ByteArray.mk l.toArray)[i]'d=l[i]:=by
 show (l.toArray)[i]=l[i];simp
theorem ext_mid (l:List UInt8) (p q:Nat) (h:p<=q):(ByteArray.mk l.toArray).extract p q=⟨((l.drop p).take (q - p)).toArray⟩:=by
 apply ByteArray.ext;simp [ByteArray.data_extract,List.extract]
def NumQ (r:Nat) (l:List UInt8) (s:Rd) (o:Option (Int×List UInt8)) (w:World) (e:Ending) (w':World):Prop:=
 zd (·=r) w w'/\(∀v b,o=some (v,b)->e=.returned (.tuple #[.int .i64 v,.bool true])/\zW w' r l (b,false))/\(o=none->e=.returned (.tuple #[.int .i64 0,.bool false])/\zW w' r l s)
theorem numP_long (h:l.take 22=a) (z:c∉a) (G:22<=l.length):numP c l=none:=by
 rw [numP_ref]
 cases D:AP c l with
 | none=>rfl
 | some q=>
  obtain ⟨x,y⟩:=q;have h1:=(Bm D).2;rw [Option.bind_some]
  cases E:Aw x with
  | none=>rfl
  | some v=>
   obtain ⟨h2,d⟩:=refNum_some E;have o:=By h2;rw [d] at o
   exfalso
   apply z;rw [<-h,h1,List.take_append];refine DK.2 (.inr ?_);obtain ⟨k,B⟩:∃k,22 - x.length=k+1:=⟨21 - x.length,by omega⟩;rw [B,List.take_succ_cons];exact DH ..
theorem BM {o:Option (Int×List UInt8)} (h:o=none) (d:zd (·=r) w w') (z:zW w' r l s):NumQ r l s o w (.returned (.tuple #[.int .i64 0,.bool false])) w':=
 ⟨d,(fun v b e=>by rw [h] at e;cases e),fun _=>⟨rfl,z⟩⟩
theorem cut_none (h:c∉l):AP c l=none:=by
 cases d:AP c l with
 | none=>rfl
 | some q=>
  obtain ⟨a,b⟩:=q;exact absurd (by rw [(Bm d).2];simp) h
theorem cut_of {c:UInt8}:∀{a b:List UInt8},c∉a->AP c (a++c :: b)=some (a,b)
 | [],b,h=>by simp [AP]
 | x :: a,b,h=>by
  have h1:x≠c:=fun e=>h (by rw [e];exact DH ..)
  have h2:=cut_of (b:=b) (fun e=>h (Dt _ e):c∉a);simp [AP,h1,h2]
theorem num_end (hp:p<=q) (d:q=l.length) (h:c∉(l.drop p).take (q - p)):numP c (l.drop p)=none:=by
 rw [List.take_of_length_le (by rw [List.length_drop];omega)] at h;rw [numP_ref,cut_none h];rfl
theorem num_far (z:q=p+21) (o:q<l.length) (h:c∉(l.drop p).take (q - p)) (d:l[q]≠c):numP c (l.drop p)=none:=by
 refine numP_long rfl ?_ (by rw [List.length_drop];omega);rw [List.take_add_one,List.getElem?_drop];rw [show q - p=21 by omega] at h;intro hm;rcases DK.1 hm with hm | hm
 ·exact h hm
 ·rw [<-z,CW o,Option.toList_some] at hm;exact d (DD.1 hm).symm
def Bj (a:List UInt8) (f:Nat) (o:Option Int):Option Int:=
 if f=1 then o.bind fun n=>if Lib.itoa n=a then some n else none
 else o.bind fun n=>if n=-9223372036854775808 then none else if Lib.itoa (-n)=a then some (-n) else none
theorem num_neg (h:0<a.length) (d:a[0]=45):Aw a=Bj a 1 (zz (a.drop 1) 0):=by
 unfold Aw Bj;rw [if_pos (by rw [List.head?_eq_getElem?,CW h,d]),if_pos rfl,List.drop_one]
theorem num_pos (h:∀h:0<a.length,a[0]≠45):Aw a=Bj a 0 (zz (a.drop 0) 0):=by
 unfold Aw Bj;rw [if_neg,if_neg (by decide),List.drop_zero];intro e
 cases a with
 | nil=>cases e
 | cons x a=>
  injection e with e;exact h (by simp) e
theorem num_at (hp:p<=q) (o:q<l.length) (h:c∉(l.drop p).take (q - p)) (d:l[q]=c):numP c (l.drop p)=(Aw ((l.drop p).take (q - p))).map fun v=>(v,l.drop (q+1)):=by
 have e:l.drop p=(l.drop p).take (q - p)++c :: l.drop (q+1):=by
  rw [<-d,<-List.drop_eq_getElem_cons o,show l.drop q=(l.drop p).drop (q - p) by rw [List.drop_drop];congr 1;omega];exact (List.take_append_drop _ _).symm
 rw [numP_ref]
 conv=>lhs;rw [e]
 rw [cut_of h];rfl
theorem num_bad {α:Type} {R:Option α} {g:Int->α} {o:Option Int} (d:R=(Aw a).map g) (hF:Aw a=Bj a f o) (h:o=none):R=none:=by
 rw [d,hF,h];unfold Bj
 split <;> rfl
def DigNo (d n:Int):Prop:=d<0\/9<d\/n< -922337203685477580\/(n=-922337203685477580/\8<d)
theorem refDig_no (h:k<a.length) (d:DigNo (((a[k]).toNat:Int) - 48) n):zz (a.drop k) n=none:=by
 rw [List.drop_eq_getElem_cons h];unfold zz;exact if_pos d
theorem refDig_yes (h:k<a.length) (d:¬ DigNo (((a[k]).toNat:Int) - 48) n):zz (a.drop k) n=zz (a.drop (k+1)) (10*n - (((a[k]).toNat:Int) - 48)):=by
 rw [List.drop_eq_getElem_cons h]
 conv=>lhs;unfold zz
 exact if_neg d
theorem num_fin {b:List UInt8} {v:Int} {R:Option (Int×List UInt8)} (d:R=(if Lib.itoa v=a then some v else none).map fun v=>(v,b)) (h:Lib.itoa v=a) (z:zd (·=r) w w') (B:b=l.drop q) (D:q<=l.length)
  (o:ze w' r 128 #[.string ⟨l.toArray⟩,.int .i64 q,.bool false]):NumQ r l s R w (.returned (.tuple #[.int .i64 v,.bool true])) w':=by
 rw [if_pos h,Option.map_some] at d;refine ⟨z,fun v' b' e=>?_,fun e=>by rw [d] at e;cases e⟩;rw [d] at e;injection e with e;injection e with e1 e2;subst e1 e2;exact ⟨rfl,q,⟨D,fun _=>B,fun h=>by cases h⟩,o⟩
theorem mNumber_calls (c:UInt8) (w:World) (h:zW w r l s) (hl:l.length<=1000000000000):Calls Tryz.prog 121 #[.pointer (some ⟨r,0,none⟩),.int .u8 c.toNat] w (NumQ r l s (numS c s) w):=by
 have HQ:=zh h;obtain ⟨p,hs,hb⟩:=h;have c0:=za.rule (hb.cell (k:=0) rfl);have c1:=za.rule (hb.cell (k:=1) rfl);have c2:=za.rule (hb.cell (k:=2) rfl);have HB:=zh hb;obtain ⟨sl,b⟩:=s;have hx:za w w:=za.refl w
 cases b with
 | true=>
  have G:Hid (numS c (sl,true)=none):=by (show _=_);rfl
  clear hb c0 c1 hs
  go_enter Tryz.func121,Tryz.ntmps121
  go_wp2_with fail
  go_ret2
  exact BM G.out (zd.refl _ _) HQ.out
 | false=>
  have a7:=hs.ok rfl;have b3:=hs.le;dsimp only at a7 c2;have D:=zh a7;have z:Hid (numS c (sl,false)=numP c sl):=by (show _=_);rfl
  obtain ⟨R,hR⟩:=DX (numS c (sl,false));rw [<-hR] at z⊢;clear hb hs a7 hR;have f7:IntKind.i64.wrap ((p:Int)+21)=(p:Int)+21:=by rw [Du];omega
  have e8:Hid (za w w):=za.refl w
  go_enter Tryz.func121,Tryz.ntmps121
  go_upto_block 0 with fail
  go_cut [6] (fun v wx=>∃q:Nat,v=.int .i64 (q:Int)/\p<=q/\q<=p+21/\q<=l.length/\Hid (c∉(l.drop p).take (q - p))/\Hid (∀h:q<l.length,q<p+21->l[q]=c)/\Hid (za w wx))
  case first=>
   go_wp2_with fail
   clear hx;go_loopw [6] (fun v wr=>∃q:Nat,v=.int .i64 (q:Int)/\p<=q/\q<=p+21/\q<=l.length/\Hid (c∉(l.drop p).take (q - p))/\Hid (za w wr)) (fun v _=>l.length - (intOf v).toNat)
   case atStart=>exact ⟨p,rfl,by omega,by omega,b3,by (show _∉_);simp,e8.out⟩
   case round=>
    obtain ⟨q,rfl,B,O,Q,o,U⟩:=hrel;obtain ⟨wk,rfl⟩:∃W:World,W=wr:=⟨_,rfl⟩;have hx:za w wk:=U.out;by_cases h1:q<l.length
    ·have d1:decide ((q:Int)<(l.length:Int))=true:=Db (by omega);have d2:decide (q<l.length)=true:=Db h1;by_cases h2:(q:Int)<(p:Int)+21
     ·have d3:decide ((q:Int)<(p:Int)+21)=true:=Db h2;have hI:∀h,(ByteArray.mk l.toArray)[q]'h=l[q]:=fun h=>get_at h1 h
      have f4:IntKind.i64.wrap ((q:Int)+1)=(q:Int)+1:=by rw [Du];omega
      by_cases I:l[q]=c
      ·have d4:(((l[q]).toNat:Int)==(c.toNat:Int))=true:=by rw [I];simp
       have L:Hid (∀h:q<l.length,q<p+21->l[q]=c):=fun _ _=>I
       go_wp2_with fail
       go_meet;exact ⟨q,rfl,B,O,Q,o,L,U⟩
      ·have d4:(((l[q]).toNat:Int)==(c.toNat:Int))=false:=by
        rw [Dn];intro e;exact I (UInt8.toNat_inj.1 (by omega))
       have d9:Hid (c∉(l.drop p).take (q+1 - p)):=by
        show _∉_;rw [show q+1 - p=(q - p)+1 by omega,List.take_add_one,List.getElem?_drop,show p+(q - p)=q by omega,CW h1];intro hm;rcases DK.1 hm with hm | hm
        ·exact o.out hm
        ·exact I (by rw [Option.toList_some] at hm;exact (DD.1 hm).symm)
       have hM:Hid (l.length - (q+1)<l.length - q):=by (show _<_);omega
       have e6:Hid (q+1<=p+21):=by (show _<=_);omega
       have e7:Hid (q+1<=l.length):=h1;clear I
       go_wp2_with fail
       refine ⟨⟨q+1,by simp,by omega,e6.out,e7.out,d9,U⟩,?_⟩;have e1:(intOf (Value.int IntKind.i64 ((q:Int)+1))).toNat=q+1:=by simp [intOf];try omega
       have e2:(intOf (Value.int IntKind.i64 (q:Int))).toNat=q:=by simp [intOf]
       rw [e1,e2];exact hM.out
     ·have d3:decide ((q:Int)<(p:Int)+21)=false:=Dc h2;have L:Hid (∀h:q<l.length,q<p+21->l[q]=c):=fun _ h=>absurd h (by omega)
      go_wp2_with fail
      go_meet;exact ⟨q,rfl,B,O,Q,o,L,U⟩
    ·have d1:decide ((q:Int)<(l.length:Int))=false:=Dc (by omega);have d2:decide (q<l.length)=false:=Dc h1;have L:Hid (∀h:q<l.length,q<p+21->l[q]=c):=fun h _=>absurd h h1
     go_wp2_with fail
     go_meet;exact ⟨q,rfl,B,O,Q,o,L,U⟩
  case rest=>
   obtain ⟨q,rfl,B,O,Q,o,a1,U⟩:=hcut;obtain ⟨wk,rfl⟩:∃W:World,W=wc:=⟨_,rfl⟩;clear hx;have hx:za w wk:=U.out;have b0:Hid (zW wk r l (sl,false)):=HQ.out.ext hx;rcases Nat.eq_or_lt_of_le Q with h1 | h1
   ·have G:Hid (R=none):=by
     show _=_;rw [z.out,D.out];exact num_end B h1 o.out
    have d1:((q:Int)==(l.length:Int))=true:=by rw [h1];simp
    have d2:(q==l.length)=true:=by rw [h1];simp
    clear h1 o a1 z D
    go_wp2_with fail
    go_ret2
    exact BM G.out (zd.of_ext U.out) b0.out
   ·have d1:((q:Int)==(l.length:Int))=false:=by rw [Dn];omega
    have d2:(q==l.length)=false:=by rw [Dn];omega
    have hI:∀h,(ByteArray.mk l.toArray)[q]'h=l[q]:=fun h=>get_at h1 h
    by_cases I:l[q]=c
    ·have G:Hid (R=(Aw ((l.drop p).take (q - p))).map fun v=>(v,l.drop (q+1))):=by
      show _=_;rw [z.out,D.out];exact num_at B h1 o.out I
     have d4:(((l[q]).toNat:Int)==(c.toNat:Int))=true:=by rw [I];simp
     obtain ⟨a,ha⟩:=DX ((l.drop p).take (q - p));rw [<-ha] at G;have g8:a.length<=21:=by rw [ha,List.length_take];omega
     have hS:(ByteArray.mk l.toArray).extract p q=⟨a.toArray⟩:=by rw [ext_mid l p q B,ha]
     have s1:(p:Int)<=(q:Int):=by omega
     have s2:(q:Int)<=(l.length:Int):=by omega
     clear o a1 z D ha
     go_upto_if 86 with fail
     go_cut [7] (fun v wx=>v=.string ⟨a.toArray⟩/\Hid (za w wx))
     case first=>
      go_quiet (fail)
      go_wp2_with fail
      go_meet;exact ⟨rfl,U.out.drewN _⟩
     case rest=>
      obtain ⟨rfl,E⟩:=hcut;obtain ⟨wk7,rfl⟩:∃W:World,W=wc:=⟨_,rfl⟩;clear hx;have hx:za w wk7:=E.out;go_upto_region 10 with fail;go_cut [86] (fun v wx=>∃f:Nat,v=.bool (decide (f=1))/\f<=a.length/\f<=1/\Hid (Aw a=Bj a f (zz (a.drop f) 0))/\wx=wk7)
      case first=>
       by_cases h0:0<a.length
       ·have hA:∀h,(ByteArray.mk a.toArray)[0]'h=a[0]:=fun h=>get_at h0 h
        by_cases h5:a[0]=45
        ·have d5:(((a[0]).toNat:Int)==45)=true:=by rw [h5];rfl
         have J:Hid (Aw a=Bj a 1 (zz (a.drop 1) 0)):=num_neg h0 h5
         go_wp2_with fail
         go_meet;exact ⟨1,rfl,h0,by omega,J,rfl⟩
        ·have d5:(((a[0]).toNat:Int)==45)=false:=by
          rw [Dn];intro e;exact h5 (UInt8.toNat_inj.1 (by rw [show (45:UInt8).toNat=45 from rfl];omega))
         have J:Hid (Aw a=Bj a 0 (zz (a.drop 0) 0)):=num_pos (fun _=>h5)
         go_wp2_with fail
         go_meet;exact ⟨0,rfl,by omega,by omega,J,rfl⟩
       ·have J:Hid (Aw a=Bj a 0 (zz (a.drop 0) 0)):=num_pos (fun h=>absurd h h0)
        go_wp2_with fail
        go_meet;exact ⟨0,rfl,by omega,by omega,J,rfl⟩
      case rest=>
       obtain ⟨f,rfl,f0,h4,J,rfl⟩:=hcut;obtain ⟨wk8,rfl⟩:∃W:World,W=wc:=⟨_,rfl⟩
       go_upto_if 86 with fail
       go_cut [8] (fun v wx=>v=.int .i64 (f:Int)/\wx=wk8)
       case first=>
        rcases (by omega:f=0\/f=1) with rfl | rfl
        ·go_wp2_with fail
         go_meet;exact ⟨rfl,rfl⟩
        ·go_wp2_with fail
         go_meet;exact ⟨rfl,rfl⟩
       case rest=>
        obtain ⟨rfl,rfl⟩:=hcut;obtain ⟨wk9,rfl⟩:∃W:World,W=wc:=⟨_,rfl⟩
        go_upto_block 0 with fail
        go_loopw [9,10] (fun vn vk wr=>∃(n:Int) (k:Nat),vn=.int .i64 n/\vk=.int .i64 (k:Int)/\f<=k/\k<=a.length/\n<=0/\-9223372036854775808<=n/\Hid (zz (a.drop k) n=zz (a.drop f) 0)/\wr=wk9) (fun _ vk _=>a.length - (intOf vk).toNat)
        case atStart=>exact ⟨0,f,rfl,rfl,CY _,f0,by omega,by omega,by (show _=_);rfl,rfl⟩
        case round=>
         obtain ⟨n,k,rfl,rfl,h7,h8,f1,b2,HD,rfl⟩:=hrel;obtain ⟨wkA,rfl⟩:∃W:World,W=wr:=⟨_,rfl⟩;by_cases h6:k<a.length
         ·have d6:decide ((k:Int)<(a.length:Int))=true:=Db (by omega);have d7:decide (k<a.length)=true:=Db h6;have hA:∀h,(ByteArray.mk a.toArray)[k]'h=a[k]:=fun h=>get_at h6 h
          have h9:IntKind.i64.wrap ((k:Int)+1)=(k:Int)+1:=by rw [Du];omega
          have a5:Hid (DigNo (((a[k]).toNat:Int) - 48) n->zz (a.drop k) n=none):=refDig_no h6;have a6:Hid (¬ DigNo (((a[k]).toNat:Int) - 48) n->zz (a.drop k) n=zz (a.drop (k+1)) (10*n - (((a[k]).toNat:Int) - 48))):=refDig_yes h6;obtain ⟨u,hu⟩:∃u:Nat,u=(a[k]).toNat:=⟨_,rfl⟩;have f2:u<256:=by rw [hu];exact UInt8.toNat_lt _
          rw [<-hu] at a5 a6;have hA2:∀h,((ByteArray.mk a.toArray)[k]'h).toNat=u:=fun h=>by rw [hA h,hu]
          clear hA hu;obtain ⟨d,hd⟩:∃d:Int,d=(u:Int) - 48:=⟨_,rfl⟩;rw [<-hd] at a5 a6;have g9:d<=207:=by omega
          have HM:Hid (a.length - (k+1)<a.length - k):=by (show _<_);omega
          have b5:wrap64 ((u:Int) - 48)=d:=(IntWalk.wrap64_in _ (by omega)).trans hd.symm;have f5:wrap64 (u:Int)=(u:Int):=IntWalk.wrap64_in _ ⟨by omega,by omega⟩;clear hd f2;go_upto_region 16 with fail;go_cut [11] (fun v wx=>v=.int .i64 d/\wx=wkA)
          case first=>
           go_wp2_with fail
           go_meet;exact ⟨by rw [b5],rfl⟩
          case rest=>
           obtain ⟨rfl,rfl⟩:=hcut;obtain ⟨wkB,rfl⟩:∃W:World,W=wc:=⟨_,rfl⟩;clear hA2 f5 b5 d6 d7;by_cases M:DigNo d n
           ·have K:Hid (R=none):=num_bad G.out J.out (HD.out.symm.trans (a5.out M));go_upto_region 17 with fail;go_cut [116] (fun v wx=>v=.bool true/\wx=wkB)
            case first=>
             by_cases g1:d<0
             ·have e1:decide (d<0)=true:=Db g1
              go_wp2_with fail
              go_meet;exact ⟨rfl,rfl⟩
             ·have e1:decide (d<0)=false:=Dc g1;by_cases g2:9<d
              ·have e2:decide (9<d)=true:=Db g2
               go_wp2_with fail
               go_meet;exact ⟨rfl,rfl⟩
              ·have e2:decide (9<d)=false:=Dc g2;by_cases g3:n< -922337203685477580
               ·have e3:decide (n< -922337203685477580)=true:=Db g3
                go_wp2_with fail
                go_meet;exact ⟨rfl,rfl⟩
               ·have e3:decide (n< -922337203685477580)=false:=Dc g3;have g4:n=-922337203685477580/\8<d:=by unfold DigNo at M;omega
                obtain ⟨rfl,g5⟩:=g4;have e5:decide (8<d)=true:=Db g5
                go_wp2_with fail
                go_meet;exact ⟨rfl,rfl⟩
            case rest=>
             obtain ⟨rfl,rfl⟩:=hcut;obtain ⟨wkC,rfl⟩:∃W:World,W=wc:=⟨_,rfl⟩
             go_wp2_with fail
             go_ret2
             exact BM K.out (zd.of_ext E.out) (HQ.out.ext E.out)
           ·have c9:Hid (zz (a.drop (k+1)) (10*n - d)=zz (a.drop f) 0):=(a6.out M).symm.trans HD.out;have hb:0<=d/\d<=9/\-922337203685477580<=n/\(n=-922337203685477580->d<=8):=by unfold DigNo at M;omega
            have f8:IntKind.i64.wrap (10*n)=10*n:=by rw [Du];omega
            have f9:IntKind.i64.wrap (10*n - d)=10*n - d:=by rw [Du];omega
            have a8:Hid (10*n - d<=0/\-9223372036854775808<=10*n - d):=by (show _/\_);omega
            go_upto_region 17 with fail;go_cut [116] (fun v wx=>v=.bool false/\wx=wkB)
            case first=>
             have e1:decide (d<0)=false:=Dc (by omega);have e2:decide (9<d)=false:=Dc (by omega);have e3:decide (n< -922337203685477580)=false:=Dc (by omega);by_cases g4:n=-922337203685477580
             ·have e5:decide (8<d)=false:=Dc (by omega);have e4:(n==-922337203685477580)=true:=by rw [g4];rfl
              clear g4
              go_wp2_with fail
              go_meet;exact ⟨rfl,rfl⟩
             ·have e4:(n==-922337203685477580)=false:=by rw [Dn];exact g4
              go_wp2_with fail
              go_meet;exact ⟨rfl,rfl⟩
            case rest=>
             obtain ⟨rfl,rfl⟩:=hcut;obtain ⟨wkC,rfl⟩:∃W:World,W=wc:=⟨_,rfl⟩;clear hb M
             go_wp2_with fail
             refine ⟨⟨10*n - d,k+1,rfl,by simp,by omega,h6,a8.out.1,a8.out.2,c9,by simp⟩,?_⟩;have e1:(intOf (Value.int IntKind.i64 ((k:Int)+1))).toNat=k+1:=by simp [intOf];try omega
             have e2:(intOf (Value.int IntKind.i64 (k:Int))).toNat=k:=by simp [intOf]
             rw [e1,e2];exact HM.out
         ·have d6:decide ((k:Int)<(a.length:Int))=false:=Dc (by omega);have d7:decide (k<a.length)=false:=Dc h6
          have HO:Hid (zz (a.drop f) 0=some n):=by
           (show _=_)
           rw [<-HD.out,List.drop_of_length_le (by omega)];rfl
          clear HD;go_upto_region 20 with fail;go_cut [122] (fun v wx=>v=.bool (decide (f=0))/\wx=wkA)
          case first=>
           rcases (by omega:f=0\/f=1) with rfl | rfl
           ·go_wp2_with fail
            go_meet;simp
           ·go_wp2_with fail
            go_meet;simp
          case rest=>
           obtain ⟨rfl,rfl⟩:=hcut;obtain ⟨wkB,rfl⟩:∃W:World,W=wc:=⟨_,rfl⟩;clear d6 d7 h6
           go_upto_if 122 with fail
           go_cut [9] (fun v wx=>∃v':Int,v=.int .i64 v'/\Cp v'/\Hid (R=(if Lib.itoa v'=a then some v' else none).map fun v=>(v,l.drop (q+1)))/\wx=wkB)
           case first=>
            rcases (by omega:f=0\/f=1) with rfl | rfl
            ·by_cases g1:n=-9223372036854775808
             ·have K:Hid (R=none):=by
               (show _=_)
               rw [G.out,J.out,HO.out];unfold Bj;rw [if_neg (by decide),Option.bind_some,if_pos g1];rfl
              have f3:IntKind.i64.wrap (-n)=n:=by rw [Du];omega
              have e0:n≠0:=by omega
              have e1:(n==0)=false:=by rw [Dn];omega
              clear g1
              go_wp2_with fail
              go_ret2
              exact BM K.out (zd.of_ext E.out) (HQ.out.ext E.out)
             ·have K:Hid (R=(if Lib.itoa (-n)=a then some (-n) else none).map fun v=>(v,l.drop (q+1))):=by
               (show _=_)
               rw [G.out,J.out,HO.out];unfold Bj;rw [if_neg (by decide),Option.bind_some,if_neg g1]
              have f3:IntKind.i64.wrap (-n)=-n:=by rw [Du];omega
              by_cases g2:n=0
              ·subst g2
               go_wp2_with fail
               go_meet;exact ⟨0,rfl,by constructor <;> omega,K,rfl⟩
              ·have e1:(n==-n)=false:=by rw [Dn];omega
               go_wp2_with fail
               go_meet;exact ⟨-n,rfl,by constructor <;> omega,K,rfl⟩
            ·have K:Hid (R=(if Lib.itoa n=a then some n else none).map fun v=>(v,l.drop (q+1))):=by
              (show _=_)
              rw [G.out,J.out,HO.out];unfold Bj;rw [if_pos rfl,Option.bind_some]
             go_wp2_with fail
             go_meet;exact ⟨n,rfl,⟨b2,by omega⟩,K,rfl⟩
           case rest=>
            obtain ⟨v',rfl,b4,K,rfl⟩:=hcut;obtain ⟨wkC,rfl⟩:∃W:World,W=wc:=⟨_,rfl⟩;clear HO G J f1 b2
            go_wp2_with fail
            refine (mdecimal wkC b4).mono ?_;rintro e wD ⟨rfl,b1⟩;have V:Hid (za w wD):=E.out.trans b1;clear b1 b4;by_cases g:Lib.itoa v'=a
            ·have a0:=HB.out.ext V.out;have y1:=a0.cell (k:=1) rfl;have yf:∀j,wD.frozen? ⟨r,j,none⟩=false:=fun j=>a0.frozen j
             have f4:IntKind.i64.wrap ((q:Int)+1)=((q+1:Nat):Int):=by rw [Du];omega
             have c8:=zh a0;have e1:(Lib.itoa v'==a)=true:=by rw [g];exact beq_self_eq_true _
             have HG:=zh g;clear a0 g hx
             go_wp2_with fail
             go_ret2
             exact num_fin (q:=q+1) K.out HG.out (Br (zd.of_ext V.out) r 1 _ rfl) rfl h1 (c8.out.set (k:=1) _)
            ·have e1:(Lib.itoa v'==a)=false:=by rw [Dn];exact g
             have HG:=zh g;clear g hx
             go_wp2_with fail
             go_ret2
             exact BM (by rw [K.out,if_neg HG.out];rfl) (zd.of_ext V.out) (HQ.out.ext V.out)
    ·have G:Hid (R=none):=by
      show _=_;rw [z.out,D.out]
      have:q=p+21:=by
       rcases Nat.eq_or_lt_of_le O with h | h
       ·exact h
       ·exact absurd (a1.out h1 h) I
      exact num_far this h1 o.out I
     have d4:(((l[q]).toNat:Int)==(c.toNat:Int))=false:=by
      rw [Dn];intro e;exact I (UInt8.toNat_inj.1 (by omega))
     clear o a1 z D I
     go_wp2_with fail
     go_ret2
     exact BM G.out (zd.of_ext U.out) b0.out
theorem CL (w:World) (h:zW w r l s) (M:l.length<=1000000000000):Calls Tryz.prog 85 #[.pointer (some ⟨r,0,none⟩)] w fun e w'=>e=.returned (.int .i64 (zw s).1)/\zd (·=r) w w'/\zW w' r l (zw s).2:=by
 have z:Hid (Calls Tryz.prog 121 #[.pointer (some ⟨r,0,none⟩),.int .u8 59] w (NumQ r l s (numS 59 s) w)):=mNumber_calls 59 w h M;have d:Hid (∀o,o=numS 59 s->zw s=match o with | some (v,b)=>(v,(b,false)) | none=>(0,([],true))):=fun o V=>by rw [V];rfl
 generalize numS 59 s=o at z d;have d:=zh (d.out o rfl);generalize zw s=i at d;clear h M
 go_enter Tryz.func85,Tryz.ntmps85
 cases o with
 | none=>
  go_wp2_with fail
  refine z.out.mono ?_;rintro e w1 ⟨B,-,O⟩;obtain ⟨rfl,E⟩:=O rfl;have L:=zh (mFail_calls w1 E);have I:=zh B;clear B O E z
  go_wp2_with fail
  refine L.out.mono ?_;rintro e w2 ⟨rfl,D,G⟩;have K:=zh G;have J:Hid (zd (·=r) w w2):=I.out.tr D;clear D G L I
  go_wp2_with fail
  go_ret;have e:=d.out;subst e;exact ⟨rfl,J.out,K.out⟩
 | some p=>
  obtain ⟨v,b⟩:=p
  go_wp2_with fail
  refine z.out.mono ?_;rintro e w1 ⟨B,Q,-⟩;obtain ⟨rfl,E⟩:=Q v b rfl;have U:=zh E;have I:=zh B;clear B Q E z
  go_wp2_with fail
  go_ret;have e:=d.out;subst e;exact ⟨rfl,I.out,U.out⟩
def Bi (b:UInt8) (s:Rd):Bool:=decide (zr s≠0) && (s.1.head?==some b)
def BD (b:UInt8) (s:Rd):Rd:=if Bi b s=true then (s.1.tail,false) else s
theorem mByte_calls (b:UInt8) (w:World) (h:zW w r l s) (hl:l.length<=1000000000000):Calls Tryz.prog 123 #[.pointer (some ⟨r,0,none⟩),.int .u8 b.toNat] w fun e w'=>e=.returned (.bool (Bi b s))/\zd (·=r) w w'/\zW w' r l (BD b s):=by
 have HQ:=zh h;have D:=zh (mLeft_calls w h hl);obtain ⟨p,V,U⟩:=h;by_cases h0:zr s=0
 ·have Q:Hid (Bi b s=false):=by (show _=_);simp [Bi,h0]
  have HS:Hid (BD b s=s):=by (show _=_);unfold BD;rw [Q.out];rfl
  rw [h0] at D;clear V U h0;generalize Bi b s=B at Q⊢;generalize BD b s=S at HS⊢
  go_enter Tryz.func123,Tryz.ntmps123
  go_wp2_with fail
  refine D.out.mono ?_;rintro e w1 ⟨rfl,O⟩;have M:=zh O;clear O D
  go_wp2_with fail
  go_quiet (fail)
  go_wp2_with fail
  go_ret;have e:=Q.out;subst e;exact ⟨rfl,zd.of_ext (M.out.drewN _),by rw [HS.out];exact HQ.out.ext (M.out.drewN _)⟩
 ·obtain ⟨sl,bd⟩:=s
  cases bd with
  | true=>exact absurd rfl h0
  | false=>
   have J:=V.ok rfl;dsimp only at J U
   have hp:p<l.length:=by
    rcases Dv p l.length with h | h
    ·exact h
    ·exact absurd (by rw [J,List.drop_of_length_le h];rfl) h0
   have d:=List.drop_eq_getElem_cons hp;have HT:Hid (sl.tail=l.drop (p+1)):=by (show _=_);rw [J,d];rfl
   have I:Hid (Bi b (sl,false)=decide (l[p]=b)):=by
    (show _=_)
    unfold Bi;rw [Db h0,Bool.true_and];show (sl.head?==some b)=_;rw [J,d,List.head?_cons];by_cases K:l[p]=b
    ·simp [K]
    ·simp [K]
   have hI:∀h,(ByteArray.mk l.toArray)[p]'h=l[p]:=fun h=>get_at hp h
   have a5:(0:Int)<=(p:Int):=by omega
   have a6:(p:Int)<(l.length:Int):=by omega
   have b0:IntKind.i64.wrap ((p:Int)+1)=((p+1:Nat):Int):=by rw [Du];omega
   have Q:=zh U;obtain ⟨n,hn⟩:=DX (zr (sl,false));rw [<-hn] at D h0;have a8:((n:Int)==0)=false:=by rw [Dn];omega
   have a9:(n==0)=false:=by rw [Dn];omega
   clear hn V J d U;have E:Hid (BD b (sl,false)=if Bi b (sl,false)=true then (sl.tail,false) else (sl,false)):=rfl;obtain ⟨B,hB⟩:=DX (Bi b (sl,false));rw [<-hB] at I E⊢;generalize BD b (sl,false)=S at E⊢;have E:=E;clear hB
   go_enter Tryz.func123,Tryz.ntmps123
   go_wp2_with fail
   refine D.out.mono ?_;rintro e w1 ⟨rfl,O⟩;have z:=Q.out.ext O;have c0:=za.rule (z.cell (k:=0) rfl);have c1:=za.rule (z.cell (k:=1) rfl);have K:za w1 w1:=za.refl _;have z:=zh z;have M:=zh O;clear O D;by_cases o:l[p]=b
   ·have e1:(((l[p]).toNat:Int)==(b.toNat:Int))=true:=by rw [o];simp
    have e2:(((l[p]).toNat:Int) != (b.toNat:Int))=false:=by rw [o];simp
    have L:Hid (B=true):=by (show _=_);rw [I.out];simp [o]
    clear o I;go_upto_region 2 with fail;go_cut [22] (fun v wx=>v=.bool false/\Hid (za w1 wx))
    case first=>
     go_quiet (fail)
     go_wp2_with fail
     go_meet;exact ⟨rfl,K.drewN _⟩
    case rest=>
     obtain ⟨rfl,G⟩:=hcut;obtain ⟨wk,rfl⟩:∃W:World,W=wc:=⟨_,rfl⟩;clear K;have K:za w1 wk:=G.out;have yf:∀j,wk.frozen? ⟨r,j,none⟩=false:=fun j=>(z.out.ext K).frozen j
     go_wp2_with fail
     go_ret;have e:=L.out;subst e;refine ⟨rfl,Br (zd.of_ext (M.out.trans G.out)) r 1 _ rfl,?_⟩;rw [E.out,if_pos rfl];exact ⟨p+1,⟨by omega,fun _=>HT.out,fun h=>by cases h⟩,(z.out.ext G.out).set (k:=1) _⟩
   ·have e1:(((l[p]).toNat:Int)==(b.toNat:Int))=false:=by
     rw [Dn];intro e;exact o (UInt8.toNat_inj.1 (by omega))
    have e2:(((l[p]).toNat:Int) != (b.toNat:Int))=true:=by rw [bne,e1];rfl
    have L:Hid (B=false):=by (show _=_);rw [I.out];simp [o]
    clear o I;go_upto_region 2 with fail;go_cut [22] (fun v wx=>v=.bool true/\Hid (za w1 wx))
    case first=>
     go_quiet (fail)
     go_wp2_with fail
     go_meet;exact ⟨rfl,K.drewN _⟩
    case rest=>
     obtain ⟨rfl,G⟩:=hcut;obtain ⟨wk,rfl⟩:∃W:World,W=wc:=⟨_,rfl⟩;clear K
     go_wp2_with fail
     go_ret;have e:=L.out;subst e;exact ⟨rfl,zd.of_ext (M.out.trans G.out),by rw [E.out,if_neg (by decide)];exact HQ.out.ext (M.out.trans G.out)⟩
theorem byteB_left (h:Bi b s=true):zr s≠0/\s.1.head?=some b:=by
 unfold Bi at h;rw [Dm] at h;exact ⟨DU h.1,by simpa using h.2⟩
theorem byteB_no (h:Bi b s=false):zr s=0\/s.1.head?≠some b:=by
 by_cases h0:zr s=0
 ·exact .inl h0
 ·refine .inr fun e=>?_
  unfold Bi at h;rw [Db h0,e] at h;simp at h
theorem zW.blk (h:zW w r l s):∃cs,ze w r 128 cs:=by
 obtain ⟨p,-,h⟩:=h;exact ⟨_,h⟩
theorem intsF_done (h:zZ l0.length (l0,false) []=zZ s.1.length s acc) (d:Bi 93 s=true):intsE (zZ l0.length (l0,false) [])=(acc,(s.1.tail,false)):=by
 obtain ⟨h0,h1⟩:=byteB_left d;rw [h,elsF_stop (.inr h1)];unfold intsE;rw [if_neg h0]
theorem intsF_fail (h:zZ l0.length (l0,false) []=zZ s.1.length s acc) (h0:zr s=0):intsE (zZ l0.length (l0,false) [])=([],([],true)):=by
 rw [h,elsF_stop (.inl h0)];unfold intsE;rw [if_pos h0]
def qdSize (r:Nat) (l:List UInt8) (w:World):Nat:=match w.cell? ⟨r,1,none⟩ with
 | some (.int _ p)=>l.length - p.toNat
 | _=>0
theorem qdSize_of (h:zW w r l s) (o:s.2=false):qdSize r l w=s.1.length:=by
 obtain ⟨p,z,d⟩:=h;unfold qdSize;rw [d.cell (k:=1) rfl,z.ok o,List.length_drop];simp
theorem mRInts_calls (w:World) (h:zW w r l s) (hl:l.length<=1000000000000) (c8:s.1.length<=1000000000000):Calls Tryz.prog 86 #[.pointer (some ⟨r,0,none⟩)] w fun e w'=>∃v,e=.returned v/\zd (·=r) w w'/\zW w' r l (zy s).2/\zT w' w.heap.size v (zy s).1:=by
 have D:Hid (Calls Tryz.prog 123 #[.pointer (some ⟨r,0,none⟩),.int .u8 91] w fun e w'=>e=.returned (.bool (Bi 91 s))/\zd (·=r) w w'/\zW w' r l (BD 91 s)):=mByte_calls 91 w h hl;have d6:Hid (r<w.heap.size):=by obtain ⟨cs,hb⟩:=h.blk;exact zb hb
 go_enter Tryz.func86,Tryz.ntmps86
 cases z:Bi 91 s with
 | false=>
  have d:BD 91 s=s:=by unfold BD;rw [z];rfl
  rw [z,d] at D;have hI:Hid (zy s=([],([],true))):=by (show _=_);unfold zy;rw [if_pos (byteB_no z)]
  clear h c8 z d
  go_wp2_with fail
  refine D.out.mono ?_;rintro e w1 ⟨rfl,J,K⟩;have HF:=zh (mFail_calls w1 K);have HC:=zh J;clear J K D
  go_wp2_with fail
  refine HF.out.mono ?_;rintro e w2 ⟨rfl,b9,c7⟩;have O:=zh c7;have I:Hid (zd (·=r) w w2):=HC.out.tr b9;clear b9 c7 HF HC
  go_wp2_with fail
  go_ret;refine ⟨_,rfl,I.out,?_,?_⟩
  ·rw [hI.out];exact O.out
  ·rw [hI.out];exact World.ownsRow_nil _ _ _ _
 | true=>
  have d:BD 91 s=(s.1.tail,false):=by unfold BD;rw [z];rfl
  rw [z,d] at D;obtain ⟨h0,h1⟩:=byteB_left z;obtain ⟨l0,a1⟩:=DX s.1.tail
  have HI:Hid (zy s=intsE (zZ l0.length (l0,false) [])):=by
   (show _=_)
   unfold zy;rw [if_neg (fun q=>by rcases q with q | q;exact h0 q;exact q h1),a1]
  have e7:l0.length<=1000000000000:=by rw [a1,List.length_tail];omega
  rw [<-a1] at D;clear h c8 z d h0 h1 a1
  go_wp2_with fail
  refine D.out.mono ?_;rintro e w1 ⟨rfl,J,K⟩;have HC:=zh J;have HR:=zh K;clear J K D
  go_upto_block 0 with fail
  go_wp2_with fail
  go_loopw [3] (fun v wr=>∃s' acc,Hid (zZ l0.length (l0,false) []=zZ s'.1.length s' acc)/\s'.2=false/\Hid (zW wr r l s')/\Hid (zT wr w.heap.size v acc)/\Hid (zd (·=r) w wr)/\s'.1.length+acc.length<=l0.length/\∃A c,v=.slice A acc.length c) (fun _ wr=>qdSize r l wr)
  case atStart=>exact ⟨(l0,false),[],rfl,rfl,HR.out,World.ownsRow_nil _ _ _ _,HC.out,by simp,none,0,rfl⟩
  case round=>
   obtain ⟨s',acc,L,E,M,a5,a3,Q,A,c,rfl⟩:=hrel;obtain ⟨wk,rfl⟩:∃W:World,W=wr:=⟨_,rfl⟩;have G:Hid (Calls Tryz.prog 123 #[.pointer (some ⟨r,0,none⟩),.int .u8 93] wk fun e w'=>e=.returned (.bool (Bi 93 s'))/\zd (·=r) wk w'/\zW w' r l (BD 93 s')):=mByte_calls 93 wk M.out hl
   cases B:Bi 93 s' with
   | true=>
    have d:BD 93 s'=(s'.1.tail,false):=by unfold BD;rw [B];rfl
    rw [B,d] at G;have HN:Hid (zy s=(acc,(s'.1.tail,false))):=HI.out.trans (intsF_done L.out B);clear B d HI L
    go_wp2_with fail
    refine G.out.mono ?_;rintro e w2 ⟨rfl,J,K⟩;have I:Hid (zd (·=r) w w2):=a3.out.tr J
    have U:Hid (zT w2 w.heap.size (.slice A acc.length c) acc):=by
     obtain ⟨cs,hb⟩:=M.out.blk;exact own_chgR a5.out hb (by decide) J
    have O:=zh K;clear J K G
    go_wp2_with fail
    go_ret;refine ⟨_,rfl,I.out,?_,?_⟩
    ·rw [HN.out];exact O.out
    ·rw [HN.out];exact U.out
   | false=>
    have d:BD 93 s'=s':=by unfold BD;rw [B];rfl
    rw [B,d] at G;have b2:=zh B;clear B d
    go_wp2_with fail
    refine G.out.mono ?_;rintro e w2 ⟨rfl,J,K⟩;have I:Hid (zd (·=r) w w2):=a3.out.tr J
    have U:Hid (zT w2 w.heap.size (.slice A acc.length c) acc):=by
     obtain ⟨cs,hb⟩:=M.out.blk;exact own_chgR a5.out hb (by decide) J
    have O:=zh K;have a7:=zh (CL w2 K hl);obtain ⟨y,hy⟩:=DX (zw s');rw [<-hy] at a7;have HY:=zh hy;have d8:Hid (qdSize r l wk=s'.1.length):=qdSize_of M.out E;have e3:acc.length<=1000000000000:=by omega
    have b5:Hid (s'.1.length+acc.length<=l0.length):=Q;clear J K G hy a5 a3 M Q
    go_wp2_with fail
    refine a7.out.mono ?_;rintro e w3 ⟨rfl,a9,c0⟩
    have a6:Hid (zT w3 w.heap.size (.slice A acc.length c) acc):=by
     obtain ⟨cs,hb⟩:=O.out.blk;exact own_chgR U.out hb (by decide) a9
    have a4:=zh (I.out.tr a9);have b6:=zh c0;clear a9 c0 a7 U I;have a2:w.heap.size<=w3.heap.size:=a4.out.size
    go_wp2_with (at_builtin;refine Cf rfl _ _ rfl _ acc y.1 w.heap.size w3.heap.size 1 _ rfl rfl (a6.out.alloc _) ?d1 ?d2 ?d3 ?_)
    (try case d1=>exact zU _ _ _ (by simp))
    case d2=>(first | (simp;done) | (simp;omega) | omega)
    case d3=>omega
    intro v' w4 a0 c6 d9;have a8:Below w.heap.size w3 w4:=((Below.refl _ w3).alloc a2 _).grown c6.out (by simp;omega) (fun k hk=>(a6.out.lt k hk).1);have b3:Hid (zd (·=r) w w4):=chg_below a4.out a8;have V:Hid (zW w4 r l y.2):=b6.out.keep (a8.block r d6.out);have d4:=zh (Cx w4 V.out);obtain ⟨A4,c4,rfl,-⟩:=Az a0;rw [Dh,Dx] at a0;have d7:=zh a0;clear a0 c6 d9 a8 a4 b6 a6 a2
    go_wp2_with fail
    refine d4.out.mono ?_;rintro e w5 ⟨rfl,rfl⟩
    cases o:y.2.2 with
    | true=>
     have HN:Hid (zy s=([],([],true))/\y.2=([],true)):=by
      have h1:y.2=([],true):=by
       have h2:y.2.1=[]:=by rw [HY.out] at o⊢;exact intF_nil s' o
       rw [<-h2,<-o]
      refine ⟨?_,h1⟩;rw [HI.out];by_cases h0:zr s'=0
      ·exact intsF_fail L.out h0
      ·refine intsF_fail (acc:=acc++[y.1]) (s:=y.2) (L.out.trans ?_) (by rw [h1];rfl);rw [HY.out];exact elsF_step h0 (fun q=>by rcases byteB_no b2.out with h | h;exact h0 h;exact h q)
     clear o
     go_wp2_with fail
     go_ret;refine ⟨_,rfl,b3.out,?_,?_⟩
     ·rw [HN.out.1,<-HN.out.2];exact V.out
     ·rw [HN.out.1];exact World.ownsRow_nil _ _ _ _
    | false=>
     have h0:zr s'≠0:=fun h=>by
      have h1:s'.1=[]:=by unfold zr at h;rw [E] at h;simpa using h
      have h2:(zw s').2.2=true:=by obtain ⟨a,b⟩:=s';dsimp only at h1 E;subst h1 E;rfl
      rw [<-HY.out,o] at h2;cases h2
     have b4:Hid (zZ l0.length (l0,false) []=zZ y.2.1.length y.2 (acc++[y.1])):=by
      refine L.out.trans ?_;rw [HY.out];exact elsF_step h0 (fun q=>by rcases byteB_no b2.out with h | h;exact h0 h;exact h q)
     have e4:y.2.1.length<s'.1.length:=by rw [HY.out] at o⊢;exact (AW s').2 o
     have b8:=zh o;have Q:=b5.out;clear o h0
     go_wp2_with fail
     go_roundw
     case rel=>exact ⟨y.2,acc++[y.1],b4,b8.out,V,d7,b3,by simp;omega,A4,c4,by simp⟩
     case measure=>rw [qdSize_of V.out b8.out,d8.out];omega
end
section
open Go.RowKit Go.Shelf
attribute [local go_sem ↓] Go.wp_at_zero Go.wp_at_succ
attribute [local go_sem] Oper.semAt_some
theorem venc_calls:∀(N:Nat) {ok:Nat->Prop} {v:Value} {p:PT} (w:World),zV w ok v p->p.size<=N->p.Ok->(zI p).length<=9223372036854775000->
  Calls Tryz.prog 15 #[v] w fun e w'=>e=.returned (.string ⟨(zI p).toArray⟩)/\za w w'
 | 0,ok,v,.node t s ks,w,h,hN,_,_=>by unfold PT.size at hN;omega
 | N+1,ok,v,.node t s ks,w,h,hN,hl,hL=>by
  have IH:Hid (∀(ok:Nat->Prop) (v:Value) (p:PT) (w:World),zV w ok v p->p.size<=N->p.Ok->(zI p).length<=9223372036854775000->Calls Tryz.prog 15 #[v] w fun e w'=>e=.returned (.string ⟨(zI p).toArray⟩)/\za w w'):=fun ok v p w=>venc_calls N w
  cases h with
  | mk hs hk he=>
   rename_i vs vk cs
   have HS:=zh hs;obtain ⟨As,cs',rfl,-,-⟩:=hs;obtain ⟨Ak,ck,rfl,f0,b3⟩:=hk;have b9:=zh b3;have b6:=zh he;unfold PT.Ok at hl;obtain ⟨a7,a8,a9,f1,b0⟩:=hl;have b8:=zh (okL_mem b0);have c0:Hid (∀k∈ks,(zI k).length<=(zC ks).length/\k.size<=PT.sizeL ks):=encP_mem;unfold PT.size at hN;unfold zI at hL⊢;obtain ⟨x1,L⟩:∃x,x=wI t:=⟨_,rfl⟩;obtain ⟨x2,M⟩:∃x,x=wL s:=⟨_,rfl⟩;obtain ⟨x3,O⟩:∃x,x=wI (ks.length:Nat):=⟨_,rfl⟩;rw [<-L,<-M,<-O] at hL⊢;have H1:Hid (∀W,za w W->Calls Tryz.prog 38 #[.int .i64 t] W fun e w'=>e=.returned (.string ⟨x1.toArray⟩)/\za W w'):=fun W hW=>by rw [L];exact mInt_calls W a7
   have H2:Hid (∀W,za w W->Calls Tryz.prog 39 #[.slice As s.length cs'] W fun e w'=>e=.returned (.string ⟨x2.toArray⟩)/\za W w'):=fun W hW=>by rw [M];exact mInts_calls W (HS.out.below hW) a8 a9
   have H3:Hid (∀W,za w W->Calls Tryz.prog 38 #[.int .i64 (ks.length:Nat)] W fun e w'=>e=.returned (.string ⟨x3.toArray⟩)/\za W w'):=fun W hW=>by rw [O];exact mInt_calls W ⟨by omega,by omega⟩
   obtain ⟨xs,B⟩:=DX (x1++(x2++x3));rw [List.append_assoc x1 x2 x3,<-B] at hL⊢;have d7:xs.length=x1.length+(x2.length+x3.length):=by rw [B];simp
   simp only [Dh] at hL;have a1:∀w,(Op.stringOp .add ⟨x1.toArray⟩ ⟨x2.toArray⟩).run Tryz.prog w=.ok (.string ⟨(x1++x2).toArray⟩) w:=fun w=>Ab (by omega)
   have a2:∀w,(Op.stringOp .add ⟨(x1++x2).toArray⟩ ⟨x3.toArray⟩).run Tryz.prog w=.ok (.string ⟨xs.toArray⟩) w:=fun w=>by rw [B,<-List.append_assoc];exact Ab (by simp;omega)
   have HL:Hid (xs.length+(zC ks).length<=9223372036854775000):=hL;clear b3 he b0 L M O a7 a8 a9 hL B d7
   go_enter Tryz.func15,Tryz.ntmps15
   go_upto_region 1 with fail;obtain ⟨E,p0,p1,p2⟩:=box3 w (.int .i64 t) (.slice As s.length cs') (.slice Ak ks.length ck);generalize w.alloc _=w1 at E p0 p1 p2⊢;obtain ⟨gp,a6⟩:=DX w.heap.size;rw [<-a6] at p0 p1 p2⊢;have d:=zh E;have hx:za w1 w1:=za.refl w1;clear E a6;refine Dp (S:=(fun W=>za w1 W)) An (hx.drew) fun zH=>?_;have a5:za w1 w1.drew:=zH;generalize w1.drew=wd at zH a5⊢;refine zj 0 zH ?_;refine zj 1 zH ?_;simp only [zc,CV];refine zj 3 zH ?_;refine zj 4 zH ?_;simp only [zc,CV];refine zj 7 zH ?_;refine zj 8 zH ?_;simp only [zc,CV];refine zj 9 zH ?_;simp only [zc,CV];refine Aa 2 fun K D=>?_;go_simp;go_at_call 38;refine (H1.out _ (d.out.trans zH)).mono ?_;rintro e w2 ⟨rfl,c8⟩;go_simp;refine DY D (zH.trans c8) fun zH=>?_;clear D K;try simp only [zc,CV]
   refine Aa 5 fun K D=>?_;go_simp;go_at_call 39;refine (H2.out _ (d.out.trans zH)).mono ?_;rintro e w3 ⟨rfl,c9⟩;go_simp;refine DY D (zH.trans c9) fun zH=>?_;clear D K;try simp only [zc,CV]
   refine zj 6 zH ?_;simp only [zc,CV];refine Aa 10 fun K D=>?_;go_simp;go_at_call 38;refine (H3.out _ (d.out.trans zH)).mono ?_;rintro e w4 ⟨rfl,d4⟩;go_simp;refine DY D (zH.trans d4) fun zH=>?_;clear D K;try simp only [zc,CV]
   refine zj 11 zH ?_;refine zj 12 zH ?_;simp only [zc,CV];refine DB (by kernel_rfl) ?_ _;have a3:=zh zH;clear a1 a2 H1 H2 H3
   go_wp2_with fail
   clear zH a5 hx;go_loopw [3,4] (fun n i wr=>∃k:Nat,k<=ks.length/\i=.int .i64 k/\n=.string ⟨(xs++zC (ks.take k)).toArray⟩/\Hid (za w1 wr)) (fun _ i _=>ks.length - (intOf i).toNat)
   case atStart=>exact ⟨0,Do _,rfl,by simp [zC],a3.out⟩
   clear a3
   case round=>
    obtain ⟨k,hk,rfl,rfl,hE⟩:=hrel;obtain ⟨wk,rfl⟩:∃wk:World,wk=wr:=⟨_,rfl⟩;have hx:za w1 wk:=hE.out;by_cases o:k<ks.length
    ·have e7:(k:Int)<(ks.length:Int):=by omega
     have kk0:(0:Int)<=(k:Int):=by omega
     obtain ⟨b,off,rfl,h0,h1,h2⟩:=kidsAt b9.out o;have q0:=za.rule (d.out.cell h0);have q1:=za.rule (d.out.cell h1);have q2:=za.rule (d.out.cell h2);have z:=b6.out k o;obtain ⟨A1,c1,A2,c2,e,-⟩:=z.form;obtain ⟨v0,G⟩:∃v,v=cs.getD (k*3) undef:=⟨_,rfl⟩;obtain ⟨v1,I⟩:∃v,v=cs.getD (k*3+1) undef:=⟨_,rfl⟩;obtain ⟨v2,J⟩:∃v,v=cs.getD (k*3+2) undef:=⟨_,rfl⟩;rw [<-G,<-I,<-J] at z e;rw [<-G] at q0;rw [<-I] at q1;rw [<-J] at q2;injection e with e;have e0:=congrArg (fun a:Array Value=>a[0]?) e;have e1:=congrArg (fun a:Array Value=>a[1]?) e;have e2:=congrArg (fun a:Array Value=>a[2]?) e;simp at e0 e1 e2;subst e0 e1 e2;have b2:=c0.out _ (CZ o);have HK:Hid (∀W,za w W->Calls Tryz.prog 15 #[_] W fun e w'=>e=.returned (.string ⟨(zI ks[k]).toArray⟩)/\za W w'):=fun W hW=>IH.out _ _ _ W (z.ext hW) (by omega) (b8.out _ (CZ o)) (by have:=HL.out;omega)
     have V:Hid (xs++zC (ks.take (k+1))=(xs++zC (ks.take k))++zI ks[k]):=by (show _=_);rw [BR o,List.append_assoc]
     have b1:=encPs_le ks (k+1);rw [BR o,Dh] at b1;have d5:=HL.out;obtain ⟨y1,Q⟩:∃y,y=xs++zC (ks.take k):=⟨_,rfl⟩;obtain ⟨y2,U⟩:∃y,y=zI ks[k]:=⟨_,rfl⟩;have ha:∀w,(Op.stringOp .add ⟨y1.toArray⟩ ⟨y2.toArray⟩).run Tryz.prog w=.ok (.string ⟨(y1++y2).toArray⟩) w:=fun w=>Ab (by rw [Q,U,Dh];omega)
     rw [<-Q] at V⊢;rw [<-U] at V HK;have c6:Hid (za w wk):=d.out.trans hx;clear Q U d5 b1 b2 z e G I J h0 h1 h2
     go_wp2_with fail
     refine (HK.out _ c6.out).mono ?_;rintro e w5 ⟨rfl,a4⟩;have b4:Hid (za w1 w5):=hx.trans a4;clear a4 hx HK q0 q1 q2
     go_wp2_with fail
     go_roundw
     case rel=>exact ⟨k+1,by omega,by go_num,by rw [V.out],b4⟩
     case measure=>simp [intOf];omega
    ·obtain rfl:k=ks.length:=by omega
     have b5:Hid (za w wk):=d.out.trans hE.out;have V:Hid (xs++zC (ks.take ks.length)=xs++zC ks):=by (show _=_);rw [Dl]
     rw [V.out];clear V hE
     go_wp2_with fail
     go_ret;exact ⟨rfl,b5.out⟩
end
section
open Go.RowKit
theorem find_at {p:Nat->Bool} {c n:Nat} (B:i<n) (hp:p (c+i)=true) (o:∀j,j<i->p (c+j)=false):((List.range n).map (c+·)).find? p=some (c+i):=by
 have h:List.range n=List.range i++([i]++(List.range (n - i - 1)).map (i+1+·)):=by
  have h1:n=(i+1)+(n - i - 1):=by omega
  conv=>lhs;rw [h1,List.range_add,List.range_succ,List.append_assoc]
 rw [h,List.map_append,List.find?_append]
 have h0:((List.range i).map (c+·)).find? p=none:=by
  rw [List.find?_eq_none];intro x z;obtain ⟨j,d,rfl⟩:=DQ.1 z;rw [o j (DR.1 d)];simp
 rw [h0];simp [hp]
theorem find_no {p:Nat->Bool} {c n:Nat} (o:∀j,j<n->p (c+j)=false):((List.range n).map (c+·)).find? p=none:=by
 rw [List.find?_eq_none];intro x z;obtain ⟨j,d,rfl⟩:=DQ.1 z;rw [o j (DR.1 d)];simp
theorem cutT_at (h0:zD m ch<=t) (h1:t<m.tasks.length) (hp:offB m ch t=true) (d:∀j,zD m ch<=j->j<t->offB m ch j=false):cutT m ch=some t:=by
 unfold cutT;have:=find_at (p:=offB m ch) (c:=zD m ch) (n:=m.tasks.length - zD m ch) (i:=t - zD m ch) (by omega) (by rw [show zD m ch+(t - zD m ch)=t from by omega];exact hp) (fun j o=>d _ (by omega) (by omega));rw [this,show zD m ch+(t - zD m ch)=t from by omega]
theorem cutT_no (d:∀j,zD m ch<=j->j<m.tasks.length->offB m ch j=false):cutT m ch=none:=by
 unfold cutT;exact find_no fun j o=>d _ (by omega) (by omega)
theorem proveP_end (h:m.tasks.length<=zD m ch):zn m (f+1) ch k=(51,.zero,k):=by
 conv=>lhs;unfold zn
 rw [if_pos h]
theorem proveP_many (h:¬ m.tasks.length<=zD m ch) (d:3000<k+1):zn m (f+1) ch k=(53,.zero,k+1):=by
 conv=>lhs;unfold zn
 rw [if_neg h,if_pos d]
theorem proveP_cut (h:¬ m.tasks.length<=zD m ch) (o:¬ 3000<k+1) (d:cutT m ch=some t):zn m (f+1) ch k=(0,.node t (BE m ch t) [],k+1):=by
 conv=>lhs;unfold zn
 rw [if_neg h,if_neg o,d]
theorem proveP_kids (h:¬ m.tasks.length<=zD m ch) (o:¬ 3000<k+1) (d:cutT m ch=none):zn m (f+1) ch k=if (zF (fun n k=>zn m f (ch++[n]) k) (zP m ch) (k+1) []).1=0 then (0,.node (zD m ch) [] (zF (fun n k=>zn m f (ch++[n]) k) (zP m ch) (k+1) []).2.1,(zF (fun n k=>zn m f (ch++[n]) k) (zP m ch) (k+1) []).2.2) else ((zF (fun n k=>zn m f (ch++[n]) k) (zP m ch) (k+1) []).1,.zero,(zF (fun n k=>zn m f (ch++[n]) k) (zP m ch) (k+1) []).2.2):=by
 conv=>lhs;unfold zn
 rw [if_neg h,if_neg o,d]
theorem Cw {f:Int->Nat->Int×PT×Nat} {l:List Int} {acc:List PT} (h:(f n k).1=0):zF f (n :: l) k acc=zF f l (f n k).2.2 (acc++[(f n k).2.1]):=by
 conv=>lhs;unfold zF
 rw [if_pos h]
theorem kidsR_stop {f:Int->Nat->Int×PT×Nat} {l:List Int} {acc:List PT} (h:(f n k).1≠0):zF f (n :: l) k acc=((f n k).1,[],(f n k).2.2):=by
 conv=>lhs;unfold zF
 rw [if_neg h]
end
end Go.Proofs.YtcnaogdgjkpkmaaGreatDoor
