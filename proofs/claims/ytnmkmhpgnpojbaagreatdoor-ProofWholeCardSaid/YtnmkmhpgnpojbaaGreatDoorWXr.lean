import Derived.Test.YtnmkmhpgnpojbaaGreatDoorWXq
import Derived.StillTailTactics
set_option linter.unusedVariables false
set_option linter.unusedSimpArgs false
set_option maxRecDepth 100000
set_option maxHeartbeats 16000000
namespace Go.Proofs.YtnmkmhpgnpojbaaGreatDoor
variable {cs:Array Value} {x:Int} {ch s:List Int} {m:MZ} {g k:Nat}
section
open Go.RowKit
attribute [local go_sem ↓] Go.wp_at_zero Go.wp_at_succ
theorem box3 (w:World) (a0 a1 a2:Value):zb w (w.alloc (.cells #[a0,a1,a2] 41))/\
  (∀W,zb (w.alloc (.cells #[a0,a1,a2] 41)) W->W.cell? ⟨w.heap.size,0,none⟩=some a0)/\(∀W,zb (w.alloc (.cells #[a0,a1,a2] 41)) W->W.cell? ⟨w.heap.size,1,none⟩=some a1)/\(∀W,zb (w.alloc (.cells #[a0,a1,a2] 41)) W->W.cell? ⟨w.heap.size,2,none⟩=some a2):=by
 have d:=ze.new w #[a0,a1,a2] 41 rfl;exact ⟨(zb.refl w).alloc _,zb.rule (d.cell (k:=0) rfl),zb.rule (d.cell (k:=1) rfl),zb.rule (d.cell (k:=2) rfl)⟩
def Cv (N:Int) (tg s:List Int) (i:Nat):Prop:=0<=s.getD i 0/\s.getD i 0<N/\(0<i->s.getD (i - 1) 0<s.getD i 0)/\s.getD i 0∉tg
theorem incB_iff {N:Int}:∀{l:List Int} {b:Int},incB N b l=true↔∀i,i<l.length->(b :: l).getD i 0<l.getD i 0/\l.getD i 0<N
 | [],b=>by simp [incB]
 | x :: l,b=>by
  unfold incB;rw [DD,DD,DB,DB,incB_iff];constructor
  ·rintro ⟨o,z,D⟩ i d
   cases i with
   | zero=>exact ⟨by simpa using o,by simpa using z⟩
   | succ i=>simpa using D i (by simpa using d)
  ·intro h;refine ⟨by simpa using (h 0 (by simp)).1,by simpa using (h 0 (by simp)).2,fun i d=>?_⟩;simpa using h (i+1) (by simpa using d)
theorem side_iff {N:Int} {tg:List Int}:(incB N (-1) s && !(s.any fun n=>decide (n∈tg)))=true↔∀i,i<s.length->Cv N tg s i:=by
 rw [DD,incB_iff,Bool.not_eq_true',<-Bool.not_eq_true,Eu];constructor
 ·rintro ⟨z,G⟩ i d;have o:s.getD i 0∈s:=by rw [Dp,Do d];exact Dr d
  have D:∀j,j<s.length->0<=s.getD j 0:=by
   intro j
   induction j with
   | zero=>intro E;have:=(z 0 E).1;simp at this⊢;omega
   | succ j ih=>intro E;have:=(z (j+1) E).1;have K:=ih (by omega);rw [List.getD_cons_succ] at this;omega
  refine ⟨D i d,(z i d).2,fun h0=>?_,fun h=>G ⟨_,o,by simpa using h⟩⟩;have:=(z i d).1;obtain ⟨j,rfl⟩:∃j,i=j+1:=⟨i - 1,by omega⟩;rw [List.getD_cons_succ] at this;simpa using this
 ·intro h;refine ⟨fun i d=>⟨?_,(h i d).2.1⟩,?_⟩
  ·cases i with
   | zero=>have:=(h 0 d).1;simp at this⊢;omega
   | succ j=>have:=(h (j+1) d).2.2.1 (by omega);rw [List.getD_cons_succ];simpa using this
  ·rintro ⟨x,J,I⟩;obtain ⟨i,d,rfl⟩:=DX J;refine (h i d).2.2.2 ?_;rw [Dp,Do d];simpa using I
theorem nextO_len (m:MZ) (x:Int):(BK m x).length<=6:=by
 unfold BK
 split
 ·exact CB m x
 ·simp
theorem nextO_rng (g:zE m) {y:Int} (h:y∈BK m x):0<=y/\y<m.n:=by
 unfold BK at h
 split at h
 ·next d=>exact Ba g.dim d.2.1 d.2.2 h
 ·cases h
theorem headP_le {t:Nat} (d:Lens m) (ht:t<m.tasks.length):(zZ m ch t).length<=20000000000000:=by
 unfold zZ
 split
 ·cases ((zp m ch).getD t []).getLast? <;> simp
 ·refine Dt (DU _ _) ?_;rw [Dp,Do ht];have:=(d.tl _ (Dr ht)).1;show (m.tasks[t]).1.length<=_;omega
end
section
open Go.RowKit
attribute [local go_sem ↓] Go.wp_at_zero Go.wp_at_succ
attribute [local go_sem] Oper.semAt_some
mutual
def PT.Lens:PT->Prop
 | .node _ s ks=>s.length<=20000000000000/\ks.length<=20000000000000/\PT.LensL ks
def PT.LensL:List PT->Prop
 | []=>True
 | k :: ks=>k.Lens/\PT.LensL ks
end
theorem lensL_mem:∀{ks:List PT},PT.LensL ks->∀k∈ks,k.Lens
 | [],_,k,hk=>by cases hk
 | a :: ks,h,k,hk=>by
  unfold PT.LensL at h;rcases Ef.1 hk with rfl | hk
  ·exact h.1
  ·exact lensL_mem h.2 k hk
theorem size_mem:∀{ks:List PT},∀k∈ks,k.size<=PT.sizeL ks
 | [],k,hk=>by cases hk
 | a :: ks,k,hk=>by
  unfold PT.sizeL;rcases Ef.1 hk with rfl | hk
  ·omega
  ·have:=size_mem k hk;omega
theorem kidsAt {w:World} {ok:Nat->Prop} {A:Option Addr} {n:Nat} {cs:List Value} (h:AI w ok 3 A n cs) (D:k<n):∃b off,A=some ⟨b,off,none⟩/\w.cell? ⟨b,off+k*3,none⟩=some (cs.getD (k*3) undef)/\w.cell? ⟨b,off+k*3+1,none⟩=some (cs.getD (k*3+1) undef)/\w.cell? ⟨b,off+k*3+2,none⟩=some (cs.getD (k*3+2) undef):=by
 obtain ⟨E,d⟩:=h;obtain ⟨b,off,rfl,-,d⟩:=d (by omega);have o:∀j,j<cs.length->cs[j]?=some (cs.getD j undef):=fun j z=>by rw [Do z,Dp,Do z];rfl
 exact ⟨b,off,rfl,d _ _ (o _ (by omega)),by rw [Nat.add_assoc];exact d _ _ (o _ (by omega)),by rw [Nat.add_assoc];exact d _ _ (o _ (by omega))⟩
theorem holdsT_node {t:Int} {ks:List PT} (h:¬ m.tasks.length<=zO m ch):AE m (.node t s ks) ch=if t≠zO m ch\/s≠[] then cutB m ch t s ks.length else AA m ks ch (zQ m ch):=by
 unfold AE;rw [if_neg h]
theorem holdsL_len {m:MZ} {ch:List Int}:∀{ks:List PT} {l:List Int},ks.length≠l.length->AA m ks ch l=false
 | [],[],h=>absurd rfl h
 | k :: ks,n :: l,h=>by
  unfold AA;rw [holdsL_len (by simpa using h),Bool.and_false]
 | [],_ :: _,_=>by unfold AA;rfl
 | _ :: _,[],_=>by unfold AA;rfl
theorem holdsL_drop {ks:List PT} {l:List Int} (d:k<ks.length) (o:k<l.length):AA m (ks.drop k) ch (l.drop k)=(AE m ks[k] (ch++[l[k]]) && AA m (ks.drop (k+1)) ch (l.drop (k+1))):=by
 rw [List.drop_eq_getElem_cons d,List.drop_eq_getElem_cons o]
 conv=>lhs;unfold AA
theorem holdsT_done {p:PT} (h:m.tasks.length<=zO m ch):AE m p ch=false:=by
 cases p
 unfold AE;rw [if_pos h]
end
section
open Go.RowKit Go.Shelf
attribute [local go_sem ↓] Go.wp_at_zero Go.wp_at_succ
attribute [local go_sem] Oper.semAt_some
mutual
def encP:PT->List UInt8
 | .node t s ks=>(wI t++wL s)++wI (ks.length:Nat)++AX ks
def AX:List PT->List UInt8
 | []=>[]
 | k :: ks=>encP k++AX ks
end
mutual
def PT.Ok:PT->Prop
 | .node t s ks=>I64 t/\(∀x∈s,I64 x)/\s.length<=1000000000000/\ks.length<=1000000000000/\PT.OkL ks
def PT.OkL:List PT->Prop
 | []=>True
 | k :: ks=>k.Ok/\PT.OkL ks
end
theorem okL_mem:∀{ks:List PT},PT.OkL ks->∀k∈ks,k.Ok
 | [],_,k,hk=>by cases hk
 | a :: ks,h,k,hk=>by
  unfold PT.OkL at h;rcases Ef.1 hk with rfl | hk
  ·exact h.1
  ·exact okL_mem h.2 k hk
theorem encPs_take:∀{ks:List PT} {k:Nat} (d:k<ks.length),AX (ks.take (k+1))=AX (ks.take k)++encP ks[k]
 | a :: ks,0,_=>by simp [AX]
 | a :: ks,k+1,d=>by
  have h:=encPs_take (ks:=ks) (k:=k) (by simpa using d);simp only [List.take_succ_cons,AX,List.getElem_cons_succ,h,List.append_assoc]
theorem encPs_le:∀(ks:List PT) (k:Nat),(AX (ks.take k)).length<=(AX ks).length
 | [],k=>by simp
 | a :: ks,0=>by simp [AX]
 | a :: ks,k+1=>by
  have h:=encPs_le ks k;simp only [List.take_succ_cons,AX,Dz];omega
theorem encP_mem:∀{ks:List PT},∀k∈ks,(encP k).length<=(AX ks).length/\k.size<=PT.sizeL ks
 | [],k,hk=>by cases hk
 | a :: ks,k,hk=>by
  simp only [AX,PT.sizeL,Dz];rcases Ef.1 hk with rfl | hk
  ·omega
  ·have:=encP_mem k hk;omega
theorem enc_calls:∀(N:Nat) {ok:Nat->Prop} {v:Value} {p:PT} (w:World),zM w->Bn w ok v p->p.size<=N->p.Ok->(encP p).length<=9223372036854775000->
  Calls Tryz.prog 22 #[v] w fun e w'=>e=.returned (.string ⟨(encP p).toArray⟩)/\zb w w'
 | 0,ok,v,.node t s ks,w,_,h,hN,_,_=>by unfold PT.size at hN;omega
 | N+1,ok,v,.node t s ks,w,hv,h,hN,hl,hL=>by
  have IH:Hid (∀(ok:Nat->Prop) (v:Value) (p:PT) (w:World),zM w->Bn w ok v p->p.size<=N->p.Ok->(encP p).length<=9223372036854775000->Calls Tryz.prog 22 #[v] w fun e w'=>e=.returned (.string ⟨(encP p).toArray⟩)/\zb w w'):=fun ok v p w=>enc_calls N w
  cases h with
  | mk hs hk he=>
   rename_i vs vk cs
   have HS:=zh hs;obtain ⟨As,cs',rfl,-,-⟩:=hs;obtain ⟨Ak,ck,rfl,f6,b5⟩:=hk;have c7:=zh b5;have b9:=zh he;have HV:=zh hv;unfold PT.Ok at hl;obtain ⟨a9,b0,b1,f7,b2⟩:=hl;have c6:=zh (okL_mem b2);have c8:Hid (∀k∈ks,(encP k).length<=(AX ks).length/\k.size<=PT.sizeL ks):=encP_mem;unfold PT.size at hN;unfold encP at hL⊢;obtain ⟨x1,Q⟩:∃x,x=wI t:=⟨_,rfl⟩;obtain ⟨x2,U⟩:∃x,x=wL s:=⟨_,rfl⟩;obtain ⟨x3,V⟩:∃x,x=wI (ks.length:Nat):=⟨_,rfl⟩;rw [<-Q,<-U,<-V] at hL⊢;have H1:Hid (∀W,zb w W->Calls Tryz.prog 70 #[.int .i64 t] W fun e w'=>e=.returned (.string ⟨x1.toArray⟩)/\zb W w'):=fun W hW=>by rw [Q];exact wInt_calls W (HV.out.ext hW) a9
   have H2:Hid (∀W,zb w W->Calls Tryz.prog 71 #[.slice As s.length cs'] W fun e w'=>e=.returned (.string ⟨x2.toArray⟩)/\zb W w'):=fun W hW=>by rw [U];exact wireInts_calls W (HV.out.ext hW) (HS.out.below hW) b0 b1
   have H3:Hid (∀W,zb w W->Calls Tryz.prog 70 #[.int .i64 (ks.length:Nat)] W fun e w'=>e=.returned (.string ⟨x3.toArray⟩)/\zb W w'):=fun W hW=>by rw [V];exact wInt_calls W (HV.out.ext hW) ⟨by omega,by omega⟩
   obtain ⟨xs,D⟩:=Ez (x1++(x2++x3));rw [List.append_assoc x1 x2 x3,<-D] at hL⊢;have e3:xs.length=x1.length+(x2.length+x3.length):=by rw [D];simp
   simp only [Dz] at hL;have a1:∀w,(Op.stringOp .add ⟨x1.toArray⟩ ⟨x2.toArray⟩).run Tryz.prog w=.ok (.string ⟨(x1++x2).toArray⟩) w:=fun w=>add_str (by omega)
   have a2:∀w,(Op.stringOp .add ⟨(x1++x2).toArray⟩ ⟨x3.toArray⟩).run Tryz.prog w=.ok (.string ⟨xs.toArray⟩) w:=fun w=>by rw [D,<-List.append_assoc];exact add_str (by simp;omega)
   have HL:Hid (xs.length+(AX ks).length<=9223372036854775000):=hL;clear b5 he b2 hv Q U V a9 b0 b1 hL D e3
   go_enter Tryz.func22,Tryz.ntmps22
   go_upto_region 1 with fail;obtain ⟨G,p0,p1,p2⟩:=box3 w (.int .i64 t) (.slice As s.length cs') (.slice Ak ks.length ck);generalize w.alloc _=w1 at G p0 p1 p2⊢;obtain ⟨gp,a8⟩:=Ez w.heap.size;rw [<-a8] at p0 p1 p2⊢;have d:=zh G;have O:zb w1 w1:=zb.refl w1;clear G a8;refine DH (S:=(fun W=>zb w1 W)) AB (O.drew) fun zH=>?_;have a7:zb w1 w1.drew:=zH;generalize w1.drew=wd at zH a7⊢;refine zo 0 zH ?_;refine zo 1 zH ?_;simp only [zc,Dn];refine zo 3 zH ?_;refine zo 4 zH ?_;simp only [zc,Dn];refine zo 7 zH ?_;refine zo 8 zH ?_;simp only [zc,Dn];refine zo 9 zH ?_;simp only [zc,Dn];refine zK 2 fun K E=>?_;go_simp;go_at_call 70;refine (H1.out _ (d.out.trans zH)).mono ?_;rintro e w2 ⟨rfl,d5⟩;go_simp;refine EA E (zH.trans d5) fun zH=>?_;clear E K;try simp only [zc,Dn]
   refine zK 5 fun K E=>?_;go_simp;go_at_call 71;refine (H2.out _ (d.out.trans zH)).mono ?_;rintro e w3 ⟨rfl,d6⟩;go_simp;refine EA E (zH.trans d6) fun zH=>?_;clear E K;try simp only [zc,Dn]
   refine zo 6 zH ?_;simp only [zc,Dn];refine zK 10 fun K E=>?_;go_simp;go_at_call 70;refine (H3.out _ (d.out.trans zH)).mono ?_;rintro e w4 ⟨rfl,d7⟩;go_simp;refine EA E (zH.trans d7) fun zH=>?_;clear E K;try simp only [zc,Dn]
   refine zo 11 zH ?_;refine zo 12 zH ?_;simp only [zc,Dn];refine DV (by kernel_rfl) ?_ _;have a5:=zh zH;clear a1 a2 H1 H2 H3
   go_wp2_with fail
   clear zH a7 O;go_loopw [3,21] (fun n i wr=>∃k:Nat,k<=ks.length/\i=.int .i64 k/\n=.string ⟨(xs++AX (ks.take k)).toArray⟩/\Hid (zb w1 wr)) (fun _ i _=>ks.length - (intOf i).toNat)
   case atStart=>exact ⟨0,DF _,rfl,by simp [AX],a5.out⟩
   clear a5
   case round=>
    obtain ⟨k,hk,rfl,rfl,hE⟩:=hrel;obtain ⟨wk,rfl⟩:∃wk:World,wk=wr:=⟨_,rfl⟩;have O:zb w1 wk:=hE.out;by_cases o:k<ks.length
    ·have f2:(k:Int)<(ks.length:Int):=by omega
     have kk0:(0:Int)<=(k:Int):=by omega
     obtain ⟨b,off,rfl,h0,h1,h2⟩:=kidsAt c7.out o;have q0:=zb.rule (d.out.cell h0);have q1:=zb.rule (d.out.cell h1);have q2:=zb.rule (d.out.cell h2);have z:=b9.out k o;obtain ⟨A1,c1,A2,c2,e,-⟩:=z.form;obtain ⟨v0,I⟩:∃v,v=cs.getD (k*3) undef:=⟨_,rfl⟩;obtain ⟨v1,J⟩:∃v,v=cs.getD (k*3+1) undef:=⟨_,rfl⟩;obtain ⟨v2,M⟩:∃v,v=cs.getD (k*3+2) undef:=⟨_,rfl⟩;rw [<-I,<-J,<-M] at z e;rw [<-I] at q0;rw [<-J] at q1;rw [<-M] at q2;injection e with e;have e0:=congrArg (fun a:Array Value=>a[0]?) e;have e1:=congrArg (fun a:Array Value=>a[1]?) e;have e2:=congrArg (fun a:Array Value=>a[2]?) e;simp at e0 e1 e2;subst e0 e1 e2;have b4:=c8.out _ (Dr o);have HK:Hid (∀W,zb w W->Calls Tryz.prog 22 #[_] W fun e w'=>e=.returned (.string ⟨(encP ks[k]).toArray⟩)/\zb W w'):=fun W hW=>IH.out _ _ _ W (HV.out.ext hW) (z.ext hW) (by omega) (c6.out _ (Dr o)) (by have:=HL.out;omega)
     have HT:Hid (xs++AX (ks.take (k+1))=(xs++AX (ks.take k))++encP ks[k]):=by (show _=_);rw [encPs_take o,List.append_assoc]
     have b3:=encPs_le ks (k+1);rw [encPs_take o,Dz] at b3;have d8:=HL.out;obtain ⟨y1,a0⟩:∃y,y=xs++AX (ks.take k):=⟨_,rfl⟩;obtain ⟨y2,a3⟩:∃y,y=encP ks[k]:=⟨_,rfl⟩;have ha:∀w,(Op.stringOp .add ⟨y1.toArray⟩ ⟨y2.toArray⟩).run Tryz.prog w=.ok (.string ⟨(y1++y2).toArray⟩) w:=fun w=>add_str (by rw [a0,a3,Dz];omega)
     rw [<-a0] at HT⊢;rw [<-a3] at HT HK;have c9:Hid (zb w wk):=d.out.trans O;clear a0 a3 d8 b3 b4 z e I J M h0 h1 h2
     go_wp2_with fail
     refine (HK.out _ (c9.out.alloc _)).mono ?_;rintro e w5 ⟨rfl,a6⟩;have b7:Hid (zb w1 w5):=(O.alloc _).trans a6;clear a6 O HK q0 q1 q2
     go_wp2_with fail
     go_roundw
     case rel=>exact ⟨k+1,by omega,by go_num,by rw [HT.out],b7⟩
     case measure=>simp [intOf];omega
    ·obtain rfl:k=ks.length:=by omega
     have b8:Hid (zb w wk):=d.out.trans hE.out;have HT:Hid (xs++AX (ks.take ks.length)=xs++AX ks):=by (show _=_);rw [DC]
     rw [HT.out];clear HT hE O
     go_wp2_with fail
     go_ret;exact ⟨rfl,b8.out⟩
end
section
open Go.RowKit
attribute [local go_sem ↓] Go.wp_at_zero Go.wp_at_succ
attribute [local go_sem] Oper.semAt_some
mutual
def BL:PT->PT->Bool
 | .node t s ks,.node t' s' ks'=>decide (t=t') && (decide (s=s') && (decide (ks.length=ks'.length) && sameL ks ks'))
def sameL:List PT->List PT->Bool
 | [],_=>true
 | _ :: _,[]=>true
 | k :: ks,k' :: ks'=>BL k k' && sameL ks ks'
end
theorem sameL_no:∀{ks ks':List PT} {k:Nat} (h:k<ks.length) (d:k<ks'.length),BL ks[k] ks'[k]=false->sameL ks ks'=false
 | a :: ks,b :: ks',0,_,_,e=>by
  have e':BL a b=false:=e;unfold sameL;rw [e'];rfl
 | a :: ks,b :: ks',k+1,h,d,e=>by
  have:=sameL_no (ks:=ks) (ks':=ks') (k:=k) (by simpa using h) (by simpa using d) (by simpa using e);unfold sameL;rw [this,Bool.and_false]
theorem sameL_yes:∀{ks ks':List PT},(∀j (h:j<ks.length) (z:j<ks'.length),BL ks[j] ks'[j]=true)->sameL ks ks'=true
 | [],_,_=>by unfold sameL;rfl
 | _ :: _,[],_=>by unfold sameL;rfl
 | a :: ks,b :: ks',h=>by
  unfold sameL;have h0:BL a b=true:=h 0 (by simp) (by simp);rw [h0,sameL_yes (ks:=ks) (ks':=ks') fun j d o=>h (j+1) (by simpa using d) (by simpa using o)];rfl
mutual
theorem CS:∀(p:PT),BL p p=true
 | .node t s ks=>by unfold BL;simp [sameL_refl ks]
theorem sameL_refl:∀(ks:List PT),sameL ks ks=true
 | []=>by unfold sameL;rfl
 | k :: ks=>by unfold sameL;rw [CS k,sameL_refl ks];rfl
end
theorem Cr:∀(N:Nat) {ok ok':Nat->Prop} {v v':Value} {p p':PT} (w:World),Bn w ok v p->Bn w ok' v' p'->p.size<=N->p.Lens->p'.Lens->
  Calls Tryz.prog 32 #[v,v'] w fun e w'=>e=.returned (.bool (BL p p'))/\zb w w'
 | 0,ok,ok',v,v',.node t s ks,p',w,h,_,hN,_,_=>by unfold PT.size at hN;omega
 | N+1,ok,ok',v,v',.node t s ks,.node t' s' ks',w,h,Q,hN,hl,c8=>by
  have IH:Hid (∀(ok ok':Nat->Prop) (v v':Value) (p p':PT) (w:World),Bn w ok v p->Bn w ok' v' p'->p.size<=N->p.Lens->p'.Lens->Calls Tryz.prog 32 #[v,v'] w fun e w'=>e=.returned (.bool (BL p p'))/\zb w w'):=fun ok ok' v v' p p' w=>Cr N w
  cases h with
  | mk hs hk he=>
  rename_i vs vk cs
  cases Q with
  | mk d7 e8 c0=>
  rename_i vs' vk' cs'
  have HS:=zh hs;have e4:=zh d7;obtain ⟨As,c1,rfl,-,-⟩:=hs;obtain ⟨As',c1',rfl,-,-⟩:=d7;obtain ⟨Ak,ck,rfl,g3,d6⟩:=hk;obtain ⟨Ak',ck',rfl,f5,a3⟩:=e8;have e3:=zh d6;have e0:=zh he;have b3:=zh a3;have b0:=zh c0;unfold PT.Lens at hl c8;obtain ⟨e9,g5,d4⟩:=hl;obtain ⟨c9,f8,a2⟩:=c8;have e2:=zh (lensL_mem d4);have b2:=zh (lensL_mem a2);have e5:Hid (∀k∈ks,k.size<=PT.sizeL ks):=size_mem;have b9:=fun (w:World) (W:World) (hW:zb w W) (h:zk w ok (.slice As s.length c1) s) (Q:zk w ok' (.slice As' s'.length c1') s')=>same_calls W (h.below hW) (Q.below hW) e9 c9
  have o:Hid (∀W,zb w W->Calls Tryz.prog 21 #[.slice As s.length c1,.slice As' s'.length c1'] W fun e w'=>e=.returned (.bool (decide (s=s')))/\zB W w'):=fun W hW=>b9 w W hW HS.out e4.out
  unfold PT.size at hN;obtain ⟨R,hR⟩:=Ez (BL (.node t s ks) (.node t' s' ks'));rw [<-hR];unfold BL at hR;have HR:=zh hR;clear d6 he d4 a3 c0 a2 b9 hR
  go_enter Tryz.func32,Tryz.ntmps32
  go_upto_region 1 with fail;obtain ⟨a8,p0,p1,p2⟩:=box3 w (.int .i64 t) (.slice As s.length c1) (.slice Ak ks.length ck);have a9:(w.alloc (.cells #[.int .i64 t,.slice As s.length c1,.slice Ak ks.length ck] 41)).heap.size=w.heap.size+1:=by simp
  generalize w.alloc _=w1 at a8 p0 p1 p2 a9⊢;obtain ⟨U,q0,q1,q2⟩:=box3 w1 (.int .i64 t') (.slice As' s'.length c1') (.slice Ak' ks'.length ck');generalize w1.alloc _=w2 at U q0 q1 q2⊢;rw [a9] at q0 q1 q2;obtain ⟨gp,c6⟩:=Ez w.heap.size;rw [<-c6] at p0 p1 p2 q0 q1 q2⊢;have a5:=zh U;have p0:=fun W h=>p0 W (a5.out.trans h)
  have p1:=fun W h=>p1 W (a5.out.trans h)
  have p2:=fun W h=>p2 W (a5.out.trans h)
  have d:=zh (a8.trans U);have I:zb w2 w2:=zb.refl w2;clear a8 U c6 a9;by_cases ht:t=t'
  ·have d8:(t != t')=false:=by simp [ht]
   by_cases G:s=s'
   ·have E:decide (s=s')=true:=Du G;by_cases D:ks.length=ks'.length
    ·have c7:((ks.length:Int) != (ks'.length:Int))=false:=by simp [D]
     have a1:(ks.length != ks'.length)=false:=by simp [D]
     rw [E] at o;have b4:Hid (R=sameL ks ks'):=by (show _=_);rw [HR.out,Du ht,Du G,Du D];rfl
     clear ht G E HR
     go_wp2_with fail
     refine (o.out w2 d.out).mono ?_;rintro e w3 ⟨rfl,hD⟩;obtain ⟨nd,rfl⟩:=hD;have I:zb w2 (w2.drewN nd):=(zb.refl w2).drewN nd;generalize w2.drewN nd=w3 at I⊢
     go_wp2_with fail
     clear c7 a1 d8 o;go_loopw [5] (fun i wr=>∃k:Nat,k<=ks.length/\i=.int .i64 k/\Hid (∀j,j<k->∀(h:j<ks.length) (Q:j<ks'.length),BL ks[j] ks'[j]=true)/\Hid (zb w2 wr)) (fun i _=>ks.length - (intOf i).toNat)
     case atStart=>exact ⟨0,DF _,rfl,(fun j hj=>by omega),I⟩
     have e1:=zh D;clear I D
     case round=>
      obtain ⟨k,hk,rfl,V,hE⟩:=hrel;obtain ⟨wk,rfl⟩:∃wk:World,wk=wr:=⟨_,rfl⟩;have I:zb w2 wk:=hE.out;by_cases M:k<ks.length
      ·have d5:(k:Int)<(ks.length:Int):=by omega
       have J:k<ks'.length:=by have:=e1.out;omega
       have f0:(k:Int)<(ks'.length:Int):=by omega
       have kk0:(0:Int)<=(k:Int):=by omega
       obtain ⟨b,off,rfl,h0,h1,h2⟩:=kidsAt e3.out M;obtain ⟨b',off',rfl,b5,b6,b7⟩:=kidsAt b3.out J;have r0:=zb.rule (d.out.cell h0);have r1:=zb.rule (d.out.cell h1);have r2:=zb.rule (d.out.cell h2);have s0:=zb.rule (d.out.cell b5);have s1:=zb.rule (d.out.cell b6);have s2:=zb.rule (d.out.cell b7);have b1:Hid (∀W,zb w2 W->Calls Tryz.prog 32 #[_,_] W fun e w'=>e=.returned (.bool (BL ks[k] ks'[k]))/\zb W w'):=fun W hW=>IH.out _ _ _ _ _ _ W ((e0.out k M).ext (d.out.trans hW)) ((b0.out k J).ext (d.out.trans hW)) (by have:=e5.out _ (Dr M);omega) (e2.out _ (Dr M)) (b2.out _ (Dr J))
       obtain ⟨z,hz⟩:=Ez (BL ks[k] ks'[k]);rw [<-hz] at b1;have HZ:=zh hz;clear h0 h1 h2 b5 b6 b7 hz;go_upto_region 6 with fail;refine DH (S:=(fun W=>zb w2 W)) AB (I.drew) fun zH=>?_;have a7:zb w2 wk.drew:=zH;generalize wk.drew=wd at zH a7⊢;refine zo 0 zH ?_;refine zo 1 zH ?_;simp only [zc,Dn];refine zo 2 zH ?_;refine zo 3 zH ?_;simp only [zc,Dn];refine zo 4 zH ?_;refine zo 5 zH ?_;simp only [zc,Dn];refine zo 6 zH ?_;refine zo 7 zH ?_;simp only [zc,Dn];refine zo 8 zH ?_;refine zo 9 zH ?_;simp only [zc,Dn];refine zK 10 fun K hK=>?_;go_simp;go_at_call 32;refine (b1.out _ zH).mono ?_;rintro e w9 ⟨rfl,e6⟩;go_simp;refine EA hK (zH.trans e6) fun zH=>?_;clear hK K;try simp only [zc,Dn]
       refine zo 11 zH ?_;simp only [zc,Dn];refine DV (by kernel_rfl) ?_ _
       cases z with
       | true=>
        have a4:Hid (∀j,j<k+1->∀(h:j<ks.length) (Q:j<ks'.length),BL ks[j] ks'[j]=true):=fun j hj h Q=>by
         rcases DO j k with h1 | h1
         ·exact V.out j h1 h Q
         ·have:j=k:=by omega
          subst this;exact HZ.out.symm
        have a6:=zh zH;clear zH I a7 r0 r1 r2 s0 s1 s2
        go_wp2_with fail
        go_roundw
        case rel=>exact ⟨k+1,by omega,by go_num,a4,a6⟩
        case measure=>simp [intOf];omega
       | false=>
        have O:Hid (R=false):=by (show _=_);rw [b4.out];exact sameL_no M J HZ.out.symm
        have a6:=zh (d.out.trans zH);clear zH I a7 r0 r1 r2 s0 s1 s2
        go_wp2_with fail
        go_ret;exact ⟨zl O.out.symm,a6.out⟩
      ·have O:Hid (R=true):=by (show _=_);rw [b4.out];exact sameL_yes fun j h Q=>V.out j (by omega) h Q
       have d5:¬ ((k:Int)<(ks.length:Int)):=by omega
       go_wp2_with fail
       go_ret;exact ⟨zl O.out.symm,d.out.trans I⟩
    ·have c7:((ks.length:Int) != (ks'.length:Int))=true:=by rw [bne_iff_ne];omega
     have a1:(ks.length != ks'.length)=true:=by rw [bne_iff_ne];exact D
     rw [E] at o;have O:Hid (R=false):=by (show _=_);rw [HR.out,Dv D];simp
     clear ht G E HR
     go_wp2_with fail
     refine (o.out w2 d.out).mono ?_;rintro e w3 ⟨rfl,hD⟩;obtain ⟨nd,rfl⟩:=hD;have I:zb w2 (w2.drewN nd):=(zb.refl w2).drewN nd;generalize w2.drewN nd=w3 at I⊢
     go_wp2_with fail
     go_ret;exact ⟨zl O.out.symm,d.out.trans I⟩
   ·have E:decide (s=s')=false:=Dv G;rw [E] at o;have O:Hid (R=false):=by (show _=_);rw [HR.out,Dv G];simp
    clear ht G E HR
    go_wp2_with fail
    refine (o.out w2 d.out).mono ?_;rintro e w3 ⟨rfl,hD⟩;obtain ⟨nd,rfl⟩:=hD;have I:zb w2 (w2.drewN nd):=(zb.refl w2).drewN nd;generalize w2.drewN nd=w3 at I⊢
    go_wp2_with fail
    go_ret;exact ⟨zl O.out.symm,d.out.trans I⟩
  ·have d8:(t != t')=true:=by simp [ht]
   have O:Hid (R=false):=by (show _=_);rw [HR.out,Dv ht];rfl
   clear ht HR
   go_wp2_with fail
   go_ret;exact ⟨zl O.out.symm,d.out⟩
end
section
open Go.RowKit
attribute [local go_sem ↓] Go.wp_at_zero Go.wp_at_succ
def exFree:List Bool:=[true,true,true,true,false,true,true,true,true]
def exM (a b:Int):MZ:=⟨3,3,1,[exFree,exFree],List.replicate 9 false,[([0],[2]),([a],[b])]⟩
theorem allocs_ext:∀(os:List Obj) (w:World),zb w (os.foldl World.alloc w)
 | [],w=>zb.refl w
 | o :: os,w=>((zb.refl w).alloc o).trans (allocs_ext os (w.alloc o))
theorem allocs_at:∀(os:List Obj) (w:World) (i:Nat) (o:Obj),os[i]?=some o->(os.foldl World.alloc w).heap[w.heap.size+i]?=some o
 | o :: os,w,0,o',h=>by
  have:o=o':=by simpa using h
  subst this;exact ((allocs_ext os (w.alloc o)).block _ (by simp)).trans (Ee w o)
 | o :: os,w,i+1,o',h=>by
  have:=allocs_at os (w.alloc o) i o' (by simpa using h);rw [show w.heap.size+(i+1)=(w.alloc o).heap.size+i from by simp;omega];exact this
end
section
open Go.RowKit
structure J6 (B:Nat) (w0:World) (ge n t:Nat) (e:Nat->Bool) (v:Nat->Value) (W:World):Prop where
 gb:w0.grownBy W (some ge)
 dr:zP B W ge
 v0:e 0=true->∃g a b c,v 0=.slice (some ⟨g,0,none⟩) 3 3/\w0.heap.size<=g/\ze W g 9 #[.string a,.string b,.string c]
 v1:e 1=true->v 1=.int .i64 (t:Int)
 v2:e 2=true->∃g a b c,v 2=.pointer (some ⟨g,t,none⟩)/\w0.heap.size<=g/\ze W g 9 #[.string a,.string b,.string c]
 v3:e 3=true->∃s,v 3=.string s
 v4:e 4=true->v 4=.pointer (some ⟨ge,0,none⟩)
 v5:e 5=true->v 5=.int .i64 (n:Int)
 v6:e 6=true->∃x,v 6=.int .i64 x/\0<=x/\x<(n:Int)
 v7:e 7=true->∃g x,v 7=.slice (some ⟨g,0,none⟩) 1 1/\w0.heap.size<=g/\ze W g 3 #[.int .i64 x]/\0<=x/\x<(n:Int)
 v8:e 8=true->v 8=.pointer (some ⟨ge,0,none⟩)
 v9:e 9=true->v 9=.int .i64 (n:Int)
 v10:e 10=true->∃x,v 10=.int .i64 x/\0<=x/\x<(n:Int)
 v11:e 11=true->∃g x,v 11=.slice (some ⟨g,0,none⟩) 1 1/\w0.heap.size<=g/\ze W g 3 #[.int .i64 x]/\0<=x/\x<(n:Int)
 ne:e 7=true->e 11=true->(v 7).ownBlock≠(v 11).ownBlock
 v12:e 12=true->v 12=.agg #[v 3,v 7,v 11]/\e 3=true/\e 7=true/\e 11=true
 v13:e 13=true->∃g,v 13=.pointer (some ⟨g,0,none⟩)/\w0.heap.size<=g/\(e 14=false->ze W g 113 #[.string ⟨#[]⟩,.slice none 0 0,.slice none 0 0])/\(e 14=true->ze W g 113 #[v 3,v 7,v 11])
 d14:e 14=true->e 12=true/\e 13=true
section
variable {B:Nat} {w0 W W':World} {ge n t:Nat} {e:Nat->Bool} {v:Nat->Value}
theorem J6.init (d:zP B w0 ge) (he:∀j∈[0,1,2,3,4,5,6,7,8,9,10,11,12,13,14],e j=false):J6 B w0 ge n t e v w0.drew:=
 ⟨⟨rfl,rfl,rfl,Dq _,fun _ _ _=>rfl⟩,d,fun a=>ff (he 0 (by simp)) a,fun a=>ff (he 1 (by simp)) a,fun a=>ff (he 2 (by simp)) a,fun a=>ff (he 3 (by simp)) a,fun a=>ff (he 4 (by simp)) a,fun a=>ff (he 5 (by simp)) a,fun a=>ff (he 6 (by simp)) a,fun a=>ff (he 7 (by simp)) a,fun a=>ff (he 8 (by simp)) a,fun a=>ff (he 9 (by simp)) a,fun a=>ff (he 10 (by simp)) a,fun a=>ff (he 11 (by simp)) a,fun a=>ff (he 7 (by simp)) a,fun a=>ff (he 12 (by simp)) a,fun a=>ff (he 13 (by simp)) a,fun a=>ff (he 14 (by simp)) a⟩
theorem J6.move (h:J6 B w0 ge n t e v W) (gb:W.grownBy W' (some ge)) (dr:zP B W' ge) (E:∀g ty cs,w0.heap.size<=g->ze W g ty cs->ze W' g ty cs):J6 B w0 ge n t e v W':=
 ⟨h.gb.trans gb,dr,fun a=>let ⟨g,x,y,z,o,d,D⟩:=h.v0 a;⟨g,x,y,z,o,d,E _ _ _ d D⟩,h.v1,fun a=>let ⟨g,x,y,z,o,d,D⟩:=h.v2 a;⟨g,x,y,z,o,d,E _ _ _ d D⟩,h.v3,h.v4,h.v5,h.v6,
  fun a=>let ⟨g,x,o,d,D,G⟩:=h.v7 a;⟨g,x,o,d,E _ _ _ d D,G⟩,h.v8,h.v9,h.v10,fun a=>let ⟨g,x,o,d,D,G⟩:=h.v11 a;⟨g,x,o,d,E _ _ _ d D,G⟩,h.ne,h.v12,
  fun a=>let ⟨g,o,d,D,G⟩:=h.v13 a;⟨g,o,d,fun b=>E _ _ _ d (D b),fun b=>E _ _ _ d (G b)⟩,h.d14⟩
theorem J6.hge (h:J6 B w0 ge n t e v W) (d:ge<w0.heap.size):w0.heap.size<=W.heap.size:=h.gb.size
theorem J6.alloc (h:J6 B w0 ge n t e v W) (d:B<=w0.heap.size) (o:Obj):J6 B w0 ge n t e v (W.alloc o):=
 h.move ⟨rfl,rfl,rfl,by simp,fun i D _=>DK _ _ _ D⟩ (h.dr.ext ((zb.refl _).alloc _) (Dt d h.gb.size)) (fun g ty cs _ z=>z.alloc o)
theorem J6.call (h:J6 B w0 ge n t e v W) (z:ge<w0.heap.size) (gb:W.grownBy W' (some ge)) (dr:zP B W' ge):J6 B w0 ge n t e v W':=
 h.move gb dr (fun g ty cs o d=>(gb.block g (za d) (fun e=>by injection e with e;omega)).trans d)
theorem J6.n12 (h:J6 B w0 ge n t e v W) (d:e 12=false):e 14=false:=notT (fun a=>(h.d14 a).1) d
theorem J6.n13 (h:J6 B w0 ge n t e v W) (d:e 13=false):e 14=false:=notT (fun a=>(h.d14 a).2) d
theorem J6.n3 (h:J6 B w0 ge n t e v W) (d:e 3=false):e 12=false:=notT (fun a=>(h.v12 a).2.1) d
theorem J6.n7 (h:J6 B w0 ge n t e v W) (d:e 7=false):e 12=false:=notT (fun a=>(h.v12 a).2.2.1) d
theorem J6.n11 (h:J6 B w0 ge n t e v W) (d:e 11=false):e 12=false:=notT (fun a=>(h.v12 a).2.2.2) d
theorem J6.s0 (h:J6 B w0 ge n t e v W) (d:B<=w0.heap.size) (a b c:ByteArray):J6 B w0 ge n t (zT e 0 true) (zT v 0 (.slice (some ⟨W.heap.size,0,none⟩) 3 3)) (W.alloc (.cells #[.string a,.string b,.string c] 9)):=
 let k:=h.alloc d (.cells #[.string a,.string b,.string c] 9)
 ⟨k.gb,k.dr,fun _=>⟨_,a,b,c,rfl,h.gb.size,ze.new _ _ _ rfl⟩,k.v1,k.v2,k.v3,k.v4,k.v5,k.v6,k.v7,k.v8,k.v9,k.v10,k.v11,k.ne,k.v12,k.v13,k.d14⟩
theorem J6.s1 (h:J6 B w0 ge n t e v W):J6 B w0 ge n t (zT e 1 true) (zT v 1 (.int .i64 (t:Int))) W:=
 ⟨h.gb,h.dr,h.v0,fun _=>rfl,h.v2,h.v3,h.v4,h.v5,h.v6,h.v7,h.v8,h.v9,h.v10,h.v11,h.ne,h.v12,h.v13,h.d14⟩
theorem J6.s2 (h:J6 B w0 ge n t e v W) {a b c:ByteArray} (o:w0.heap.size<=g) (d:ze W g 9 #[.string a,.string b,.string c]):J6 B w0 ge n t (zT e 2 true) (zT v 2 (.pointer (some ⟨g,t,none⟩))) W:=
 ⟨h.gb,h.dr,h.v0,h.v1,fun _=>⟨g,a,b,c,rfl,o,d⟩,h.v3,h.v4,h.v5,h.v6,h.v7,h.v8,h.v9,h.v10,h.v11,h.ne,h.v12,h.v13,h.d14⟩
theorem J6.s3 (h:J6 B w0 ge n t e v W) (o:e 3=false) (s:ByteArray):J6 B w0 ge n t (zT e 3 true) (zT v 3 (.string s)) W:=
 ⟨h.gb,h.dr,h.v0,h.v1,h.v2,fun _=>⟨s,rfl⟩,h.v4,h.v5,h.v6,h.v7,h.v8,h.v9,h.v10,h.v11,h.ne,fun a=>ff (b:=e 12) (h.n3 o) a,fun a=>let ⟨g,z,D,d,E⟩:=h.v13 a;⟨g,z,D,d,fun b=>ff (b:=e 14) (h.n12 (h.n3 o)) b⟩,h.d14⟩
theorem J6.s4 (h:J6 B w0 ge n t e v W):J6 B w0 ge n t (zT e 4 true) (zT v 4 (.pointer (some ⟨ge,0,none⟩))) W:=
 ⟨h.gb,h.dr,h.v0,h.v1,h.v2,h.v3,fun _=>rfl,h.v5,h.v6,h.v7,h.v8,h.v9,h.v10,h.v11,h.ne,h.v12,h.v13,h.d14⟩
theorem J6.s5 (h:J6 B w0 ge n t e v W):J6 B w0 ge n t (zT e 5 true) (zT v 5 (.int .i64 (n:Int))) W:=
 ⟨h.gb,h.dr,h.v0,h.v1,h.v2,h.v3,h.v4,fun _=>rfl,h.v6,h.v7,h.v8,h.v9,h.v10,h.v11,h.ne,h.v12,h.v13,h.d14⟩
theorem J6.s6 (h:J6 B w0 ge n t e v W) (o:ge<w0.heap.size) (gb:W.grownBy W' (some ge)) (dr:zP B W' ge) (z:0<=x) (d:x<(n:Int)):J6 B w0 ge n t (zT e 6 true) (zT v 6 (.int .i64 x)) W':=
 let k:=h.call o gb dr
 ⟨k.gb,k.dr,k.v0,k.v1,k.v2,k.v3,k.v4,k.v5,fun _=>⟨x,rfl,z,d⟩,k.v7,k.v8,k.v9,k.v10,k.v11,k.ne,k.v12,k.v13,k.d14⟩
theorem J6.s7 (h:J6 B w0 ge n t e v W) (I:B<=w0.heap.size) (D:e 7=false) (J:0<=x) (z:x<(n:Int)):J6 B w0 ge n t (zT e 7 true) (zT v 7 (.slice (some ⟨W.heap.size,0,none⟩) 1 1)) (W.alloc (.cells #[.int .i64 x] 3)):=
 let k:=h.alloc I (.cells #[.int .i64 x] 3)
 ⟨k.gb,k.dr,k.v0,k.v1,k.v2,k.v3,k.v4,k.v5,k.v6,fun _=>⟨_,x,rfl,h.gb.size,ze.new _ _ _ rfl,J,z⟩,k.v8,k.v9,k.v10,k.v11,fun _ b=>by
  obtain ⟨g,y,d,_,G,_⟩:=h.v11 b;show (Value.slice (some ⟨W.heap.size,0,none⟩) 1 1).ownBlock≠(v 11).ownBlock;rw [d];intro e;have:=za G;have e:some W.heap.size=some g:=e;injection e with e;omega,fun a=>ff (b:=e 12) (h.n7 D) a,fun a=>let ⟨g,d,E,o,K⟩:=k.v13 a;⟨g,d,E,o,fun b=>ff (b:=e 14) (h.n12 (h.n7 D)) b⟩,k.d14⟩
theorem J6.s8 (h:J6 B w0 ge n t e v W):J6 B w0 ge n t (zT e 8 true) (zT v 8 (.pointer (some ⟨ge,0,none⟩))) W:=
 ⟨h.gb,h.dr,h.v0,h.v1,h.v2,h.v3,h.v4,h.v5,h.v6,h.v7,fun _=>rfl,h.v9,h.v10,h.v11,h.ne,h.v12,h.v13,h.d14⟩
theorem J6.s9 (h:J6 B w0 ge n t e v W):J6 B w0 ge n t (zT e 9 true) (zT v 9 (.int .i64 (n:Int))) W:=
 ⟨h.gb,h.dr,h.v0,h.v1,h.v2,h.v3,h.v4,h.v5,h.v6,h.v7,h.v8,fun _=>rfl,h.v10,h.v11,h.ne,h.v12,h.v13,h.d14⟩
theorem J6.s10 (h:J6 B w0 ge n t e v W) (o:ge<w0.heap.size) (gb:W.grownBy W' (some ge)) (dr:zP B W' ge) (z:0<=x) (d:x<(n:Int)):J6 B w0 ge n t (zT e 10 true) (zT v 10 (.int .i64 x)) W':=
 let k:=h.call o gb dr
 ⟨k.gb,k.dr,k.v0,k.v1,k.v2,k.v3,k.v4,k.v5,k.v6,k.v7,k.v8,k.v9,fun _=>⟨x,rfl,z,d⟩,k.v11,k.ne,k.v12,k.v13,k.d14⟩
theorem J6.s11 (h:J6 B w0 ge n t e v W) (I:B<=w0.heap.size) (D:e 11=false) (J:0<=x) (z:x<(n:Int)):J6 B w0 ge n t (zT e 11 true) (zT v 11 (.slice (some ⟨W.heap.size,0,none⟩) 1 1)) (W.alloc (.cells #[.int .i64 x] 3)):=
 let k:=h.alloc I (.cells #[.int .i64 x] 3)
 ⟨k.gb,k.dr,k.v0,k.v1,k.v2,k.v3,k.v4,k.v5,k.v6,k.v7,k.v8,k.v9,k.v10,fun _=>⟨_,x,rfl,h.gb.size,ze.new _ _ _ rfl,J,z⟩,fun a _=>by
  obtain ⟨g,y,d,_,G,_⟩:=h.v7 a;show (v 7).ownBlock≠(Value.slice (some ⟨W.heap.size,0,none⟩) 1 1).ownBlock;rw [d];intro e;have:=za G;have e:some g=some W.heap.size:=e;injection e with e;omega,fun a=>ff (b:=e 12) (h.n11 D) a,fun a=>let ⟨g,d,E,o,K⟩:=k.v13 a;⟨g,d,E,o,fun b=>ff (b:=e 14) (h.n12 (h.n11 D)) b⟩,k.d14⟩
theorem J6.s12 (h:J6 B w0 ge n t e v W) (o:e 3=true) (z:e 7=true) (d:e 11=true):J6 B w0 ge n t (zT e 12 true) (zT v 12 (.agg #[v 3,v 7,v 11])) W:=
 ⟨h.gb,h.dr,h.v0,h.v1,h.v2,h.v3,h.v4,h.v5,h.v6,h.v7,h.v8,h.v9,h.v10,h.v11,h.ne,fun _=>⟨rfl,o,z,d⟩,h.v13,fun a=>⟨rfl,(h.d14 a).2⟩⟩
theorem J6.s13 (h:J6 B w0 ge n t e v W) (o:B<=w0.heap.size) (d:e 13=false):J6 B w0 ge n t (zT e 13 true) (zT v 13 (.pointer (some ⟨W.heap.size,0,none⟩))) (W.alloc (.cells #[.string ⟨#[]⟩,.slice none 0 0,.slice none 0 0] 113)):=
 let k:=h.alloc o (.cells #[.string ⟨#[]⟩,.slice none 0 0,.slice none 0 0] 113)
 ⟨k.gb,k.dr,k.v0,k.v1,k.v2,k.v3,k.v4,k.v5,k.v6,k.v7,k.v8,k.v9,k.v10,k.v11,k.ne,k.v12,fun _=>⟨_,rfl,h.gb.size,fun _=>ze.new _ _ _ rfl,fun b=>ff (b:=e 14) (h.n13 d) b⟩,fun a=>ff (b:=e 14) (h.n13 d) a⟩
theorem J6.s14 (h:J6 B w0 ge n t e v W) (hB:B<=w0.heap.size) (M:e 12=true) (O:e 13=true) {x:Value} (hv:v 13=.pointer (some ⟨g,0,none⟩)) (hg:w0.heap.size<=g) (V:ze W g 113 #[.string ⟨#[]⟩,.slice none 0 0,.slice none 0 0]) (hl:ge<w0.heap.size):
  J6 B w0 ge n t (zT e 14 true) (zT v 14 x) (((W.setCell ⟨g,0,none⟩ (v 3)).setCell ⟨g,1,none⟩ (v 7)).setCell ⟨g,2,none⟩ (v 11)):=by
 have G:∀g',g'≠g->(((W.setCell ⟨g,0,none⟩ (v 3)).setCell ⟨g,1,none⟩ (v 7)).setCell ⟨g,2,none⟩ (v 11)).heap[g']?=W.heap[g']?:=fun g' E=>
  (DA _ ⟨g,2,none⟩ _ g' E).trans ((DA _ ⟨g,1,none⟩ _ g' E).trans (DA _ ⟨g,0,none⟩ _ g' E))
 have K:∀g' ty cs,ty≠113->ze W g' ty cs->ze (((W.setCell ⟨g,0,none⟩ (v 3)).setCell ⟨g,1,none⟩ (v 7)).setCell ⟨g,2,none⟩ (v 11)) g' ty cs:=fun g' ty cs U I=>(G g' (ze.ne_ I V U)).trans I
 have d:Below B W (((W.setCell ⟨g,0,none⟩ (v 3)).setCell ⟨g,1,none⟩ (v 7)).setCell ⟨g,2,none⟩ (v 11)):=(((Below.refl B W).setCell (p:=⟨g,0,none⟩) (by show B<=g;omega) _).setCell (p:=⟨g,1,none⟩) (by show B<=g;omega) _).setCell (p:=⟨g,2,none⟩) (by show B<=g;omega) _;refine ⟨⟨h.gb.os,h.gb.tape,h.gb.output,Dt h.gb.size d.size,fun i hi J=>(G i (by omega)).trans (h.gb.block i hi J)⟩,h.dr.keep d (G ge (by omega)),fun a=>?_,h.v1,fun a=>?_,h.v3,h.v4,h.v5,h.v6,fun a=>?_,h.v8,h.v9,h.v10,fun a=>?_,h.ne,h.v12,fun _=>⟨g,hv,hg,fun a=>(by cases a),fun _=>?_⟩,fun _=>⟨M,O⟩⟩
 ·obtain ⟨g',a1,b1,c1,o,z,D⟩:=h.v0 a;exact ⟨g',a1,b1,c1,o,z,K _ _ _ (by decide) D⟩
 ·obtain ⟨g',a1,b1,c1,o,z,D⟩:=h.v2 a;exact ⟨g',a1,b1,c1,o,z,K _ _ _ (by decide) D⟩
 ·obtain ⟨g',x',o,z,D,Q⟩:=h.v7 a;exact ⟨g',x',o,z,K _ _ _ (by decide) D,Q⟩
 ·obtain ⟨g',x',o,z,D,Q⟩:=h.v11 a;exact ⟨g',x',o,z,K _ _ _ (by decide) D,Q⟩
 ·exact ((V.set (k:=0) (v 3)).set (k:=1) (v 7)).set (k:=2) (v 11)
theorem own1 {W:World} {S:Nat} (d:ze W g 3 #[.int .i64 x]) (o:S<=g):zt W S (.slice (some ⟨g,0,none⟩) 1 1) [x]:=
 ⟨rfl,.inr ⟨g,1,#[.int .i64 x],rfl,o,d,Dq _,by unfold maxLen;omega,rfl,rfl⟩⟩
theorem J6.fin {S:Nat} (h:J6 B w0 ge n t (fun _=>true) v W) (hB:B<=S) (hS:S<=w0.heap.size) (M:S<=ge):∃s g7 g11 gt x1 x2,v 3=.string s/\v 7=.slice (some ⟨g7,0,none⟩) 1 1/\v 11=.slice (some ⟨g11,0,none⟩) 1 1/\v 13=.pointer (some ⟨gt,0,none⟩)/\
  R1 B W S ge gt n s (.slice (some ⟨g7,0,none⟩) 1 1) (.slice (some ⟨g11,0,none⟩) 1 1) [x1] [x2]:=by
 obtain ⟨s,Q⟩:=h.v3 rfl;obtain ⟨g7,x1,o,U,G,I⟩:=h.v7 rfl;obtain ⟨g11,x2,z,V,J,K⟩:=h.v11 rfl;obtain ⟨gt,D,O,_,d⟩:=h.v13 rfl;have d:=d rfl;have E:=h.ne rfl rfl;rw [Q,o,z] at d;rw [o,z] at E;refine ⟨s,g7,g11,gt,x1,x2,Q,o,z,D,hB,Dt hS h.gb.size,h.dr,M,d,by omega,own1 G (by omega),own1 J (by omega),.inr E,by simp,by simp,fun y hy=>?_⟩;rcases hy with hy | hy
 ·rw [DY] at hy;rw [hy];exact I
 ·rw [DY] at hy;rw [hy];exact K
end
structure MadeM (m:MZ):Prop where
 good:zE m
 w:2<=m.w/\m.w<=4
 h:1<=m.h/\m.h<=4
 l:1<=m.l/\m.l<=2
 n:2<=m.n/\m.n<=16
 tk:1<=m.tasks.length/\m.tasks.length<=3
 te:∀t∈m.tasks,(t.1≠[]/\t.2≠[])/\t.1.length<=2/\t.2.length<=2
 lens:Lens m
theorem dims {W H L:Int} (hW:2<=W/\W<=4) (E:1<=H/\H<=4) (hL:L=1\/(L=2/\W<=3/\H<=2)):2<=W*H/\W*H<=16/\2<=W*H*L/\W*H*L<=16:=by
 have d:W=2\/W=3\/W=4:=by omega
 have o:H=1\/H=2\/H=3\/H=4:=by omega
 rcases d with rfl | rfl | rfl <;> rcases o with rfl | rfl | rfl | rfl <;> rcases hL with rfl | ⟨rfl,z,D⟩ <;> omega
theorem chooseL {β:Type} {p:Nat->β->Prop}:∀(n:Nat),(∀i,i<n->∃b,p i b)->∃l:List β,l.length=n/\∀i b,l[i]?=some b->p i b
 | 0,_=>⟨[],rfl,fun i b h=>by simp at h⟩
 | n+1,h=>by
  obtain ⟨l,z,D⟩:=chooseL n (fun i hi=>h i (by omega));obtain ⟨b,E⟩:=h n (by omega);refine ⟨l++[b],by simp [z],fun i x d=>?_⟩;rcases DO i l.length with hi | hi
  ·rw [Dw hi] at d;exact D i x d
  ·have o:i=l.length:=by
    rcases DO i (l++[b]).length with h2 | h2
    ·simp at h2;omega
    ·rw [DL h2] at d;cases d
   subst o;rw [Dx (Dq _),Nat.sub_self] at d;have:b=x:=by simpa using d
   subst this;rw [z];exact E
structure RU (w1:World) (B:Nat) (w:World) (S gm gd:Nat) (W H L:Int) (n tF tT:Nat) (vF vU vT:Value) (fs ts:List Value) (us:List Bool):Prop where
 hB:B=w1.heap.size
 hBS:B<=S
 ms:MS B w S gm gd W H L n tF tT vF vU vT fs ts
 ow:OwnB w S vU us
 ex:zb w1 w
section
variable {w1 w w':World} {B S gm gd:Nat} {W H L:Int} {n tF tT:Nat} {vF vU vU' vT:Value} {fs ts:List Value} {us:List Bool}
theorem RU.ext (h:RU w1 B w S gm gd W H L n tF tT vF vU vT fs ts us) (d:zb w w'):RU w1 B w' S gm gd W H L n tF tT vF vU vT fs ts us:=
 ⟨h.hB,h.hBS,h.ms.extS d,Ai h.ow fun g o=>d.block g (World.ownsRow.lt h.ow g o).2,h.ex.trans d⟩
theorem RU.drawn (h:RU w1 B w S gm gd W H L n tF tT vF vU vT fs ts us) (E:zP B w' gd) (o:w.grownBy w' (some gd)):RU w1 B w' S gm gd W H L n tF tT vF vU vT fs ts us:=by
 obtain ⟨cs,D⟩:=h.ms.dr.blk;refine ⟨h.hB,h.hBS,h.ms.drawn E o,Ai h.ow fun g d=>o.block g (World.ownsRow.lt h.ow g d).2 (fun e=>?_),Below.grown h.ex o h.ex.size (fun k z=>by injection z with z;have:=h.ms.dr.1;have:=h.hB;omega)⟩;injection e with e;exact zd h.ow D (by decide) (d.trans (congrArg some e))
theorem RU.add (h:RU w1 B w S gm gd W H L n tF tT vF vU vT fs ts us) {x:Bool} {w5:World} {o:Obj} (G:w5.ownsRow S 4 1 vU' (us.length+1) (us.map Value.bool++[.bool x])) (E:(w.alloc o).grownBy w5 vU.ownBlock):
  RU w1 B (w5.setCell ⟨gm,4,none⟩ vU') S gm gd W H L n tF tT vF vU' vT fs ts (us++[x]):=by
 obtain ⟨d,z,D⟩:=h.ms.addU h.hBS h.ow G E;exact ⟨h.hB,h.hBS,d,z,Below.trans h.ex (h.hB ▸ D)⟩
theorem RU.maze {t:Nat} (h:RU w1 B w S gm gd W H L n t t vF vU vT fs ts us) (hW:2<=W/\W<=4) (hH:1<=H/\H<=4) (hL:L=1\/(L=2/\W<=3/\H<=2)) (hn:(n:Int)=W*H*L) (ht:1<=t/\t<=3) (hu:us.length=n):
  ∃m,zF w (fun b=>B<=b) (.agg #[.int .i64 W,.int .i64 H,.int .i64 L,vF,vU,vT]) m/\MadeM m:=by
 obtain ⟨d1,d2,d3,d4⟩:=dims hW hH hL
 obtain ⟨fr,V,U⟩:=chooseL (p:=fun j (l:List Bool)=>∃u,fs[j]?=some u/\AR w (fun b=>B<=b) u l/\l.length=n) t (fun j d=>by
  obtain ⟨u,z,l,D,E,_⟩:=h.ms.fd j d;exact ⟨l,u,z,D.bools,E⟩)
 obtain ⟨tk,a1,G⟩:=chooseL (p:=fun j (l:List Int×List Int)=>∃s u1 u2,ts[j*3]?=some (.string s)/\ts[j*3+1]?=some u1/\ts[j*3+2]?=some u2/\zk w (fun b=>B<=b) u1 l.1/\zk w (fun b=>B<=b) u2 l.2/\(l.1≠[]/\l.2≠[])/\(l.1.length<=2/\l.2.length<=2)/\(∀x,x∈l.1\/x∈l.2->0<=x/\x<(n:Int))) t (fun j d=>by
  obtain ⟨s,u1,u2,z,D,E,l1,l2,J,K,M,O,Q,_⟩:=h.ms.td j d;exact ⟨(l1,l2),s,u1,u2,z,D,E,Aw.of_own J,Aw.of_own K,M,O,Q⟩)
 have I:∀x∈tk,∃j,tk[j]?=some x:=fun x o=>by
  obtain ⟨j,d,rfl⟩:=DX o;exact ⟨j,Do d⟩
 have hg:zE ⟨W,H,L,fr,us,tk⟩:=by
  refine ⟨⟨by show 1<=W;omega,by show W<=300;omega,by show 1<=H;omega,by show H<=300;omega,by show 1<=L;omega,by show L<=300;omega,by show W*H*L<=300;omega,?_⟩,?_,?_,?_,?_⟩
  ·show (us.length:Int)=W*H*L;rw [hu,hn]
  ·show fr.length=tk.length;omega
  ·intro f hf;obtain ⟨j,d,rfl⟩:=DX hf;obtain ⟨u,_,_,E⟩:=U j _ (Do d);show ((fr[j]).length:Int)=W*H*L;rw [E,hn]
  ·show tk.length<=6;omega
  ·intro x o y hy;obtain ⟨j,d⟩:=I x o;obtain ⟨s,u1,u2,z,D,E,J,K,M,O,Q⟩:=G j x d;have:=Q y hy;show 0<=y/\y<W*H*L;rw [<-hn];exact this
 refine ⟨⟨W,H,L,fr,us,tk⟩,⟨vF,vU,vT,rfl,?_,?_,?_⟩,⟨hg,hW,hH,by show 1<=L/\L<=2;omega,by show 2<=W*H*L/\W*H*L<=16;omega,by show 1<=tk.length/\tk.length<=3;omega,fun x o=>?_,⟨by show fr.length<=_;omega,by show us.length<=_;omega,by show tk.length<=_;omega,fun x o=>?_⟩⟩⟩
 ·refine ⟨fs,by show Aw w _ 1 vF fr.length fs;rw [V];exact Aw.of_own h.ms.F,fun i x o=>?_⟩;obtain ⟨u,z,D,_⟩:=U i x o;exact ⟨u,z,D⟩
 ·exact (OwnB.bools h.ow).weaken fun b hb=>Dt h.hBS hb
 ·refine ⟨ts,by show Aw w _ 3 vT tk.length ts;rw [a1];exact Aw.of_own h.ms.T,fun i x o=>?_⟩;obtain ⟨s,u1,u2,z,D,E,J,K,_⟩:=G i x o;exact ⟨s,u1,u2,z,D,E,J,K⟩
 ·obtain ⟨j,d⟩:=I x o;obtain ⟨s,u1,u2,z,D,E,J,K,M,O,Q⟩:=G j x d;exact ⟨M,O⟩
 ·obtain ⟨j,d⟩:=I x o;obtain ⟨s,u1,u2,z,D,E,J,K,M,O,Q⟩:=G j x d;exact ⟨by omega,by omega⟩
end
theorem case_fin {P:World->Prop} {W:World} {g2:Nat} {t:TypeId} {a b c d e f z0 z1 z2 z3 z4 z5:Value} (h:∀WZ,ze WZ g2 t #[a,b,c,d,e,f]->Below g2 W WZ->(∀k,k<W.heap.size->k≠g2->WZ.heap[k]?=W.heap[k]?)->P WZ) (D:ze W g2 t #[z0,z1,z2,z3,z4,z5]):
  P ((((((W.setCell ⟨g2,0,none⟩ a).setCell ⟨g2,1,none⟩ b).setCell ⟨g2,2,none⟩ c).setCell ⟨g2,3,none⟩ d).setCell ⟨g2,4,none⟩ e).setCell ⟨g2,5,none⟩ f):=by
 refine h _ ?_ ((((((Below.refl g2 W).setCell (p:=⟨g2,0,none⟩) (Dq _) _).setCell (p:=⟨g2,1,none⟩) (Dq _) _).setCell (p:=⟨g2,2,none⟩) (Dq _) _).setCell (p:=⟨g2,3,none⟩) (Dq _) _).setCell (p:=⟨g2,4,none⟩) (Dq _) _ |>.setCell (p:=⟨g2,5,none⟩) (Dq _) _) fun k _ o=>?_
 ·have z:=(((((D.set (k:=0) a).set (k:=1) b).set (k:=2) c).set (k:=3) d).set (k:=4) e).set (k:=5) f;exact z
 ·exact (DA _ ⟨g2,5,none⟩ _ k o).trans ((DA _ ⟨g2,4,none⟩ _ k o).trans ((DA _ ⟨g2,3,none⟩ _ k o).trans ((DA _ ⟨g2,2,none⟩ _ k o).trans ((DA _ ⟨g2,1,none⟩ _ k o).trans (DA _ ⟨g2,0,none⟩ _ k o)))))
def SB (w W:World):Prop:=∀g ty cs,ze w g ty cs->ty≠4->W.heap[g]?=w.heap[g]?
theorem SB.rule {w:World} {ty:TypeId} {v:Value} (o:ze w g ty cs) (d:ty≠4) (z:w.cell? ⟨g,k,none⟩=some v):∀W,SB w W->W.cell? ⟨g,k,none⟩=some v:=
 fun W h=>(DG (a:=⟨g,k,none⟩) (h g ty cs o d)).trans z
theorem SB.set {w W:World} (h:SB w W) (z:ze w g 4 cs) (x:Value):SB w (W.setCell ⟨g,k,none⟩ x):=
 fun g' ty' cs' d o=>(DA W ⟨g,k,none⟩ x g' (ze.ne_ d z o)).trans (h g' ty' cs' d o)
theorem SB.drew (w:World):SB w w.drew:=fun _ _ _ _ _=>rfl
def An (w:World) (e:Ending) (w':World):Prop:=∃v' m,e=.returned v'/\zb w w'/\zF w' (fun b=>w.heap.size<=b) v' m/\MadeM m
end
end Go.Proofs.YtnmkmhpgnpojbaaGreatDoor
