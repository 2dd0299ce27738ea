import Derived.Test.YtcnaogdgjkpkmaaGreatDoorWSza
set_option linter.unusedVariables false
set_option linter.unusedSimpArgs false
set_option maxRecDepth 100000
set_option maxHeartbeats 16000000
namespace Go.Proofs.YtcnaogdgjkpkmaaGreatDoor
variable {l:List Int} {fs:List Value} {B g k n r:Nat} {o:Obj} {t u vF:Value} {W0 w w2:World}
section
open Go.RowKit Go.Shelf
attribute [local go_sem ↓] Go.wp_at_zero Go.wp_at_succ
abbrev Rd:=List UInt8×Bool
def zU (s:Rd):Int×Rd:=match numS 59 s with
 | some (v,b)=>(v,(b,false))
 | none=>(0,([],true))
theorem intF_bound (s:Rd):I64 (zU s).1:=by
 unfold zU numS numP
 split
 ·rename_i v b h
  split at h
  ·cases h
  ·split at h
   ·cases h
   ·split at h
    ·rename_i d
     split at h
     ·injection h with h;injection h with h1 h2;subst h1;exact ⟨(Lib.atoiAll_bounds d).1,(Lib.atoiAll_bounds d).2⟩
     ·cases h
    ·cases h
 ·exact ⟨by decide,by decide⟩
theorem Cw (s:Rd):(zU s).2.1.length<=s.1.length/\((zU s).2.2=false->(zU s).2.1.length<s.1.length):=by
 unfold zU numS numP
 split
 ·rename_i v b h
  split at h
  ·cases h
  ·split at h
   ·cases h
   ·rename_i d
    have:=(CX d).2
    split at h
    ·split at h
     ·injection h with h;injection h with h1 h2;subst h2;rw [this];exact ⟨by simp;omega,fun _=>by simp;omega⟩
     ·cases h
    ·cases h
 ·exact ⟨by simp,fun h=>by cases h⟩
theorem intF_bad {s:Rd} (h:s.2=true):zU s=(0,([],true)):=by
 unfold zU numS;rw [if_pos h]
theorem rInt_calls {s:Rd} (w:World) (O:zJ w) (h:AO w r s) (K:s.1.length<=281474976710656):Calls Tryz.prog 83 #[.pointer (some ⟨r,0,none⟩)] w fun e w'=>e=.returned (.int .i64 (zU s).1)/\zm (·=r) w w'/\AO w' r (zU s).2:=by
 have D:=zh (number_calls 59 w O h K);have d:Hid (∀o,o=numS 59 s->zU s=match o with | some (v,b)=>(v,(b,false)) | none=>(0,([],true))):=fun o Q=>by rw [Q];rfl
 generalize numS 59 s=o at D d;have d:=zh (d.out o rfl);generalize zU s=i at d;clear O h K
 go_enter Tryz.func83,Tryz.ntmps83
 cases o with
 | none=>
  go_wp2_with fail
  refine D.out.mono ?_;rintro e w1 ⟨E,-,L⟩;obtain ⟨rfl,G⟩:=L rfl;have J:=zh G;have I:=zh E;clear E L G D
  go_wp2_with fail
  go_ret;have e:=d.out;subst e;exact ⟨rfl,I.out,J.out⟩
 | some p=>
  obtain ⟨v,b⟩:=p
  go_wp2_with fail
  refine D.out.mono ?_;rintro e w1 ⟨E,M,-⟩;obtain ⟨rfl,G⟩:=M v b rfl;have J:=zh G;have I:=zh E;clear E M G D
  go_wp2_with fail
  go_ret;have e:=d.out;subst e;exact ⟨rfl,I.out,J.out⟩
def Bz:Nat->Rd->List Int->List Int×Rd
 | 0,s,l=>(l,s)
 | f+1,s,l=>if Aw s=0\/s.1.head?=some 93 then (l,s) else Bz f (zU s).2 (l++[(zU s).1])
def intsE (p:List Int×Rd):List Int×Rd:=if Aw p.2=0 then ([],([],true)) else (p.1,(p.2.1.tail,false))
def Aj (s:Rd):List Int×Rd:=if Aw s=0\/s.1.head?≠some 91 then ([],([],true)) else intsE (Bz s.1.tail.length (s.1.tail,false) [])
theorem intF_nil (s:Rd) (h:(zU s).2.2=true):(zU s).2.1=[]:=by
 unfold zU at h⊢
 cases d:numS 59 s with
 | none=>rfl
 | some p=>rw [d] at h;cases h
theorem intF_dec {s:Rd} (h:s.1.length<=n+1):(zU s).2.1.length<=n:=by
 cases d:(zU s).2.2 with
 | false=>have:=(Cw s).2 d;omega
 | true=>rw [intF_nil s d];simp
def rdSize (r:Nat) (w:World):Nat:=match w.cell? ⟨r,0,none⟩ with
 | some (.string s)=>s.size
 | _=>0
theorem rdSize_of {s:Rd} (h:AO w r s):rdSize r w=s.1.length:=by
 unfold rdSize;rw [h.cell (k:=0) rfl];simp [ByteArray.size]
theorem head_get {l:List UInt8} (h:0<l.length):∃x l',l=x :: l'/\(ByteArray.mk l.toArray)[0]'h=x:=by
 cases l with
 | nil=>simp at h
 | cons x l'=>exact ⟨x,l',rfl,rfl⟩
theorem own_chgR {w':World} {e t:TypeId} {sz:Nat} {v:Value} {xs:List Value} {cs:Array Value} (h:w.ownsRow B e sz v n xs) (G:zj w r t cs) (d:e≠t) (E:zm (·=r) w w'):w'.ownsRow B e sz v n xs:=
 zy h fun g D=>E.block g (World.ownsRow.lt h g D).2 (fun e=>by subst e;exact zg h G d D)
theorem chg_below {X:Nat->Prop} {a b c:World} (h:zm X a b) (d:Below B b c) (G:a.heap.size<=B:=by exact DC _):zm X a c:=
 ⟨d.os.trans h.os,d.tape.trans h.tape,d.output.trans h.output,DE h.size d.size,fun k D E=>(d.block k (by omega)).trans (h.block k D E)⟩
theorem elsF_fuel:∀(f f':Nat) (s:Rd) (l:List Int),s.1.length<=f->s.1.length<=f'->Bz f s l=Bz f' s l
 | 0,0,s,l,_,_=>rfl
 | 0,f'+1,s,l,h,_=>by
  have:s.1=[]:=DU (by omega);unfold Bz;rw [if_pos (.inl (by unfold Aw;rw [this];split <;> rfl))]
 | f+1,0,s,l,_,h=>by
  have:s.1=[]:=DU (by omega);unfold Bz;rw [if_pos (.inl (by unfold Aw;rw [this];split <;> rfl))]
 | f+1,f'+1,s,l,h,d=>by
  unfold Bz
  split
  ·rfl
  ·rename_i D
   exact elsF_fuel f f' _ _ (intF_dec h) (intF_dec d)
theorem elsF_step {s:Rd} (h0:Aw s≠0) (h1:s.1.head?≠some 93):Bz s.1.length s l=Bz (zU s).2.1.length (zU s).2 (l++[(zU s).1]):=by
 have d:0<s.1.length:=by
  unfold Aw at h0
  split at h0
  ·exact absurd rfl h0
  ·omega
 obtain ⟨f,hf⟩:∃f,s.1.length=f+1:=⟨s.1.length - 1,by omega⟩;rw [hf,Bz,if_neg (fun h=>h.elim h0 h1)];exact elsF_fuel _ _ _ _ (intF_dec (by omega)) (DC _)
theorem elsF_stop {s:Rd} (h:Aw s=0\/s.1.head?=some 93):Bz s.1.length s l=(l,s):=by
 cases hf:s.1.length with
 | zero=>rfl
 | succ f=>unfold Bz;rw [if_pos h]
theorem elements_calls {s:Rd} (w:World) (hv:zJ w) (h:AO w r s) (hl:s.1.length<=1000000000000):Calls Tryz.prog 120 #[.pointer (some ⟨r,0,none⟩),.func (.func 83) #[.pointer (some ⟨r,0,none⟩)] #[]] w fun e w'=>∃v,e=.returned v/\zm (·=r) w w'/\AO w' r (Aj s).2/\zF w' w.heap.size v (Aj s).1:=by
 have HL:=zh (Dv w h);have HF:=zh (Du w h);obtain ⟨l,bad⟩:=s;have c0:=h.cell (k:=0) rfl;have hf:∀k,w.frozen? ⟨r,k,none⟩=false:=fun k=>h.frozen k
 have HR:=zh h;have HV:=zh hv;dsimp only at HL HR c0 hl;clear h hv
 go_enter Tryz.func120,Tryz.ntmps120
 go_wp2_with fail
 refine HL.out.mono ?_;rintro e w1 ⟨rfl,rfl⟩;by_cases D:Aw (l,bad)=0
 ·have hI:Hid (Aj (l,bad)=([],([],true))):=by (show _=_);unfold Aj;rw [if_pos (.inl D)]
  have d6:(Aw (l,bad):Int)=0:=by omega
  have d7:((Aw (l,bad):Int)==0)=true:=by simp [D]
  go_wp2_with fail
  refine HF.out.mono ?_;rintro e w2 ⟨rfl,hC,hr⟩;have HC:=zh hC;have a1:=zh hr;clear hC hr
  go_wp2_with fail
  go_ret;refine ⟨_,rfl,HC.out,?_,?_⟩
  ·rw [hI.out];exact a1.out
  ·rw [hI.out];exact World.ownsRow_nil _ _ _ _
 ·have d6:((Aw (l,bad):Int)==0)=false:=by simp [D]
  have a2:bad=false:=by cases bad with | false=>rfl | true=>exact absurd rfl D
  subst a2;have a3:0<l.length:=by unfold Aw at D;simp at D;exact List.length_pos_iff.2 D
  have b4:(0:Int)<(l.length:Int):=by omega
  obtain ⟨x,l',K,hx⟩:=head_get a3;by_cases J:x=91
  ·have hq:((((ByteArray.mk l.toArray)[0]'a3).toNat:Int) != 91)=false:=by rw [hx,J];rfl
   have d5:ByteArray.extract ⟨l.toArray⟩ 1 l.length=⟨l'.toArray⟩:=by rw [ext_drop,K];rfl
   have HI:Hid (Aj (l,false)=intsE (Bz l'.length (l',false) [])):=by
    (show _=_)
    unfold Aj;rw [if_neg (by rw [K,J];simp [Aw]),K,J];rfl
   have f7:l'.length<=1000000000000:=by rw [K] at hl;simp at hl;omega
   have HS:Hid (zm (·=r) w (w.setCell ⟨r,0,none⟩ (.string ⟨l'.toArray⟩))/\AO (w.setCell ⟨r,0,none⟩ (.string ⟨l'.toArray⟩)) r (l',false)):=⟨CV (X:=(·=r)) (zm.refl _ _) r 0 _ rfl,zj.set (k:=0) HR.out _⟩;clear K hx J D
   go_wp2_with fail
   go_loopw [5] (fun v wr=>∃s' acc,Hid (Bz l'.length (l',false) []=Bz s'.1.length s' acc)/\Hid (AO wr r s')/\Hid (zF wr w.heap.size v acc)/\Hid (zm (·=r) w wr)/\s'.1.length+acc.length<=l'.length/\∃A c,v=.slice A acc.length c) (fun _ wr=>rdSize r wr)
   case atStart=>exact ⟨(l',false),[],rfl,HS.out.2,World.ownsRow_nil _ _ _ _,HS.out.1,by simp,none,0,rfl⟩
   have c7:=HR;clear HS hq d5 d6 HR HL HF c0 hf b4 hl
   case round=>
    obtain ⟨⟨l1,bad⟩,acc,Q,d,V,M,a6,A,c,rfl⟩:=hrel;have b3:=Dv wr d.out;have c1:=d.out.cell (k:=0) rfl;have f4:∀k,wr.frozen? ⟨r,k,none⟩=false:=fun k=>d.out.frozen k
    have f6:l1.length+acc.length<=l'.length:=a6;dsimp only at b3 c1;have I:=zh b3;clear b3 a6;by_cases D:Aw (l1,bad)=0
    ·have G:Hid (Bz l'.length (l',false) []=(acc,(l1,bad))):=Q.out.trans (elsF_stop (.inl D));have d7:((Aw (l1,bad):Int)==0)=true:=by simp [D]
     have e9:¬ ((0:Int)<(Aw (l1,bad):Int)):=by omega
     have e8:decide (0<Aw (l1,bad))=false:=DG (by omega)
     go_wp2_with fail
     refine I.out.mono ?_;rintro e w2 ⟨rfl,rfl⟩
     go_wp2_with fail
     have b6:=zh (Du wr d.out);refine I.out.mono ?_;rintro e w3 ⟨rfl,rfl⟩;have HN:Hid (Aj (l,false)=([],([],true))):=by (show _=_);rw [HI.out,G.out];unfold intsE;rw [if_pos D]
     clear I Q G HI V
     go_wp2_with fail
     refine b6.out.mono ?_;rintro e w4 ⟨rfl,hC,hr⟩;have HC:=zh (M.out.tr hC);have a1:=zh hr;clear hC hr b6
     go_wp2_with fail
     go_ret;refine ⟨_,rfl,HC.out,?_,?_⟩
     ·rw [HN.out];exact a1.out
     ·rw [HN.out];exact World.ownsRow_nil _ _ _ _
    ·have a2:bad=false:=by cases bad with | false=>rfl | true=>exact absurd rfl D
     subst a2;have L:0<l1.length:=by unfold Aw at D;simp at D;exact List.length_pos_iff.2 D
     obtain ⟨x,l2,E,hx⟩:=head_get L;have d7:((Aw (l1,false):Int)==0)=false:=by simp [D]
     have e9:(0:Int)<(Aw (l1,false):Int):=by omega
     have e8:decide (0<Aw (l1,false))=true:=DF (by omega);by_cases U:x=93
     ·have hq:((((ByteArray.mk l1.toArray)[0]'L).toNat:Int) != 93)=false:=by rw [hx,U];rfl
      have d5:ByteArray.extract ⟨l1.toArray⟩ 1 l1.length=⟨l2.toArray⟩:=by rw [ext_drop,E];rfl
      have HN:Hid (Aj (l,false)=(acc,(l2,false))):=by
       (show _=_)
       rw [HI.out,Q.out,elsF_stop (.inr (by rw [E,U];rfl))];unfold intsE;rw [if_neg D,E];rfl
      have O:Hid (zm (·=r) w (wr.setCell ⟨r,0,none⟩ (.string ⟨l2.toArray⟩))/\AO (wr.setCell ⟨r,0,none⟩ (.string ⟨l2.toArray⟩)) r (l2,false)):=⟨CV (X:=(·=r)) M.out r 0 _ rfl,zj.set (k:=0) d.out _⟩;have a0:Hid (zF (wr.setCell ⟨r,0,none⟩ (.string ⟨l2.toArray⟩)) w.heap.size (.slice A acc.length c) acc):=own_chgR V.out d.out (by decide) (CV (X:=(·=r)) (zm.refl _ _) r 0 _ rfl);clear HI Q E hx U D V M d
      go_wp2_with fail
      refine I.out.mono ?_;rintro e w2 ⟨rfl,rfl⟩
      go_wp2_with fail
      refine I.out.mono ?_;rintro e w2 ⟨rfl,rfl⟩;clear I
      go_wp2_with fail
      go_ret;refine ⟨_,rfl,O.out.1,?_,?_⟩
      ·rw [HN.out];exact O.out.2
      ·rw [HN.out];exact a0.out
     ·have hq:((((ByteArray.mk l1.toArray)[0]'L).toNat:Int) != 93)=true:=by
       rw [hx,bne_iff_ne];intro h;exact U (UInt8.toNat_inj.1 (by simpa using Int.ofNat.inj h))
      have G:Hid (Bz l'.length (l',false) []=Bz (zU (l1,false)).2.1.length (zU (l1,false)).2 (acc++[(zU (l1,false)).1])):=Q.out.trans (elsF_step D (by rw [E];simpa using U));have c9:(zU (l1,false)).2.1.length+1<=l1.length:=by have:=intF_dec (s:=(l1,false)) (n:=l1.length - 1) (by show l1.length<=_;omega);omega
      have a9:=zh (rInt_calls wr (Bw HV.out M.out (var_ne HV.out c7.out)) d.out (by show l1.length<=_;omega));obtain ⟨y,hy⟩:=EH (zU (l1,false));rw [<-hy] at G a9 c9;have e6:Hid (rdSize r wr=l1.length):=rdSize_of d.out;have f1:acc.length<=1000000000000:=by omega
      clear HI Q E hx U D hy
      go_wp2_with fail
      refine I.out.mono ?_;rintro e w2 ⟨rfl,rfl⟩;clear I
      go_wp2_with fail
      refine a9.out.mono ?_;rintro e w3 ⟨rfl,b1,c8⟩;have a0:Hid (zF w3 w.heap.size (.slice A acc.length c) acc):=own_chgR V.out d.out (by decide) b1;have O:=zh (M.out.tr b1);have b9:=zh c8;clear b1 c8 a9 V M d;have a8:w.heap.size<=w3.heap.size:=O.out.size
      go_wp2_with (at_builtin;refine Dg rfl _ _ rfl _ acc y.1 w.heap.size w3.heap.size 1 _ rfl rfl (a0.out.alloc _) ?d1 ?d2 ?d3 ?_)
      (try case d1=>exact zQ _ _ _ (by simp))
      case d2=>(first | (simp;done) | (simp;omega) | omega)
      case d3=>omega
      intro v' w4 b2 d4 e7;have b0:Below w.heap.size w3 w4:=((Below.refl _ w3).alloc a8 _).grown d4.out (by simp;omega) (fun k hk=>(a0.out.lt k hk).1);have e1:Hid (zm (·=r) w w4):=chg_below O.out b0;have c6:Hid (AO w4 r y.2):=zj.below b9.out b0 (zb c7.out);obtain ⟨A4,c4,rfl,-⟩:=AC b2;have e4:=zh b2;clear b2 d4 e7 b0 O b9 a0 a8;go_wp2;go_roundw
      case rel=>exact ⟨y.2,acc++[y.1],G,c6,e4,e1,by simp;omega,A4,c4,by simp⟩
      case measure=>rw [rdSize_of c6.out,e6.out];omega
  ·have hq:((((ByteArray.mk l.toArray)[0]'a3).toNat:Int) != 91)=true:=by
    rw [hx,bne_iff_ne];intro h;exact J (UInt8.toNat_inj.1 (by simpa using Int.ofNat.inj h))
   have hI:Hid (Aj (l,false)=([],([],true))):=by (show _=_);unfold Aj;rw [if_pos (.inr (by rw [K];simpa using J))]
   clear K hx J D
   go_wp2_with fail
   refine HF.out.mono ?_;rintro e w2 ⟨rfl,hC,hr⟩;have HC:=zh hC;have a1:=zh hr;clear hC hr
   go_wp2_with fail
   go_ret;refine ⟨_,rfl,HC.out,?_,?_⟩
   ·rw [hI.out];exact a1.out
   ·rw [hI.out];exact World.ownsRow_nil _ _ _ _
theorem rInts_calls {s:Rd} (w:World) (I:zJ w) (h:AO w r s) (K:s.1.length<=1000000000000):Calls Tryz.prog 84 #[.pointer (some ⟨r,0,none⟩)] w fun e w'=>∃v,e=.returned v/\zm (·=r) w w'/\AO w' r (Aj s).2/\zF w' w.heap.size v (Aj s).1:=by
 have D:=zh (elements_calls w I h K);generalize Aj s=i at D⊢;clear I h
 go_enter Tryz.func84,Tryz.ntmps84
 go_wp2_with fail
 refine D.out.mono ?_;rintro e w1 ⟨v,rfl,E,G,d⟩;obtain ⟨A,c,rfl,-⟩:=AC d;have J:=zh (And.intro E (And.intro G d));clear E G d
 go_wp2_with fail
 go_ret;exact ⟨_,rfl,J.out⟩
end
section
open Go.RowKit Go.Shelf
attribute [local go_sem ↓] Go.wp_at_zero Go.wp_at_succ
attribute [local go_sem] Oper.semAt_some
mutual
def encP:PT->List UInt8
 | .node t s ks=>(wI t++wL s)++wI (ks.length:Nat)++Ba ks
def Ba:List PT->List UInt8
 | []=>[]
 | k :: ks=>encP k++Ba ks
end
mutual
def PT.Ok:PT->Prop
 | .node t s ks=>I64 t/\(∀x∈s,I64 x)/\s.length<=1000000000000/\ks.length<=1000000000000/\PT.OkL ks
def PT.OkL:List PT->Prop
 | []=>True
 | k :: ks=>k.Ok/\PT.OkL ks
end
theorem okL_mem:∀{ks:List PT},PT.OkL ks->∀k∈ks,k.Ok
 | [],_,k,hk=>by cases hk
 | a :: ks,h,k,hk=>by
  unfold PT.OkL at h;rcases Ep.1 hk with rfl | hk
  ·exact h.1
  ·exact okL_mem h.2 k hk
theorem encPs_take:∀{ks:List PT} {k:Nat} (d:k<ks.length),Ba (ks.take (k+1))=Ba (ks.take k)++encP ks[k]
 | a :: ks,0,_=>by simp [Ba]
 | a :: ks,k+1,d=>by
  have h:=encPs_take (ks:=ks) (k:=k) (by simpa using d);simp only [List.take_succ_cons,Ba,List.getElem_cons_succ,h,List.append_assoc]
theorem encPs_le:∀(ks:List PT) (k:Nat),(Ba (ks.take k)).length<=(Ba ks).length
 | [],k=>by simp
 | a :: ks,0=>by simp [Ba]
 | a :: ks,k+1=>by
  have h:=encPs_le ks k;simp only [List.take_succ_cons,Ba,DK];omega
theorem encP_mem:∀{ks:List PT},∀k∈ks,(encP k).length<=(Ba ks).length/\k.size<=PT.sizeL ks
 | [],k,hk=>by cases hk
 | a :: ks,k,hk=>by
  simp only [Ba,PT.sizeL,DK];rcases Ep.1 hk with rfl | hk
  ·omega
  ·have:=encP_mem k hk;omega
theorem enc_calls:∀(N:Nat) {ok:Nat->Prop} {v:Value} {p:PT} (w:World),zJ w->Ay w ok v p->p.size<=N->p.Ok->(encP p).length<=9223372036854775000->
  Calls Tryz.prog 14 #[v] w fun e w'=>e=.returned (.string ⟨(encP p).toArray⟩)/\zc w w'
 | 0,ok,v,.node t s ks,w,_,h,hN,_,_=>by unfold PT.size at hN;omega
 | N+1,ok,v,.node t s ks,w,hv,h,hN,hl,hL=>by
  have IH:Hid (∀(ok:Nat->Prop) (v:Value) (p:PT) (w:World),zJ w->Ay w ok v p->p.size<=N->p.Ok->(encP p).length<=9223372036854775000->Calls Tryz.prog 14 #[v] w fun e w'=>e=.returned (.string ⟨(encP p).toArray⟩)/\zc w w'):=fun ok v p w=>enc_calls N w
  cases h with
  | mk hs hk he=>
   rename_i vs vk cs
   have HS:=zh hs;obtain ⟨As,cs',rfl,-,-⟩:=hs;obtain ⟨Ak,ck,rfl,f5,b6⟩:=hk;have c8:=zh b6;have c0:=zh he;have HV:=zh hv;unfold PT.Ok at hl;obtain ⟨b0,b1,b2,f6,b3⟩:=hl;have c7:=zh (okL_mem b3);have c9:Hid (∀k∈ks,(encP k).length<=(Ba ks).length/\k.size<=PT.sizeL ks):=encP_mem;unfold PT.size at hN;unfold encP at hL⊢;obtain ⟨x1,U⟩:∃x,x=wI t:=⟨_,rfl⟩;obtain ⟨x2,V⟩:∃x,x=wL s:=⟨_,rfl⟩;obtain ⟨x3,a0⟩:∃x,x=wI (ks.length:Nat):=⟨_,rfl⟩;rw [<-U,<-V,<-a0] at hL⊢;have H1:Hid (∀W,zc w W->Calls Tryz.prog 36 #[.int .i64 t] W fun e w'=>e=.returned (.string ⟨x1.toArray⟩)/\zc W w'):=fun W hW=>by rw [U];exact wInt_calls W (HV.out.ext hW) b0
   have H2:Hid (∀W,zc w W->Calls Tryz.prog 37 #[.slice As s.length cs'] W fun e w'=>e=.returned (.string ⟨x2.toArray⟩)/\zc W w'):=fun W hW=>by rw [V];exact wireInts_calls W (HV.out.ext hW) (HS.out.below hW) b1 b2
   have H3:Hid (∀W,zc w W->Calls Tryz.prog 36 #[.int .i64 (ks.length:Nat)] W fun e w'=>e=.returned (.string ⟨x3.toArray⟩)/\zc W w'):=fun W hW=>by rw [a0];exact wInt_calls W (HV.out.ext hW) ⟨by omega,by omega⟩
   obtain ⟨xs,G⟩:=EH (x1++(x2++x3));rw [List.append_assoc x1 x2 x3,<-G] at hL⊢;have e4:xs.length=x1.length+(x2.length+x3.length):=by rw [G];simp
   simp only [DK] at hL;have a1:∀w,(Op.stringOp .add ⟨x1.toArray⟩ ⟨x2.toArray⟩).run Tryz.prog w=.ok (.string ⟨(x1++x2).toArray⟩) w:=fun w=>add_str (by omega)
   have a2:∀w,(Op.stringOp .add ⟨(x1++x2).toArray⟩ ⟨x3.toArray⟩).run Tryz.prog w=.ok (.string ⟨xs.toArray⟩) w:=fun w=>by rw [G,<-List.append_assoc];exact add_str (by simp;omega)
   have HL:Hid (xs.length+(Ba ks).length<=9223372036854775000):=hL;clear b6 he b3 hv U V a0 b0 b1 b2 hL G e4
   go_enter Tryz.func14,Tryz.ntmps14
   go_upto_region 1 with fail;obtain ⟨J,p0,p1,p2⟩:=box3 w (.int .i64 t) (.slice As s.length cs') (.slice Ak ks.length ck);generalize w.alloc _=w1 at J p0 p1 p2⊢;obtain ⟨gp,a9⟩:=EH w.heap.size;rw [<-a9] at p0 p1 p2⊢;have d:=zh J;have Q:zc w1 w1:=zc.refl w1;clear J a9;refine DT (S:=(fun W=>zc w1 W)) zN (Q.drew) fun zH=>?_;have a8:zc w1 w1.drew:=zH;generalize w1.drew=wd at zH a8⊢;refine ze 0 zH ?_;refine ze 1 zH ?_;simp only [za,Dz];refine ze 3 zH ?_;refine ze 4 zH ?_;simp only [za,Dz];refine ze 7 zH ?_;refine ze 8 zH ?_;simp only [za,Dz];refine ze 9 zH ?_;simp only [za,Dz];refine zC 2 fun K I=>?_;go_simp;go_at_call 36;refine (H1.out _ (d.out.trans zH)).mono ?_;rintro e w2 ⟨rfl,d6⟩;go_simp;refine EI I (zH.trans d6) fun zH=>?_;clear I K;try simp only [za,Dz]
   refine zC 5 fun K I=>?_;go_simp;go_at_call 37;refine (H2.out _ (d.out.trans zH)).mono ?_;rintro e w3 ⟨rfl,d7⟩;go_simp;refine EI I (zH.trans d7) fun zH=>?_;clear I K;try simp only [za,Dz]
   refine ze 6 zH ?_;simp only [za,Dz];refine zC 10 fun K I=>?_;go_simp;go_at_call 36;refine (H3.out _ (d.out.trans zH)).mono ?_;rintro e w4 ⟨rfl,d8⟩;go_simp;refine EI I (zH.trans d8) fun zH=>?_;clear I K;try simp only [za,Dz]
   refine ze 11 zH ?_;refine ze 12 zH ?_;simp only [za,Dz];refine Eg (by kernel_rfl) ?_ _;have a6:=zh zH;clear a1 a2 H1 H2 H3
   go_wp2_with fail
   clear zH a8 Q;go_loopw [3,21] (fun n i wr=>∃k:Nat,k<=ks.length/\i=.int .i64 k/\n=.string ⟨(xs++Ba (ks.take k)).toArray⟩/\Hid (zc w1 wr)) (fun _ i _=>ks.length - (intOf i).toNat)
   case atStart=>exact ⟨0,DR _,rfl,by simp [Ba],a6.out⟩
   clear a6
   case round=>
    obtain ⟨k,hk,rfl,rfl,hE⟩:=hrel;obtain ⟨wk,rfl⟩:∃wk:World,wk=wr:=⟨_,rfl⟩;have Q:zc w1 wk:=hE.out;by_cases D:k<ks.length
    ·have f1:(k:Int)<(ks.length:Int):=by omega
     have kk0:(0:Int)<=(k:Int):=by omega
     obtain ⟨b,off,rfl,h0,h1,h2⟩:=kidsAt c8.out D;have q0:=zc.rule (d.out.cell h0);have q1:=zc.rule (d.out.cell h1);have q2:=zc.rule (d.out.cell h2);have E:=c0.out k D;obtain ⟨A1,c1,A2,c2,e,-⟩:=E.form;obtain ⟨v0,L⟩:∃v,v=cs.getD (k*3) undef:=⟨_,rfl⟩;obtain ⟨v1,M⟩:∃v,v=cs.getD (k*3+1) undef:=⟨_,rfl⟩;obtain ⟨v2,O⟩:∃v,v=cs.getD (k*3+2) undef:=⟨_,rfl⟩;rw [<-L,<-M,<-O] at E e;rw [<-L] at q0;rw [<-M] at q1;rw [<-O] at q2;injection e with e;have e0:=congrArg (fun a:Array Value=>a[0]?) e;have e1:=congrArg (fun a:Array Value=>a[1]?) e;have e2:=congrArg (fun a:Array Value=>a[2]?) e;simp at e0 e1 e2;subst e0 e1 e2;have b5:=c9.out _ (DD D);have HK:Hid (∀W,zc w W->Calls Tryz.prog 14 #[_] W fun e w'=>e=.returned (.string ⟨(encP ks[k]).toArray⟩)/\zc W w'):=fun W hW=>IH.out _ _ _ W (HV.out.ext hW) (E.ext hW) (by omega) (c7.out _ (DD D)) (by have:=HL.out;omega)
     have HT:Hid (xs++Ba (ks.take (k+1))=(xs++Ba (ks.take k))++encP ks[k]):=by (show _=_);rw [encPs_take D,List.append_assoc]
     have b4:=encPs_le ks (k+1);rw [encPs_take D,DK] at b4;have d9:=HL.out;obtain ⟨y1,a3⟩:∃y,y=xs++Ba (ks.take k):=⟨_,rfl⟩;obtain ⟨y2,a4⟩:∃y,y=encP ks[k]:=⟨_,rfl⟩;have ha:∀w,(Op.stringOp .add ⟨y1.toArray⟩ ⟨y2.toArray⟩).run Tryz.prog w=.ok (.string ⟨(y1++y2).toArray⟩) w:=fun w=>add_str (by rw [a3,a4,DK];omega)
     rw [<-a3] at HT⊢;rw [<-a4] at HT HK;have d4:Hid (zc w wk):=d.out.trans Q;clear a3 a4 d9 b4 b5 E e L M O h0 h1 h2
     go_wp2_with fail
     refine (HK.out _ (d4.out.alloc _)).mono ?_;rintro e w5 ⟨rfl,a7⟩;have b8:Hid (zc w1 w5):=(Q.alloc _).trans a7;clear a7 Q HK q0 q1 q2
     go_wp2_with fail
     go_roundw
     case rel=>exact ⟨k+1,by omega,by go_num,by rw [HT.out],b8⟩
     case measure=>simp [intOf];omega
    ·obtain rfl:k=ks.length:=by omega
     have b9:Hid (zc w wk):=d.out.trans hE.out;have HT:Hid (xs++Ba (ks.take ks.length)=xs++Ba ks):=by (show _=_);rw [DN]
     rw [HT.out];clear HT hE Q
     go_wp2_with fail
     go_ret;exact ⟨rfl,b9.out⟩
end
section
open Go.RowKit
attribute [local go_sem ↓] Go.wp_at_zero Go.wp_at_succ
attribute [local go_sem] Oper.semAt_some
mutual
def BO:PT->PT->Bool
 | .node t s ks,.node t' s' ks'=>decide (t=t') && (decide (s=s') && (decide (ks.length=ks'.length) && sameL ks ks'))
def sameL:List PT->List PT->Bool
 | [],_=>true
 | _ :: _,[]=>true
 | k :: ks,k' :: ks'=>BO k k' && sameL ks ks'
end
theorem sameL_no:∀{ks ks':List PT} {k:Nat} (h:k<ks.length) (d:k<ks'.length),BO ks[k] ks'[k]=false->sameL ks ks'=false
 | a :: ks,b :: ks',0,_,_,e=>by
  have e':BO a b=false:=e;unfold sameL;rw [e'];rfl
 | a :: ks,b :: ks',k+1,h,d,e=>by
  have:=sameL_no (ks:=ks) (ks':=ks') (k:=k) (by simpa using h) (by simpa using d) (by simpa using e);unfold sameL;rw [this,Bool.and_false]
theorem sameL_yes:∀{ks ks':List PT},(∀j (h:j<ks.length) (d:j<ks'.length),BO ks[j] ks'[j]=true)->sameL ks ks'=true
 | [],_,_=>by unfold sameL;rfl
 | _ :: _,[],_=>by unfold sameL;rfl
 | a :: ks,b :: ks',h=>by
  unfold sameL;have h0:BO a b=true:=h 0 (by simp) (by simp);rw [h0,sameL_yes (ks:=ks) (ks':=ks') fun j h1 h2=>h (j+1) (by simpa using h1) (by simpa using h2)];rfl
mutual
theorem Dc:∀(p:PT),BO p p=true
 | .node t s ks=>by unfold BO;simp [sameL_refl ks]
theorem sameL_refl:∀(ks:List PT),sameL ks ks=true
 | []=>by unfold sameL;rfl
 | k :: ks=>by unfold sameL;rw [Dc k,sameL_refl ks];rfl
end
theorem CE:∀(N:Nat) {ok ok':Nat->Prop} {v v':Value} {p p':PT} (w:World),Ay w ok v p->Ay w ok' v' p'->p.size<=N->p.Lens->p'.Lens->
  Calls Tryz.prog 17 #[v,v'] w fun e w'=>e=.returned (.bool (BO p p'))/\zc w w'
 | 0,ok,ok',v,v',.node t s ks,p',w,h,_,hN,_,_=>by unfold PT.size at hN;omega
 | N+1,ok,ok',v,v',.node t s ks,.node t' s' ks',w,h,Q,hN,hl,c8=>by
  have IH:Hid (∀(ok ok':Nat->Prop) (v v':Value) (p p':PT) (w:World),Ay w ok v p->Ay w ok' v' p'->p.size<=N->p.Lens->p'.Lens->Calls Tryz.prog 17 #[v,v'] w fun e w'=>e=.returned (.bool (BO p p'))/\zc w w'):=fun ok ok' v v' p p' w=>CE N w
  cases h with
  | mk hs hk he=>
  rename_i vs vk cs
  cases Q with
  | mk d7 e8 c0=>
  rename_i vs' vk' cs'
  have HS:=zh hs;have e4:=zh d7;obtain ⟨As,c1,rfl,-,-⟩:=hs;obtain ⟨As',c1',rfl,-,-⟩:=d7;obtain ⟨Ak,ck,rfl,g1,d6⟩:=hk;obtain ⟨Ak',ck',rfl,f4,a3⟩:=e8;have e3:=zh d6;have e0:=zh he;have b3:=zh a3;have b0:=zh c0;unfold PT.Lens at hl c8;obtain ⟨e9,g4,d4⟩:=hl;obtain ⟨c9,f7,a2⟩:=c8;have e2:=zh (lensL_mem d4);have b2:=zh (lensL_mem a2);have e5:Hid (∀k∈ks,k.size<=PT.sizeL ks):=size_mem;have b9:=fun (w:World) (W:World) (hW:zc w W) (h:zn w ok (.slice As s.length c1) s) (Q:zn w ok' (.slice As' s'.length c1') s')=>same_calls W (h.below hW) (Q.below hW) e9 c9
  have D:Hid (∀W,zc w W->Calls Tryz.prog 44 #[.slice As s.length c1,.slice As' s'.length c1'] W fun e w'=>e=.returned (.bool (decide (s=s')))/\zG W w'):=fun W hW=>b9 w W hW HS.out e4.out
  unfold PT.size at hN;obtain ⟨R,hR⟩:=EH (BO (.node t s ks) (.node t' s' ks'));rw [<-hR];unfold BO at hR;have HR:=zh hR;clear d6 he d4 a3 c0 a2 b9 hR
  go_enter Tryz.func17,Tryz.ntmps17
  go_upto_region 1 with fail;obtain ⟨a8,p0,p1,p2⟩:=box3 w (.int .i64 t) (.slice As s.length c1) (.slice Ak ks.length ck);have a9:(w.alloc (.cells #[.int .i64 t,.slice As s.length c1,.slice Ak ks.length ck] 27)).heap.size=w.heap.size+1:=by simp
  generalize w.alloc _=w1 at a8 p0 p1 p2 a9⊢;obtain ⟨U,q0,q1,q2⟩:=box3 w1 (.int .i64 t') (.slice As' s'.length c1') (.slice Ak' ks'.length ck');generalize w1.alloc _=w2 at U q0 q1 q2⊢;rw [a9] at q0 q1 q2;obtain ⟨gp,c6⟩:=EH w.heap.size;rw [<-c6] at p0 p1 p2 q0 q1 q2⊢;have a5:=zh U;have p0:=fun W h=>p0 W (a5.out.trans h)
  have p1:=fun W h=>p1 W (a5.out.trans h)
  have p2:=fun W h=>p2 W (a5.out.trans h)
  have d:=zh (a8.trans U);have J:zc w2 w2:=zc.refl w2;clear a8 U c6 a9;by_cases ht:t=t'
  ·have d8:(t != t')=false:=by simp [ht]
   by_cases I:s=s'
   ·have G:decide (s=s')=true:=DF I;by_cases E:ks.length=ks'.length
    ·have c7:((ks.length:Int) != (ks'.length:Int))=false:=by simp [E]
     have a1:(ks.length != ks'.length)=false:=by simp [E]
     rw [G] at D;have b4:Hid (R=sameL ks ks'):=by (show _=_);rw [HR.out,DF ht,DF I,DF E];rfl
     clear ht I G HR
     go_wp2_with fail
     refine (D.out w2 d.out).mono ?_;rintro e w3 ⟨rfl,hD⟩;obtain ⟨nd,rfl⟩:=hD;have J:zc w2 (w2.drewN nd):=(zc.refl w2).drewN nd;generalize w2.drewN nd=w3 at J⊢
     go_wp2_with fail
     clear c7 a1 d8 D;go_loopw [5] (fun i wr=>∃k:Nat,k<=ks.length/\i=.int .i64 k/\Hid (∀j,j<k->∀(h:j<ks.length) (Q:j<ks'.length),BO ks[j] ks'[j]=true)/\Hid (zc w2 wr)) (fun i _=>ks.length - (intOf i).toNat)
     case atStart=>exact ⟨0,DR _,rfl,(fun j hj=>by omega),J⟩
     have e1:=zh E;clear J E
     case round=>
      obtain ⟨k,hk,rfl,V,hE⟩:=hrel;obtain ⟨wk,rfl⟩:∃wk:World,wk=wr:=⟨_,rfl⟩;have J:zc w2 wk:=hE.out;by_cases M:k<ks.length
      ·have d5:(k:Int)<(ks.length:Int):=by omega
       have L:k<ks'.length:=by have:=e1.out;omega
       have f0:(k:Int)<(ks'.length:Int):=by omega
       have kk0:(0:Int)<=(k:Int):=by omega
       obtain ⟨b,off,rfl,h0,h1,h2⟩:=kidsAt e3.out M;obtain ⟨b',off',rfl,b5,b6,b7⟩:=kidsAt b3.out L;have r0:=zc.rule (d.out.cell h0);have r1:=zc.rule (d.out.cell h1);have r2:=zc.rule (d.out.cell h2);have s0:=zc.rule (d.out.cell b5);have s1:=zc.rule (d.out.cell b6);have s2:=zc.rule (d.out.cell b7);have b1:Hid (∀W,zc w2 W->Calls Tryz.prog 17 #[_,_] W fun e w'=>e=.returned (.bool (BO ks[k] ks'[k]))/\zc W w'):=fun W hW=>IH.out _ _ _ _ _ _ W ((e0.out k M).ext (d.out.trans hW)) ((b0.out k L).ext (d.out.trans hW)) (by have:=e5.out _ (DD M);omega) (e2.out _ (DD M)) (b2.out _ (DD L))
       obtain ⟨z,hz⟩:=EH (BO ks[k] ks'[k]);rw [<-hz] at b1;have HZ:=zh hz;clear h0 h1 h2 b5 b6 b7 hz;go_upto_region 6 with fail;refine DT (S:=(fun W=>zc w2 W)) zN (J.drew) fun zH=>?_;have a7:zc w2 wk.drew:=zH;generalize wk.drew=wd at zH a7⊢;refine ze 0 zH ?_;refine ze 1 zH ?_;simp only [za,Dz];refine ze 2 zH ?_;refine ze 3 zH ?_;simp only [za,Dz];refine ze 4 zH ?_;refine ze 5 zH ?_;simp only [za,Dz];refine ze 6 zH ?_;refine ze 7 zH ?_;simp only [za,Dz];refine ze 8 zH ?_;refine ze 9 zH ?_;simp only [za,Dz];refine zC 10 fun K hK=>?_;go_simp;go_at_call 17;refine (b1.out _ zH).mono ?_;rintro e w9 ⟨rfl,e6⟩;go_simp;refine EI hK (zH.trans e6) fun zH=>?_;clear hK K;try simp only [za,Dz]
       refine ze 11 zH ?_;simp only [za,Dz];refine Eg (by kernel_rfl) ?_ _
       cases z with
       | true=>
        have a4:Hid (∀j,j<k+1->∀(h:j<ks.length) (Q:j<ks'.length),BO ks[j] ks'[j]=true):=fun j hj h Q=>by
         rcases DZ j k with h1 | h1
         ·exact V.out j h1 h Q
         ·have:j=k:=by omega
          subst this;exact HZ.out.symm
        have a6:=zh zH;clear zH J a7 r0 r1 r2 s0 s1 s2
        go_wp2_with fail
        go_roundw
        case rel=>exact ⟨k+1,by omega,by go_num,a4,a6⟩
        case measure=>simp [intOf];omega
       | false=>
        have O:Hid (R=false):=by (show _=_);rw [b4.out];exact sameL_no M L HZ.out.symm
        have a6:=zh (d.out.trans zH);clear zH J a7 r0 r1 r2 s0 s1 s2
        go_wp2_with fail
        go_ret;exact ⟨zk O.out.symm,a6.out⟩
      ·have O:Hid (R=true):=by (show _=_);rw [b4.out];exact sameL_yes fun j h Q=>V.out j (by omega) h Q
       have d5:¬ ((k:Int)<(ks.length:Int)):=by omega
       go_wp2_with fail
       go_ret;exact ⟨zk O.out.symm,d.out.trans J⟩
    ·have c7:((ks.length:Int) != (ks'.length:Int))=true:=by rw [bne_iff_ne];omega
     have a1:(ks.length != ks'.length)=true:=by rw [bne_iff_ne];exact E
     rw [G] at D;have O:Hid (R=false):=by (show _=_);rw [HR.out,DG E];simp
     clear ht I G HR
     go_wp2_with fail
     refine (D.out w2 d.out).mono ?_;rintro e w3 ⟨rfl,hD⟩;obtain ⟨nd,rfl⟩:=hD;have J:zc w2 (w2.drewN nd):=(zc.refl w2).drewN nd;generalize w2.drewN nd=w3 at J⊢
     go_wp2_with fail
     go_ret;exact ⟨zk O.out.symm,d.out.trans J⟩
   ·have G:decide (s=s')=false:=DG I;rw [G] at D;have O:Hid (R=false):=by (show _=_);rw [HR.out,DG I];simp
    clear ht I G HR
    go_wp2_with fail
    refine (D.out w2 d.out).mono ?_;rintro e w3 ⟨rfl,hD⟩;obtain ⟨nd,rfl⟩:=hD;have J:zc w2 (w2.drewN nd):=(zc.refl w2).drewN nd;generalize w2.drewN nd=w3 at J⊢
    go_wp2_with fail
    go_ret;exact ⟨zk O.out.symm,d.out.trans J⟩
  ·have d8:(t != t')=true:=by simp [ht]
   have O:Hid (R=false):=by (show _=_);rw [HR.out,DG ht];rfl
   clear ht HR
   go_wp2_with fail
   go_ret;exact ⟨zk O.out.symm,d.out⟩
end
section
open Go.RowKit
attribute [local go_sem ↓] Go.wp_at_zero Go.wp_at_succ
def exA:Array Value:=#[.bool true,.bool true,.bool true,.bool true,.bool false,.bool true,.bool true,.bool true,.bool true]
theorem fin_wp {P:Program} {c:Code} {Q:Exit->Act->World->Prop} {a:Act} (w:World) (os:List Obj) (h:∀W,zc w W->(∀(i:Nat) o,os[i]?=some o->W.heap[w.heap.size+i]?=some o)->c.wp P Q a W):c.wp P Q a (os.foldl World.alloc w):=h _ (CU os w) (fun i o d=>allocs_at os w i o d)
structure FI (W0:World) (g:Nat) (u t:Value) (w:World) (k:Nat) (vF:Value) (fs:List Value):Prop where
 ch:zm (·=g) W0 w
 mz:zj w g 35 #[.int .i64 3,.int .i64 3,.int .i64 1,vF,u,t]
 F:w.ownsRow W0.heap.size 32 1 vF k fs
 fd:∀j,j<k->∃h,fs[j]?=some (.slice (some ⟨h,0,none⟩) 9 9)/\W0.heap.size<=h/\zj w h 4 exA
theorem FI.mid (h:FI W0 g u t w k vF fs) (d:zc w ((w.alloc (.cells exA 4)).alloc o)) (D:((w.alloc (.cells exA 4)).alloc o).grownBy w2 vF.ownBlock):zj w2 g 35 #[.int .i64 3,.int .i64 3,.int .i64 1,vF,u,t]:=
 (D.block g (by have:=zb h.mz;simp;omega) (fun e=>zg h.F h.mz (by decide) e.symm)).trans (h.mz.ext d)
theorem FI.add {v':Value} (h:FI W0 g u t w k vF fs) (J:zc w ((w.alloc (.cells exA 4)).alloc o)) (L:w2.ownsRow W0.heap.size 32 1 v' (k+1) (fs++[.slice (some ⟨w.heap.size,0,none⟩) 9 9])) (I:((w.alloc (.cells exA 4)).alloc o).grownBy w2 vF.ownBlock):
  FI W0 g u t (w2.setCell ⟨g,3,none⟩ v') (k+1) v' (fs++[.slice (some ⟨w.heap.size,0,none⟩) 9 9]):=by
 have U:zj ((w.alloc (.cells exA 4)).alloc o) w.heap.size 4 exA:=(zj.new w exA 4 rfl).ext ((zc.refl _).alloc _);have E:∀x ty cs,zj w x ty cs->ty≠32->zj w2 x ty cs:=fun x ty cs d ht=>(I.block x (by have:=zb d;simp;omega) (fun e=>zg h.F d (Ne.symm ht) e.symm)).trans (d.ext J)
 have G:zj w2 w.heap.size 4 exA:=(I.block _ (by simp;omega) (fun e=>by have:=(World.ownsRow.lt h.F _ e.symm).2;omega)).trans U;have D:=E g _ _ h.mz (by decide);have M:∀x ty cs,zj w2 x ty cs->ty≠35->zj (w2.setCell ⟨g,3,none⟩ v') x ty cs:=fun x ty cs d ht=>d.setOther (a:=⟨g,3,none⟩) (zj.ne_ d D ht) _
 have K:fs.length=k*1:=h.F.1;refine ⟨((h.ch.tr (BC J)).grown I (fun x d V=>by have:=(World.ownsRow.lt h.F _ d).1;omega)).set g 3 v' rfl,D.set (k:=3) v',zy L (fun x d=>DL w2 ⟨g,3,none⟩ _ x (fun e=>zg L D (by decide) (by rw [d];exact congrArg some e))),fun j hj=>?_⟩;rcases DZ j k with h1 | h1
 ·obtain ⟨x,h2,O,Q⟩:=h.fd j h1;exact ⟨x,by rw [DH (by omega)];exact h2,O,M _ _ _ (E _ _ _ Q (by decide)) (by decide)⟩
 ·have:j=k:=by omega
  subst this;exact ⟨w.heap.size,by rw [DI (by omega),show j - fs.length=0 by omega];rfl,h.ch.size,M _ _ _ G (by decide)⟩
theorem AF (a b:Int) (w:World):Calls Tryz.prog 26 #[.int .i64 a,.int .i64 b] w fun e w'=>∃v,e=.returned v/\zc w w'/\zM w' (fun x=>w.heap.size<=x) v (exM a b):=by
 have c8:∀w,(Instr.makeSlice 32 (.int .i64 9) (.int .i64 9)).run Tryz.prog w=.ok (.slice (some ⟨w.heap.size,0,none⟩) 9 9) (w.alloc (.cells #[.bool false,.bool false,.bool false,.bool false,.bool false,.bool false,.bool false,.bool false,.bool false] 4)):=fun _=>by kernel_rfl
 go_enter Tryz.func26,Tryz.ntmps26
 go_wp2_with fail
 refine fin_wp w [_,_,_,_,_,_,_,_] fun W0 a2 J=>?_
 have b0:W0.heap[w.heap.size]?=_:=J 0 _ rfl;have b1:=J 1 _ rfl;have b2:=J 2 _ rfl;have b3:=J 3 _ rfl;have b4:=J 4 _ rfl;have b5:=J 5 _ rfl;have b6:=J 6 _ rfl;have b7:=J 7 _ rfl;clear J c8;have a7:=zh a2;obtain ⟨H,hH⟩:=EH w.heap.size;rw [<-hH] at b0 b1 b2 b3 b4 b5 b6 b7⊢;have HH:=zh hH;have a6:Hid (zj W0 H 35 #[.int .i64 0,.int .i64 0,.int .i64 0,.slice none 0 0,.slice none 0 0,.slice none 0 0]):=b0;have V:Hid (∀(k:Nat) (x:Int),H<=k->W0.heap[k]?=some (.cells #[.int .i64 x] 3 (0,0))->zn W0 (fun b=>H<=b/\b≠H+7/\b≠H) (.slice (some ⟨k,0,none⟩) 1 1) [x]):=fun k x hk d=>⟨_,_,rfl,DC _,AG.block (cs:=#[.int .i64 x]) d ⟨hk,(fun e=>by subst e;rw [b7] at d;cases d),fun e=>by subst e;rw [b0] at d;cases d⟩ rfl⟩
 have a1:Hid (AZ W0 (fun b=>H<=b/\b≠H+7/\b≠H) (.slice (some ⟨H+1,0,none⟩) 9 9) (List.replicate 9 false)):=⟨_,_,rfl,DC _,AG.block (cs:=#[.bool false,.bool false,.bool false,.bool false,.bool false,.bool false,.bool false,.bool false,.bool false]) b1 (by omega) rfl⟩
 have a0:Hid (BA W0 (fun b=>H<=b/\b≠H+7/\b≠H) (.slice (some ⟨H+6,0,none⟩) 2 2) [([0],[2]),([a],[b])]):=by
  refine ⟨[.string ⟨#[97]⟩,.slice (some ⟨H+2,0,none⟩) 1 1,.slice (some ⟨H+3,0,none⟩) 1 1,.string ⟨#[98]⟩,.slice (some ⟨H+4,0,none⟩) 1 1,.slice (some ⟨H+5,0,none⟩) 1 1],⟨_,_,rfl,DC _,rfl,fun _=>⟨H+6,0,rfl,by omega,fun j u hu=>by rw [Nat.zero_add];exact zj.cell (cs:=#[.string ⟨#[97]⟩,.slice (some ⟨H+2,0,none⟩) 1 1,.slice (some ⟨H+3,0,none⟩) 1 1,.string ⟨#[98]⟩,.slice (some ⟨H+4,0,none⟩) 1 1,.slice (some ⟨H+5,0,none⟩) 1 1]) b6 (by simpa using hu)⟩⟩,fun i x I=>?_⟩
  match i,I with
  | 0,I=>
   have:(([0],[2]):List Int×List Int)=x:=by simpa using I
   subst this;exact ⟨_,_,_,rfl,rfl,rfl,V.out _ _ (by omega) b2,V.out _ _ (by omega) b3⟩
  | 1,I=>
   have:(([a],[b]):List Int×List Int)=x:=by simpa using I
   subst this;exact ⟨_,_,_,rfl,rfl,rfl,V.out _ _ (by omega) b4,V.out _ _ (by omega) b5⟩
 have U:Hid (FI W0 (H+7) (.slice (some ⟨H+1,0,none⟩) 9 9) (.slice (some ⟨H+6,0,none⟩) 2 2) W0 0 (.slice none 0 0) []):=⟨zm.refl _ _,b7,World.ownsRow_nil _ _ _ _,fun j hj=>by omega⟩;have O:Hid (H+7<W0.heap.size):=zb b7;clear b0 b1 b2 b3 b4 b5 b6 b7 a2 V hH;go_loopw [6] (fun i wr=>∃(k:Nat) (vF:Value) (fs:List Value),i=.int .i64 k/\k<=2/\Hid (FI W0 (H+7) (.slice (some ⟨H+1,0,none⟩) 9 9) (.slice (some ⟨H+6,0,none⟩) 2 2) wr k vF fs)) (fun i _=>2 - (intOf i).toNat)
 case atStart=>exact ⟨0,_,_,rfl,DR _,U.out⟩
 clear U
 case round=>
  obtain ⟨k,vF,fs,rfl,hk,E⟩:=hrel;obtain ⟨wk,rfl⟩:∃wk:World,wk=wr:=⟨_,rfl⟩;have m0:=E.out.mz.cell (k:=0) rfl;have m1:=E.out.mz.cell (k:=1) rfl;have m2:=E.out.mz.cell (k:=2) rfl;have m3:=E.out.mz.cell (k:=3) rfl;have m4:=E.out.mz.cell (k:=4) rfl;have m5:=E.out.mz.cell (k:=5) rfl;have e1:W0.heap.size<=wk.heap.size:=E.out.ch.size;by_cases a4:k<2
  ·have d7:(k:Int)<2:=by omega
   have a3:zc wk ((wk.alloc (.cells exA 4)).alloc (.cells #[.slice (some ⟨wk.heap.size,0,none⟩) 9 9] 32)):=((zc.refl _).alloc _).alloc _;have M:=zh a3;have L:An ((wk.alloc (.cells exA 4)).alloc (.cells #[.slice (some ⟨wk.heap.size,0,none⟩) 9 9] 32)) (fun _=>True) 1 (.slice (some ⟨wk.heap.size+1,0,none⟩) 1 1) 1 [.slice (some ⟨wk.heap.size,0,none⟩) 9 9]:=⟨_,_,rfl,DC _,AG.block (cs:=#[.slice (some ⟨wk.heap.size,0,none⟩) 9 9]) (zj.new _ _ _ (by simp)) trivial rfl⟩;have K:=zh L;clear a3 L
   go_wp2_with (at_builtin;refine BL rfl _ _ _ eBools rfl W0.heap.size k 1 fs [.slice (some ⟨wk.heap.size,0,none⟩) 9 9] vF _ rfl rfl ((E.out.F.alloc _).alloc _) K.out (by simp [Value.oneCell']) (by simp;omega) (by unfold maxLen;omega) (by omega) ?_)
   intro v' w2 ho hg d4;have Q:=E.out.mid M.out hg;have a9:=zh (E.out.add M.out ho hg);have n3:=Q.cell (k:=3) rfl;have fz:=Q.frozen 3;obtain ⟨A',c',e',-,-⟩:=An.of_own ho;subst e';clear ho hg d4 Q K M m0 m1 m2 m3 m4 m5;go_wp2;go_roundw
   case rel=>exact ⟨k+1,_,_,by go_num,by omega,a9.out⟩
   case measure=>simp [intOf];omega
  ·obtain rfl:k=2:=by omega
   have D:Hid (zj wk H 35 #[.int .i64 0,.int .i64 0,.int .i64 0,.slice none 0 0,.slice none 0 0,.slice none 0 0]):=E.out.ch.blk a6.out (by omega);have z0:=D.out.cell (k:=0) rfl;have z1:=D.out.cell (k:=1) rfl;have z2:=D.out.cell (k:=2) rfl;have z3:=D.out.cell (k:=3) rfl;have z4:=D.out.cell (k:=4) rfl;have z5:=D.out.cell (k:=5) rfl;have fz:∀j,wk.frozen? ⟨H,j,none⟩=false:=fun j=>D.out.frozen j
   obtain ⟨Af,cf,e',-,-⟩:=An.of_own E.out.F;subst e'
   have b9:Hid (zM wk (fun b=>H<=b/\b≠H) (.agg #[.int .i64 3,.int .i64 3,.int .i64 1,.slice Af 2 cf,.slice (some ⟨H+1,0,none⟩) 9 9,.slice (some ⟨H+6,0,none⟩) 2 2]) (exM a b)):=by
    have hS:zW (fun b=>H<=b/\b≠H+7/\b≠H) W0 wk:=E.out.ch.same fun b d e=>d.2.1 e
    refine ⟨_,_,_,rfl,⟨fs,(An.of_own E.out.F).weaken (fun b d=>by have:=O.out;omega),fun i x I=>?_⟩,(a1.out.keep hS).weaken (fun b d=>⟨d.1,d.2.2⟩),(a0.out.keep hS).weaken (fun b d=>⟨d.1,d.2.2⟩)⟩
    have hi:i<2/\x=exFree:=by
     match i,I with
     | 0,I=>exact ⟨by omega,by simpa [exM] using I.symm⟩
     | 1,I=>exact ⟨by omega,by simpa [exM] using I.symm⟩
    obtain ⟨h,h1,h2,h3⟩:=E.out.fd i hi.1;rw [hi.2];exact ⟨_,h1,⟨_,_,rfl,DC _,AG.block (cs:=exA) h3 (by have:=O.out;omega) rfl⟩⟩
   have a8:Hid (Below H w wk):=by
    have h1:Below H w W0:=by (show Below _ _ _);rw [HH.out];exact a7.out
    have h2:Below H W0 wk:=E.out.ch.below (by have:=O.out;omega) (fun b d=>by omega);exact h1.trans h2
   clear E a1 a0;go_wp2;refine case_fin (P:=fun W=>bodyPost Tryz.prog Tryz.f26 _ Exit.ret _ W) (g2:=H) ?_ D.out;intro WZ G c0 hk;have y0:=G.cell (k:=0) rfl;have y1:=G.cell (k:=1) rfl;have y2:=G.cell (k:=2) rfl;have y3:=G.cell (k:=3) rfl;have y4:=G.cell (k:=4) rfl;have y5:=G.cell (k:=5) rfl;have hE:zc w WZ:=by have h:=a8.out.trans c0;rw [HH.out] at h;exact h
   exact Eu (v:=.agg #[.int .i64 3,.int .i64 3,.int .i64 1,.slice Af 2 cf,.slice (some ⟨H+1,0,none⟩) 9 9,.slice (some ⟨H+6,0,none⟩) 2 2]) (by simp [results,Tryz.results26,go_sem,y0,y1,y2,y3,y4,y5]) rfl ⟨_,rfl,hE,(b9.out.keep (fun b d a4=>hk b a4 d.2)).weaken fun b d=>by have:=HH.out;omega⟩
end
end Go.Proofs.YtcnaogdgjkpkmaaGreatDoor
