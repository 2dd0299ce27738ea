import Derived.Test.YtjomnbdjajjgfaaGreatDoorWIv
set_option linter.unusedVariables false
set_option linter.unusedSimpArgs false
set_option maxRecDepth 100000
set_option maxHeartbeats 16000000
namespace Go.Proofs.YtjomnbdjajjgfaaGreatDoor
variable {ns:List ByteArray} {acc:List Int} {l l0:List UInt8} {m:MZ} {r:Nat} {ok:Nat->Prop} {s:Rd} {b:UInt8} {v:Value} {w:World}
section
open Go.RowKit Go.Shelf
attribute [local go_sem ↓] Go.wp_at_zero Go.wp_at_succ
theorem mRInt_calls (w:World) (h:Bq w r l s) (Q:l.length<=1000000000000):Calls Tryz.prog 159 #[.pointer (some ⟨r,0,none⟩)] w fun e w'=>e=.returned (.int .i64 (AS s).1)/\zC (·=r) w w'/\Bq w' r l (AS s).2:=by
 have B:Hid (Calls Tryz.prog 210 #[.pointer (some ⟨r,0,none⟩),.int .u8 59] w (NumQ r l s (Bm 59 s) w)):=mNumber_calls 59 w h Q;have d:Hid (∀o,o=Bm 59 s->AS s=match o with | some (v,b)=>(v,(b,false)) | none=>(0,([],true))):=fun o ho=>by rw [ho];rfl
 generalize Bm 59 s=o at B d;have d:=zh (d.out o rfl);generalize AS s=i at d;clear h Q
 go_enter Tryz.func159,Tryz.ntmps159
 cases o with
 | none=>
  go_wp2_with fail
  refine B.out.mono ?_;rintro e w1 ⟨D,-,U⟩;obtain ⟨rfl,G⟩:=U rfl;have O:=zh (CB w1 G);have J:=zh D;clear D U G B
  go_wp2_with fail
  refine O.out.mono ?_;rintro e w2 ⟨rfl,E,I⟩;have M:=zh I;have K:Hid (zC (·=r) w w2):=J.out.tr E;clear E I O J
  go_wp2_with fail
  go_ret;have e:=d.out;subst e;exact ⟨rfl,K.out,M.out⟩
 | some p=>
  obtain ⟨v,b⟩:=p
  go_wp2_with fail
  refine B.out.mono ?_;rintro e w1 ⟨D,V,-⟩;obtain ⟨rfl,G⟩:=V v b rfl;have HR:=zh G;have J:=zh D;clear D V G B
  go_wp2_with fail
  go_ret;have e:=d.out;subst e;exact ⟨rfl,J.out,HR.out⟩
def Ci (b:UInt8) (s:Rd):Bool:=decide (zU s≠0) && (s.1.head?==some b)
def CG (b:UInt8) (s:Rd):Rd:=if Ci b s=true then (s.1.tail,false) else s
theorem mByte_calls (b:UInt8) (w:World) (h:Bq w r l s) (hl:l.length<=1000000000000):Calls Tryz.prog 213 #[.pointer (some ⟨r,0,none⟩),.int .u8 b.toNat] w fun e w'=>e=.returned (.bool (Ci b s))/\zC (·=r) w w'/\Bq w' r l (CG b s):=by
 have HQ:=zh h;have E:=zh (mLeft_calls w h hl);obtain ⟨p,hs,hb⟩:=h;by_cases h0:zU s=0
 ·have V:Hid (Ci b s=false):=by (show _=_);simp [Ci,h0]
  have HS:Hid (CG b s=s):=by (show _=_);unfold CG;rw [V.out];rfl
  rw [h0] at E;clear hs hb h0;generalize Ci b s=B at V⊢;generalize CG b s=S at HS⊢
  go_enter Tryz.func213,Tryz.ntmps213
  go_wp2_with fail
  refine E.out.mono ?_;rintro e w1 ⟨rfl,U⟩;have Q:=zh U;clear U E
  go_wp2_with fail
  go_quiet (fail)
  go_wp2_with fail
  go_ret;have e:=V.out;subst e;exact ⟨rfl,zC.of_ext (Q.out.drewN _),by rw [HS.out];exact HQ.out.ext (Q.out.drewN _)⟩
 ·obtain ⟨sl,bd⟩:=s
  cases bd with
  | true=>exact absurd rfl h0
  | false=>
   have K:=hs.ok rfl;dsimp only at K hb
   have hp:p<l.length:=by
    rcases Ev p l.length with h | h
    ·exact h
    ·exact absurd (by rw [K,List.drop_of_length_le h];rfl) h0
   have d:=List.drop_eq_getElem_cons hp;have HT:Hid (sl.tail=l.drop (p+1)):=by (show _=_);rw [K,d];rfl
   have J:Hid (Ci b (sl,false)=decide (l[p]=b)):=by
    (show _=_)
    unfold Ci;rw [Eb h0,Bool.true_and];show (sl.head?==some b)=_;rw [K,d,List.head?_cons];by_cases M:l[p]=b
    ·simp [M]
    ·simp [M]
   have hI:∀h,(ByteArray.mk l.toArray)[p]'h=l[p]:=fun h=>get_at hp h
   have hI0:(0:Int)<=(p:Int):=by omega
   have a7:(p:Int)<(l.length:Int):=by omega
   have b1:IntKind.i64.wrap ((p:Int)+1)=((p+1:Nat):Int):=by rw [Eu];omega
   have V:=zh hb;obtain ⟨n,hn⟩:=Fd (zU (sl,false));rw [<-hn] at E h0;have a9:((n:Int)==0)=false:=by rw [El];omega
   have b0:(n==0)=false:=by rw [El];omega
   clear hn hs K d hb;have G:Hid (CG b (sl,false)=if Ci b (sl,false)=true then (sl.tail,false) else (sl,false)):=rfl;obtain ⟨B,hB⟩:=Fd (Ci b (sl,false));rw [<-hB] at J G⊢;generalize CG b (sl,false)=S at G⊢;have G:=G;clear hB
   go_enter Tryz.func213,Tryz.ntmps213
   go_wp2_with fail
   refine E.out.mono ?_;rintro e w1 ⟨rfl,U⟩;have D:=V.out.ext U;have c0:=za.rule (D.cell (k:=0) rfl);have c1:=za.rule (D.cell (k:=1) rfl);have M:za w1 w1:=za.refl _;have D:=zh D;have Q:=zh U;clear U E;by_cases o:l[p]=b
   ·have e1:(((l[p]).toNat:Int)==(b.toNat:Int))=true:=by rw [o];simp
    have e2:(((l[p]).toNat:Int) != (b.toNat:Int))=false:=by rw [o];simp
    have O:Hid (B=true):=by (show _=_);rw [J.out];simp [o]
    clear o J;go_upto_region 2 with fail;go_cut [22] (fun v wx=>v=.bool false/\Hid (za w1 wx))
    case first=>
     go_quiet (fail)
     go_wp2_with fail
     go_meet;exact ⟨rfl,M.drewN _⟩
    case rest=>
     obtain ⟨rfl,I⟩:=hcut;obtain ⟨wk,rfl⟩:∃W:World,W=wc:=⟨_,rfl⟩;clear M;have M:za w1 wk:=I.out;have yf:∀j,wk.frozen? ⟨r,j,none⟩=false:=fun j=>(D.out.ext M).frozen j
     go_wp2_with fail
     go_ret;have e:=O.out;subst e;refine ⟨rfl,BC (zC.of_ext (Q.out.trans I.out)) r 1 _ rfl,?_⟩;rw [G.out,if_pos rfl];exact ⟨p+1,⟨by omega,fun _=>HT.out,fun h=>by cases h⟩,(D.out.ext I.out).set (k:=1) _⟩
   ·have e1:(((l[p]).toNat:Int)==(b.toNat:Int))=false:=by
     rw [El];intro e;exact o (UInt8.toNat_inj.1 (by omega))
    have e2:(((l[p]).toNat:Int) != (b.toNat:Int))=true:=by rw [bne,e1];rfl
    have O:Hid (B=false):=by (show _=_);rw [J.out];simp [o]
    clear o J;go_upto_region 2 with fail;go_cut [22] (fun v wx=>v=.bool true/\Hid (za w1 wx))
    case first=>
     go_quiet (fail)
     go_wp2_with fail
     go_meet;exact ⟨rfl,M.drewN _⟩
    case rest=>
     obtain ⟨rfl,I⟩:=hcut;obtain ⟨wk,rfl⟩:∃W:World,W=wc:=⟨_,rfl⟩;clear M
     go_wp2_with fail
     go_ret;have e:=O.out;subst e;exact ⟨rfl,zC.of_ext (Q.out.trans I.out),by rw [G.out,if_neg (by decide)];exact HQ.out.ext (Q.out.trans I.out)⟩
theorem byteB_left (h:Ci b s=true):zU s≠0/\s.1.head?=some b:=by
 unfold Ci at h;rw [Ek] at h;exact ⟨of_decide_eq_true h.1,by simpa using h.2⟩
theorem byteB_no (h:Ci b s=false):zU s=0\/s.1.head?≠some b:=by
 by_cases h0:zU s=0
 ·exact .inl h0
 ·refine .inr fun e=>?_
  unfold Ci at h;rw [Eb h0,e] at h;simp at h
theorem Bq.blk (h:Bq w r l s):∃cs,zl w r 242 cs:=by
 obtain ⟨p,-,h⟩:=h;exact ⟨_,h⟩
theorem intsF_done (h:AJ l0.length (l0,false) []=AJ s.1.length s acc) (d:Ci 93 s=true):intsE (AJ l0.length (l0,false) [])=(acc,(s.1.tail,false)):=by
 obtain ⟨h0,h1⟩:=byteB_left d;rw [h,elsF_stop (.inr h1)];unfold intsE;rw [if_neg h0]
theorem intsF_fail (h:AJ l0.length (l0,false) []=AJ s.1.length s acc) (h0:zU s=0):intsE (AJ l0.length (l0,false) [])=([],([],true)):=by
 rw [h,elsF_stop (.inl h0)];unfold intsE;rw [if_pos h0]
def qdSize (r:Nat) (l:List UInt8) (w:World):Nat:=match w.cell? ⟨r,1,none⟩ with
 | some (.int _ p)=>l.length - p.toNat
 | _=>0
theorem qdSize_of (h:Bq w r l s) (o:s.2=false):qdSize r l w=s.1.length:=by
 obtain ⟨p,B,d⟩:=h;unfold qdSize;rw [d.cell (k:=1) rfl,B.ok o,EX];simp
theorem mRInts_calls (w:World) (h:Bq w r l s) (hl:l.length<=1000000000000) (d4:s.1.length<=1000000000000):Calls Tryz.prog 158 #[.pointer (some ⟨r,0,none⟩)] w fun e w'=>∃v,e=.returned v/\zC (·=r) w w'/\Bq w' r l (zZ s).2/\zL w' w.heap.size v (zZ s).1:=by
 have E:Hid (Calls Tryz.prog 213 #[.pointer (some ⟨r,0,none⟩),.int .u8 91] w fun e w'=>e=.returned (.bool (Ci 91 s))/\zC (·=r) w w'/\Bq w' r l (CG 91 s)):=mByte_calls 91 w h hl;have d8:Hid (r<w.heap.size):=by obtain ⟨cs,hb⟩:=h.blk;exact zc hb
 go_enter Tryz.func158,Tryz.ntmps158
 cases B:Ci 91 s with
 | false=>
  have d:CG 91 s=s:=by unfold CG;rw [B];rfl
  rw [B,d] at E;have hI:Hid (zZ s=([],([],true))):=by (show _=_);unfold zZ;rw [if_pos (byteB_no B)]
  clear h d4 B d
  go_wp2_with fail
  refine E.out.mono ?_;rintro e w1 ⟨rfl,K,M⟩;have HF:=zh (CB w1 M);have HC:=zh K;clear K M E
  go_wp2_with fail
  refine HF.out.mono ?_;rintro e w2 ⟨rfl,c6,c9⟩;have U:=zh c9;have J:Hid (zC (·=r) w w2):=HC.out.tr c6;clear c6 c9 HF HC
  go_wp2_with fail
  go_ret;refine ⟨_,rfl,J.out,?_,?_⟩
  ·rw [hI.out];exact U.out
  ·rw [hI.out];exact World.ownsRow_nil _ _ _ _
 | true=>
  have d:CG 91 s=(s.1.tail,false):=by unfold CG;rw [B];rfl
  rw [B,d] at E;obtain ⟨h0,h1⟩:=byteB_left B;obtain ⟨l0,a3⟩:=Fd s.1.tail
  have HI:Hid (zZ s=intsE (AJ l0.length (l0,false) [])):=by
   (show _=_)
   unfold zZ;rw [if_neg (fun q=>by rcases q with q | q;exact h0 q;exact q h1),a3]
  have e9:l0.length<=1000000000000:=by rw [a3,List.length_tail];omega
  rw [<-a3] at E;clear h d4 B d h0 h1 a3
  go_wp2_with fail
  refine E.out.mono ?_;rintro e w1 ⟨rfl,K,M⟩;have HC:=zh K;have HR:=zh M;clear K M E
  go_upto_block 0 with fail
  go_wp2_with fail
  go_loopw [3] (fun v wr=>∃s' acc,Hid (AJ l0.length (l0,false) []=AJ s'.1.length s' acc)/\s'.2=false/\Hid (Bq wr r l s')/\Hid (zL wr w.heap.size v acc)/\Hid (zC (·=r) w wr)/\s'.1.length+acc.length<=l0.length/\∃A c,v=.slice A acc.length c) (fun _ wr=>qdSize r l wr)
  case atStart=>exact ⟨(l0,false),[],rfl,rfl,HR.out,World.ownsRow_nil _ _ _ _,HC.out,by simp,none,0,rfl⟩
  case round=>
   obtain ⟨s',acc,O,G,Q,a7,a5,V,A,c,rfl⟩:=hrel;obtain ⟨wk,rfl⟩:∃W:World,W=wr:=⟨_,rfl⟩;have I:Hid (Calls Tryz.prog 213 #[.pointer (some ⟨r,0,none⟩),.int .u8 93] wk fun e w'=>e=.returned (.bool (Ci 93 s'))/\zC (·=r) wk w'/\Bq w' r l (CG 93 s')):=mByte_calls 93 wk Q.out hl
   cases D:Ci 93 s' with
   | true=>
    have d:CG 93 s'=(s'.1.tail,false):=by unfold CG;rw [D];rfl
    rw [D,d] at I;have HN:Hid (zZ s=(acc,(s'.1.tail,false))):=HI.out.trans (intsF_done O.out D);clear D d HI O
    go_wp2_with fail
    refine I.out.mono ?_;rintro e w2 ⟨rfl,K,M⟩;have J:Hid (zC (·=r) w w2):=a5.out.tr K
    have a0:Hid (zL w2 w.heap.size (.slice A acc.length c) acc):=by
     obtain ⟨cs,hb⟩:=Q.out.blk;exact Do a7.out hb (by decide) K
    have U:=zh M;clear K M I
    go_wp2_with fail
    go_ret;refine ⟨_,rfl,J.out,?_,?_⟩
    ·rw [HN.out];exact U.out
    ·rw [HN.out];exact a0.out
   | false=>
    have d:CG 93 s'=s':=by unfold CG;rw [D];rfl
    rw [D,d] at I;have b4:=zh D;clear D d
    go_wp2_with fail
    refine I.out.mono ?_;rintro e w2 ⟨rfl,K,M⟩;have J:Hid (zC (·=r) w w2):=a5.out.tr K
    have a0:Hid (zL w2 w.heap.size (.slice A acc.length c) acc):=by
     obtain ⟨cs,hb⟩:=Q.out.blk;exact Do a7.out hb (by decide) K
    have U:=zh M;have a9:=zh (mRInt_calls w2 M hl);obtain ⟨y,hy⟩:=Fd (AS s');rw [<-hy] at a9;have HY:=zh hy;have e0:Hid (qdSize r l wk=s'.1.length):=qdSize_of Q.out G;have e5:acc.length<=1000000000000:=by omega
    have b7:Hid (s'.1.length+acc.length<=l0.length):=V;clear K M I hy a7 a5 Q V
    go_wp2_with fail
    refine a9.out.mono ?_;rintro e w3 ⟨rfl,b1,c7⟩
    have a8:Hid (zL w3 w.heap.size (.slice A acc.length c) acc):=by
     obtain ⟨cs,hb⟩:=U.out.blk;exact Do a0.out hb (by decide) b1
    have a6:=zh (J.out.tr b1);have b8:=zh c7;clear b1 c7 a9 a0 J;have a4:w.heap.size<=w3.heap.size:=a6.out.size
    go_wp2_with (at_builtin;refine AR rfl _ _ rfl _ acc y.1 w.heap.size w3.heap.size 1 _ rfl rfl (a8.out.alloc _) ?d1 ?d2 ?d3 ?_)
    (try case d1=>exact zA _ _ _ (by simp))
    case d2=>(first | (simp;done) | (simp;omega) | omega)
    case d3=>omega
    intro v' w4 a2 c8 e1;have b0:Below w.heap.size w3 w4:=((Below.refl _ w3).alloc a4 _).grown c8.out (by simp;omega) (fun k hk=>(a8.out.lt k hk).1);have b5:Hid (zC (·=r) w w4):=chg_below a6.out b0;have a1:Hid (Bq w4 r l y.2):=b8.out.keep (b0.block r d8.out);have d6:=zh (mBad_calls w4 a1.out);obtain ⟨A4,c4,rfl,-⟩:=AL a2;rw [Eg,Ey] at a2;have d9:=zh a2;clear a2 c8 e1 b0 a6 b8 a8 a4
    go_wp2_with fail
    refine d6.out.mono ?_;rintro e w5 ⟨rfl,rfl⟩
    cases o:y.2.2 with
    | true=>
     have HN:Hid (zZ s=([],([],true))/\y.2=([],true)):=by
      have h1:y.2=([],true):=by
       have h2:y.2.1=[]:=by rw [HY.out] at o⊢;exact intF_nil s' o
       rw [<-h2,<-o]
      refine ⟨?_,h1⟩;rw [HI.out];by_cases h0:zU s'=0
      ·exact intsF_fail O.out h0
      ·refine intsF_fail (acc:=acc++[y.1]) (s:=y.2) (O.out.trans ?_) (by rw [h1];rfl);rw [HY.out];exact elsF_step h0 (fun q=>by rcases byteB_no b4.out with h | h;exact h0 h;exact h q)
     clear o
     go_wp2_with fail
     go_ret;refine ⟨_,rfl,b5.out,?_,?_⟩
     ·rw [HN.out.1,<-HN.out.2];exact a1.out
     ·rw [HN.out.1];exact World.ownsRow_nil _ _ _ _
    | false=>
     have h0:zU s'≠0:=fun h=>by
      have h1:s'.1=[]:=by unfold zU at h;rw [G] at h;simpa using h
      have h2:(AS s').2.2=true:=by obtain ⟨a,b⟩:=s';dsimp only at h1 G;subst h1 G;rfl
      rw [<-HY.out,o] at h2;cases h2
     have b6:Hid (AJ l0.length (l0,false) []=AJ y.2.1.length y.2 (acc++[y.1])):=by
      refine O.out.trans ?_;rw [HY.out];exact elsF_step h0 (fun q=>by rcases byteB_no b4.out with h | h;exact h0 h;exact h q)
     have e6:y.2.1.length<s'.1.length:=by rw [HY.out] at o⊢;exact (intF_len s').2 o
     have c0:=zh o;have V:=b7.out;clear o h0
     go_wp2_with fail
     go_roundw
     case rel=>exact ⟨y.2,acc++[y.1],b6,c0.out,a1,d9,b5,by simp;omega,A4,c4,by simp⟩
     case measure=>rw [qdSize_of a1.out c0.out,e0.out];omega
theorem BW {s:List UInt8} (w:World) (K:s.length<=9223372036854775000):Calls Tryz.prog 142 #[.string ⟨s.toArray⟩] w fun e w'=>e=.returned (.string ⟨(wT s).toArray⟩)/\za w w':=by
 have D:BI (s.length:Int):=⟨by omega,by omega⟩;have E:=zh (mdec_calls (2*(s.length:Int).natAbs+2) (s.length:Int) w D (by rw [if_neg (by omega)];omega));have o:=Bx D;obtain ⟨d,B⟩:=Fd (Lib.itoa (s.length:Int));have G:Hid (wT s=d++58 :: s):=by (show wT s=_);rw [B];rfl
 rw [<-B] at o E;have M:∀w,(Op.stringOp .add ⟨d.toArray⟩ ⟨#[58]⟩).run Tryz.prog w=.ok (.string ⟨(d++[58]).toArray⟩) w:=fun w=>zx (y:=[58]) (by simp;omega)
 have J:∀w,(Op.stringOp .add ⟨(d++[58]).toArray⟩ ⟨s.toArray⟩).run Tryz.prog w=.ok (.string ⟨(d++58 :: s).toArray⟩) w:=fun w=>by have:=zx (w:=w) (x:=d++[58]) (y:=s) (by simp;omega);rwa [List.append_assoc] at this
 clear B o K D
 go_enter Tryz.func142,Tryz.ntmps142
 go_wp2_with fail
 refine E.out.mono ?_;rintro e w1 ⟨rfl,I⟩
 go_wp2_with fail
 go_ret;exact ⟨BL G.out.symm,I⟩
theorem mRText_calls (w:World) (h:Bq w r l s) (hl:l.length<=1000000000000):Calls Tryz.prog 157 #[.pointer (some ⟨r,0,none⟩)] w fun e w'=>e=.returned (.string ⟨(Bn s).1.toArray⟩)/\zC (·=r) w w'/\Bq w' r l (Bn s).2:=by
 have HN:Hid (Calls Tryz.prog 210 #[.pointer (some ⟨r,0,none⟩),.int .u8 58] w (NumQ r l s (Bm 58 s) w)):=mNumber_calls 58 w h hl;have D:Hid (∀o,o=Bm 58 s->Bn s=match o with | none=>([],([],true)) | some (n,b)=>if n<0\/(b.length:Int)<n then ([],([],true)) else (b.take n.toNat,(b.drop n.toNat,false))):=fun o ho=>by rw [ho];rfl
 have Q:Hid (∀n b,Bm 58 s=some (n,b)->BI n/\b.length<=s.1.length):=fun n b h=>numS_bound h
 have a5:=zh hl;generalize Bm 58 s=o at HN D Q;have D:=zh (D.out o rfl);generalize Bn s=i at D⊢;clear h hl
 go_enter Tryz.func157,Tryz.ntmps157
 cases o with
 | none=>
  go_wp2_with fail
  refine HN.out.mono ?_;rintro e w1 ⟨hC,-,hn⟩;obtain ⟨rfl,hr⟩:=hn rfl;have HF:=zh (CB w1 hr);have HC:=zh hC;clear hC hn hr HN
  go_wp2_with fail
  refine HF.out.mono ?_;rintro e w2 ⟨rfl,I,b5⟩;have G:=zh b5;have d:Hid (zC (·=r) w w2):=HC.out.tr I;clear I b5 HF HC
  go_wp2_with fail
  go_ret;have e:=D.out;subst e;exact ⟨rfl,d.out,G.out⟩
 | some p=>
  obtain ⟨n,b⟩:=p;obtain ⟨V,-⟩:=Q.out n b rfl;have d6:=V.1;have d7:=V.2;clear V Q
  go_wp2_with fail
  refine HN.out.mono ?_;rintro e w1 ⟨hC,hs,-⟩;obtain ⟨rfl,hr⟩:=hs n b rfl;have HR:=zh hr;have HC:=zh hC;have HF:=zh (CB w1 hr);clear hC hs hr HN;by_cases b3:n<0
  ·have E:Hid (i=([],([],true))):=by (show _=_);rw [D.out];rw [if_pos (.inl b3)]
   clear D
   go_wp2_with fail
   refine HF.out.mono ?_;rintro e w2 ⟨rfl,I,b0⟩;have d:=zh (HC.out.tr I);have G:=zh b0;clear I b0
   go_wp2_with fail
   go_ret;have e:=E.out;subst e;exact ⟨rfl,d.out,G.out⟩
  ·have U:=zh (mLeft_calls w1 HR.out a5.out);have b2:zU (b,false)=b.length:=rfl;rw [b2] at U;clear b2;by_cases b4:(b.length:Int)<n
   ·have E:Hid (i=([],([],true))):=by (show _=_);rw [D.out];rw [if_pos (.inr b4)]
    clear D HF
    go_wp2_with fail
    refine U.out.mono ?_;rintro e w2 ⟨rfl,B⟩;have G:=zh (HR.out.ext B);have d:=zh (HC.out.tr (chg_ext B));clear B
    go_wp2_with fail
    refine (CB w2 G.out).mono ?_;rintro e w3 ⟨rfl,a9,b1⟩;have c6:=zh (d.out.tr a9);have c8:=zh b1;clear a9 b1
    go_wp2_with fail
    go_ret;have e:=E.out;subst e;exact ⟨rfl,c6.out,c8.out⟩
   ·obtain ⟨k,rfl⟩:∃k:Nat,n=k:=⟨n.toNat,by omega⟩;have E:Hid (i=(b.take k,(b.drop k,false))):=by (show _=_);rw [D.out];rw [if_neg (by omega)];rfl
    have e0:k<=b.length:=by omega
    clear D b4 b3 HF;go_upto_region 2 with fail;go_cut [22] (fun v wx=>v=.bool false/\Hid (za w1 wx))
    case first=>
     go_wp2_with fail
     refine U.out.mono ?_;rintro e w2 ⟨rfl,B⟩;have K:=zh B;clear B
     go_wp2_with fail
     go_meet;exact ⟨by first | rfl | simp;omega,K.out⟩
    case rest=>
     obtain ⟨rfl,K⟩:=hcut;obtain ⟨w2,rfl⟩:∃W:World,W=wc:=⟨_,rfl⟩;obtain ⟨p,hs,hb⟩:=HR.out.ext K.out;have J:=hs.ok rfl;have e6:=hs.le;dsimp only at J;have c9:b.length=l.length - p:=by rw [J,EX]
     have e2:=a5.out;have c0:=za.rule (hb.cell (k:=0) rfl);have c1:=za.rule (hb.cell (k:=1) rfl);have hx:za w2 w2:=za.refl w2;have e1:ByteArray.extract ⟨l.toArray⟩ p (p+k)=⟨(b.take k).toArray⟩:=by rw [Dt l p (p+k) (by omega),J,show p+k - p=k by omega]
     have O:p+k<=l.length:=by omega
     have a7:Hid (QrS l (b.drop k,false) (p+k)):=⟨O,fun _=>by rw [J,List.drop_drop],fun h=>by cases h⟩;obtain ⟨q,hq⟩:=Fd (p+k);rw [<-hq] at e1 O a7;have e4:IntKind.i64.wrap ((p:Int)+(k:Int))=(q:Int):=by rw [Eu];omega
     have e5:p<=q:=by omega
     clear hq;have b8:=zh hb;have d:=zh (HC.out.tr (chg_ext K.out));clear hs J hb c9;go_upto_region 5 with fail;go_cut [5] (fun v wx=>v=.string ⟨(b.take k).toArray⟩/\Hid (za w2 wx))
     case first=>
      go_quiet (fail)
      go_wp2_with fail
      go_meet;exact ⟨rfl,hx.drewN _⟩
     case rest=>
      obtain ⟨rfl,a4⟩:=hcut;obtain ⟨w3,rfl⟩:∃W:World,W=wc:=⟨_,rfl⟩;have b6:=a4.out;have M:=b8.out.ext b6;have c1':=M.cell (k:=1) rfl;have yf:∀j,w3.frozen? ⟨r,j,none⟩=false:=fun j=>M.frozen j
      have b9:=zh M;clear c0 c1 M b6 hx
      go_wp2_with fail
      go_ret;have e:=E.out;subst e;exact ⟨rfl,BC (d.out.tr (chg_ext a4.out)) r 1 _ rfl,q,a7.out,b9.out.set (k:=1) _⟩
theorem eByte:ElemI 76 5 (.int .u8 0) 1 1:=⟨Tryz.underlying76,Tryz.infoU8,rfl,by decide⟩
def u8L (l:List UInt8):List Value:=(l.map fun b=>(b.toNat:Int)).map (Value.int .u8)
theorem u8L_str (l:List UInt8):strI (l.map fun b=>(b.toNat:Int))=⟨l.toArray⟩:=by
 rw [strI_eq,List.map_map];have:((fun n:Int=>UInt8.ofNat n.toNat) ∘ fun b:UInt8=>(b.toNat:Int))=id:=by funext b;simp
 rw [this,List.map_id];rfl
theorem u8L_one (l:List UInt8) (b:UInt8):u8L (l++[b])=u8L l++[.int .u8 b.toNat]:=by simp [u8L]
theorem conv_own {base n:Nat} (h:w.ownsRow base 5 1 v n (u8L l)):(convert 76 9 v).run Tryz.prog w=.ok (.string ⟨l.toArray⟩) w:=by
 obtain ⟨A,c,rfl,I,o,G⟩:=Bv.of_own h;have E:l.length=n:=by simpa [u8L] using o
 rw [run_convert_bytes_string w 76 9 5 A n c Tryz.underlying76 Tryz.underlying5 Tryz.underlying9,<-u8L_str l];rcases EJ n with h0 | h0
 ·subst h0;obtain rfl:=Ep E
  cases A with
  | none=>simp [Conv.bytesToString,loadCells,loadCellsFrom,strI,Sem.run_bind,Sem.run_pure]
  | some a=>exact run_bytesToString w a 0 c [] (by simp [loadCells,loadCellsFrom,Sem.run_pure])
 ·obtain ⟨b,off,rfl,-,d⟩:=G h0;have B:=run_loadCells_list (P:=Tryz.prog) w ⟨b,off,none⟩ (u8L l) (fun j u D=>by rw [Addr.add_lit];exact d j u D);rw [show (u8L l).length=n by rw [o];omega] at B;exact run_bytesToString w _ n c _ B
theorem mBits_calls {l:List Bool} (w:World) (hl:Be w ok v l) (a1:l.length<=1000000000):Calls Tryz.prog 195 #[v] w fun e w'=>e=.returned (.string ⟨(AE l).toArray⟩)/\za w w':=by
 have HL:=zh hl;obtain ⟨A,c,rfl,hc,O⟩:=hl;clear O
 go_enter Tryz.func195,Tryz.ntmps195
 go_wp2_with fail
 go_loopw [3,4] (fun u i wr=>∃k:Nat,k<=l.length/\i=.int .i64 k/\Hid (wr.ownsRow w.heap.size 5 1 u k (u8L ((l.map bitB).take k)))/\Hid (za w wr)) (fun u i _=>l.length - (intOf i).toNat)
 case atStart=>exact ⟨0,Em _,rfl,⟨by simp [u8L],.inl ⟨rfl,rfl⟩⟩,za.refl w⟩
 case round=>
  obtain ⟨k,M,rfl,G,d⟩:=hrel;by_cases E:k<l.length
  ·have hR:=HL.out.below d.out;obtain ⟨A',c',e',-,O⟩:=hR;injection e' with e1 e2 e3;subst e1;obtain ⟨b,off,rfl,-,D⟩:=Bu O E E;obtain ⟨x,U⟩:=Fd (l[k]);rw [<-U] at D;have V:Hid ((l.map bitB).take (k+1)=(l.map bitB).take k++[bitB x]):=by (show _=_);rw [Ef (by rw [EI];exact E),List.getElem_map,U]
   clear U O e2 e3
   cases x with
   | true=>
    go_wp2_with (at_builtin;refine Dh (ok:=fun _=>True) rfl _ _ _ eByte rfl w.heap.size k 1 (u8L ((l.map bitB).take k)) [.int .u8 49] _ _ rfl rfl (World.ownsRow.alloc G.out _) ⟨_,_,rfl,DY _,AT.block (zl.new _ _ _ rfl) trivial rfl⟩ (by simp [Value.oneCell']) (Ea (Below.size d.out) (by simp)) (by unfold maxLen;omega) (by omega) ?_)
    intro v' w3 K J _;have B:Hid (w3.ownsRow w.heap.size 5 1 v' (k+1) (u8L ((l.map bitB).take (k+1)))):=by rw [V.out,u8L_one];exact K
    have o:Hid (za w w3):=(d.out.alloc _).grown J (Ea (Below.size d.out) (by simp)) (fun k M=>(G.out.lt k M).1);clear K J
    go_wp2_with fail
    go_roundw
    case rel=>exact ⟨k+1,by omega,by go_num,B,o⟩
    case measure=>simp [intOf];omega
   | false=>
    go_wp2_with (at_builtin;refine Dh (ok:=fun _=>True) rfl _ _ _ eByte rfl w.heap.size k 1 (u8L ((l.map bitB).take k)) [.int .u8 48] _ _ rfl rfl (World.ownsRow.alloc G.out _) ⟨_,_,rfl,DY _,AT.block (zl.new _ _ _ rfl) trivial rfl⟩ (by simp [Value.oneCell']) (Ea (Below.size d.out) (by simp)) (by unfold maxLen;omega) (by omega) ?_)
    intro v' w3 K J _;have B:Hid (w3.ownsRow w.heap.size 5 1 v' (k+1) (u8L ((l.map bitB).take (k+1)))):=by rw [V.out,u8L_one];exact K
    have o:Hid (za w w3):=(d.out.alloc _).grown J (Ea (Below.size d.out) (by simp)) (fun k M=>(G.out.lt k M).1);clear K J
    go_wp2_with fail
    go_roundw
    case rel=>exact ⟨k+1,by omega,by go_num,B,o⟩
    case measure=>simp [intOf];omega
  ·obtain rfl:k=l.length:=by omega
   rw [show (l.map bitB).take l.length=l.map bitB from List.take_of_length_le (by simp)] at G;have a5:=conv_own G.out;have HT:Hid (∀W,Calls Tryz.prog 142 #[.string ⟨(l.map bitB).toArray⟩] W fun e w'=>e=.returned (.string ⟨(AE l).toArray⟩)/\za W w'):=fun W=>BW W (by rw [EI];omega)
   go_wp2_with fail
   refine (HT.out _).mono ?_;rintro e w4 ⟨rfl,I⟩;have Q:Hid (za w w4):=d.out.trans I;clear I
   go_wp2_with fail
   go_ret;exact ⟨rfl,Q.out⟩
end
section
open Go.RowKit Go.Shelf
attribute [local go_sem ↓] Go.wp_at_zero Go.wp_at_succ
attribute [local go_sem] Oper.semAt_some
theorem mDesc_calls (w:World) (hm:Bt w ok v m ns) (hs:CF m ns):
  Calls Tryz.prog 143 #[v] w fun e w'=>e=.returned (.string ⟨(zw m ns).toArray⟩)/\za w w':=by
 have O:=zh hs;obtain ⟨f,u,t,rfl,hF,hU,hT⟩:=hm;have HF:=zh hF;have HU:=zh hU;have HT:=zh hT;obtain ⟨_,⟨Af,cf,rfl,-,-⟩,-⟩:=hF;obtain ⟨Au,cu,rfl,-,-⟩:=hU;obtain ⟨-,_,⟨At,ct,rfl,-,-⟩,-⟩:=hT;have l5:=hs.tl;have l3:=hs.fl;have e9:BI m.w:=⟨by have:=hs.w;omega,by have:=hs.w;omega⟩;have e6:BI m.h:=⟨by have:=hs.h;omega,by have:=hs.h;omega⟩;have e7:BI m.l:=⟨by have:=hs.l;omega,by have:=hs.l;omega⟩;have e8:BI (m.tasks.length:Int):=⟨by omega,by omega⟩;have b1:=Bl e9;have b2:=Bl e6;have b3:=Bl e7;have b4:=Bl e8;obtain ⟨x1,c0⟩:∃x,x=wI m.w:=⟨_,rfl⟩;obtain ⟨x2,c6⟩:∃x,x=wI m.h:=⟨_,rfl⟩;obtain ⟨x3,c7⟩:∃x,x=wI m.l:=⟨_,rfl⟩;obtain ⟨x4,c8⟩:∃x,x=wI (m.tasks.length:Nat):=⟨_,rfl⟩;have H1:Hid (∀W,Calls Tryz.prog 53 #[.int .i64 m.w] W fun e w'=>e=.returned (.string ⟨x1.toArray⟩)/\za W w'):=fun W=>by rw [c0];exact BP W e9
 have H2:Hid (∀W,Calls Tryz.prog 53 #[.int .i64 m.h] W fun e w'=>e=.returned (.string ⟨x2.toArray⟩)/\za W w'):=fun W=>by rw [c6];exact BP W e6
 have H3:Hid (∀W,Calls Tryz.prog 53 #[.int .i64 m.l] W fun e w'=>e=.returned (.string ⟨x3.toArray⟩)/\za W w'):=fun W=>by rw [c7];exact BP W e7
 have H4:Hid (∀W,Calls Tryz.prog 53 #[.int .i64 (m.tasks.length:Nat)] W fun e w'=>e=.returned (.string ⟨x4.toArray⟩)/\za W w'):=fun W=>by rw [c8];exact BP W e8
 rw [<-c0] at b1;rw [<-c6] at b2;rw [<-c7] at b3;rw [<-c8] at b4;obtain ⟨D1,b5⟩:∃D,D=x1++(x2++(x3++x4)):=⟨_,rfl⟩;have l2:D1.length<=200:=by rw [b5];simp only [Eg];omega
 have a1:∀w,(Op.stringOp .add ⟨x1.toArray⟩ ⟨x2.toArray⟩).run Tryz.prog w=.ok (.string ⟨(x1++x2).toArray⟩) w:=fun w=>zx (by omega)
 have a2:∀w,(Op.stringOp .add ⟨(x1++x2).toArray⟩ ⟨x3.toArray⟩).run Tryz.prog w=.ok (.string ⟨(x1++(x2++x3)).toArray⟩) w:=fun w=>by rw [<-List.append_assoc];exact zx (by simp;omega)
 have a3:∀w,(Op.stringOp .add ⟨(x1++(x2++x3)).toArray⟩ ⟨x4.toArray⟩).run Tryz.prog w=.ok (.string ⟨D1.toArray⟩) w:=fun w=>by rw [b5,<-List.append_assoc x2 x3 x4,<-List.append_assoc x1 (x2++x3) x4];exact zx (by simp;omega)
 have HD:Hid (zw m ns=D1++(Al m.tasks ns++(wI (m.free.length:Nat)++(m.free.flatMap AE++AE m.up)))):=by
  (show _=_)
  rw [b5,c0,c6,c7,c8];unfold zw;simp only [List.append_assoc]
 clear hs c0 c6 c7 c8 b5 e9 e6 e7 e8 b1 b2 b3 b4
 go_enter Tryz.func143,Tryz.ntmps143
 go_upto_region 1 with fail;have E:=zl.new w #[.int .i64 m.w,.int .i64 m.h,.int .i64 m.l,.slice Af m.free.length cf,.slice Au m.up.length cu,.slice At m.tasks.length ct] 32 (g:=w.heap.size) rfl;have d9:za w (w.alloc (.cells #[.int .i64 m.w,.int .i64 m.h,.int .i64 m.l,.slice Af m.free.length cf,.slice Au m.up.length cu,.slice At m.tasks.length ct] 32)):=(za.refl w).alloc _;generalize w.alloc _=w1 at E d9⊢;obtain ⟨gm,h5⟩:∃g,g=w.heap.size:=⟨_,rfl⟩;rw [<-h5] at E⊢;have r0:=za.rule (E.cell (k:=0) rfl);have r1:=za.rule (E.cell (k:=1) rfl);have r2:=za.rule (E.cell (k:=2) rfl);have r3:=za.rule (E.cell (k:=3) rfl);have r4:=za.rule (E.cell (k:=4) rfl);have r5:=za.rule (E.cell (k:=5) rfl);have b0:=zh d9;have o:za w1 w1:=za.refl w1;clear E d9 h5;refine Eo (S:=(fun W=>za w1 W)) AI (o.drew) fun zH=>?_;have a6:za w1 w1.drew:=zH;generalize w1.drew=wd at zH a6⊢;refine z6 0 zH ?_;refine z6 1 zH ?_;simp only [zd,DV];refine z6 3 zH ?_;refine z6 4 zH ?_;simp only [zd,DV];refine z6 7 zH ?_;refine z6 8 zH ?_;simp only [zd,DV];refine z6 11 zH ?_;refine z6 12 zH ?_;simp only [zd,DV];refine z6 13 zH ?_;simp only [zd,DV];refine AB 2 fun K B=>?_;go_simp;go_at_call 53;refine (H1.out _).mono ?_;rintro e w2 ⟨rfl,a0⟩;go_simp;refine Fe B (zH.trans a0) fun zH=>?_;clear B K;try simp only [zd,DV]
 refine AB 5 fun K B=>?_;go_simp;go_at_call 53;refine (H2.out _).mono ?_;rintro e w3 ⟨rfl,a4⟩;go_simp;refine Fe B (zH.trans a4) fun zH=>?_;clear B K;try simp only [zd,DV]
 refine z6 6 zH ?_;simp only [zd,DV];refine AB 9 fun K B=>?_;go_simp;go_at_call 53;refine (H3.out _).mono ?_;rintro e w4 ⟨rfl,a5⟩;go_simp;refine Fe B (zH.trans a5) fun zH=>?_;clear B K;try simp only [zd,DV]
 refine z6 10 zH ?_;simp only [zd,DV];refine AB 14 fun K B=>?_;go_simp;go_at_call 53;refine (H4.out _).mono ?_;rintro e w5 ⟨rfl,g9⟩;go_simp;refine Fe B (zH.trans g9) fun zH=>?_;clear B K;try simp only [zd,DV]
 refine z6 15 zH ?_;refine z6 16 zH ?_;simp only [zd,DV];refine EC (by kernel_rfl) ?_ _;have g7:=zh zH;clear a1 a2 a3 H1 H2 H3 H4
 go_wp2_with fail
 clear zH a6 o;go_loopw [3,4] (fun s i wr=>∃k:Nat,k<=m.tasks.length/\i=.int .i64 k/\s=.string ⟨(D1++Al (m.tasks.take k) (ns.take k)).toArray⟩/\Hid (za w1 wr)) (fun _ i _=>m.tasks.length - (intOf i).toNat)
 case atStart=>exact ⟨0,Em _,rfl,by rw [List.take_zero,List.take_zero,show D1++Al [] []=D1 from List.append_nil _],g7.out⟩
 clear g7
 case round=>
  obtain ⟨k,hk,rfl,rfl,HX⟩:=hrel;obtain ⟨wq,rfl⟩:∃wq:World,wq=wr:=⟨_,rfl⟩;have o:za w1 wq:=HX.out;by_cases M:k<m.tasks.length
  ·have h7:(k:Int)<(m.tasks.length:Int):=by omega
   have j2:(0:Int)<=(k:Int):=by omega
   have i0:k<ns.length:=by rw [O.out.nl];exact M
   obtain ⟨bt,off,u1,u2,rfl,t0,t1,t2,b7,b8⟩:=tasksJAt (HT.out.below (b0.out.trans o)) M i0;obtain ⟨z,hz⟩:=Fd (m.tasks[k]);obtain ⟨sn,b9⟩:∃s,s=ns[k]:=⟨_,rfl⟩;have d4:=O.out.t z (by rw [hz];exact DZ _);have i2:=O.out.n sn (by rw [b9];exact DZ _);have e0:Al (m.tasks.take (k+1)) (ns.take (k+1))=Al (m.tasks.take k) (ns.take k)++taskB z sn:=by rw [hz,b9];exact tasksB_take O.out.nl k M
   have h6:=Cu (l:=m.tasks.take k) (ns:=ns.take k) (fun x o=>O.out.t x (List.mem_of_mem_take o)) (fun x o=>O.out.n x (List.mem_of_mem_take o));have f3:=taskB_len d4 i2;rw [<-hz] at b7 b8;rw [<-b9] at t0;obtain ⟨A1,c1,rfl,-,-⟩:=id b7;obtain ⟨A2,c2,rfl,-,-⟩:=id b8;have g5:=zh b7;have g6:=zh b8;have j3:sn.data.toList.length=sn.size:=by rw [Array.length_toList];rfl
   obtain ⟨y1,d⟩:∃x,x=wT sn.data.toList:=⟨_,rfl⟩;obtain ⟨y2,f4⟩:∃x,x=wL z.1:=⟨_,rfl⟩;obtain ⟨y3,f5⟩:∃x,x=wL z.2:=⟨_,rfl⟩;have i5:taskB z sn=y1++(y2++y3):=by rw [<-List.append_assoc,d,f4,f5];rfl
   rw [i5] at e0 f3;have j4:y1.length+y2.length+y3.length<=50000:=by have:=f3;simp only [Eg] at this;omega
   have i8:Hid (∀W,Calls Tryz.prog 142 #[.string sn] W fun e w'=>e=.returned (.string ⟨y1.toArray⟩)/\za W w'):=fun W=>by have h:=BW (s:=sn.data.toList) W (by omega);rw [bytes_self,<-d] at h;exact h
   have f7:Hid (∀W,za wq W->Calls Tryz.prog 54 #[.slice A1 z.1.length c1] W fun e w'=>e=.returned (.string ⟨y2.toArray⟩)/\za W w'):=fun W hW=>by rw [f4];exact DM W (g5.out.below hW) (fun x o=>d4.2.2 x (.inl o)) (by omega)
   have f8:Hid (∀W,za wq W->Calls Tryz.prog 54 #[.slice A2 z.2.length c2] W fun e w'=>e=.returned (.string ⟨y3.toArray⟩)/\za W w'):=fun W hW=>by rw [f5];exact DM W (g6.out.below hW) (fun x o=>d4.2.2 x (.inr o)) (by omega)
   obtain ⟨y0,G⟩:∃y,y=D1++Al (m.tasks.take k) (ns.take k):=⟨_,rfl⟩;have f0:y0.length<=60000000:=by have h2:(m.tasks.take k).length<=1000:=(by rw [EQ];omega);rw [G,Eg];omega
   have d5:Hid (D1++Al (m.tasks.take (k+1)) (ns.take (k+1))=y0++(y1++(y2++y3))):=by (show _=_);rw [e0,G,List.append_assoc]
   rw [<-G];have a1:∀w,(Op.stringOp .add ⟨y0.toArray⟩ ⟨y1.toArray⟩).run Tryz.prog w=.ok (.string ⟨(y0++y1).toArray⟩) w:=fun w=>zx (by omega)
   have a2:∀w,(Op.stringOp .add ⟨(y0++y1).toArray⟩ ⟨y2.toArray⟩).run Tryz.prog w=.ok (.string ⟨(y0++(y1++y2)).toArray⟩) w:=fun w=>by rw [<-List.append_assoc];exact zx (by simp;omega)
   have a3:∀w,(Op.stringOp .add ⟨(y0++(y1++y2)).toArray⟩ ⟨y3.toArray⟩).run Tryz.prog w=.ok (.string ⟨(y0++(y1++(y2++y3))).toArray⟩) w:=fun w=>by rw [<-List.append_assoc y1 y2 y3,<-List.append_assoc y0 (y1++y2) y3];exact zx (by simp;omega)
   have q0:=za.rule t0;have q1:=za.rule t1;have q2:=za.rule t2;have d6:=zh o;clear o;have o:za wq wq:=za.refl wq;obtain ⟨n1,h8⟩:∃n,n=z.1.length:=⟨_,rfl⟩;obtain ⟨n2,h9⟩:∃n,n=z.2.length:=⟨_,rfl⟩;rw [<-h8] at q1 f7;rw [<-h9] at q2 f8;have R0:=za.rule (r0 wq d6.out);have R5:=za.rule (r5 wq d6.out);clear hz b9 d4 i2 e0 h6 f3 b7 b8 j3 G d f4 f5 i5 j4 i0 h8 h9 g5 g6 t0 t1 t2 f0;clear r0 r1 r2 r3 r4 r5;go_upto_region 5 with fail;refine Eo (S:=(fun W=>za wq W)) AI (o.drew) fun zH=>?_;have a6:za wq wq.drew:=zH;generalize wq.drew=wd at zH a6⊢;refine z6 0 zH ?_;refine z6 1 zH ?_;simp only [zd,DV];refine z6 2 zH ?_;refine z6 3 zH ?_;simp only [zd,DV];refine z6 4 zH ?_;refine z6 5 zH ?_;simp only [zd,DV];refine z6 6 zH ?_;refine z6 9 zH ?_;simp only [zd,DV];refine z6 10 zH ?_;refine z6 11 zH ?_;simp only [zd,DV];refine z6 12 zH ?_;refine z6 13 zH ?_;simp only [zd,DV];refine z6 14 zH ?_;refine z6 17 zH ?_;simp only [zd,DV];refine z6 18 zH ?_;refine z6 19 zH ?_;simp only [zd,DV];refine z6 20 zH ?_;refine z6 21 zH ?_;simp only [zd,DV];refine z6 22 zH ?_;simp only [zd,DV];refine AB 7 fun K B=>?_;go_simp;go_at_call 142;refine (i8.out _).mono ?_;rintro e w2 ⟨rfl,a0⟩;go_simp;refine Fe B (zH.trans a0) fun zH=>?_;clear B K;try simp only [zd,DV]
   refine z6 8 zH ?_;simp only [zd,DV];refine AB 15 fun K B=>?_;go_simp;go_at_call 54;refine (f7.out _ zH).mono ?_;rintro e w3 ⟨rfl,a4⟩;go_simp;refine Fe B (zH.trans a4) fun zH=>?_;clear B K;try simp only [zd,DV]
   refine z6 16 zH ?_;simp only [zd,DV];refine AB 23 fun K B=>?_;go_simp;go_at_call 54;refine (f8.out _ zH).mono ?_;rintro e w4 ⟨rfl,a5⟩;go_simp;refine Fe B (zH.trans a5) fun zH=>?_;clear B K;try simp only [zd,DV]
   refine z6 24 zH ?_;refine z6 25 zH ?_;simp only [zd,DV];refine EC (by kernel_rfl) ?_ _;have I:Hid (za w1 _):=d6.out.trans zH;clear a1 a2 a3 q0 q1 q2 o zH a6
   go_wp2_with fail
   go_roundw
   case rel=>exact ⟨k+1,by omega,by go_num,by rw [d5.out],I⟩
   case measure=>simp [intOf];omega
  ·obtain rfl:k=m.tasks.length:=by omega
   have e4:m.tasks.take m.tasks.length=m.tasks:=Ej;have e5:ns.take m.tasks.length=ns:=by rw [<-O.out.nl];exact Ej
   rw [e4,e5]
   have d7:(D1++Al m.tasks ns).length<=50001000:=by
    have h1:=Cu O.out.t O.out.n;rw [Eg];omega
   obtain ⟨D2,U⟩:∃D,D=D1++Al m.tasks ns:=⟨_,rfl⟩;rw [<-U] at d7⊢;have k7:=zh d7;have g1:=zh U;have h4:=Bl (n:=(m.free.length:Int)) ⟨by omega,by omega⟩;obtain ⟨f1,b6⟩:∃f,f=wI (m.free.length:Nat):=⟨_,rfl⟩;have i9:Hid (Calls Tryz.prog 53 #[.int .i64 (m.free.length:Nat)] wq fun e w'=>e=.returned (.string ⟨f1.toArray⟩)/\za wq w'):=by rw [b6];exact BP wq ⟨by omega,by omega⟩
   rw [<-b6] at h4;have a1:∀w,(Op.stringOp .add ⟨D2.toArray⟩ ⟨f1.toArray⟩).run Tryz.prog w=.ok (.string ⟨(D2++f1).toArray⟩) w:=fun w=>zx (by omega)
   have d8:(D2++f1).length<=50001100:=by rw [Eg];omega
   obtain ⟨D3,Q⟩:∃D,D=D2++f1:=⟨_,rfl⟩;rw [<-Q] at d8 a1;rw [b6] at Q;have g3:=zh Q;have g0:=zh d8;clear e4 e5 d7 U d8 Q h4 b6
   go_wp2_with fail
   refine i9.out.mono ?_;rintro e w5 ⟨rfl,J⟩;have i3:za w1 w5:=HX.out.trans J;have I:=zh i3;clear J o
   go_wp2_with fail
   clear i3;go_loopw [3,5] (fun s i wr=>∃k:Nat,k<=m.free.length/\i=.int .i64 k/\s=.string ⟨(D3++(m.free.take k).flatMap AE).toArray⟩/\Hid (za w1 wr)) (fun _ i _=>m.free.length - (intOf i).toNat)
   case atStart=>exact ⟨0,Em _,rfl,by rw [List.take_zero,show D3++([]:List (List Bool)).flatMap AE=D3 from List.append_nil _],I⟩
   clear I
   case round=>
    obtain ⟨k,hk,rfl,rfl,HX⟩:=hrel;obtain ⟨wp,rfl⟩:∃wp:World,wp=wr:=⟨_,rfl⟩;have o:za w1 wp:=HX.out;by_cases M:k<m.free.length
    ·have h7:(k:Int)<(m.free.length:Int):=by omega
     have j2:(0:Int)<=(k:Int):=by omega
     obtain ⟨vs,⟨A',c',e',-,hr⟩,he⟩:=HF.out.below (b0.out.trans o);injection e' with e1 e2 e3;subst e1;obtain ⟨bf,off,u,rfl,-,a8,hb⟩:=AX hr he M M;obtain ⟨x,c9⟩:=Fd (m.free[k]);rw [<-c9] at hb;have i4:x.length<=1000:=O.out.f x (by rw [c9];exact DZ _);have a7:=CO i4;have f2:=CP (l:=m.free.take k) fun y hy=>O.out.f y (List.mem_of_mem_take hy)
     obtain ⟨y1,d⟩:∃y,y=AE x:=⟨_,rfl⟩;obtain ⟨y0,G⟩:∃y,y=D3++(m.free.take k).flatMap AE:=⟨_,rfl⟩;have d5:Hid (D3++(m.free.take (k+1)).flatMap AE=y0++y1):=by (show _=_);rw [Ef M,List.flatMap_append,<-List.append_assoc,G,d,c9];simp
     have f0:y0.length<=60000000:=by have h1:=g0.out;have h2:(m.free.take k).length<=1000:=(by rw [EQ];omega);rw [G,Eg];omega
     rw [<-d] at a7;have a1:∀w,(Op.stringOp .add ⟨y0.toArray⟩ ⟨y1.toArray⟩).run Tryz.prog w=.ok (.string ⟨(y0++y1).toArray⟩) w:=fun w=>zx (by omega)
     obtain ⟨Ab,cb,rfl,-,-⟩:=id hb;have f9:Hid (Calls Tryz.prog 195 #[.slice Ab x.length cb] wp fun e w'=>e=.returned (.string ⟨y1.toArray⟩)/\za wp w'):=by rw [d];exact mBits_calls wp hb (by omega)
     obtain ⟨nx,i1⟩:∃n,n=x.length:=⟨_,rfl⟩;rw [<-i1] at a8 f9;rw [<-G];clear hr he e2 e3 c9 i4 a7 f2 i1 hb G d f0
     go_wp2_with fail
     refine f9.out.mono ?_;rintro e w5 ⟨rfl,J⟩;have I:Hid (za w1 w5):=HX.out.trans J;clear J o a8
     go_wp2_with fail
     go_roundw
     case rel=>exact ⟨k+1,by omega,by go_num,by rw [d5.out],I⟩
     case measure=>simp [intOf];omega
    ·obtain rfl:k=m.free.length:=by omega
     rw [Ej];have a7:=CO O.out.u;have f2:=CP O.out.f;have g8:(D3++m.free.flatMap AE).length<=52001100:=by have h1:=g0.out;rw [Eg];omega
     obtain ⟨D4,V⟩:∃D,D=D3++m.free.flatMap AE:=⟨_,rfl⟩;rw [<-V] at g8⊢;obtain ⟨y1,d⟩:∃y,y=AE m.up:=⟨_,rfl⟩;have j1:Hid (Calls Tryz.prog 195 #[.slice Au m.up.length cu] wp fun e w'=>e=.returned (.string ⟨y1.toArray⟩)/\za wp w'):=by rw [d];exact mBits_calls wp (HU.out.below (b0.out.trans o)) (by have:=O.out.u;omega)
     have g4:Hid (D4++y1=zw m ns):=by
      (show _=_)
      rw [V,g3.out,g1.out,HD.out,d];simp only [List.append_assoc]
     rw [<-d] at a7;have a1:∀w,(Op.stringOp .add ⟨D4.toArray⟩ ⟨y1.toArray⟩).run Tryz.prog w=.ok (.string ⟨(D4++y1).toArray⟩) w:=fun w=>zx (by omega)
     clear a7 f2 g8 V d
     go_wp2_with fail
     refine j1.out.mono ?_;rintro e w5 ⟨rfl,J⟩;have I:Hid (za w w5):=(b0.out.trans HX.out).trans J;clear J o
     go_wp2_with fail
     go_ret;exact ⟨BL g4.out,I.out⟩
theorem mOf_l (l:List UInt8) (w:World) (d:l.length<=1000000000):Calls Tryz.prog 68 #[.string ⟨l.toArray⟩] w fun e w'=>e=.returned (.string ⟨(BT l).toArray⟩)/\za w w':=by
 have:=rOf_calls ⟨l.toArray⟩ w (by simp [ByteArray.size];omega);exact this
theorem mHeader_calls (w:World) (hm:Bt w ok v m ns) (hs:CF m ns):
  Calls Tryz.prog 77 #[v] w fun e w'=>e=.returned (.string ⟨(zr (BT (zw m ns))).toArray⟩)/\za w w':=by
 have a2:=descB_len hs;have h1:=Br (s:=BQ) (by decide);have h2:=Br (s:=BT (zw m ns)) (by rw [AN];omega);have h0:BQ.length=5:=rfl;obtain ⟨x1,E⟩:∃x,x=wT BQ:=⟨_,rfl⟩;obtain ⟨d,V⟩:=Fd (BT (zw m ns));have a5:d.length=8:=by rw [V];exact AN _
 rw [<-V] at h2;obtain ⟨x2,G⟩:∃x,x=wT d:=⟨_,rfl⟩;have HH:Hid (zr (BT (zw m ns))=x1++x2):=by (show _=_);rw [E,G,V];rfl
 rw [<-E] at h1;rw [<-G] at h2;have H1:Hid (∀W,Calls Tryz.prog 142 #[.string ⟨#[114,111,117,116,101]⟩] W fun e w'=>e=.returned (.string ⟨x1.toArray⟩)/\za W w'):=fun W=>by rw [E];exact BW (s:=BQ) W (by decide)
 have H2:Hid (∀W,za w W->Calls Tryz.prog 143 #[v] W fun e w'=>e=.returned (.string ⟨(zw m ns).toArray⟩)/\za W w'):=fun W hW=>mDesc_calls W (hm.below hW) hs
 have H3:Hid (∀W,Calls Tryz.prog 68 #[.string ⟨(zw m ns).toArray⟩] W fun e w'=>e=.returned (.string ⟨d.toArray⟩)/\za W w'):=fun W=>by rw [V];exact mOf_l _ W (by omega)
 have H4:Hid (∀W,Calls Tryz.prog 142 #[.string ⟨d.toArray⟩] W fun e w'=>e=.returned (.string ⟨x2.toArray⟩)/\za W w'):=fun W=>by rw [G];exact BW W (by omega)
 have a1:∀w,(Op.stringOp .add ⟨x1.toArray⟩ ⟨x2.toArray⟩).run Tryz.prog w=.ok (.string ⟨(x1++x2).toArray⟩) w:=fun w=>zx (by omega)
 obtain ⟨D,hD⟩:=Fd (zw m ns);rw [<-hD] at H2 H3;clear E G V hD a5 h0 h1 h2 a2 hs;obtain ⟨f,u,t,rfl,hF,hU,hT⟩:=hm;obtain ⟨_,⟨Af,cf,rfl,-,-⟩,-⟩:=hF;obtain ⟨Au,cu,rfl,-,-⟩:=hU;obtain ⟨-,_,⟨At,ct,rfl,-,-⟩,-⟩:=hT
 go_enter Tryz.func77,Tryz.ntmps77
 go_upto_region 1 with fail;have o:=zl.new w #[.int .i64 m.w,.int .i64 m.h,.int .i64 m.l,.slice Af m.free.length cf,.slice Au m.up.length cu,.slice At m.tasks.length ct] 32 (g:=w.heap.size) rfl;have I:za w (w.alloc (.cells #[.int .i64 m.w,.int .i64 m.h,.int .i64 m.l,.slice Af m.free.length cf,.slice Au m.up.length cu,.slice At m.tasks.length ct] 32)):=(za.refl w).alloc _;generalize w.alloc _=w1 at o I⊢;obtain ⟨gm,a0⟩:∃g,g=w.heap.size:=⟨_,rfl⟩;rw [<-a0] at o⊢;have r0:=za.rule (o.cell (k:=0) rfl);have r1:=za.rule (o.cell (k:=1) rfl);have r2:=za.rule (o.cell (k:=2) rfl);have r3:=za.rule (o.cell (k:=3) rfl);have r4:=za.rule (o.cell (k:=4) rfl);have r5:=za.rule (o.cell (k:=5) rfl);have J:=zh I;have hx:za w1 w1:=za.refl w1;clear o I a0;refine Eo (S:=(fun W=>za w1 W)) AI (hx.drew) fun zH=>?_;have a4:za w1 w1.drew:=zH;generalize w1.drew=wd at zH a4⊢;refine z6 1 zH ?_;simp only [zd,DV];refine AB 0 fun K B=>?_;go_simp;go_at_call 142;refine (H1.out _).mono ?_;rintro e w2 ⟨rfl,M⟩;go_simp;refine Fe B (zH.trans M) fun zH=>?_;clear B K;try simp only [zd,DV]
 refine AB 2 fun K B=>?_;go_simp;go_at_call 143;refine (H2.out _ (J.out.trans zH)).mono ?_;rintro e w3 ⟨rfl,O⟩;go_simp;refine Fe B (zH.trans O) fun zH=>?_;clear B K;try simp only [zd,DV]
 refine AB 3 fun K B=>?_;go_simp;go_at_call 68;refine (H3.out _).mono ?_;rintro e w4 ⟨rfl,Q⟩;go_simp;refine Fe B (zH.trans Q) fun zH=>?_;clear B K;try simp only [zd,DV]
 refine AB 4 fun K B=>?_;go_simp;go_at_call 142;refine (H4.out _).mono ?_;rintro e w5 ⟨rfl,U⟩;go_simp;refine Fe B (zH.trans U) fun zH=>?_;clear B K;try simp only [zd,DV]
 refine z6 5 zH ?_;refine z6 6 zH ?_;simp only [zd,DV];refine EC (by kernel_rfl) ?_ _;have a3:Hid (za w _):=J.out.trans zH
 go_wp2_with fail
 go_ret;exact ⟨BL HH.out.symm,a3.out⟩
theorem mRecord_calls {sg:List UInt8} {ch:List Int} {steps:Int} (w:World) (hv:zk w ok v ch) (hI:∀x∈ch,BI x) (hs:BI steps) (hl:ch.length<=40000000) (hg:sg.length<=100000000):
  Calls Tryz.prog 138 #[.string ⟨sg.toArray⟩,v,.int .i64 steps] w fun e w'=>e=.returned (.tuple #[.string ⟨(zS sg ch steps).toArray⟩,.string ⟨(zJ sg ch steps).toArray⟩])/\za w w':=by
 have Q:=wIs_len2 (l:=ch) hI;have U:=Bl hs;obtain ⟨x1,o⟩:∃x,x=wL ch:=⟨_,rfl⟩;obtain ⟨x2,B⟩:∃x,x=wI steps:=⟨_,rfl⟩;obtain ⟨b,V⟩:=Fd (x1++x2);have G:b=Bf ch steps:=by rw [V,o,B];rfl
 have H1:Hid (∀W,za w W->Calls Tryz.prog 54 #[v] W fun e w'=>e=.returned (.string ⟨x1.toArray⟩)/\za W w'):=fun W hW=>by rw [o];exact DM W (hv.below hW) hI (by omega)
 have H2:Hid (∀W,Calls Tryz.prog 53 #[.int .i64 steps] W fun e w'=>e=.returned (.string ⟨x2.toArray⟩)/\za W w'):=fun W=>by rw [B];exact BP W hs
 rw [<-o] at Q;rw [<-B] at U;have a8:b.length<=900000000:=by rw [V,Eg];omega
 have a1:∀w,(Op.stringOp .add ⟨x1.toArray⟩ ⟨x2.toArray⟩).run Tryz.prog w=.ok (.string ⟨b.toArray⟩) w:=fun w=>by rw [V];exact zx (by omega)
 obtain ⟨s2,d⟩:∃s,s=zJ sg ch steps:=⟨_,rfl⟩;have b0:s2.length=8:=by rw [d];rfl
 have H3:Hid (∀W,Calls Tryz.prog 69 #[.string ⟨sg.toArray⟩,.string ⟨b.toArray⟩] W fun e w'=>e=.returned (.string ⟨s2.toArray⟩)/\za W w'):=fun W=>by
  have:=rChain_calls ⟨sg.toArray⟩ ⟨b.toArray⟩ W (by simp [ByteArray.size];omega) (by simp [ByteArray.size];omega);rw [d];unfold zJ;rw [<-G];exact this
 have c1:=Br (s:=b) (by omega);have c2:=Br (s:=s2) (by omega);obtain ⟨y1,D⟩:∃x,x=wT b:=⟨_,rfl⟩;obtain ⟨y2,E⟩:∃x,x=wT s2:=⟨_,rfl⟩;have H4:Hid (∀W,Calls Tryz.prog 142 #[.string ⟨b.toArray⟩] W fun e w'=>e=.returned (.string ⟨y1.toArray⟩)/\za W w'):=fun W=>by rw [D];exact BW W (by omega)
 have H5:Hid (∀W,Calls Tryz.prog 142 #[.string ⟨s2.toArray⟩] W fun e w'=>e=.returned (.string ⟨y2.toArray⟩)/\za W w'):=fun W=>by rw [E];exact BW W (by omega)
 rw [<-D] at c1;rw [<-E] at c2;have a2:∀w,(Op.stringOp .add ⟨y1.toArray⟩ ⟨y2.toArray⟩).run Tryz.prog w=.ok (.string ⟨(y1++y2).toArray⟩) w:=fun w=>zx (by omega)
 have HR:Hid (zS sg ch steps=y1++y2):=by (show _=_);rw [D,E,d,G];rfl
 obtain ⟨A,c,rfl,-,-⟩:=hv;obtain ⟨n,hn⟩:=Fd ch.length;rw [<-hn] at H1⊢;clear o B V G a8 b0 c1 c2 D E Q U hI hs hl hg hn;obtain ⟨R,hR⟩:=Fd (zS sg ch steps);rw [<-d,<-hR];rw [<-hR] at HR;clear hR d
 go_enter Tryz.func138,Tryz.ntmps138
 have hx:za w w:=za.refl w
 go_wp2_with fail
 refine (H1.out _ hx).mono ?_;rintro e w1 ⟨rfl,I⟩;have a0:=zh I;clear I hx
 go_wp2_with fail
 refine (H2.out _).mono ?_;rintro e w2 ⟨rfl,J⟩;have a3:=zh (a0.out.trans J);clear J
 go_wp2_with fail
 refine (H3.out _).mono ?_;rintro e w3 ⟨rfl,K⟩;have a4:=zh (a3.out.trans K);clear K
 go_wp2_with fail
 refine (H4.out _).mono ?_;rintro e w4 ⟨rfl,M⟩;have a5:=zh (a4.out.trans M);clear M
 go_wp2_with fail
 refine (H5.out _).mono ?_;rintro e w5 ⟨rfl,O⟩;have a6:=zh (a5.out.trans O);clear O
 go_wp2_with fail
 go_ret2
 have e:=HR.out;subst e;exact ⟨rfl,a6.out⟩
end
end Go.Proofs.YtjomnbdjajjgfaaGreatDoor
