/- RtYe RtYz RtYp RtYf -/
import Derived.Test.YthbjngbhbbkkgaaGreatHUzi
set_option linter.unusedVariables false
set_option linter.unusedSimpArgs false
set_option maxRecDepth 100000
set_option maxHeartbeats 16000000
namespace Go.Proofs.YthbjngbhbbkkgaaGreat
open Go.RowKit
attribute [local go_sem ↓] Go.wp_at_zero Go.wp_at_succ
theorem pholds_calls {m:MZ} (hl:Lens m) (hc:chk m=0):∀(N:Nat) (ok okp:Nat→Prop) (f u ts vc vp vpr:Value) (ch:List Int) (p:PT) (w:World),PSt w ok m f u ts vc vp ch→zu m ch→PrV w okp vpr p→p.size≤N→p.Lens→
  Calls Tryz.prog 67 #[stv m f u ts vc vp (zO m ch),vpr] w fun e w'=>e=.returned (.bool (zaI m p ch))∧Ext w w'
 | 0,ok,okp,f,u,ts,vc,vp,vpr,ch,.node t s ks,w,_,_,_,hN,_=>by unfold PT.size at hN;omega
 | N+1,ok,okp,f,u,ts,vc,vp,vpr,ch,.node tk s ks,w,h,hi,hp,hN,hpl=>by
  have IH:=zh (pholds_calls hl hc N);have H:=zh h;have HL:=zh hl;have HC:=zh hc;have HI:=zh hi;have HP:=zh hp;have HPL:=zh (zaq hc hi);have HCM:Hid (∀W,Ext w W→Calls Tryz.prog 90 #[stv m f u ts vc vp (zO m ch)] W fun e w'=>e=.returned (.bool (decide ((m.tasks.length:Int)≤(zO m ch:Int))))∧Ext W w'):=fun W hW=>zcT _ W (h.more hW)
  unfold PT.Lens at hpl;obtain ⟨hps,hpk,hp3⟩:=hpl;have HCT:Hid (∀W,Ext w W→Calls Tryz.prog 91 #[stv m f u ts vc vp (zO m ch),vpr] W fun e w'=>e=.returned (.bool (cutB m ch tk s ks.length))∧Ext W w'):=fun W hW=>pcut_calls W (h.more hW) hl hc hi (hp.ext hW) hps
  have HNX:Hid (∀n,zu m (ch++[n])→∀W,Ext w W→Calls Tryz.prog 93 #[stv m f u ts vc vp (zO m ch),.int .i64 n] W fun e w'=>∃vc' vp',e=.returned (stv m f u ts vc' vp' (zO m (ch++[n])))∧Ext W w'∧PSt w' (fun b=>ok b∨W.heap.size≤b) m f u ts vc' vp' (ch++[n])):=fun n hn W hW=>zdc _ n W (h.more hW) hl hc hn (zaq hc hi).2.2.1
  have HCA:Hid (∀W,Ext w W→Calls Tryz.prog 92 #[.agg #[.int .i64 m.w,.int .i64 m.h,.int .i64 m.l,f,u,ts],vc] W fun e w'=>∃v',e=.returned v'∧Mk W w' v' (zM m ch)):=fun W hW=>zcx W ((h.more hW).maze) hl ((h.more hW).chs) (by have:=(zaq hc hi).2.2.1;omega)
  unfold stv at HCM HCT HNX;obtain ⟨Af,cf,Au,cu,At,ct,Ac,cc,Ap,cp,rfl,rfl,rfl,rfl,rfl,-,-⟩:=h.parts;obtain ⟨R,hR⟩:∃R,R=zaI m (.node tk s ks) ch:=⟨_,rfl⟩;rw [←hR];have HRR:=zh hR;have HP3:=zh (lensL_mem hp3);have HSM:Hid (∀k∈ks,k.size≤PT.sizeL ks):=size_mem;unfold PT.size at hN
  cases hp with
  | mk hs hk he=>
   rename_i vs vk cs
   obtain ⟨As,cs',rfl,-,-⟩:=hs;obtain ⟨Ak,ck,rfl,hck,hrk⟩:=hk;have HRK:=zh hrk;have HEK:=zh he;clear h hl hc hi hR hp3 hrk he;obtain ⟨c,hcc⟩:∃c,c=zO m ch:=⟨_,rfl⟩;have HCU:=zh hcc;rw [←hcc] at HCM HCT HNX⊢;obtain ⟨PL,hPLL⟩:∃PL,PL=(zn m ch).length:=⟨_,rfl⟩;rw [←hPLL] at HCM HCT HNX⊢;clear hcc hPLL H;unfold stv
   go_enter Tryz.func67,Tryz.ntmps67
   go_upto_region 1 with fail;obtain ⟨hb1,r0,r1,r2,r3,r4,r5,r6,r7,r8⟩:=box9 w (.int .i64 m.w) (.int .i64 m.h) (.int .i64 m.l) (.slice Af m.free.length cf) (.slice Au m.up.length cu) (.slice At m.tasks.length ct) (.slice Ac ch.length cc) (.slice Ap PL cp) (.int .i64 c);have hs0:(w.alloc (.cells #[.int .i64 m.w,.int .i64 m.h,.int .i64 m.l,.slice Af m.free.length cf,.slice Au m.up.length cu,.slice At m.tasks.length ct,.slice Ac ch.length cc,.slice Ap PL cp,.int .i64 c] 103)).heap.size=w.heap.size+1:=by simp
   generalize w.alloc (.cells #[.int .i64 m.w,.int .i64 m.h,.int .i64 m.l,.slice Af m.free.length cf,.slice Au m.up.length cu,.slice At m.tasks.length ct,.slice Ac ch.length cc,.slice Ap PL cp,.int .i64 c] 103)=w0 at hb1 r0 r1 r2 r3 r4 r5 r6 r7 r8 hs0⊢;obtain ⟨hb2,p0,p1,p2⟩:=box3 w0 (.int .i64 tk) (.slice As s.length cs') (.slice Ak ks.length ck);generalize w0.alloc (.cells #[.int .i64 tk,.slice As s.length cs',.slice Ak ks.length ck] 37)=w1 at hb2 p0 p1 p2⊢;rw [hs0] at p0 p1 p2;obtain ⟨gm,hgm⟩:∃gm,gm=w.heap.size:=⟨_,rfl⟩;rw [←hgm] at r0 r1 r2 r3 r4 r5 r6 r7 r8 p0 p1 p2⊢;have HB2:=zh hb2;have HW1:=zh (hb1.trans hb2);have r0:=fun W h=>r0 W (HB2.out.trans h)
   have r1:=fun W h=>r1 W (HB2.out.trans h)
   have r2:=fun W h=>r2 W (HB2.out.trans h)
   have r3:=fun W h=>r3 W (HB2.out.trans h)
   have r4:=fun W h=>r4 W (HB2.out.trans h)
   have r5:=fun W h=>r5 W (HB2.out.trans h)
   have r6:=fun W h=>r6 W (HB2.out.trans h)
   have r7:=fun W h=>r7 W (HB2.out.trans h)
   have r8:=fun W h=>r8 W (HB2.out.trans h)
   clear hgm hb1 hb2 hs0;have hx:Ext w1 w1:=Ext.refl w1
   go_wp2_with fail
   refine (HCM.out w1 HW1.out).mono ?_;rintro e w2 ⟨rfl,hE2⟩;clear hx;have hx:Ext w1 w2:=hE2;clear hE2 HCM;by_cases hdone:m.tasks.length≤c
   ·have hd:decide ((m.tasks.length:Int)≤(c:Int))=true:=decide_eq_true (by omega);have HF:Hid (R=false):=by (show _=_);rw [HRR.out];exact holdsT_done (by rw [←HCU.out];exact hdone)
    rw [hd];clear hdone hd
    go_wp2_with fail
    go_ret;exact ⟨zd HF.out.symm,HW1.out.trans hx⟩
   ·have hd:decide ((m.tasks.length:Int)≤(c:Int))=false:=decide_eq_false (by omega)
    have HRR2:Hid (R=if tk≠(c:Int)∨s≠[] then cutB m ch tk s ks.length else zaH m ks ch (zM m ch)):=by
     (show _=_)
     rw [HRR.out,holdsT_node (by rw [←HCU.out];exact hdone),HCU.out]
    rw [hd];clear hdone hd HRR;go_upto_region 3 with fail;obtain ⟨bq,hbq⟩:∃bq:Bool,bq=decide (tk≠(c:Int)∨s≠[]):=⟨_,rfl⟩;have HBQ0:=zh hbq;clear hbq;go_cut [20] (fun v wx=>v=.bool bq∧w2=wx)
    case first=>
     by_cases hkc:tk=(c:Int)
     ·have hd:(tk != (c:Int))=false:=by rw [hkc];simp
      have HBQ:Hid (bq=decide (0<s.length)):=by
       (show _=_)
       rw [HBQ0.out,decide_eq_decide];constructor
       ·rintro (h | h)
        ·exact absurd hkc h
        ·exact List.length_pos_iff.2 h
       ·intro h;exact .inr (List.length_pos_iff.1 h)
      clear hkc
      go_wp2_with fail
      go_meet;refine ⟨?_,rfl⟩;rw [HBQ.out]
      all_goals (first | rfl | (congr 1;done) | (congr 1;rw [decide_eq_decide];omega))
     ·have hd:(tk != (c:Int))=true:=by rw [bne_iff_ne];exact hkc
      have HBQ:Hid (bq=true):=by (show _=_);rw [HBQ0.out];exact decide_eq_true (.inl hkc)
      clear hkc
      go_wp2_with fail
      go_meet;exact ⟨by rw [HBQ.out],rfl⟩
    case rest=>
     obtain ⟨rfl,rfl⟩:=hcut
     cases bq with
     | true=>
      have HF:Hid (R=cutB m ch tk s ks.length):=by (show _=_);rw [HRR2.out,if_pos (of_decide_eq_true HBQ0.out.symm)]
      clear HBQ0 HRR2
      go_wp2_with fail
      refine (HCT.out w2 (HW1.out.trans hx)).mono ?_;rintro e w4 ⟨rfl,hE4⟩
      go_wp2_with fail
      go_ret;exact ⟨zd HF.out.symm,(HW1.out.trans hx).trans hE4⟩
     | false=>
      have HF:Hid (R=zaH m ks ch (zM m ch)):=by (show _=_);rw [HRR2.out,if_neg (of_decide_eq_false HBQ0.out.symm)]
      clear HBQ0 HRR2 HCT
      go_wp2_with fail
      refine (HCA.out w2 (HW1.out.trans hx)).mono ?_;rintro e w4 ⟨vl,rfl,hM4⟩;have HI4:=zh hM4.ints;have hx4:Ext w1 w4:=hx.trans hM4.ext;have HCO:Hid (zM m ch=cand m ch):=by (show _=_);unfold zM;rw [if_pos (okC_of HC.out HI.out)]
      have HLI:Hid (∀n∈zM m ch,zu m (ch++[n])):=fun n hn=>by
       rw [HCO.out] at hn;exact .snoc HI.out hn
      have hLL:(zM m ch).length≤400000000000:=by rw [HCO.out];exact zbR HL.out ch
      obtain ⟨L,hL⟩:∃L,L=zM m ch:=⟨_,rfl⟩;rw [←hL] at HI4 HF HLI hLL;obtain ⟨AL,cL,rfl,-,hrl⟩:=HI4.out;have HRL:=zh hrl;have HX4:=zh hx4;clear hM4 hx hL hrl HCO HCA;by_cases hne:L.length=ks.length
      ·have hd:((L.length:Int) != (ks.length:Int))=false:=by rw [hne];simp
       have HNE:=zh hne;clear hne;have HX41:=zh (Ext.refl w4)
       go_wp2_with fail
       clear hx4;go_loopw [37] (fun i wr=>∃j:Nat,j≤L.length∧i=.int .i64 j∧Hid (R=zaH m (ks.drop j) ch (L.drop j))∧Hid (Ext w4 wr)) (fun i _=>L.length - (intOf i).toNat)
       case atStart=>exact ⟨0,Nat.zero_le _,rfl,HF.out,HX41.out⟩
       case round=>
        obtain ⟨j,hj,rfl,hr,hE⟩:=hrel;obtain ⟨wj,rfl⟩:∃wj:World,wj=wr:=⟨_,rfl⟩;have hx:Ext w1 wj:=HX4.out.trans hE.out;by_cases hlt:j<L.length
        ·have hltI:(j:Int)<(L.length:Int):=by omega
         have kk0:(0:Int)≤(j:Int):=by omega
         have hltk:j<ks.length:=by rw [←HNE.out];exact hlt
         have hltkI:(j:Int)<(ks.length:Int):=by omega
         obtain ⟨bl,offl,rfl,-,hcl0⟩:=zt HRL.out hlt hlt;have hcl:wj.cell? ⟨bl,offl+j,none⟩=some (.int .i64 L[j]):=hE.out.cell hcl0;have HIN:Hid (zu m (ch++[L[j]])):=HLI.out _ (List.getElem_mem hlt);have HDR:=zh (holdsL_drop (m:=m) (ch:=ch) hltk hlt);obtain ⟨b,off,rfl,h0,h1,h2⟩:=kidsAt HRK.out hltk;have q0:=Ext.rule (HW1.out.cell h0);have q1:=Ext.rule (HW1.out.cell h1);have q2:=Ext.rule (HW1.out.cell h2);have HPK:=zh (HEK.out j hltk);have HKL:Hid ((ks[j]).Lens∧(ks[j]).size≤N):=⟨HP3.out _ (List.getElem_mem hltk),by have:=HSM.out _ (List.getElem_mem hltk);omega⟩;obtain ⟨n,hn⟩:∃n,n=L[j]:=⟨_,rfl⟩;obtain ⟨kd,hkd⟩:∃kd,kd=ks[j]:=⟨_,rfl⟩;rw [←hn] at hcl HIN HDR;rw [←hkd] at HDR HPK HKL;obtain ⟨hb,hhb⟩:∃hb,hb=zaI m kd (ch++[n]):=⟨_,rfl⟩;rw [←hhb] at HDR
         have HNX2:Hid (∀W,Ext w1 W→Calls Tryz.prog 93 #[.agg #[.int .i64 m.w,.int .i64 m.h,.int .i64 m.l,.slice Af m.free.length cf,.slice Au m.up.length cu,.slice At m.tasks.length ct,.slice Ac ch.length cc,.slice Ap PL cp,.int .i64 c],.int .i64 n] W fun e w'=>∃a0 a1 a2 a3 a4 a5 a6 a7 a8,e=.returned (.agg #[a0,a1,a2,a3,a4,a5,a6,a7,a8])∧Ext W w'∧∀W',Ext w' W'→Calls Tryz.prog 67 #[.agg #[a0,a1,a2,a3,a4,a5,a6,a7,a8],.agg #[cs.getD (j*3) undef,cs.getD (j*3+1) undef,cs.getD (j*3+2) undef]] W' fun e w'=>e=.returned (.bool hb)∧Ext W' w'):=fun W hW=>by
          refine (HNX.out n HIN.out W (HW1.out.trans hW)).mono ?_;rintro e w' ⟨vc',vp',rfl,hE',hS⟩;refine ⟨_,_,_,_,_,_,_,_,_,rfl,hE',fun W' hW'=>?_⟩;rw [hhb];exact IH.out _ _ _ _ _ _ _ _ _ _ W' (hS.more hW') HIN.out (HPK.out.ext (HW1.out.trans (hW.trans (hE'.trans hW')))) HKL.out.2 HKL.out.1
         have HE4:=zh hE.out;have hxj:Ext w1 wj:=hx;clear hcl0 h0 h1 h2 hn hkd hhb hx;go_upto_region 11 with fail;go_cut [51] (fun v wx=>v=.bool (!hb)∧Ext wj wx)
         case first=>
          refine wp_region_held_drew (S:=(fun W=>Ext w1 W)) zS (hxj.drew) (fun zH=>?_);have hHd:Ext w1 wj.drew:=zH;have hEd:Ext wj wj.drew:=(Ext.refl wj).drew;generalize wj.drew=wd at zH hHd hEd⊢;refine rtT 0 zH ?_;simp only [za,Act.put];refine rtT 1 zH ?_;simp only [za,Act.put];refine rtT 3 zH ?_;simp only [za,Act.put];refine rtT 4 zH ?_;simp only [za,Act.put];refine rtT 5 zH ?_;simp only [za,Act.put];refine rtT 6 zH ?_;simp only [za,Act.put];refine rtT 7 zH ?_;simp only [za,Act.put];refine rtR 2 (fun K hK=>?_);go_simp;go_at_call 93;refine (HNX2.out _ zH).mono ?_;rintro e w9 ⟨a0,a1,a2,a3,a4,a5,a6,a7,a8,rfl,hE9,HK⟩;have HHK:=zh HK;clear HK;go_simp;refine hK.out _ _ (zH.trans hE9) (fun zH=>?_);clear hK K;try simp only [za,Act.put]
          refine rtR 8 (fun K hK=>?_);go_simp;go_at_call 67;refine (HHK.out _ (Ext.refl _)).mono ?_;rintro e w10 ⟨rfl,hE10⟩;go_simp;refine hK.out _ _ (zH.trans hE10) (fun zH=>?_);clear hK K;try simp only [za,Act.put]
          refine rtT 9 zH ?_;simp only [za,Act.put];refine wpAnyH_done (by kernel_rfl) ?_ _;go_wp2;go_meet;exact ⟨by first | rfl | simp,(hEd.trans hE9).trans hE10⟩
         case rest=>
          obtain ⟨rfl,hE9⟩:=hcut;have hx9:Ext w4 wc:=HE4.out.trans hE9
          cases hb with
          | false=>
           have HFF:Hid (R=false):=by (show _=_);rw [hr.out,HDR.out,Bool.false_and]
           go_wp2_with fail
           go_ret;exact ⟨zd HFF.out.symm,HW1.out.trans (HX4.out.trans hx9)⟩
          | true=>
           have hr':Hid (R=zaH m (ks.drop (j+1)) ch (L.drop (j+1))):=by (show _=_);rw [hr.out,HDR.out,Bool.true_and]
           go_wp2_with fail
           go_roundw
           case rel=>exact ⟨j+1,by omega,by go_num,hr',hx9⟩
           case measure=>simp [intOf];omega
        ·obtain rfl:j=L.length:=by omega
         have HFF:Hid (R=true):=by
          (show _=_)
          rw [hr.out,List.drop_length,HNE.out,List.drop_length];unfold zaH;rfl
         go_wp2_with fail
         go_ret;exact ⟨zd HFF.out.symm,HW1.out.trans hx⟩
      ·have hd:((L.length:Int) != (ks.length:Int))=true:=by rw [bne_iff_ne];omega
       have HFF:Hid (R=false):=by (show _=_);rw [HF.out];exact holdsL_len (fun h=>hne h.symm)
       clear hne
       go_wp2_with fail
       go_ret;exact ⟨zd HFF.out.symm,HW1.out.trans hx4⟩
end Go.Proofs.YthbjngbhbbkkgaaGreat
namespace Go.Proofs.YthbjngbhbbkkgaaGreat
open Go.RowKit
def GivesZ {α:Type} (n:Nat) (P:Program) (g:Nat) (lb:Array Value) (encs:α→Array Value) (G:Nat→α→World→Prop) (N:Nat) (Z:Nat→Prop) (w:World):Prop:=
 ∀(l:Nat) (J:Nat→World→Prop) (Jx:World→Prop) (W:World),Ext w W→w.heap.size≤l→l<W.heap.size→(∀k A B,J k A→Below W.heap.size A B→J k B)→(∀A B,Jx A→Below W.heap.size A B→Jx B)→
  (∀k x W1,k<N→J k W1→G k x W1→YieldAt Fence.wide (n - 1) P l (encs x) W1 fun e W'=>(e=.returned (.bool true)∧J (k+1) W'∧Chg (fun b=>b=l∨Z b) W1 W')∨(e=.returned (.bool false)∧Jx W'∧∀b,W.heap.size≤b→b<W1.heap.size→W'.heap[b]?=W1.heap[b]?))→
  J 0 W→
  CallsIn Fence.wide n P g (#[.func (.yield l) #[] #[]]++lb) W fun e W'=>(∃v,e=.returned v)∧(J N W'∨Jx W')
def postZ (B k:Nat) (I:Nat→World→Prop) (Ix:Code→World→Prop) (Z:Nat→Prop) (W:World):Exit→Act→World→Prop
 | .normal,_,W'=>Chg Z W W'∧I (k+1) W'
 | .ret,_,W'=>(∀b,B≤b→b<W.heap.size→W'.heap[b]?=W.heap[b]?)∧Ix .ret W'
 | .exit id,_,W'=>(∀b,B≤b→b<W.heap.size→W'.heap[b]?=W.heap[b]?)∧Ix (.exit id) W'
 | .goto t,_,W'=>(∀b,B≤b→b<W.heap.size→W'.heap[b]?=W.heap[b]?)∧Ix (.goto t) W'
 | .panic _,_,_=>False
 | .outgrown,_,_=>False
theorem wpIn_loopZ {P:Program} {n:Nat} {α:Type} {g:Operand} {ps:Array Tmp} {assign body:Code} {Q:Exit→Act→World→Prop} {a:Act} {w:World}
  {gf:Nat} {lb:Array Value} (hg:a.eval g=.func (.func gf) #[] lb) (eg:∀args w,(callFunc gf args).run P w=.ok (.enter gf args) w)
  {encs:α→Array Value} {G:Nat→α→World→Prop} {N:Nat} {w0:World} {Z:Nat→Prop} (hZ:∀b,Z b→b<w.heap.size) (hseq:GivesZ (n - 1) P gf lb encs G N Z w0) (hb0:Ext w0 w) (hps:∀x,(encs x).size=ps.size)
  (I:Nat→World→Prop) (Ix:Code→World→Prop) (hI:∀k A B,I k A→Below w.heap.size A B→I k B) (hIx:∀c A B,Ix c A→Below w.heap.size A B→Ix c B)
  (Ax:Nat→α→Act→World→Prop) (hAx:∀k x a A l,Ax k x a A→w.heap.size<l→l<A.heap.size→(∃r,A.heap[l]?=some (.loop r))→∀o,Ax k x a (A.putObj l o)) (h0:I 0 w)
  (hassign:∀(l k:Nat) (x:α) (W:World) (K:Act→World→Prop),k<N→I k W→G k x W→w.heap.size<W.heap.size→(∀a' W',Ext W W'→Ax k x a' W'→K a' W')→
   assign.wpIn (Fence.wide.inRound l) (n - 1 - 1) P (Exit.then K (fun _ _ _=>False)) { tmps:=(ps.zip (encs x)).foldl (fun t (p,v)=>t.setIfInBounds p v) a.tmps,defers:=[] } W)
  (hbody:∀(l k:Nat) (x:α) (a':Act) (W:World),k<N→I k W→Ax k x a' W→w.heap.size<W.heap.size→(∃r,W.heap[w.heap.size+1]?=some (.loop r))→body.wpIn (Fence.wide.inRound l) (n - 1 - 1) P (postZ w.heap.size k I Ix Z W) a' W)
  (hdone:∀(D:Nat) (W:World),w.heap.size≤D→I N W→W.heap[D]?=some (.deferred (some []))→Q .normal { a with defers:={ target:=.collected D,args:=#[] } :: a.defers } W)
  (hstop:∀(D:Nat) (c:Code) (W:World),w.heap.size≤D→Ix c W→W.heap[D]?=some (.deferred (some []))→c.wpIn Fence.wide n P Q { a with defers:={ target:=.collected D,args:=#[] } :: a.defers } W):
  (Code.rangeFunc g ps assign body).wpIn Fence.wide n P Q a w:=by
 refine wpIn_rangeFunc ?_;intro fn hfn;obtain ⟨rec,hrec⟩:∃rec:LoopState→Option Code→Loop,rec=fun st pe=>{ state:=st,pending:=pe,fn,tmps:=a.tmps,params:=ps,assign,body,defers:=w.heap.size }:=⟨_,rfl⟩
 obtain ⟨W1,hW1⟩:∃W1,(w.alloc (.deferred (some []))).alloc (.loop (rec .ready none))=W1:=⟨_,rfl⟩;have hz1:W1.heap.size=w.heap.size+2:=by rw [←hW1];simp
 have hL1:W1.heap[w.heap.size+1]?=some (.loop (rec .ready none)):=by
  rw [←hW1];have:=World.alloc_heap_new (w.alloc (.deferred (some []))) (.loop (rec .ready none))
  rwa [World.size_alloc] at this
 have hD1:W1.heap[w.heap.size]?=some (.deferred (some [])):=by
  rw [←hW1];exact (Below.heap_alloc _ _ _ (by simp)).trans (World.alloc_heap_new w _)
 have hE1:Ext w W1:=by rw [←hW1];exact ((Ext.refl w).alloc _).alloc _
 refine ⟨w.heap.size+1,[{ target:=.collected w.heap.size,args:=#[] }],W1,{ target:=.fn (.func gf) lb,args:=#[.func (.yield (w.heap.size+1)) #[] #[]] },W1,gf,
  #[.func (.yield (w.heap.size+1)) #[] #[]]++lb,W1,?_,?_,fun _ _=>trivial,?_,fun h=>absurd h (by simp [Fence.wide]),?_⟩
 ·rw [←hW1,hrec];exact run_enterLoop_outer _ _ _ _ _
 ·simp only [resolve,hg];simp [go_sem]
 ·simp [invoke,go_sem,eg]
 ·refine (hseq (w.heap.size+1)
   (fun k W=>I k W∧W.heap[w.heap.size+1]?=some (.loop (rec .ready none))∧W.heap[w.heap.size]?=some (.deferred (some []))∧w.heap.size+1<W.heap.size)
   (fun W=>∃c,Ix c W∧W.heap[w.heap.size+1]?=some (.loop (rec .done (some c)))∧W.heap[w.heap.size]?=some (.deferred (some [])))
   W1 (hb0.trans hE1) (by have:=hb0.size;omega) (by omega) ?_ ?_ ?_ ⟨hI _ _ _ h0 hE1,hL1,hD1,by omega⟩).mono ?_
  ·rintro k A B ⟨h1,h2,h3,h4⟩ hAB;exact ⟨hI _ _ _ h1 (hAB.mono (by omega)),(hAB.block _ (by omega)).trans h2,(hAB.block _ (by omega)).trans h3,Nat.lt_of_lt_of_le h4 hAB.size⟩
  ·rintro A B ⟨c,h1,h2,h3⟩ hAB;exact ⟨c,hIx _ _ _ h1 (hAB.mono (by omega)),(hAB.block _ (by omega)).trans h2,(hAB.block _ (by omega)).trans h3⟩
  ·-- one round
   rintro k x W hkN ⟨hi,hl,hD,hlt⟩ hgx;have hy:=run_yield (P:=P) (args:=encs x) hl (by rw [hrec];exact hps x);rw [hrec] at hy;refine ⟨fn,_,assign,body,hy,roundIn_of_wpIn hfn (hassign _ k x W _ hkN hi hgx (Nat.lt_trans (Nat.lt_succ_self _) hlt) (fun a' Wa hEa hax=>?_))⟩;have hl:=(hEa.block _ hlt).trans hl;have hD:=(hEa.block _ (by omega)).trans hD;have hi:=hI _ _ _ hi (hEa.mono (by omega));have hlt0:=hlt;have hlt:w.heap.size+1<Wa.heap.size:=Nat.lt_of_lt_of_le hlt hEa.size;refine ⟨_,run_beginRound hl (by rw [hrec]),?_⟩;have hl2:(Wa.putObj (w.heap.size+1) (.loop { rec .ready none with state:=.busy })).heap[w.heap.size+1]?=some (.loop { rec .ready none with state:=.busy }):=World.putObj_heap_same hlt;have hD2:(Wa.putObj (w.heap.size+1) (.loop { rec .ready none with state:=.busy })).heap[w.heap.size]?=some (.deferred (some [])):=(World.putObj_heap_other (by omega)).trans hD;have hlt2:w.heap.size+1<(Wa.putObj (w.heap.size+1) (.loop { rec .ready none with state:=.busy })).heap.size:=(Array.getElem?_eq_some_iff.1 hl2).1;have hg2:Wa.grownBy (Wa.putObj (w.heap.size+1) (.loop { rec .ready none with state:=.busy })) (some (w.heap.size+1)):=grownBy_putObj' _ _ _;refine wpIn_mono (hbody _ k x a' _ hkN (hI _ _ _ hi (zB _ (by omega) hlt)) (hAx _ _ _ _ _ hax (by omega) hlt ⟨_,hl⟩ _) (Nat.lt_trans (Nat.lt_succ_self _) hlt2) ⟨_,hl2⟩) ?_;generalize Wa.putObj (w.heap.size+1) (.loop { rec .ready none with state:=.busy })=W2 at*
   have fin:∀(jump:Option Code) (W3:World),W3.heap[w.heap.size+1]?=some (.loop { rec .ready none with state:=.busy })→
     (Instr.endRound (w.heap.size+1) jump).run P W3=.ok (.bool jump.isNone) (W3.putObj (w.heap.size+1) (.loop (rec (if jump.isNone then .ready else .done) jump))):=fun jump W3 hl3=>by
    have:=run_endRound (P:=P) jump hl3;rw [hrec] at this⊢;exact this
   have keep:∀W3:World,(∀b,w.heap.size≤b→b<W2.heap.size→W3.heap[b]?=W2.heap[b]?)→∀(o:Obj) (b:Nat),W1.heap.size≤b→b<W.heap.size→(W3.putObj (w.heap.size+1) o).heap[b]?=W.heap[b]?:=fun W3 hk3 o b hb1 hb2=>by
    have h1:b<Wa.heap.size:=Nat.lt_of_lt_of_le hb2 hEa.size;have h2:=hg2.size;exact (World.putObj_heap_other (by omega)).trans ((hk3 b (by omega) (by omega)).trans ((hg2.block b h1 (fun e=>by injection e;omega)).trans (hEa.block b hb2)))
   rintro e a3 W3 hp
   cases e with
   | normal=>
    obtain ⟨hE3,hi3⟩:=hp;have hl3:=(hE3.block _ hlt2 (fun h=>by have:=hZ _ h;omega)).trans hl2;have hlt3:=(Array.getElem?_eq_some_iff.1 hl3).1;have hD3:=(hE3.block _ (by omega) (fun h=>by have:=hZ _ h;omega)).trans hD2;refine ⟨_,_,fin none W3 hl3,.inl ⟨rfl,⟨hI _ _ _ hi3 (zB _ (by omega) hlt3),World.putObj_heap_same hlt3,(World.putObj_heap_other (by omega)).trans hD3,?_⟩,?_⟩⟩
    ·exact (Array.getElem?_eq_some_iff.1 (World.putObj_heap_same hlt3)).1
    ·exact (((Chg.of_ext (X:=fun b=>b=w.heap.size+1∨Z b) hEa).grown hg2 (fun k e _=>by injection e with e;exact .inl e.symm)).trans hE3 (fun k _ h=>.inr h)).grown (grownBy_putObj' _ _ _) (fun k e _=>by injection e with e;exact .inl e.symm)
   | ret=>
    obtain ⟨hk3,hi3⟩:=hp;have hl3:=(hk3 _ (by omega) hlt2).trans hl2;have hlt3:=(Array.getElem?_eq_some_iff.1 hl3).1;have hD3:=(hk3 _ (Nat.le_refl _) (by omega)).trans hD2;exact ⟨_,_,fin (some .ret) W3 hl3,.inr ⟨rfl,⟨.ret,hIx _ _ _ hi3 (zB _ (by omega) hlt3),World.putObj_heap_same hlt3,(World.putObj_heap_other (by omega)).trans hD3⟩,keep W3 hk3 _⟩⟩
   | exit id=>
    obtain ⟨hk3,hi3⟩:=hp;have hl3:=(hk3 _ (by omega) hlt2).trans hl2;have hlt3:=(Array.getElem?_eq_some_iff.1 hl3).1;have hD3:=(hk3 _ (Nat.le_refl _) (by omega)).trans hD2;exact ⟨_,_,fin (some (.exit id)) W3 hl3,.inr ⟨rfl,⟨.exit id,hIx _ _ _ hi3 (zB _ (by omega) hlt3),World.putObj_heap_same hlt3,(World.putObj_heap_other (by omega)).trans hD3⟩,keep W3 hk3 _⟩⟩
   | goto t=>
    obtain ⟨hk3,hi3⟩:=hp;have hl3:=(hk3 _ (by omega) hlt2).trans hl2;have hlt3:=(Array.getElem?_eq_some_iff.1 hl3).1;have hD3:=(hk3 _ (Nat.le_refl _) (by omega)).trans hD2;exact ⟨_,_,fin (some (.goto t)) W3 hl3,.inr ⟨rfl,⟨.goto t,hIx _ _ _ hi3 (zB _ (by omega) hlt3),World.putObj_heap_same hlt3,(World.putObj_heap_other (by omega)).trans hD3⟩,keep W3 hk3 _⟩⟩
   | panic ch=>exact hp.elim
   | outgrown=>exact hp.elim
  ·-- behind the iterator
   rintro e W2 ⟨⟨v,rfl⟩,(⟨hi,hl,hD,hlt⟩ | ⟨c,hi,hl,hD⟩)⟩
   ·exact ⟨none,_,by have:=run_endLoop (P:=P) hl (by rw [hrec];simp);rw [hrec] at this;exact this,hdone _ _ (Nat.le_refl _) (hI _ _ _ hi (zB _ (by omega) hlt)) ((World.putObj_heap_other (by omega)).trans hD)⟩
   ·have hlt:=(Array.getElem?_eq_some_iff.1 hl).1;exact ⟨some c,_,by have:=run_endLoop (P:=P) hl (by rw [hrec];simp);rw [hrec] at this;exact this,hstop _ c _ (Nat.le_refl _) (hIx _ _ _ hi (zB _ (by omega) hlt)) ((World.putObj_heap_other (by omega)).trans hD)⟩
end Go.Proofs.YthbjngbhbbkkgaaGreat
namespace Go.Proofs.YthbjngbhbbkkgaaGreat
open Go.RowKit
attribute [local go_sem ↓] Go.wp_at_zero Go.wp_at_succ
attribute [local go_sem] Oper.semAt_some
theorem yield_any {m:Nat} {P:Program} {l:Nat} {args:Array Value} {W:World} {R:Ending→World→Prop} (h:YieldAt Fence.wide m P l args W R):
  ∃fn tmps assign body,(Instr.yield l args).run P W=.ok (.round l fn tmps assign body) W∧∀m',RoundIn Fence.wide m' P l fn tmps assign body W R:=by
 obtain ⟨fn,tmps,assign,body,hy,hR⟩:=h;exact ⟨fn,tmps,assign,body,hy,fun m'=>⟨hR.1,fun c cs _=>hR.2 c cs (room_wide _)⟩⟩
def Marks (D:List Nat):List Deferred:=D.map fun r=>{ target:=.collected r,args:=#[] }
theorem zbZ {F:Fence} {n:Nat} {P:Program} {fn:Func} {tmps:Array Value} {R:Ending→World→Prop} (hr:fn.results=#[]):∀(D:List Nat) (B:Nat) (w:World),D.Nodup→(∀r∈D,B≤r∧w.heap[r]?=some (.deferred (some [])))→(∀w',Below B w w'→R (.returned (.tuple #[])) w')→LeavesInM F n P fn tmps R (Marks D) .returning w
 | [],B,w,_,_,h=>by
  unfold Marks LeavesInM LeavesIn;exact ⟨_,results_none hr _ _ _,h w (Below.refl _ w)⟩
 | r :: D,B,w,hn,hd,h=>by
  obtain ⟨hb,hk⟩:=hd r (List.mem_cons_self ..);have hlt:=(Array.getElem?_eq_some_iff.1 hk).1;refine ⟨by simp,.inl ⟨_,_,rfl,run_takeDeferred hk,?_⟩⟩;rw [List.nodup_cons] at hn;refine zbZ hr D B _ hn.2 (fun r' hr'=>?_) (fun w' hw=>h w' ((zB _ hb hlt).trans hw));obtain ⟨h1,h2⟩:=hd r' (List.mem_cons_of_mem _ hr');exact ⟨h1,(World.putObj_heap_other (fun e:r'=r=>hn.1 (by rw [←e];exact hr'))).trans h2⟩
theorem Chg.belowR {X:Nat→Prop} {a b c:World} {B:Nat} (h:Chg X a b) (h':Below B b c) (hB:a.heap.size≤B):Chg X a c:=
 h.trans (X':=fun k=>B≤k) ⟨h'.os,h'.tape,h'.output,h'.size,fun k hk hn=>h'.block k (by omega)⟩ (fun k hk h=>absurd h (by omega))
theorem arr25 (T:Array Value) (h:T.size=25):∃x0 x1 x2 x3 x4 x5 x6 x7 x8 x9 x10 x11 x12 x13 x14 x15 x16 x17 x18 x19 x20 x21 x22 x23 x24,T=#[x0,x1,x2,x3,x4,x5,x6,x7,x8,x9,x10,x11,x12,x13,x14,x15,x16,x17,x18,x19,x20,x21,x22,x23,x24]:=by
 obtain ⟨l⟩:=T
 match l,h with
 | [x0,x1,x2,x3,x4,x5,x6,x7,x8,x9,x10,x11,x12,x13,x14,x15,x16,x17,x18,x19,x20,x21,x22,x23,x24],_=>exact ⟨_,_,_,_,_,_,_,_,_,_,_,_,_,_,_,_,_,_,_,_,_,_,_,_,_,rfl⟩
theorem cell_loop {W:World} {g l:Nat} {r:Loop} {t:TypeId} {cs:Array Value} (h:Blk W g t cs) (hl:W.heap[l]?=some (.loop r)) (o:Obj):Blk (W.putObj l o) g t cs:=by
 refine (World.putObj_heap_other ?_).trans h;rintro rfl;have h':W.heap[g]?=some (.cells cs t):=h;rw [hl] at h'
 cases h'
theorem fold_one (p:Tmp) (v:Value) (T:Array Value):(#[p].zip #[v]).foldl (fun t (p,v)=>t.setIfInBounds p v) T=T.setIfInBounds p v:=by
 simp
theorem sizeL_take:∀(l:List PT) (k:Nat) (hk:k<l.length),PT.sizeL (l.take (k+1))=PT.sizeL (l.take k)+(l[k]).size
 | [],k,hk=>by simp at hk
 | x :: l,0,hk=>by simp [PT.sizeL]
 | x :: l,k+1,hk=>by
  have h:=sizeL_take l k (by simpa using hk);simp only [List.take_succ_cons,PT.sizeL,List.getElem_cons_succ];omega
theorem size_pos (p:PT):1≤p.size:=by cases p;unfold PT.size;omega
theorem sizeL_len:∀(l:List PT),l.length≤PT.sizeL l
 | []=>Nat.le_refl _
 | x :: l=>by
  have h1:=sizeL_len l;have h2:=size_pos x;simp only [List.length_cons,PT.sizeL];omega
theorem sizeL_le:∀(l:List PT) (k:Nat),PT.sizeL (l.take k)≤PT.sizeL l
 | [],k=>by simp [PT.sizeL]
 | x :: l,0=>by simp [PT.sizeL]
 | x :: l,k+1=>by
  have h:=sizeL_le l k;simp only [List.take_succ_cons,PT.sizeL];omega
theorem PrV.inv {w:World} {ok:Nat→Prop} {t:Int} {vs vk:Value} {p:PT} (h:PrV w ok (.agg #[.int .i64 t,vs,vk]) p):∃side kids cs,p=.node t side kids∧zf w ok vs side∧Row w ok 3 vk kids.length cs∧
  ∀(i:Nat) (hi:i<kids.length),PrV w ok (.agg #[cs.getD (i*3) undef,cs.getD (i*3+1) undef,cs.getD (i*3+2) undef]) kids[i]:=by
 cases h with
 | mk h1 h2 h3=>exact ⟨_,_,_,rfl,h1,h2,h3⟩
theorem parts_calls {a0 a1 a2:Value} (w:World):
  Calls Tryz.prog 88 #[.agg #[a0,a1,a2]] w fun e w'=>∃gl,e=.returned (.func (.func 111) #[] #[.pointer (some ⟨gl,0,none⟩)])∧Ext w w'∧w.heap.size≤gl∧w'.cell? ⟨gl,0,none⟩=some a0∧w'.cell? ⟨gl,1,none⟩=some a1∧w'.cell? ⟨gl,2,none⟩=some a2:=by
 go_enter Tryz.func88,Tryz.ntmps88
 go_wp2;go_ret;have hb:=Blk.new w #[a0,a1,a2] 37 (g:=w.heap.size) rfl;exact ⟨_,rfl,(Ext.refl w).alloc _,Nat.le_refl _,hb.cell (k:=0) rfl,hb.cell (k:=1) rfl,hb.cell (k:=2) rfl⟩
theorem parts_gives:∀(N:Nat) (p:PT),p.size≤N→N≤4000000000000000000→∀{t:Int} {vs vk:Value} (w:World) (gl:Nat) (Z:Nat→Prop),PrV w (fun b=>¬ Z b) (.agg #[.int .i64 t,vs,vk]) p→¬ Z gl→(∀b,Z b→b<w.heap.size)→
  w.cell? ⟨gl,0,none⟩=some (.int .i64 t)→w.cell? ⟨gl,1,none⟩=some vs→w.cell? ⟨gl,2,none⟩=some vk→∀n,GivesZ n Tryz.prog 111 #[.pointer (some ⟨gl,0,none⟩)] (fun x:Value=>#[x]) (fun k x W=>∃(t:Int) (A:Option Addr) (n c:Nat) (B:Option Addr) (k d:Nat),x=.agg #[.int .i64 t,.slice A n c,.slice B k d]) p.size Z w:=by
 intro N
 induction N with
 | zero=>intro p hp;have:=size_pos p;omega
 | succ N ih=>
  intro p hpN hN4 t vs vk w gl Z hp hgl hZ hc0 hc1 hc2 n;obtain ⟨side,kids,cs,rfl,hs,hk,he⟩:=hp.bound.inv;have IH:=zh ih;intro l J Jx W hW hwl hlW hJ hJx hY h0;have hsz:(PT.node t side kids).size=1+PT.sizeL kids:=by unfold PT.size;rfl
  rw [hsz] at hpN hY⊢;have hkl:=sizeL_len kids;obtain ⟨Ak,ck,rfl,hck,hrk⟩:=hk;obtain ⟨As0,cs0,rfl,-,-⟩:=hs;have HRK:=zh hrk;have HE:=zh he;have HJ:=zh hJ;have HY:=zh hY;have HZ:=zh hZ;have HG:=zh hgl;have HW:=zh hW;have HL:Hid (w.heap.size≤l∧l<W.heap.size∧gl<w.heap.size):=⟨hwl,hlW,zl hc0⟩;have d0:=hW.cell hc0;have d1:=hW.cell hc1;have d2:=hW.cell hc2;have e0:=Ext.rule d0;have e1:=Ext.rule d1;have e2:=Ext.rule d2;have hxw:Ext W W:=Ext.refl W;have hxa:=zQ W;clear d0 d1 d2;have hj1:=hJ 0 W _ h0 ((Ext.refl W).alloc (.cells #[.func (.yield l) #[] #[]] 105));have hb1:Blk (W.alloc (.cells #[.func (.yield l) #[] #[]] 105)) W.heap.size 105 _:=Blk.new W #[.func (.yield l) #[] #[]] 105 rfl;have hy1:=hY 0 (.agg #[.int .i64 t,.slice As0 side.length cs0,.slice Ak kids.length ck]) _ (by omega) hj1 ⟨_,_,_,_,_,_,_,rfl⟩;obtain ⟨fn,tmps,assign,body,hyr,hR⟩:=yield_any hy1;have HR:=zh hR;clear hp he hrk hJ hY hZ hgl hW hwl hlW h0 hc0 hc1 hc2 hR hy1 hj1 ih;refine callsIn_of_wp_marks Tryz.func111 rfl trivial ?_ rfl;simp only [Tryz.ntmps111,List.size_toArray,List.length_cons,List.length_nil,Nat.reduceAdd,Nat.reduceSub,Array.replicate_succ,Array.replicate_zero,List.push_toArray,List.append_toArray,List.nil_append,List.cons_append];have HJX:=zh hJx;clear hJx hb1
  gi_wp2_with fail
  refine ⟨fun h=>absurd h (by simp [Fence.wide]),?_⟩;refine (HR.out _).mono ?_;clear HR hyr;have HC0:Hid (Ext W (W.alloc (.cells #[.func (.yield l) #[] #[]] 105))∧(W.alloc (.cells #[.func (.yield l) #[] #[]] 105)).cell? ⟨W.heap.size,0,none⟩=some (.func (.yield l) #[] #[])):=⟨(Ext.refl W).alloc _,(Blk.new W #[.func (.yield l) #[] #[]] 105 rfl).cell (k:=0) rfl⟩;generalize W.alloc (.cells #[.func (.yield l) #[] #[]] 105)=W1 at HC0⊢;obtain ⟨gy,hgy⟩:∃g,g=W.heap.size:=⟨_,rfl⟩;rw [←hgy] at HC0⊢;have HGY:Hid (gy=W.heap.size):=hgy;clear hgy hxa hxw;rintro e W2 (⟨rfl,hj2,hch2⟩ | ⟨rfl,hx2⟩)
  case inr=>
   gi_wp2_with fail
   exact zbZ rfl [] W.heap.size _ List.nodup_nil (fun _ h=>absurd h (List.not_mem_nil)) fun w' hw=>⟨⟨_,rfl⟩,.inr (HJX.out _ _ hx2.1 hw)⟩
  have HJ2:Hid (J (1+PT.sizeL (kids.take 0)) W2):=by (show J _ _);simpa [PT.sizeL] using hj2
  have HC2:=zh hch2
  have f2:W2.cell? ⟨gl,2,none⟩=some (.slice Ak kids.length ck):=hch2.cellk (e2 W1 HC0.out.1) (by
   have h1:=HL.out;rintro (h | h)
   ·have:gl=l:=h;omega
   ·exact HG.out h)
  clear hj2 hch2
  gi_wp2_with fail
  clear f2;refine wpIn_loop (fun a wr=>∃(k:Nat) (D:List Nat) (y0 y1 y3 y4 y5 y6 y7 y8 y9 y10 y14 y15 y16 y17 y18 y19 y20 y21 y22 y23 y24:Value),k≤kids.length∧a={ tmps:=#[y0,y1,.pointer (some ⟨gy,0,none⟩),y3,y4,y5,y6,y7,y8,y9,y10,.slice Ak kids.length ck,.int .i64 kids.length,.int .i64 k,y14,y15,y16,y17,y18,y19,y20,y21,y22,y23,y24],defers:=Marks D }∧D.Nodup∧Hid (∀r∈D,W1.heap.size≤r∧wr.heap[r]?=some (.deferred (some [])))∧Hid (J (1+PT.sizeL (kids.take k)) wr)∧Hid (Chg (fun b=>b=l∨Z b) W1 wr)) (fun a _=>kids.length - (intOf (a.tmps.getD 13 undef)).toNat) ?atStart ?round
  case atStart=>exact ⟨0,[],_,_,_,_,_,_,_,_,_,_,_,_,_,_,_,_,_,_,_,_,_,Nat.zero_le _,rfl,List.nodup_nil,(fun _ h=>absurd h (List.not_mem_nil)),HJ2.out,HC2.out⟩
  clear HJ2 HC2
  case round=>
   rintro a wk ⟨k,D,y0,y1,y3,y4,y5,y6,y7,y8,y9,y10,y14,y15,y16,y17,y18,y19,y20,y21,y22,y23,y24,hk,rfl,hD,hmk,hj,hch⟩;by_cases hlt:k<kids.length
   ·have hltI:(k:Int)<(kids.length:Int):=by omega
    have hkI0:(0:Int)≤(k:Int):=by omega
    have hke:=HE.out k hlt;have hks:=sizeL_take kids k hlt;have hkt:=sizeL_le kids (k+1);obtain ⟨b0,off0,rfl,hbk,hcell⟩:=HRK.out.2 (by omega);have hcsl:=HRK.out.1;obtain ⟨kid,hkid⟩:∃kid,kid=kids[k]:=⟨_,rfl⟩;rw [←hkid] at hke hks;obtain ⟨As,c1,Ak2,c2,hform,-⟩:=hke.form;rw [hform] at hke;simp only [Value.agg.injEq,Array.mk.injEq,List.cons.injEq,and_true] at hform;obtain ⟨g0,g1,g2⟩:=hform
    have hcw:∀j,j<cs.length→wk.cell? ⟨b0,off0+j,none⟩=some (cs.getD j undef):=fun j hj=>by
     have h1:=hcell j (cs.getD j undef) (by rw [List.getD_eq_getElem?_getD,List.getElem?_eq_getElem hj];rfl);refine hch.out.cellk (HC0.out.1.cell (HW.out.cell h1)) ?_;have h2:=HL.out;rintro (h | h)
     ·have:b0=l:=h;omega
     ·exact hbk.1 h
    have m0:=hcw (k*3) (by omega);have m1:=hcw (k*3+1) (by omega);have m2:=hcw (k*3+2) (by omega);rw [g0] at m0;rw [g1,←Nat.add_assoc] at m1;rw [g2,←Nat.add_assoc] at m2;have HKE:=zh hke;have HKS:Hid (kid.size≤N∧1+PT.sizeL (kids.take (k+1))=1+PT.sizeL (kids.take k)+kid.size∧PT.sizeL (kids.take (k+1))≤PT.sizeL kids):=⟨by omega,by omega,by omega⟩;clear hcw hcsl hcell hkid g0 g1 g2 hke hks hkt;have hxw:Ext wk wk:=Ext.refl wk;have hxa:=zQ wk
    gi_wp2_with fail
    refine ⟨trivial,fun h=>absurd h (by simp [Fence.wide]),?_⟩;refine (callsIn_wide.2 (parts_calls _)).mono ?_;rintro e wp ⟨gx,rfl,hEp0,hgx0,hp0,hp1,hp2⟩;have hEp:Ext wk wp:=((Ext.refl wk).alloc _).trans hEp0;have hgx:wk.heap.size≤gx:=by simp at hgx0;omega
    clear hEp0 hgx0;have HS:Hid (W.heap.size≤W1.heap.size∧W1.heap.size≤wk.heap.size∧wk.heap.size≤wp.heap.size):=⟨HC0.out.1.size,hch.out.size,hEp.size⟩;have hCw:Chg (fun b=>b=l∨Z b) w wp:=((Chg.of_ext (X:=fun b=>b=l∨Z b) (HW.out.trans HC0.out.1)).tr hch.out).ext_r hEp
    have hSw:zX (fun b=>¬ Z b∧b<w.heap.size) w wp:=hCw.same (fun b hb=>by
     rintro (h | h)
     ·have h1:=HL.out;have h2:=hb.2;omega
     ·exact hb.1 h)
    have hKP:=HKE.out.keepW (ok':=fun b=>¬ (b=l∨Z b)) hSw (fun b hb=>by
     rintro (h | h)
     ·have h1:=HL.out;have h2:=hb.2;omega
     ·exact hb.1 h)
    have hIP:=IH.out kid HKS.out.1 (by omega) wp gx (fun b=>b=l∨Z b) hKP (by
     have h1:=HL.out;have h2:=HS.out;rintro (h | h)
     ·omega
     ·have:=HZ.out _ h;omega) (fun b hb=>by
     have h1:=HL.out;have h2:=HS.out;rcases hb with h | h
     ·omega
     ·have:=HZ.out _ h;omega) hp0 hp1 hp2
    have HIP:=zh hIP
    have HDL:Hid (∀r∈D,W1.heap.size≤r∧r<wp.heap.size):=fun r hr=>⟨(hmk.out r hr).1,by
     have h1:=(Array.getElem?_eq_some_iff.1 (hmk.out r hr).2).1;have h2:=HS.out;omega⟩
    have HI0:Hid (J (1+PT.sizeL (kids.take k)+0) wp∧Chg (fun b=>b=l∨Z b) W1 wp∧∀r∈D,wp.heap[r]?=some (.deferred (some []))):=⟨HJ.out _ _ _ hj.out (hEp.mono (by have:=HS.out;omega)),hch.out.ext_r hEp,fun r hr=>(hEp.block _ (by have:=(Array.getElem?_eq_some_iff.1 (hmk.out r hr).2).1;omega)).trans (hmk.out r hr).2⟩;have HNX:Hid (N≤4000000000000000000):=by (show _≤_);omega
    clear hCw hSw hKP hIP hp0 hp1 hp2 hgx m0 m1 m2 hxw hxa
    gi_wp2_with fail
    refine wpIn_loopZ (gf:=111) (lb:=#[.pointer (some ⟨gx,0,none⟩)]) rfl (enters_of Tryz.func111 (by kernel_rfl) rfl) (Z:=fun b=>b=l∨Z b) (fun b hb=>by
     have h1:=HL.out;have h2:=HS.out;rcases hb with h | h
     ·omega
     ·have:=HZ.out _ h;omega) (HIP.out _) (Ext.refl wp) (fun _=>rfl)
     (fun j W'=>J (1+PT.sizeL (kids.take k)+j) W'∧Chg (fun b=>b=l∨Z b) W1 W'∧∀r∈D,W'.heap[r]?=some (.deferred (some [])))
     (fun c W'=>c=.ret∧Jx W'∧∀r∈D,W'.heap[r]?=some (.deferred (some [])))
     ?hI ?hIx (fun j x a W'=>∃(gx2:Nat) (t:Int) (A:Option Addr) (n c:Nat) (B:Option Addr) (k d:Nat),x=.agg #[.int .i64 t,.slice A n c,.slice B k d]∧a.tmps.size=25∧a.defers=[]∧a.tmps.getD 2 undef=.pointer (some ⟨gy,0,none⟩)∧a.tmps.getD 5 undef=.pointer (some ⟨gx2,0,none⟩)∧Blk W' gx2 37 #[.int .i64 t,.slice A n c,.slice B k d]) ?hG HI0.out ?assign ?body ?done ?stop
    case hI=>
     rintro j A B ⟨h1,h2,h3⟩ hAB;have hs:=HS.out;exact ⟨HJ.out _ _ _ h1 (hAB.mono (by omega)),h2.belowR hAB (by omega),fun r hr=>(hAB.block _ (HDL.out r hr).2).trans (h3 r hr)⟩
    case hIx=>
     rintro c A B ⟨h1,h2,h3⟩ hAB;have hs:=HS.out;exact ⟨h1,HJX.out _ _ h2 (hAB.mono (by omega)),fun r hr=>(hAB.block _ (HDL.out r hr).2).trans (h3 r hr)⟩
    case hG=>
     rintro j x a A l' ⟨gx2,a0,a1,a2,a3,a4,a5,a6,h1,h2,h3,h4,h5,hb⟩ _ _ ⟨r,hr⟩ o;exact ⟨gx2,a0,a1,a2,a3,a4,a5,a6,h1,h2,h3,h4,h5,cell_loop hb hr o⟩
    case assign=>
     rintro l2 j x W0 K hjN hi ⟨a0,a1,a2,a3,a4,a5,a6,rfl⟩ hs hK;clear hi;rw [fold_one];simp only [List.setIfInBounds_toArray,List.set_cons_zero,List.set_cons_succ]
     gi_wp2_with fail
     refine hK _ _ ((Ext.refl W0).alloc (.cells #[.int .i64 a0,.slice a1 a2 a3,.slice a4 a5 a6] 37)) ?_;exact ⟨W0.heap.size,a0,a1,a2,a3,a4,a5,a6,rfl,rfl,rfl,rfl,rfl,Blk.new W0 #[.int .i64 a0,.slice a1 a2 a3,.slice a4 a5 a6] 37 rfl⟩
    case body=>
     rintro l2 j x ⟨T,Df⟩ W0 hjN ⟨hJ0,hC0,hM0⟩ ⟨gx2,a0,a1,a2,a3,a4,a5,a6,rfl,hT,hDf,hT2,hT5,hb0⟩ hs ⟨rl,hrl⟩;dsimp only at hT hDf hT2 hT5;subst hDf;obtain ⟨x0,x1,x2,x3,x4,x5,x6,x7,x8,x9,x10,x11,x12,x13,x14,x15,x16,x17,x18,x19,x20,x21,x22,x23,x24,rfl⟩:=arr25 T hT;have hx2:x2=.pointer (some ⟨gy,0,none⟩):=hT2;have hx5:x5=.pointer (some ⟨gx2,0,none⟩):=hT5;subst hx2 hx5
     have y0:W0.cell? ⟨gy,0,none⟩=some (.func (.yield l) #[] #[]):=hC0.cellk HC0.out.2 (by
      have h1:=HL.out;have h2:=HGY.out;rintro (h | h)
      ·have:gy=l:=h;omega
      ·have:Z gy:=h;have:=HZ.out _ this;omega)
     have c0:=hb0.cell (k:=0) rfl;have c1:=hb0.cell (k:=1) rfl;have c2:=hb0.cell (k:=2) rfl;have hy2:=HY.out (1+PT.sizeL (kids.take k)+j) (.agg #[.int .i64 a0,.slice a1 a2 a3,.slice a4 a5 a6]) W0 (by have:=HKS.out;omega) hJ0 ⟨_,_,_,_,_,_,_,rfl⟩;obtain ⟨fn,tmps,assign,body,hyr,hR⟩:=yield_any hy2;have HR:=zh hR;have HC2:=zh hC0;have HM2:=zh hM0;clear hT hT2 hT5 hy2 hR hJ0 hC0 hM0 hb0 hrl hs
     gi_wp2_with fail
     refine ⟨fun h=>absurd h (by simp [Fence.wide]),?_⟩;refine (HR.out _).mono ?_;rintro e W2 (⟨rfl,hj2,hch2⟩ | ⟨rfl,hx2,hk2⟩)
     ·gi_wp2_with fail
      refine ⟨hch2,hj2,HC2.out.tr hch2,fun r hr=>(hch2.block r ((Array.getElem?_eq_some_iff.1 (HM2.out r hr)).1) ?_).trans (HM2.out r hr)⟩;have h1:=HL.out;have h2:=HDL.out r hr;have h3:=HS.out;rintro (h | h)
      ·omega
      ·have:=HZ.out _ h;omega
     ·gi_wp2_with fail
      refine ⟨fun b hb1 hb2=>hk2 b (by have:=HS.out;omega) hb2,rfl,hx2,fun r hr=>(hk2 r ?_ ((Array.getElem?_eq_some_iff.1 (HM2.out r hr)).1)).trans (HM2.out r hr)⟩;have h2:=HDL.out r hr;have h3:=HS.out;omega
    case done=>
     rintro D0 W3 hD0 ⟨hj3,hc3,hm3⟩ hd0;have HJ3:Hid (J (1+PT.sizeL (kids.take (k+1))) W3):=by (show J _ _);rw [HKS.out.2.1];exact hj3
     have HC3:=zh hc3
     have HM3:Hid (∀r∈D0 :: D,W1.heap.size≤r∧W3.heap[r]?=some (.deferred (some []))):=fun r hr=>by
      rcases List.mem_cons.1 hr with rfl | hr
      ·exact ⟨by have:=HS.out;omega,hd0⟩
      ·exact ⟨(HDL.out r hr).1,hm3 r hr⟩
     have HD3:Hid ((D0 :: D).Nodup):=List.nodup_cons.2 ⟨fun h=>by have:=HDL.out _ h;omega,hD⟩;clear hj3 hc3 hm3 hd0
     gi_wp2_with fail
     exact ⟨⟨k+1,D0 :: D,_,_,_,_,_,_,_,_,_,_,_,_,_,_,_,_,_,_,_,_,_,by omega,rfl,HD3.out,HM3.out,HJ3.out,HC3.out⟩,by simp [intOf];omega⟩
    case stop=>
     rintro D0 c W3 hD0 ⟨rfl,hx3,hm3⟩ hd0
     have HM3:Hid (∀r∈D0 :: D,W1.heap.size≤r∧W3.heap[r]?=some (.deferred (some []))):=fun r hr=>by
      rcases List.mem_cons.1 hr with rfl | hr
      ·exact ⟨by have:=HS.out;omega,hd0⟩
      ·exact ⟨(HDL.out r hr).1,hm3 r hr⟩
     have HD3:Hid ((D0 :: D).Nodup):=List.nodup_cons.2 ⟨fun h=>by have:=HDL.out _ h;omega,hD⟩;have HX3:=zh hx3;clear hx3 hm3 hd0
     gi_wp2_with fail
     exact zbZ rfl (D0 :: D) W1.heap.size _ HD3.out HM3.out fun w' hw=>⟨⟨_,rfl⟩,.inr (HJX.out _ _ HX3.out (hw.mono (by have:=HS.out;omega)))⟩
   ·obtain rfl:k=kids.length:=by omega
    rw [List.take_length] at hj
    gi_wp2_with fail
    exact zbZ rfl D W1.heap.size _ hD hmk.out fun w' hw=>⟨⟨_,rfl⟩,.inl (HJ.out _ _ _ hj.out (hw.mono (by have:=HC0.out.1.size;omega)))⟩
theorem psize_calls {okp:Nat→Prop} {vp:Value} {p:PT} (w:World) (hp:PrV w okp vp p) (hps:p.size≤4000000000000000000):
  Calls Tryz.prog 65 #[vp] w fun e w'=>e=.returned (.int .i64 (p.size:Nat))∧Ext w w':=by
 refine (callsIn_wide (n:=6)).1 ?_;obtain ⟨As,cs,Ak,ck,rfl,-⟩:=hp.form;have HP:=zh hp;obtain ⟨z,hz⟩:∃z,z=p.size:=⟨_,rfl⟩;have HZ:=zh hz;rw [←hz] at hps⊢;clear hz hp;refine callsIn_of_wp_marks Tryz.func65 rfl trivial ?_ rfl;simp only [Tryz.ntmps65,List.size_toArray,List.length_cons,List.length_nil,Nat.reduceAdd,Nat.reduceSub,Array.replicate_succ,Array.replicate_zero,List.push_toArray,List.append_toArray,List.nil_append,List.cons_append]
 gi_wp2_with (refine ⟨trivial,?_⟩;gi_at_call 88;refine (callsIn_wide.2 (parts_calls _)).mono ?_;rintro e wp ⟨gx,rfl,hEp,hgx,hp0,hp1,hp2⟩)
 have hE1:Ext w ((w.alloc (.cells #[.int .i64 p.task,.slice As p.side.length cs,.slice Ak p.kids.length ck] 37)).alloc (.cells #[.int .i64 0] 3)):=((Ext.refl w).alloc _).alloc _;have hz1:((w.alloc (.cells #[.int .i64 p.task,.slice As p.side.length cs,.slice Ak p.kids.length ck] 37)).alloc (.cells #[.int .i64 0] 3)).heap.size=w.heap.size+2:=by simp
 have hB1:=Blk.new (w.alloc (.cells #[.int .i64 p.task,.slice As p.side.length cs,.slice Ak p.kids.length ck] 37)) #[.int .i64 0] 3 (g:=w.heap.size+1) (by simp);generalize (w.alloc (.cells #[.int .i64 p.task,.slice As p.side.length cs,.slice Ak p.kids.length ck] 37)).alloc (.cells #[.int .i64 0] 3)=w1 at hE1 hz1 hB1 hEp hgx⊢;have hEw:=hE1.trans hEp;have hBp:=hB1.ext hEp;obtain ⟨gn,hgn⟩:∃g,g=w.heap.size+1:=⟨_,rfl⟩;rw [←hgn] at hB1 hBp⊢;have HGN:Hid (gn=w.heap.size+1∧w1.heap.size=w.heap.size+2∧w1.heap.size≤wp.heap.size):=⟨hgn,hz1,hEp.size⟩;have hgz:=parts_gives p.size p (Nat.le_refl _) (by have:=HZ.out;omega) wp gx (fun b=>b=gn) ((HP.out.bound.ext hEw).keepW (zX.of_below (Ext.refl wp)) (fun b hb h=>by have h1:=hb.2;have h2:b=gn:=h;omega)) (by (show ¬ gx=gn);have:=HGN.out.2.1;omega) (fun b hb=>by have h2:b=gn:=hb;have h3:=HGN.out;omega) hp0 hp1 hp2;rw [←HZ.out] at hgz;have HGZ:=zh hgz;have HEW:=zh hEw;have HBP:=zh hBp;clear hgz hE1 hz1 hB1 hEp hgx hp0 hp1 hp2 hEw hBp hgn
 gi_wp2_with fail
 refine wpIn_loopZ (gf:=111) (lb:=#[.pointer (some ⟨gx,0,none⟩)]) rfl (enters_of Tryz.func111 (by kernel_rfl) rfl) (Z:=fun b=>b=gn) (fun b hb=>by have h1:=HGN.out;omega) (HGZ.out _) (Ext.refl wp) (fun _=>rfl)
  (fun j W'=>Blk W' gn 3 #[.int .i64 (j:Nat)]∧Chg (fun b=>b=gn) wp W')
  (fun c W'=>False)
  ?hI ?hIx (fun j x a W'=>a={ tmps:=#[Value.agg #[.int .i64 p.task,.slice As p.side.length cs,.slice Ak p.kids.length ck],.pointer (some ⟨w.heap.size,0,none⟩),.pointer (some ⟨gn,0,none⟩),.agg #[.int .i64 p.task,.slice As p.side.length cs,.slice Ak p.kids.length ck],.func (.func 111) #[] #[.pointer (some ⟨gx,0,none⟩)],x,undef,undef,undef],defers:=[] }) ?hG ⟨HBP.out,Chg.refl _ _⟩ ?assign ?body ?done ?stop
 case hI=>
  rintro j A B ⟨h1,h2⟩ hAB;have hs:=HGN.out;exact ⟨h1.below hAB (by omega),h2.belowR hAB (Nat.le_refl _)⟩
 case hIx=>intro c A B h;exact h.elim
 case hG=>intro j x a A l' h _ _ _ o;exact h
 case assign=>
  intro l2 j x W0 K hjN hi hg hs hK;clear hi;rw [fold_one]
  gi_wp2_with fail
  exact hK _ _ (Ext.refl _) rfl
 case body=>
  rintro l2 j x a W0 hjN ⟨hB0,hC0⟩ rfl hs ⟨rl,hrl⟩;have c0:=hB0.cell (k:=0) rfl;have hfz:=hB0.frozen 0;have hB2:=hB0.set (k:=0) (.int .i64 ((j+1:Nat):Int));have hj1:IntKind.i64.wrap ((j:Int)+1)=((j+1:Nat):Int):=by rw [IntKind.wrap_i64];omega
  have HB2:=zh hB2;have HC0:=zh hC0;clear hB0 hC0 hB2 hrl hs
  gi_wp2_with fail
  exact ⟨(Chg.refl _ _).set gn 0 _ rfl,HB2.out,HC0.out.set gn 0 _ rfl⟩
 case done=>
  rintro D0 W3 hD0 ⟨hB3,hC3⟩ hd0;have c0:=hB3.cell (k:=0) rfl;have hfz:=hB3.frozen 0;have HB3:Hid (Blk (W3.setCell ⟨gn,0,none⟩ (.int .i64 (z:Nat))) gn 3 #[.int .i64 (z:Nat)]):=hB3.set (k:=0) _;have HC3:Hid (Chg (fun b=>b=gn) wp (W3.setCell ⟨gn,0,none⟩ (.int .i64 (z:Nat)))):=hC3.set gn 0 _ rfl;have HD3:Hid ((W3.setCell ⟨gn,0,none⟩ (.int .i64 (z:Nat))).heap[D0]?=some (.deferred (some []))):=(Below.heap_setCell W3 ⟨gn,0,none⟩ _ D0 (by have:=HGN.out;(show D0≠gn);omega)).trans hd0;clear hB3 hC3 hd0
  gi_wp2_with fail
  refine ⟨by simp,.inl ⟨_,_,rfl,run_takeDeferred HD3.out,?_⟩⟩;have hS:∀b,b≠D0→((W3.setCell ⟨gn,0,none⟩ (.int .i64 (z:Nat))).putObj D0 (.deferred none)).heap[b]?=(W3.setCell ⟨gn,0,none⟩ (.int .i64 (z:Nat))).heap[b]?:=fun b hb=>World.putObj_heap_other hb
  have y:=(show Blk ((W3.setCell ⟨gn,0,none⟩ (.int .i64 (z:Nat))).putObj D0 (.deferred none)) gn _ _ from (hS gn (by have:=HGN.out;omega)).trans HB3.out).cell (k:=0) rfl;refine ⟨.int .i64 (z:Nat),by simp [results,Tryz.results65,go_sem,y],rfl,?_⟩;have h1:=HGN.out;have h2:=(HC3.out.grown (grownBy_putObj' _ _ (.deferred none)) (fun k e hk=>absurd hk (by have e':D0=k:=Option.some.inj e;omega)));exact Below.trans HEW.out (h2.below HEW.out.size (fun b hb=>by omega))
 case stop=>intro D0 c W3 hD0 h;exact h.elim
end Go.Proofs.YthbjngbhbbkkgaaGreat
namespace Go.Proofs.YthbjngbhbbkkgaaGreat
open Go.RowKit
attribute [local go_sem ↓] Go.wp_at_zero Go.wp_at_succ
theorem pcheck_calls {ok okp:Nat→Prop} {v vp:Value} {m:MZ} {p:PT} (w:World) (hm:zr w ok v m) (hl:Lens m) (hp:PrV w okp vp p) (hpl:p.Lens) (hps:p.size≤4000000000000000000):
  Calls Tryz.prog 30 #[v,vp] w fun e w'=>e=.returned (.bool (zaT m p))∧Ext w w':=by
 have HM:=zh hm;have HL:=zh hl;have HP:=zh hp;have HPL:=zh hpl;have HPS:=zh hps;obtain ⟨Af,cf,Au,cu,At,ct,rfl,-,-,-⟩:=hm.parts;obtain ⟨As,cs,Ak,ck,rfl,-⟩:=hp.form;clear hm hl hp hpl hps;obtain ⟨R,hR⟩:∃R,R=zaT m p:=⟨_,rfl⟩;rw [←hR];have HR:=zh hR;clear hR
 go_enter Tryz.func30,Tryz.ntmps30
 go_upto_region 1 with fail;obtain ⟨hb1,r0,r1,r2,r3,r4,r5⟩:=box6 w (.int .i64 m.w) (.int .i64 m.h) (.int .i64 m.l) (.slice Af m.free.length cf) (.slice Au m.up.length cu) (.slice At m.tasks.length ct);have hs0:(w.alloc (.cells #[.int .i64 m.w,.int .i64 m.h,.int .i64 m.l,.slice Af m.free.length cf,.slice Au m.up.length cu,.slice At m.tasks.length ct] 32)).heap.size=w.heap.size+1:=by simp
 generalize w.alloc (.cells #[.int .i64 m.w,.int .i64 m.h,.int .i64 m.l,.slice Af m.free.length cf,.slice Au m.up.length cu,.slice At m.tasks.length ct] 32)=w0 at hb1 r0 r1 r2 r3 r4 r5 hs0⊢;obtain ⟨hb2,p0,p1,p2⟩:=box3 w0 (.int .i64 p.task) (.slice As p.side.length cs) (.slice Ak p.kids.length ck);generalize w0.alloc (.cells #[.int .i64 p.task,.slice As p.side.length cs,.slice Ak p.kids.length ck] 37)=w1 at hb2 p0 p1 p2⊢;rw [hs0] at p0 p1 p2;obtain ⟨gm,hgm⟩:∃gm,gm=w.heap.size:=⟨_,rfl⟩;rw [←hgm] at r0 r1 r2 r3 r4 r5 p0 p1 p2⊢;have HB2:=zh hb2;have HW1:=zh (hb1.trans hb2);have r0:=fun W h=>r0 W (HB2.out.trans h)
 have r1:=fun W h=>r1 W (HB2.out.trans h)
 have r2:=fun W h=>r2 W (HB2.out.trans h)
 have r3:=fun W h=>r3 W (HB2.out.trans h)
 have r4:=fun W h=>r4 W (HB2.out.trans h)
 have r5:=fun W h=>r5 W (HB2.out.trans h)
 clear hgm hb1 hb2 hs0;have hx:Ext w1 w1:=Ext.refl w1;obtain ⟨ck0,hck0⟩:∃c,c=chk m:=⟨_,rfl⟩;have HCK:=zh hck0
 have HCC:Hid (∀W,Ext w1 W→Calls Tryz.prog 41 #[.agg #[.int .i64 m.w,.int .i64 m.h,.int .i64 m.l,.slice Af m.free.length cf,.slice Au m.up.length cu,.slice At m.tasks.length ct]] W fun e w'=>e=.returned (.int .i64 ck0)∧Ext W w'):=fun W hW=>by
  rw [hck0];exact zaM W (HM.out.below (HW1.out.trans hW)) HL.out
 clear hck0;obtain ⟨z,hz⟩:∃z,z=p.size:=⟨_,rfl⟩;have HZ:=zh hz
 have HSZ:Hid (∀W,Ext w1 W→Calls Tryz.prog 65 #[.agg #[.int .i64 p.task,.slice As p.side.length cs,.slice Ak p.kids.length ck]] W fun e w'=>e=.returned (.int .i64 (z:Nat))∧Ext W w'):=fun W hW=>by
  rw [hz];exact psize_calls W (HP.out.ext (HW1.out.trans hW)) HPS.out
 clear hz;by_cases h0:ck0=0
 ·subst h0;have HC:Hid (chk m=0):=HCK.out.symm
  have HOH:Hid (∀W,Ext w1 W→Calls Tryz.prog 66 #[.agg #[.int .i64 m.w,.int .i64 m.h,.int .i64 m.l,.slice Af m.free.length cf,.slice Au m.up.length cu,.slice At m.tasks.length ct],.slice none 0 0] W fun e w'=>∃a0 a1 a2 a3 a4 a5 a6 a7 a8,e=.returned (.agg #[a0,a1,a2,a3,a4,a5,a6,a7,a8])∧Ext W w'∧∀W',Ext w' W'→Calls Tryz.prog 67 #[.agg #[a0,a1,a2,a3,a4,a5,a6,a7,a8],.agg #[.int .i64 p.task,.slice As p.side.length cs,.slice Ak p.kids.length ck]] W' fun e w'=>e=.returned (.bool (zaI m p []))∧Ext W' w'):=fun W hW=>by
   refine (of_calls (ok:=fun b=>ok b) W (HM.out.below (HW1.out.trans hW)) HL.out HC.out (zf.nil _ _) zu.nil).mono ?_;rintro e w' ⟨vp',rfl,hE',hS⟩;refine ⟨_,_,_,_,_,_,_,_,_,rfl,hE',fun W' hW'=>?_⟩;exact pholds_calls HL.out HC.out 4000000000000000000 _ _ _ _ _ _ _ _ _ _ W' (hS.more hW') zu.nil (HP.out.ext ((HW1.out.trans hW).trans (hE'.trans hW'))) HPS.out HPL.out
  by_cases h1:0<m.tasks.length
  ·have h1I:(0:Int)<(m.tasks.length:Int):=by omega
   by_cases h2:z≤3000
   ·have h2I:(z:Int)≤3000:=by omega
    have HF:Hid (R=zaI m p []):=by (show _=_);rw [HR.out];unfold zaT;rw [decide_eq_true HC.out,decide_eq_true h1,←HZ.out,decide_eq_true h2];rfl
    obtain ⟨hb,hhb⟩:∃hb,hb=zaI m p []:=⟨_,rfl⟩;rw [←hhb] at HOH HF;clear hhb;refine wp_region_held_drew (S:=(fun W=>Ext w1 W)) zS (hx.drew) (fun zH=>?_);have hHd:Ext w1 w1.drew:=zH;clear hHd;generalize w1.drew=wd at zH⊢;refine rtT 0 zH ?_;simp only [za,Act.put];refine rtR 1 (fun K hK=>?_);go_simp;go_at_call 41;refine (HCC.out _ zH).mono ?_;rintro e w2 ⟨rfl,hE2⟩;go_simp;refine hK.out _ _ (zH.trans hE2) (fun zH=>?_);clear hK K;try simp only [za,Act.put]
    refine rtT 2 zH ?_;simp only [za,Act.put];refine rtT 3 zH ?_;simp only [za,Act.put];refine rtT 4 zH ?_;simp only [za,Act.put];refine rtT 5 zH ?_;simp only [za,Act.put];refine rtT 6 zH ?_;simp only [za,Act.put];refine rtT 7 zH ?_;simp only [za,Act.put];refine rtT 8 zH ?_;simp only [za,Act.put];refine rtT 9 zH ?_;simp only [za,Act.put];refine rtT 10 zH ?_;simp only [za,Act.put];refine rtR 11 (fun K hK=>?_);go_simp;go_at_call 65;refine (HSZ.out _ zH).mono ?_;rintro e w3 ⟨rfl,hE3⟩;go_simp;refine hK.out _ _ (zH.trans hE3) (fun zH=>?_);clear hK K;try simp only [za,Act.put]
    refine rtT 12 zH ?_;simp only [za,Act.put];refine rtT 13 zH ?_;simp only [za,Act.put];refine rtT 14 zH ?_;simp only [za,Act.put];refine rtT 15 zH ?_;simp only [za,Act.put];refine rtT 17 zH ?_;simp only [za,Act.put];refine rtR 16 (fun K hK=>?_);go_simp;go_at_call 66;refine (HOH.out _ zH).mono ?_;rintro e w4 ⟨a0,a1,a2,a3,a4,a5,a6,a7,a8,rfl,hE4,HK⟩;have HHK:=zh HK;clear HK;go_simp;refine hK.out _ _ (zH.trans hE4) (fun zH=>?_);clear hK K;try simp only [za,Act.put]
    refine rtR 18 (fun K hK=>?_);go_simp;go_at_call 67;refine (HHK.out _ (Ext.refl _)).mono ?_;rintro e w5 ⟨rfl,hE5⟩;go_simp;refine hK.out _ _ (zH.trans hE5) (fun zH=>?_);clear hK K;try simp only [za,Act.put]
    refine rtT 19 zH ?_;simp only [za,Act.put];refine rtT 20 zH ?_;simp only [za,Act.put];refine wpAnyH_done (by kernel_rfl) ?_ _
    go_wp2_with fail
    go_ret;exact ⟨zd HF.out.symm,HW1.out.trans zH⟩
   ·have h2I:¬ ((z:Int)≤3000):=by omega
    have HF:Hid (R=false):=by (show _=_);rw [HR.out];unfold zaT;rw [←HZ.out,decide_eq_false h2];simp
    refine wp_region_held_drew (S:=(fun W=>Ext w1 W)) zS (hx.drew) (fun zH=>?_);have hHd:Ext w1 w1.drew:=zH;clear hHd;generalize w1.drew=wd at zH⊢;refine rtT 0 zH ?_;simp only [za,Act.put];refine rtR 1 (fun K hK=>?_);go_simp;go_at_call 41;refine (HCC.out _ zH).mono ?_;rintro e w2 ⟨rfl,hE2⟩;go_simp;refine hK.out _ _ (zH.trans hE2) (fun zH=>?_);clear hK K;try simp only [za,Act.put]
    refine rtT 2 zH ?_;simp only [za,Act.put];refine rtT 3 zH ?_;simp only [za,Act.put];refine rtT 4 zH ?_;simp only [za,Act.put];refine rtT 5 zH ?_;simp only [za,Act.put];refine rtT 6 zH ?_;simp only [za,Act.put];refine rtT 7 zH ?_;simp only [za,Act.put];refine rtT 8 zH ?_;simp only [za,Act.put];refine rtT 9 zH ?_;simp only [za,Act.put];refine rtT 10 zH ?_;simp only [za,Act.put];refine rtR 11 (fun K hK=>?_);go_simp;go_at_call 65;refine (HSZ.out _ zH).mono ?_;rintro e w3 ⟨rfl,hE3⟩;go_simp;refine hK.out _ _ (zH.trans hE3) (fun zH=>?_);clear hK K;try simp only [za,Act.put]
    refine rtT 12 zH ?_;simp only [za,Act.put];refine rtT 13 zH ?_;simp only [za,Act.put];refine rtT 14 zH ?_;simp only [za,Act.put];refine rtN 15 zH ?_;simp only [za,Act.put];refine rtN 16 zH ?_;simp only [za,Act.put];refine rtN 17 zH ?_;simp only [za,Act.put];refine rtN 18 zH ?_;simp only [za,Act.put];refine rtT 19 zH ?_;simp only [za,Act.put];refine rtT 20 zH ?_;simp only [za,Act.put];refine wpAnyH_done (by kernel_rfl) ?_ _
    go_wp2_with fail
    go_ret;exact ⟨zd HF.out.symm,HW1.out.trans zH⟩
  ·have h1I:¬ ((0:Int)<(m.tasks.length:Int)):=by omega
   have HF:Hid (R=false):=by (show _=_);rw [HR.out];unfold zaT;rw [decide_eq_false h1];simp
   have hd0:decide (0<m.tasks.length)=false:=decide_eq_false h1;refine wp_region_held_drew (S:=(fun W=>Ext w1 W)) zS (hx.drew) (fun zH=>?_);have hHd:Ext w1 w1.drew:=zH;clear hHd;generalize w1.drew=wd at zH⊢;refine rtT 0 zH ?_;simp only [za,Act.put];refine rtR 1 (fun K hK=>?_);go_simp;go_at_call 41;refine (HCC.out _ zH).mono ?_;rintro e w2 ⟨rfl,hE2⟩;go_simp;refine hK.out _ _ (zH.trans hE2) (fun zH=>?_);clear hK K;try simp only [za,Act.put]
   refine rtT 2 zH ?_;simp only [za,Act.put];refine rtT 3 zH ?_;simp only [za,Act.put];refine rtT 4 zH ?_;simp only [za,Act.put];refine rtT 5 zH ?_;simp only [za,Act.put];refine rtT 6 zH ?_;simp only [za,Act.put];refine rtT 7 zH ?_;simp only [za,Act.put];refine rtT 8 zH ?_;simp only [za,Act.put];refine rtT 9 zH ?_;simp only [za,Act.put];refine rtN 10 zH ?_;simp only [za,Act.put];refine rtN 11 zH ?_;simp only [za,Act.put];refine rtN 12 zH ?_;simp only [za,Act.put];refine rtT 13 zH ?_;simp only [za,Act.put];refine rtT 14 zH ?_;simp only [za,Act.put];refine rtN 15 zH ?_;simp only [za,Act.put];refine rtN 16 zH ?_;simp only [za,Act.put];refine rtN 17 zH ?_;simp only [za,Act.put];refine rtN 18 zH ?_;simp only [za,Act.put];refine rtT 19 zH ?_;simp only [za,Act.put];refine rtT 20 zH ?_;simp only [za,Act.put];refine wpAnyH_done (by kernel_rfl) ?_ _
   go_wp2_with fail
   go_ret;exact ⟨zd HF.out.symm,HW1.out.trans zH⟩
 ·have hq1:(ck0==0)=false:=by rw [beq_eq_false_iff_ne];exact h0
  have HF:Hid (R=false):=by (show _=_);rw [HR.out];unfold zaT;rw [decide_eq_false (by rw [←HCK.out];exact h0)];rfl
  refine wp_region_held_drew (S:=(fun W=>Ext w1 W)) zS (hx.drew) (fun zH=>?_);have hHd:Ext w1 w1.drew:=zH;clear hHd;generalize w1.drew=wd at zH⊢;refine rtT 0 zH ?_;simp only [za,Act.put];refine rtR 1 (fun K hK=>?_);go_simp;go_at_call 41;refine (HCC.out _ zH).mono ?_;rintro e w2 ⟨rfl,hE2⟩;go_simp;refine hK.out _ _ (zH.trans hE2) (fun zH=>?_);clear hK K;try simp only [za,Act.put]
  refine rtT 2 zH ?_;simp only [za,Act.put];refine rtT 3 zH ?_;simp only [za,Act.put];refine rtN 4 zH ?_;simp only [za,Act.put];refine rtN 5 zH ?_;simp only [za,Act.put];refine rtN 6 zH ?_;simp only [za,Act.put];refine rtN 7 zH ?_;simp only [za,Act.put];refine rtT 8 zH ?_;simp only [za,Act.put];refine rtT 9 zH ?_;simp only [za,Act.put];refine rtN 10 zH ?_;simp only [za,Act.put];refine rtN 11 zH ?_;simp only [za,Act.put];refine rtN 12 zH ?_;simp only [za,Act.put];refine rtT 13 zH ?_;simp only [za,Act.put];refine rtT 14 zH ?_;simp only [za,Act.put];refine rtN 15 zH ?_;simp only [za,Act.put];refine rtN 16 zH ?_;simp only [za,Act.put];refine rtN 17 zH ?_;simp only [za,Act.put];refine rtN 18 zH ?_;simp only [za,Act.put];refine rtT 19 zH ?_;simp only [za,Act.put];refine rtT 20 zH ?_;simp only [za,Act.put];refine wpAnyH_done (by kernel_rfl) ?_ _
  go_wp2_with fail
  go_ret;exact ⟨zd HF.out.symm,HW1.out.trans zH⟩
end Go.Proofs.YthbjngbhbbkkgaaGreat
