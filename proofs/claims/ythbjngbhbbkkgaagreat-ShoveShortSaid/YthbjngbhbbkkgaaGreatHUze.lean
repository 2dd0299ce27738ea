/- RtUc RtUd RtKa -/
import Derived.Test.YthbjngbhbbkkgaaGreatHUt
import Derived.Test.YthbjngbhbbkkgaaGreatHUzd
set_option linter.unusedVariables false
set_option linter.unusedSimpArgs false
set_option maxRecDepth 100000
set_option maxHeartbeats 16000000
namespace Go.Proofs.YthbjngbhbbkkgaaGreat
open Go.RowKit
attribute [local go_sem ↓] Go.wp_at_zero Go.wp_at_succ
theorem qpath_calls {okm okf:Nat→Prop} {v vf:Value} {m:MZ} {fixed:List (List Int)} (t:Int) (w:World) (hm:zr w okm v m) (hl:Lens m) (hf:zo w okf vf fixed) (hfl:fixed.length≤20000000000000) (hfx:∀x∈fixed,x.length≤20000000000000):
  Calls Tryz.prog 19 #[v,.int .i64 t,vf] w fun e w'=>∃v',e=.returned (.tuple #[v',.bool (za9 m t fixed).isSome])∧Mk w w' v' ((za9 m t fixed).getD []):=by
 have HM:=zh hm;have HL:=zh hl;have HF:=zh hf;obtain ⟨Af,cf,Au,cu,At,ct,rfl,-,-,hts⟩:=hm.parts;have HTS:=zh hts;clear hts;obtain ⟨_,⟨A,c,rfl,-,-⟩,-⟩:=hf;have htl:=hl.ts;clear hm hl;obtain ⟨R,hR⟩:∃R,R=za9 m t fixed:=⟨_,rfl⟩;rw [←hR];have HR:=zh hR;clear hR
 go_enter Tryz.func19,Tryz.ntmps19
 go_upto_region 1 with fail;obtain ⟨hb0,r0,r1,r2,r3,r4,r5⟩:=box6 w (.int .i64 m.w) (.int .i64 m.h) (.int .i64 m.l) (.slice Af m.free.length cf) (.slice Au m.up.length cu) (.slice At m.tasks.length ct);generalize w.alloc (.cells #[.int .i64 m.w,.int .i64 m.h,.int .i64 m.l,.slice Af m.free.length cf,.slice Au m.up.length cu,.slice At m.tasks.length ct] 32)=w1 at hb0 r0 r1 r2 r3 r4 r5⊢;obtain ⟨gm,hgm⟩:∃gm,gm=w.heap.size:=⟨_,rfl⟩;rw [←hgm] at r0 r1 r2 r3 r4 r5⊢;have HW1:=zh hb0;clear hgm hb0;have hx:Ext w1 w1:=Ext.refl w1
 go_wp2_with fail
 refine (zca w1 (HM.out.below HW1.out) HL.out).mono ?_;rintro e w2 ⟨rfl,hE2⟩;clear hx;have hx:Ext w1 w2:=hE2;clear hE2;obtain ⟨ck,hck⟩:∃ck,ck=chk m:=⟨_,rfl⟩;rw [←hck];have HCK:=zh hck;clear hck;by_cases h0:ck=0
 ·subst h0;have HC:Hid (chk m=0):=HCK.out.symm;by_cases ht0:0≤t
  ·by_cases ht1:t<(m.tasks.length:Int)
   ·obtain ⟨tn,rfl⟩:∃tn:Nat,t=tn:=⟨t.toNat,by omega⟩;have HT:Hid (tn<m.tasks.length):=by (show _<_);omega
    have G:=zh (zx.of HC.out);obtain ⟨N,hN⟩:∃N:Nat,N=m.n.toNat:=⟨_,rfl⟩
    have HN:Hid (m.n=(N:Int)):=by
     (show _=_)
     have h1:=G.out.n1;rw [hN];unfold MZ.n;omega
    have hN3:N≤300:=by have h1:=G.out.dim.n1;rw [hN];unfold MZ.n;omega
    have HTK:=zh (fun W (hW:Ext w W)=>taken_calls (fixed:=fixed) W (HM.out.below hW) G.out HL.out (HF.out.below hW) hfl hfx);have HDI:=zh (fun (gu:Nat) W (hW:Ext w W) (hu:W.rowIs gu 4 m.n.toNat (memF fixed.flatten))=>distances_calls tn W (HM.out.below hW) HL.out HC.out HT.out hu);rw [←hN] at HTK HDI;clear hN;obtain ⟨bt,offt,sn,u1,u2,rfl,-,-,hct1,-,hi1,-⟩:=zam HTS.out HT.out;have hfl1:=(HL.out.tl _ (List.getElem_mem HT.out)).1;have HFG:Hid ((m.tasks.getD tn ([],[])).1=(m.tasks[tn]'HT.out).1):=by (show _=_);rw [List.getD_eq_getElem?_getD,List.getElem?_eq_getElem HT.out];rfl
    have HTN:Hid (∀x∈(m.tasks[tn]'HT.out).1,0≤x∧x<m.n):=fun x hx=>G.out.tn _ (List.getElem_mem HT.out) x (.inl hx)
    obtain ⟨fm,hfm⟩:∃fm,fm=(m.tasks[tn]'HT.out).1:=⟨_,rfl⟩;rw [←hfm] at hi1 hfl1 HFG HTN;have HFM:=zh hi1;obtain ⟨Afm,cfm,rfl,-,-⟩:=hi1;have rfm:=Ext.rule (HW1.out.cell hct1);clear hfm hct1;have HRD:Hid (R=zb9 m (farQ m tn fixed) fm):=by (show _=_);rw [HR.out,pathP_far HC.out HT.out,HFG.out]
    have hx':Ext w2 w2:=Ext.refl w2;go_upto_region 3 with fail;go_cut [8] (fun v wx=>∃go,v=.slice (some ⟨go,0,none⟩) N N∧Ext w2 wx∧wx.rowIs go 3 N (dF (farQ m tn fixed)))
    case first=>
     refine wp_region_held_drew (S:=(fun W=>Ext w1 W∧Ext w2 W)) zS (⟨hx.drew,hx'.drew⟩) (fun zH=>?_);have hHd:Ext w1 w2.drew∧Ext w2 w2.drew:=zH;generalize w2.drew=wd at zH hHd⊢;refine rtT 0 zH ?_;simp only [za,Act.put];refine rtT 1 zH ?_;simp only [za,Act.put];refine rtT 2 zH ?_;simp only [za,Act.put];refine rtT 3 zH ?_;simp only [za,Act.put];refine rtR 4 (fun K hK=>?_);go_simp;go_at_call 52;refine (HTK.out _ (HW1.out.trans zH.1)).mono ?_;rintro e w3 ⟨gt,rfl,hT3⟩;go_simp;refine hK.out _ _ (⟨hHd.1.trans hT3.ext,hHd.2.trans hT3.ext⟩) (fun zH=>?_);clear hK K;try simp only [za,Act.put]
     refine rtR 5 (fun K hK=>?_);go_simp;go_at_call 51;refine (HDI.out gt w3 (hT3.ext |> fun h=>(HW1.out.trans hHd.1).trans h) hT3.tak).mono ?_;rintro e w4 ⟨go,rfl,hE4,hg4,hr4⟩;go_simp;refine hK.out _ _ (⟨(hHd.1.trans hT3.ext).trans hE4,(hHd.2.trans hT3.ext).trans hE4⟩) (fun zH=>?_);clear hK K;try simp only [za,Act.put]
     refine rtT 6 zH ?_;simp only [za,Act.put];refine wpAnyH_done (by kernel_rfl) ?_ _;go_wp2;go_meet;exact ⟨go,rfl,(hHd.2.trans hT3.ext).trans hE4,hr4⟩
    case rest=>
     obtain ⟨go,rfl,hE4,hrow⟩:=hcut;obtain ⟨w4,rfl⟩:∃w4:World,w4=wc:=⟨_,rfl⟩;obtain ⟨F,hF⟩:∃F,F=farQ m tn fixed:=⟨_,rfl⟩;rw [←hF] at hrow HRD;have HFI:Hid (DFI m (frP m tn fixed) (toL m tn) F.length F):=by (show DFI _ _ _ _ _);rw [hF];exact farQ_fi G.out HT.out
     have HROW:=zh hrow;have HX4:Hid (Ext w1 w4):=hx.trans hE4;have HX41:=zh (Ext.refl w4);clear hx hx' hE4 hF hrow HTK HDI
     go_wp2_with fail
     go_loopw [9,10] (fun b i wr=>∃(k:Nat) (bo:Option Int),k≤N∧i=.int .i64 k∧b=.int .i64 (bo.getD (-1))∧Hid (zbf F fm k bo)∧Hid (Ext w4 wr)) (fun _ i _=>N - (intOf i).toNat)
     case atStart=>exact ⟨0,none,Nat.zero_le _,rfl,rfl,zbf.zero _ _,HX41.out⟩
     case round=>
      obtain ⟨k,bo,hk,rfl,rfl,hB,hE⟩:=hrel;obtain ⟨wk,rfl⟩:∃wk:World,wk=wr:=⟨_,rfl⟩;have hx:Ext w1 wk:=HX4.out.trans hE.out;by_cases hlt:k<N
      ·have hltI:(k:Int)<(N:Int):=by omega
       have kk0:(0:Int)≤(k:Int):=by omega
       have hck:wk.cell? ⟨go,k,none⟩=some (.int .i64 ((F.lookup (k:Int)).getD (-1))):=hE.out.cell (HROW.out.cell hlt);have hx':Ext wk wk:=Ext.refl wk;have HH:Hid (∀n,Calls Tryz.prog 12 #[.slice Afm fm.length cfm,.int .i64 (k:Int)] (wk.drewN n) fun e w'=>e=.returned (.bool (decide ((k:Int)∈fm)))∧(wk.drewN n)=w'):=fun n=>zE _ _ (HFM.out.below (HW1.out.trans (hx.drewN n))) (by omega)
       have htI:(tn:Int)<(m.tasks.length:Int):=ht1;have htI0:(0:Int)≤(tn:Int):=by omega
       go_upto_region 8 with fail;go_cut [70] (fun v wx=>∃bu,v=.bool bu∧Ext wk wx∧Hid (if bu then zbf F fm (k+1) (some (k:Int)) else zbf F fm (k+1) bo))
       case first=>
        cases hl:F.lookup (k:Int) with
        | none=>
         rw [hl] at hck;have hck:wk.cell? ⟨go,k,none⟩=some (.int .i64 (-1)):=hck;have HS:Hid (zbf F fm (k+1) bo):=hB.out.skip (.inr hl);clear hl;go_quiet (fail)
         go_wp2_with fail
         go_meet;exact ⟨false,rfl,hx'.drewN _,HS.out⟩
        | some e=>
         rw [hl] at hck;have hck:wk.cell? ⟨go,k,none⟩=some (.int .i64 e):=hck;obtain ⟨e0,-⟩:=HFI.out.dist G.out hl;have HLK:=zh hl;clear hl;by_cases hin:(k:Int)∈fm
         ·have hd:decide ((k:Int)∈fm)=true:=decide_eq_true hin;rw [hd] at HH;have HIN:=zh hin;clear hd hin
          cases bo with
          | none=>
           have HS:Hid (zbf F fm (k+1) (some (k:Int))):=hB.out.new HIN.out HLK.out (fun r d hr=>by cases hr);go_quiet ((go_at_call 12;refine (HH.out _).mono ?_;rintro e9 w9 ⟨rfl,rfl⟩;exact ⟨rfl,⟨_,rfl⟩⟩))
           go_wp2_with fail
           go_meet;exact ⟨true,rfl,hx'.drewN _,HS.out⟩
          | some r=>
           obtain ⟨h1,hr0,hr1,d,hrd,-⟩:=hB.out;have HRD2:=zh hrd
           have hcr:wk.cell? ⟨go,r.toNat,none⟩=some (.int .i64 d):=by
            have h2:=hE.out.cell (HROW.out.cell (show r.toNat<N by omega));rw [h2];unfold dF;rw [Int.toNat_of_nonneg hr0,hrd];rfl
           have hrN:r<(N:Int):=by omega
           clear h1 hrd hr1;by_cases hlt2:e<d
           ·have HS:Hid (zbf F fm (k+1) (some (k:Int))):=hB.out.new HIN.out HLK.out (fun r' d' hr' hd'=>by injection hr' with hr';subst hr';rw [HRD2.out] at hd';injection hd' with hd';omega);go_quiet ((go_at_call 12;refine (HH.out _).mono ?_;rintro e9 w9 ⟨rfl,rfl⟩;exact ⟨rfl,⟨_,rfl⟩⟩))
            go_wp2_with fail
            go_meet;exact ⟨true,by simp;try omega,hx'.drewN _,HS.out⟩
           ·have HS:Hid (zbf F fm (k+1) (some r)):=hB.out.old HRD2.out HLK.out (by omega);go_quiet ((go_at_call 12;refine (HH.out _).mono ?_;rintro e9 w9 ⟨rfl,rfl⟩;exact ⟨rfl,⟨_,rfl⟩⟩))
            go_wp2_with fail
            go_meet;exact ⟨false,by simp;try omega,hx'.drewN _,HS.out⟩
         ·have hd:decide ((k:Int)∈fm)=false:=decide_eq_false hin;rw [hd] at HH;have HS:Hid (zbf F fm (k+1) bo):=hB.out.skip (.inl hin);clear hd hin;go_quiet ((go_at_call 12;refine (HH.out _).mono ?_;rintro e9 w9 ⟨rfl,rfl⟩;exact ⟨rfl,⟨_,rfl⟩⟩))
          go_wp2_with fail
          go_meet;exact ⟨false,rfl,hx'.drewN _,HS.out⟩
       case rest=>
        obtain ⟨bu,rfl,hE9,hS⟩:=hcut;have hx9:Ext w4 wc:=hE.out.trans hE9
        cases bu with
        | true=>
         have hS':Hid (zbf F fm (k+1) (some (k:Int))):=hS.out
         go_wp2_with fail
         go_roundw
         case rel=>exact ⟨k+1,some (k:Int),by omega,by go_num,by simp,hS',hx9⟩
         case measure=>simp [intOf];omega
        | false=>
         have hS':Hid (zbf F fm (k+1) bo):=hS.out
         go_wp2_with fail
         go_roundw
         case rel=>exact ⟨k+1,bo,by omega,by go_num,rfl,hS',hx9⟩
         case measure=>simp [intOf];omega
      ·have hkN:k=N:=by omega
       have HBO:Hid (zaS F fm none=bo):=hB.out.all (fun n hn=>by have:=HTN.out n hn;have:=HN.out;omega)
       have HBR:Hid (∀r,bo=some r→0≤r∧r<(N:Int)∧∃d:Nat,F.lookup r=some (d:Int)∧d<300):=fun r hr=>by
        have h:=hB.out;rw [hr] at h;obtain ⟨-,h1,h2,d,h3,-⟩:=h;obtain ⟨h4,h5⟩:=HFI.out.dist G.out h3;exact ⟨h1,by omega,d.toNat,by rw [h3,Int.toNat_of_nonneg h4],by omega⟩
       clear hkN
       cases bo with
       | none=>
        have HF0:Hid (R=none):=by (show _=_);rw [HRD.out];unfold zb9;rw [HBO.out];rfl
        go_wp2_with fail
        go_ret2
        rw [HF0.out];exact ⟨_,rfl,Mk.nil' (HW1.out.trans hx)⟩
       | some b=>
        obtain ⟨hb0,hbN,d0,hbd,hd3⟩:=HBR.out b rfl
        have HF0:Hid (R=some (zb7 m F d0 b)):=by
         (show _=_)
         rw [HRD.out];unfold zb9;rw [HBO.out,Option.map_some,hbd];simp
        have hb0':¬ (b<0):=by omega
        have HX6:=zh hE.out
        have HRG:Hid (∀x,0≤x→x<(N:Int)→∀W,Ext w4 W→W.cell? ⟨go,x.toNat,none⟩=some (.int .i64 ((F.lookup x).getD (-1)))):=fun x h0 h1 W hW=>by
         have h2:=hW.cell (HROW.out.cell (show x.toNat<N by omega));rw [h2];unfold dF;rw [Int.toNat_of_nonneg h0]
        have HMK0:Hid (Mk w4 (wk.alloc (.cells #[.int .i64 b] 3)) (.slice (some ⟨wk.heap.size,0,none⟩) 1 1) ([]++[b])):=⟨ownOne wk w4.heap.size 3 (.int .i64 b) hE.out.size,hE.out.alloc _⟩;clear hx hE
        go_wp2_with fail
        go_loopw [9,11] (fun c v wr=>∃(pre:List Int) (cur:Int) (r:Nat),c=.int .i64 cur∧Hid (0≤cur∧cur<(N:Int))∧Hid (Mk w4 wr v (pre++[cur]))∧Hid (F.lookup cur=some (r:Int))∧Hid (zb7 m F d0 b=pre++zb7 m F r cur)∧Hid (pre.length+r=d0)) (fun c _ wr=>match wr.cell? ⟨go,(intOf c).toNat,none⟩ with | some (.int _ i)=>i.toNat | _=>0)
        case atStart=>exact ⟨[],b,d0,rfl,⟨hb0,hbN⟩,HMK0.out,hbd,rfl,by simp [Hid]⟩
        clear HMK0
        case round=>
         obtain ⟨pre,cur,r,rfl,hcr,hM,hlk,hdn,hpr⟩:=hrel;obtain ⟨wq,rfl⟩:∃wq:World,wq=wr:=⟨_,rfl⟩;obtain ⟨hc0,hcN⟩:=hcr.out;have hx:Ext w1 wq:=HX4.out.trans hM.out.ext
         have hcc:wq.cell? ⟨go,cur.toNat,none⟩=some (.int .i64 (r:Int)):=by
          rw [HRG.out cur hc0 hcN wq hM.out.ext,hlk.out];rfl
         cases r with
         | zero=>
          have hcc:wq.cell? ⟨go,cur.toNat,none⟩=some (.int .i64 0):=hcc;have HEND:Hid (zb7 m F d0 b=pre++[cur]):=hdn.out
          go_wp2_with fail
          go_ret2
          rw [HF0.out];refine ⟨_,rfl,?_⟩
          (show Mk _ _ _ (zb7 m F d0 b))
          rw [HEND.out];exact (HW1.out.trans HX4.out).mono_mk hM.out
         | succ r=>
          have hrI:(0:Int)<((r+1:Nat):Int):=by omega
          have hlk1:F.lookup cur=some ((r:Int)+1):=by have h:=hlk.out;rw [h];congr 1
          obtain ⟨i0,hi0,hie,hin⟩:=downN_at G.out.dim HFI.out hlk1;obtain ⟨hdn1,hdn2⟩:=downN_ok G.out.dim HFI.out hlk1
          have HDN:Hid (zb7 m F d0 b=(pre++[cur])++zb7 m F r (zbS m F cur)):=by
           (show _=_)
           rw [hdn.out,List.append_assoc]
           all_goals rfl
          have HDR:Hid (0≤zbS m F cur∧zbS m F cur<(N:Int)):=by
           have h:=zab G.out.dim hc0 (by rw [HN.out];exact hcN) hdn2;exact ⟨h.1,by have:=HN.out;omega⟩
          have hnl:=za5 m cur
          have HNXR:Hid (∀y∈zi m cur,0≤y∧y<(N:Int)):=fun y hy=>by
           have h:=zab G.out.dim hc0 (by rw [HN.out];exact hcN) hy;exact ⟨h.1,by have:=HN.out;omega⟩
          have HNE:Hid (zap m cur=zi m cur):=nextO_in HC.out hc0 (by rw [HN.out];exact hcN);have hd300:d0<300:=hd3;have hprl:(pre++[cur]).length≤400:=by have:=hpr.out;rw [List.length_append,List.length_singleton];omega
          obtain ⟨dnx,hdnx⟩:∃dnx,dnx=zbS m F cur:=⟨_,rfl⟩;obtain ⟨L,hL⟩:∃L,L=zi m cur:=⟨_,rfl⟩;have HIN:Hid (∀j (hj:j<i0) (hjl:j<L.length),F.lookup L[j]≠some (r:Int)):=by subst hL;exact fun j hj hjl=>hin j hj
          have HIE:Hid (∃hi:i0<L.length,L[i0]=dnx):=by subst hL;subst hdnx;exact ⟨hi0,hie⟩
          rw [←hdnx] at hdn1 HDN HDR;rw [←hL] at hnl HNXR HNE;have HLKN:Hid (F.lookup dnx=some (r:Int)):=hdn1;have HPR:=zh hpr.out;clear hdnx hL hlk1 hi0 hie hin hdn1 hdn2 hdn hd3;obtain ⟨P,hP⟩:∃P,P=pre++[cur]:=⟨_,rfl⟩;have HPL:Hid (P.length=pre.length+1):=by (show _=_);rw [hP];simp
          rw [←hP] at hM HDN hprl;clear hP
          go_wp2_with fail
          refine (zdf cur wq (HM.out.below (HW1.out.trans hx)) HL.out).mono ?_;rw [HNE.out];rintro e w5 ⟨vl,rfl,hMl⟩;have HIL:=zh hMl.ints;have HM5:=zh (hM.out.more hMl.ext);obtain ⟨AL,cL,rfl,-,hrl⟩:=HIL.out;have HRL:=zh hrl;have hcc5:w5.cell? ⟨go,cur.toNat,none⟩=some (.int .i64 ((r+1:Nat):Int)):=hMl.ext.cell hcc;have HCC5:=zh hcc5;have HX5:Hid (Ext w1 w5):=hx.trans hMl.ext;have HX51:=zh (Ext.refl w5);have HCQ:=zh hcc;clear hx hcc hMl hrl hM hcc5;have hwr:IntKind.i64.wrap (((r+1:Nat):Int) - 1)=(r:Int):=by rw [IntKind.wrap_i64];have:=HPR.out;omega
          go_wp2_with fail
          go_loopw [13,14] (fun nx i wr=>∃j:Nat,j≤L.length∧i=.int .i64 j∧nx=.int .i64 (if j≤i0 then -1 else dnx)∧Hid (Ext w5 wr)) (fun _ i _=>L.length - (intOf i).toNat)
          case atStart=>exact ⟨0,Nat.zero_le _,rfl,by rw [if_pos (Nat.zero_le _)],HX51.out⟩
          case round=>
           obtain ⟨j,hj,rfl,rfl,hE⟩:=hrel;obtain ⟨wi,rfl⟩:∃wi:World,wi=wr:=⟨_,rfl⟩;obtain ⟨hi0,hie⟩:=HIE.out;by_cases hltj:j<L.length
           ·have hltI2:(j:Int)<(L.length:Int):=by omega
            have kk1:(0:Int)≤(j:Int):=by omega
            obtain ⟨bl,offl,rfl,-,hcb0⟩:=zt HRL.out hltj hltj;obtain ⟨hy0,hyN⟩:=HNXR.out _ (List.getElem_mem hltj);have HJN:=zh (HIN.out j);have HJE:Hid (j=i0→L[j]=dnx):=fun h=>by subst h;exact hie
            obtain ⟨y,hyy⟩:∃y,y=L[j]:=⟨_,rfl⟩;rw [←hyy] at hcb0 hy0 hyN HJE;have HJN2:Hid (j<i0→F.lookup y≠some (r:Int)):=fun h=>by rw [hyy];exact HJN.out h hltj
            have hcb:wi.cell? ⟨bl,offl+j,none⟩=some (.int .i64 y):=hE.out.cell hcb0;have hcy:wi.cell? ⟨go,y.toNat,none⟩=some (.int .i64 ((F.lookup y).getD (-1))):=HRG.out y hy0 hyN wi (HM5.out.ext.trans hE.out);have hcc:wi.cell? ⟨go,cur.toNat,none⟩=some (.int .i64 ((r+1:Nat):Int)):=hE.out.cell HCC5.out;obtain ⟨oy,hoy⟩:∃oy,oy=(F.lookup y).getD (-1):=⟨_,rfl⟩;rw [←hoy] at hcy
            have HOY:Hid (oy=(r:Int)↔F.lookup y=some (r:Int)):=by
             (show _↔_)
             rw [hoy]
             cases F.lookup y with
             | none=>simp
             | some z=>simp
            have hx':Ext wi wi:=Ext.refl wi;have hcc:wi.cell? ⟨go,cur.toNat,none⟩=some (.int .i64 ((r:Int)+1)):=by rw [hcc];congr 1
            have hwr2:IntKind.i64.wrap ((r:Int)+1 - 1)=(r:Int):=by rw [IntKind.wrap_i64];have:=HPR.out;omega
            have hwr3:IntKind.i64.wrap (r:Int)=(r:Int):=by rw [IntKind.wrap_i64];have:=HPR.out;omega
            clear hyy hoy hcb0 HJN hwr;rcases Nat.lt_trichotomy j i0 with hji | hji | hji
            ·have hne:(oy==(r:Int))=false:=by rw [beq_eq_false_iff_ne];exact fun h=>HJN2.out hji (HOY.out.1 h)
             have hne2:¬ (oy=(r:Int)):=by rw [beq_eq_false_iff_ne] at hne;exact hne
             rw [if_pos (show j≤i0 by omega)];go_upto_region 19 with fail;go_quiet (fail)
             go_wp2_with fail
             go_roundw
             case rel=>exact ⟨j+1,by omega,by go_num,by rw [if_pos (show j+1≤i0 by omega)],hE.out.trans (hx'.drewN _)⟩
             case measure=>simp [intOf];omega
            ·have hye:=HJE.out hji;have heq:(oy==(r:Int))=true:=by rw [beq_iff_eq];exact HOY.out.2 (by rw [hye];exact HLKN.out)
             have HYE:=zh hye;have HJI:=zh hji;rw [if_pos (show j≤i0 by omega)];clear hye hji hie;go_upto_region 19 with fail;go_quiet (fail)
             go_wp2_with fail
             go_roundw
             case rel=>exact ⟨j+1,by omega,by go_num,by rw [if_neg (show ¬ (j+1≤i0) by have:=HJI.out;omega),←HYE.out],hE.out.trans (hx'.drewN _)⟩
             case measure=>simp [intOf];omega
            ·rw [if_neg (show ¬ (j≤i0) by omega)];have hnn:¬ (dnx<0):=by have:=HDR.out;omega
             go_upto_region 19 with fail;go_quiet (fail)
             go_wp2_with fail
             go_roundw
             case rel=>exact ⟨j+1,by omega,by go_num,by rw [if_neg (show ¬ (j+1≤i0) by omega)],hE.out.trans (hx'.drewN _)⟩
             case measure=>simp [intOf];omega
           ·have hjl:¬ (j≤i0):=by omega
            rw [if_neg hjl];have HM6:=zh (HM5.out.more hE.out);have hx9:=HM6.out.ext
            have HCN:Hid (wi.cell? ⟨go,dnx.toNat,none⟩=some (.int .i64 (r:Int))):=by
             (show _=_)
             rw [HRG.out dnx HDR.out.1 HDR.out.2 wi hx9,HLKN.out];rfl
            have HCC:=zh (hE.out.cell HCC5.out);clear hie hi0
            go_wp2_with (at_builtin;refine zan rfl _ _ rfl _ P dnx w4.heap.size wi.heap.size 1 _ rfl rfl (HM6.out.own.alloc _) ?d1 ?d2 ?d3 ?_)
            (try case d1=>exact zm _ _ _ (by simp))
            (try case d2=>(first | (simp;done) | (have:=hx9.size;simp;omega) | (have:=hx9.size;omega)))
            (try case d3=>omega)
            intro v' wb hob hgb hbl;have HM7:=zh ((HM6.out.alloc (.cells #[.int .i64 dnx] 3)).app hob hgb);clear hob hgb hbl
            have HCB:Hid (wb.cell? ⟨go,dnx.toNat,none⟩=some (.int .i64 (r:Int))):=by
             (show _=_)
             rw [HRG.out dnx HDR.out.1 HDR.out.2 wb HM7.out.ext,HLKN.out];rfl
            go_wp2;go_roundw
            case rel=>exact ⟨P,dnx,r,rfl,HDR.out,HM7.out,HLKN.out,HDN.out,by (show _=_);have h1:=HPL.out;have h2:=HPR.out;omega⟩
            case measure=>
             simp only [intOf,HCB.out,HCQ.out];omega
   ·have HF0:Hid (R=none):=by (show _=_);rw [HR.out];unfold za9;rw [if_neg (fun h=>by have:=(zaf.1 h).2;omega)]
    go_wp2_with fail
    go_ret2
    rw [HF0.out];exact ⟨_,rfl,Mk.nil' (HW1.out.trans hx)⟩
  ·have HF0:Hid (R=none):=by (show _=_);rw [HR.out];unfold za9;rw [if_neg (fun h=>by have:=(zaf.1 h).2;omega)]
   go_wp2_with fail
   go_ret2
   rw [HF0.out];exact ⟨_,rfl,Mk.nil' (HW1.out.trans hx)⟩
 ·have hq1:(ck==0)=false:=by rw [beq_eq_false_iff_ne];exact h0
  have hq2:(ck != 0)=true:=by rw [bne_iff_ne];exact h0
  have HF0:Hid (R=none):=by (show _=_);rw [HR.out];unfold za9;rw [if_neg (fun h=>h0 (by rw [HCK.out];exact (zaf.1 h).1))]
  clear h0
  go_wp2_with fail
  go_ret2
  rw [HF0.out];exact ⟨_,rfl,Mk.nil' (HW1.out.trans hx)⟩
theorem laid_empty {m:MZ} (hc:chk m=0):zau m (List.replicate m.tasks.length [])=true:=by
 have hg:∀k,(List.replicate m.tasks.length ([]:List Int)).getD k []=[]:=fun k=>by
  rw [List.getD_eq_getElem?_getD,List.getElem?_replicate]
  split <;> rfl
 exact zC.2 ⟨hc,by simp,fun k _ h=>absurd (hg k) h,⟨fun i=>by rw [hg];exact List.nodup_nil,fun i j x hx=>by rw [hg] at hx;cases hx⟩⟩
theorem laid_set {m:MZ} {ps:List (List Int)} {t:Nat} {p:List Int} (h:zau m ps=true) (ht:t<ps.length) (hp:za9 m t ps=some p):zau m (ps.set t p)=true:=by
 obtain ⟨h0,h1,h2,h3⟩:=zC.1 h;obtain ⟨-,-,hI⟩:=pathP_ok hp;rw [Int.toNat_natCast] at hI;refine zC.2 ⟨h0,by rw [List.length_set];exact h1,fun k hk hn=>?_,h3.set hI.nd fun x hx i hi=>?_⟩
 ·rw [List.length_set] at hk;rw [zaJ] at hn⊢;by_cases hkt:t=k∧k<ps.length
  ·rw [if_pos hkt];rw [←hkt.1];exact hI.pathT
  ·rw [if_neg hkt] at hn⊢;exact h2 k hk hn
 ·exact fun hx2=>(hI.fr x hx).2 (za2.2 ⟨i,hx2⟩)
structure CPL (w wr:World) (g L:Nat) (ps:List (List Int)):Prop where
 ext:Ext w wr
 lo:L≤g
 row:∃vs:List Value,Blk wr g 23 vs.toArray∧vs.length=ps.length∧∀(i:Nat) x,ps[i]?=some x→∃u,vs[i]?=some u∧zf wr (fun b=>b≠g∧L≤b) u x
section
variable {w wr w':World} {g L:Nat} {ps:List (List Int)}
theorem CPL.lt (h:CPL w wr g L ps):g<wr.heap.size:=by obtain ⟨vs,hb,-⟩:=h.row;exact zb hb
theorem CPL.keep {X:Nat→Prop} (h:CPL w wr g L ps) (hC:Chg X wr w') (hX:∀b,L≤b→¬ X b) (hE:Ext w w'):CPL w w' g L ps:=by
 obtain ⟨vs,hb,hl,he⟩:=h.row;exact ⟨hE,h.lo,vs,hC.blk hb (hX g h.lo),hl,fun i x hx=>by obtain ⟨u,hu,hi⟩:=he i x hx;exact ⟨u,hu,hi.keep fun b hb hlt=>hC.block b hlt (hX b hb.2)⟩⟩
theorem CPL.more (h:CPL w wr g L ps) (hE:Ext wr w'):CPL w w' g L ps:=h.keep (Chg.of_ext (X:=fun _=>False) hE) (fun _ _ h=>h) (h.ext.trans hE)
theorem CPL.at_ (h:CPL w wr g L ps) {k:Nat} (hk:k<ps.length):∃u,wr.cell? ⟨g,k,none⟩=some u∧wr.frozen? ⟨g,k,none⟩=false∧zf wr (fun b=>b≠g∧L≤b) u ps[k]:=by
 obtain ⟨vs,hb,hl,he⟩:=h.row;obtain ⟨u,hu,hi⟩:=he k _ (List.getElem?_eq_getElem hk);exact ⟨u,hb.cell (by simpa using hu),hb.frozen k,hi⟩
theorem CPL.intss (h:CPL w wr g L ps) (c:Nat) (hc:ps.length≤c):zo wr (fun b=>L≤b) (.slice (some ⟨g,0,none⟩) ps.length c) ps:=by
 obtain ⟨vs,hb,hl,he⟩:=h.row;refine ⟨vs,⟨_,c,rfl,hc,by omega,fun _=>⟨g,0,rfl,h.lo,fun j u hu=>?_⟩⟩,fun i x hx=>by obtain ⟨u,hu,hi⟩:=he i x hx;exact ⟨u,hu,hi.weaken fun _ h=>h.2⟩⟩;rw [Nat.zero_add];exact hb.cell (by simpa using hu)
theorem CPL.set (h:CPL w wr g L ps) (k:Nat) {u:Value} {x:List Int} (hg:w.heap.size≤g) (hu:zf wr (fun b=>b≠g∧L≤b) u x):CPL w (wr.setCell ⟨g,k,none⟩ u) g L (ps.set k x):=by
 obtain ⟨vs,hb,hl,he⟩:=h.row;have hk:∀{v:Value} {l:List Int},zf wr (fun b=>b≠g∧L≤b) v l→zf (wr.setCell ⟨g,k,none⟩ u) (fun b=>b≠g∧L≤b) v l:=fun hi=>hi.keep fun b hb _=>Below.heap_setCell wr ⟨g,k,none⟩ u b hb.1
 refine ⟨h.ext.setCell (p:=⟨g,k,none⟩) hg _,h.lo,vs.set k u,?_,by simp [hl],fun i y hy=>?_⟩
 ·have:=hb.set (k:=k) u
  rwa [List.setIfInBounds_toArray] at this
 ·rw [List.getElem?_set] at hy⊢;by_cases hi:k=i
  ·subst hi;rw [if_pos rfl] at hy⊢
   split at hy
   ·rename_i hlt
    rw [if_pos (by omega)];injection hy with hy;subst hy;exact ⟨u,rfl,hk hu⟩
   ·cases hy
  ·rw [if_neg hi] at hy⊢;obtain ⟨v,hv,hvi⟩:=he i y hy;exact ⟨v,hv,hk hvi⟩
theorem CP.cpl (h:CP w wr g ps) (hE:Ext w' wr) {L:Nat} (hL:L≤w.heap.size):CPL w' wr g L ps:=by
 obtain ⟨vs,hb,hl,he⟩:=h.row;exact ⟨hE,Nat.le_trans hL h.lo,vs,hb,hl,fun i x hx=>by obtain ⟨u,hu,hi⟩:=he i x hx;exact ⟨u,hu,hi.weaken fun b hb=>⟨hb.1,Nat.le_trans hL hb.2⟩⟩⟩
end
theorem rem_idx {n k:Nat} {x:Int} (hn:0<n) (hx:0≤x) (hk:(k:Int)+x≤1000000):∃tq:Nat,tq<n∧((k:Int)+x).tmod (n:Int)=(tq:Int)∧IntKind.i64.wrap (((k:Int)+x).tmod (n:Int))=(tq:Int):=by
 obtain ⟨y,hy⟩:∃y:Nat,(k:Int)+x=(y:Int):=⟨((k:Int)+x).toNat,by omega⟩;have hm:((k:Int)+x).tmod (n:Int)=((y % n:Nat):Int):=by rw [hy];rfl
 have hlt:=Nat.mod_lt y hn;have hle:y % n≤y:=Nat.mod_le y n;refine ⟨y % n,hlt,hm,?_⟩;rw [hm,IntKind.wrap_i64];omega
theorem made31_calls {okm okl:Nat→Prop} {v vl:Value} {m:MZ} {l:List Int} (wo:Int) (w:World) (hm:zr w okm v m) (hl:Lens m) (hc:chk m=0) (ht:0<m.tasks.length) (hli:zf w okl vl l) (hll:l.length≤9223372036854775807):
  Calls Tryz.prog 36 #[v,vl,.int .i64 wo] w fun e w'=>∃go ps,e=.returned (.slice (some ⟨go,0,none⟩) m.tasks.length m.tasks.length)∧CPL w w' go w.heap.size ps∧zau m ps=true∧∀t:Nat,(t:Int)=wo→ps.getD t []=[]:=by
 have HM:=zh hm;have HL:=zh hl;have HC:=zh hc;have HLI:=zh hli;have G:=zh (zx.of hc);obtain ⟨Af,cf,Au,cu,At,ct,rfl,-,-,-⟩:=hm.parts;obtain ⟨A,c,rfl,hcc,-⟩:=hli;have htk:=G.out.tk;clear hm hl hc
 have hmk:∀W:World,(Instr.makeSlice 22 (.int .i64 (m.tasks.length:Nat)) (.int .i64 (m.tasks.length:Nat))).run Tryz.prog W=.ok (.slice (some ⟨W.heap.size,0,none⟩) m.tasks.length m.tasks.length) (W.alloc (.cells (madeCells #[.slice none 0 0] m.tasks.length) 23)):=fun W=>
  run_make_row' 22 23 (.slice none 0 0) 24 Tryz.underlying22 Tryz.infoInts rfl .i64 .i64 m.tasks.length (by omega) (by omega) W
 go_enter Tryz.func36,Tryz.ntmps36
 go_upto_region 1 with fail;obtain ⟨hb0,r0,r1,r2,r3,r4,r5⟩:=box6 w (.int .i64 m.w) (.int .i64 m.h) (.int .i64 m.l) (.slice Af m.free.length cf) (.slice Au m.up.length cu) (.slice At m.tasks.length ct);have hs0:(w.alloc (.cells #[.int .i64 m.w,.int .i64 m.h,.int .i64 m.l,.slice Af m.free.length cf,.slice Au m.up.length cu,.slice At m.tasks.length ct] 32)).heap.size=w.heap.size+1:=by simp
 generalize w.alloc (.cells #[.int .i64 m.w,.int .i64 m.h,.int .i64 m.l,.slice Af m.free.length cf,.slice Au m.up.length cu,.slice At m.tasks.length ct] 32)=w1 at hb0 r0 r1 r2 r3 r4 r5 hs0⊢;obtain ⟨gm,hgm⟩:∃gm,gm=w.heap.size:=⟨_,rfl⟩;rw [←hgm] at r0 r1 r2 r3 r4 r5 hs0⊢;have HGM:Hid (gm=w.heap.size):=hgm;have HW1:=zh hb0;have hx:Ext w1 w1:=Ext.refl w1;have hxa:=zQ w1;clear hgm hb0;go_upto_region 2 with fail;have hBD:=Blk.new w1 #[.slice A l.length c,.int .i64 0] 108 (g:=w1.heap.size) rfl;have hE2:Ext w1 (w1.alloc (.cells #[.slice A l.length c,.int .i64 0] 108)):=(Ext.refl w1).alloc _;have hs2:(w1.alloc (.cells #[.slice A l.length c,.int .i64 0] 108)).heap.size=w1.heap.size+1:=by simp
 generalize w1.alloc (.cells #[.slice A l.length c,.int .i64 0] 108)=w2 at hBD hE2 hs2⊢;rw [hs0] at hBD hs2;obtain ⟨gd,hgd⟩:∃gd,gd=gm+1:=⟨_,rfl⟩;rw [←hgd] at hBD hs2⊢;have HD2:Hid (zR w.heap.size w2 gd):=⟨by have:=HGM.out;omega,_,0,l,hBD,(HLI.out.bound.weaken fun b hb=>hb.2).below (HW1.out.trans hE2),hll,by omega⟩;have hx2:Ext w1 w2:=hE2;have HGD:Hid (gd=gm+1∧w2.heap.size=gd+1):=⟨hgd,hs2⟩;clear hx hxa hBD hs0 hs2 hgd hE2
 go_wp2_with fail
 have HCP0:=zh (CP.new w2 m.tasks.length);have hE3:Ext w2 (w2.alloc (.cells (madeCells #[.slice none 0 0] m.tasks.length) 23)):=(Ext.refl w2).alloc _;generalize w2.alloc (.cells (madeCells #[.slice none 0 0] m.tasks.length) 23)=w3 at HCP0 hE3⊢;obtain ⟨go,hgo⟩:∃go,go=w2.heap.size:=⟨_,rfl⟩;rw [←hgo] at HCP0⊢;have HGO:Hid (go=gd+1):=by (show _=_);have:=HGD.out;omega
 have HX3:Hid (Ext w1 w3):=hx2.trans hE3;have HC0:Hid (CPL w w3 go (gd+1) (List.replicate m.tasks.length [])):=HCP0.out.cpl (HW1.out.trans HX3.out) (by have:=HGD.out;omega);have HDR0:=zh (HD2.out.ext hE3 (by have h1:=HGD.out;have h2:=HGM.out;omega));have HLD0:=zh (laid_empty HC.out);have rul:∀{i:Nat} {v:Value},(∀W,Ext w1 W→W.cell? ⟨gm,i,none⟩=some v)→∀W,Chg (fun b=>b=gd∨b=go) w3 W→W.cell? ⟨gm,i,none⟩=some v:=fun h W hW=>hW.cellk (h w3 HX3.out) (by have h1:=HGD.out;have h2:=HGO.out;show ¬ (gm=gd∨gm=go);omega)
 have r0:=rul r0;have r1:=rul r1;have r2:=rul r2;have r3:=rul r3;have r4:=rul r4;have r5:=rul r5;have HCH0:Hid (Chg (fun b=>b=gd∨b=go) w3 w3):=Chg.refl _ _
 have HG0:Hid (∀t:Nat,(t:Int)=wo→(List.replicate m.tasks.length ([]:List Int)).getD t []=[]):=fun t _=>by
  rw [List.getD_eq_getElem?_getD,List.getElem?_replicate]
  split <;> rfl
 clear rul hgo hE3 hx2 hmk;go_loopw [9] (fun i wr=>∃(k:Nat) (ps:List (List Int)),i=.int .i64 k∧k≤m.tasks.length∧Hid (CPL w wr go (gd+1) ps)∧Hid (zau m ps=true)∧Hid (∀t:Nat,(t:Int)=wo→ps.getD t []=[])∧Hid (zR w.heap.size wr gd)∧Hid (Chg (fun b=>b=gd∨b=go) w3 wr)) (fun i _=>m.tasks.length - (intOf i).toNat)
 case atStart=>exact ⟨0,_,rfl,Nat.zero_le _,HC0.out,HLD0.out,HG0.out,HDR0.out,HCH0.out⟩
 clear HC0 HLD0 HG0 HDR0 HCH0
 case round=>
  obtain ⟨k,ps,rfl,hk,hC,hL,hW,hDR,hch⟩:=hrel;obtain ⟨wk,rfl⟩:∃wk:World,wk=wr:=⟨_,rfl⟩;have hchk:Chg (fun b=>b=gd∨b=go) w3 wk:=hch.out;have HPL:Hid (ps.length=m.tasks.length):=(zC.1 hL.out).2.1;by_cases hlt:k<m.tasks.length
  ·have hltI:(k:Int)<(m.tasks.length:Int):=by omega
   have hBW:Hid (w.heap.size≤wk.heap.size):=hC.out.ext.size;have hk6:k≤6:=by omega
   have hne:¬ (m.tasks=[]):=by intro h;rw [h] at ht;simp at ht
   have hne2:m.tasks.length≠0:=by omega
   go_upto_region 6 with fail;clear hchk;go_cut [10] (fun v wx=>∃tq:Nat,v=.int .i64 tq∧tq<m.tasks.length∧Hid (zR w.heap.size wx gd)∧Hid (Chg (fun b=>b=gd) wk wx))
   case first=>
    refine wp_region_held_drew (S:=(fun W=>Chg (fun b=>b=gd∨b=go) w3 W)) zS (hch.out.trans (Chg.of_ext (X:=fun b=>b=gd∨b=go) (Ext.refl wk).drew) (fun _ _ h=>h)) (fun zH=>?_);refine rtT 0 zH ?_;simp only [za,Act.put];refine rtT 1 zH ?_;simp only [za,Act.put];refine rtT 4 zH ?_;simp only [za,Act.put];refine rtT 5 zH ?_;simp only [za,Act.put];refine rtT 6 zH ?_;simp only [za,Act.put];refine rtR 2 (fun K hK=>?_);go_simp;go_at_call 68;refine (zN 3 (hDR.out.ext ((Ext.refl wk).drew) hBW.out) (by omega) (by omega)).mono ?_;rintro e w5 ⟨x,rfl,hx0,hx3,hDR5,hg5⟩;go_simp;refine hK.out _ _ ((hch.out.trans (Chg.of_ext (X:=fun b=>b=gd∨b=go) (Ext.refl wk).drew) (fun _ _ h=>h)).grown hg5 (fun b hb _=>.inl (Option.some.inj hb).symm)) (fun zH=>?_);clear hK K;try simp only [za,Act.put]
    have hw1:IntKind.i64.wrap ((k:Int)+x)=(k:Int)+x:=by rw [IntKind.wrap_i64];omega
    obtain ⟨tq,htq0,htq1,htq⟩:∃tq:Nat,tq<m.tasks.length∧((k:Int)+x).tmod (m.tasks.length:Int)=(tq:Int)∧IntKind.i64.wrap (((k:Int)+x).tmod (m.tasks.length:Int))=(tq:Int):=rem_idx ht (by omega) (by omega);refine rtT 3 zH ?_;simp only [za,Act.put];refine rtT 7 zH ?_;simp only [za,Act.put];refine rtT 8 zH ?_;simp only [za,Act.put];refine wpAnyH_done (by kernel_rfl) ?_ _;go_wp2;go_meet;exact ⟨tq,rfl,htq0,hDR5,(Chg.of_ext (X:=fun b=>b=gd) (Ext.refl wk).drew).grown hg5 (fun b hb _=>(Option.some.inj hb).symm)⟩
   case rest=>
    obtain ⟨tq,rfl,htq,hDR5,hcg⟩:=hcut;obtain ⟨w5,rfl⟩:∃w5:World,w5=wc:=⟨_,rfl⟩;have hch5:Chg (fun b=>b=gd∨b=go) w3 w5:=hch.out.trans (hcg.out.wide (X':=fun b=>b=gd∨b=go) (fun _ h=>.inl h)) (fun _ _ h=>h);have HC5:Hid (CPL w w5 go (gd+1) ps):=hC.out.keep hcg.out (fun b h1 h2=>by omega) (((Chg.of_ext (X:=fun b=>w.heap.size≤b) hC.out.ext).trans hcg.out (fun b _ hb=>by have h1:=HGD.out;have h2:=HGM.out;show w.heap.size≤b;omega)).below (Nat.le_refl _) (fun _ h=>h));have htp:tq<ps.length:=by rw [HPL.out];exact htq
    obtain ⟨uq,hcq,hfq,hiq⟩:=HC5.out.at_ htp;have hqd:ps.getD tq []=ps[tq]:=by rw [List.getD_eq_getElem?_getD,List.getElem?_eq_getElem htp];rfl
    have HXL:=zh (zbL hL.out);obtain ⟨q,hq⟩:∃q,q=ps[tq]:=⟨_,rfl⟩;rw [←hq] at hiq hqd;have HQD:=zh hqd;obtain ⟨Aq,cq,rfl,-,-⟩:=hiq;have htqI:(tq:Int)<(m.tasks.length:Int):=by omega
    have htqI0:(0:Int)≤(tq:Int):=by omega
    have HCH5:=zh hch5;clear hC hch hcg hqd hq;have hskip:Hid (∀W,W=w5→Chg (fun b=>b=gd∨b=go) w3 W):=fun W h=>by rw [h];exact HCH5.out
    by_cases hw:(tq:Int)=wo
    ·have hd:((tq:Int)==wo)=true:=by rw [beq_iff_eq];exact hw
     clear hw
     go_wp2_with fail
     go_roundw
     case rel=>exact ⟨k+1,ps,by go_num,by omega,HC5.out,hL.out,hW.out,hDR5.out,HCH5.out⟩
     case measure=>simp [intOf];omega
    ·have hd:((tq:Int)==wo)=false:=by rw [beq_eq_false_iff_ne];exact hw
     have HNW:=zh hw;clear hw;by_cases hqn:q=[]
     ·have hql:¬ ((0:Int)<(q.length:Int)):=by rw [hqn];simp
      have hql2:q.length=0:=by rw [hqn];rfl
      have HP:=zh (qpath_calls (fixed:=ps) (tq:Int) w5 (HM.out.below HC5.out.ext) HL.out (by have h:=HC5.out.intss m.tasks.length (by rw [HPL.out];exact Nat.le_refl _);exact h) (by have:=HPL.out;omega) (fun x hx=>by have:=HXL.out x hx;omega));have HPR:=HPL.out;rw [HPR] at HP;clear hql hqn HPR
      go_wp2_with fail
      refine HP.out.mono ?_;rintro e w6 ⟨v6,rfl,hM6⟩;have HI6:=zh hM6.ints;have HX6:Hid (Ext w5 w6):=hM6.ext;obtain ⟨A6,c6,rfl,-⟩:=hM6.slice;have HC6:=zh (HC5.out.more HX6.out);have HDR6:=zh (hDR5.out.ext HX6.out HC5.out.ext.size);have HCH6:Hid (Chg (fun b=>b=gd∨b=go) w3 w6):=HCH5.out.trans (Chg.of_ext (X:=fun b=>b=gd∨b=go) HX6.out) (fun _ _ h=>h);obtain ⟨po,hpo⟩:∃po,po=za9 m (tq:Int) ps:=⟨_,rfl⟩;rw [←hpo] at HI6⊢;have HPO:=zh hpo;clear hM6 hpo HP hcq hfq
      cases po with
      | none=>
       simp only [Option.isSome_none,Option.getD_none,List.length_nil]
       go_wp2_with fail
       go_roundw
       case rel=>exact ⟨k+1,ps,by go_num,by omega,HC6.out,hL.out,hW.out,HDR6.out,HCH6.out⟩
       case measure=>simp [intOf];omega
      | some p=>
       simp only [Option.isSome_some,Option.getD_some] at HI6⊢;have HL7:=zh (laid_set hL.out htp HPO.out.symm);obtain ⟨uo,hcuo,hfuo,-⟩:=HC6.out.at_ htp;have hgow:w.heap.size≤go:=by have h1:=HGO.out;have h2:=HGD.out;have h3:=HGM.out;omega
       have HC7:Hid (CPL w (w6.setCell ⟨go,tq,none⟩ (.slice A6 p.length c6)) go (gd+1) (ps.set tq p)):=HC6.out.set tq hgow (HI6.out.weaken fun b hb=>by have h1:=HC5.out.lt;have h2:=HGO.out;omega)
       have HW7:Hid (∀t:Nat,(t:Int)=wo→(ps.set tq p).getD t []=[]):=fun t htw=>by
        rw [zaJ,if_neg (by rintro ⟨h1,-⟩;exact HNW.out (by rw [h1];exact htw))];exact hW.out t htw
       have HDR7:Hid (zR w.heap.size (w6.setCell ⟨go,tq,none⟩ (.slice A6 p.length c6)) gd):=HDR6.out.keep ((Below.refl _ w6).setCell (p:=⟨go,tq,none⟩) hgow _) (Below.heap_setCell w6 ⟨go,tq,none⟩ _ gd (by have h2:=HGO.out;show gd≠go;omega));have HCH7:Hid (Chg (fun b=>b=gd∨b=go) w3 (w6.setCell ⟨go,tq,none⟩ (.slice A6 p.length c6))):=HCH6.out.set go tq _ (.inr rfl)
       go_wp2_with fail
       go_roundw
       case rel=>exact ⟨k+1,ps.set tq p,by go_num,by omega,HC7.out,HL7.out,HW7.out,HDR7.out,HCH7.out⟩
       case measure=>simp [intOf];omega
     ·have hql:(0:Int)<(q.length:Int):=by
       have:q.length≠0:=fun h=>hqn (List.eq_nil_of_length_eq_zero h)
       omega
      have hql2:0<q.length:=by omega
      clear hqn
      go_wp2_with fail
      go_roundw
      case rel=>exact ⟨k+1,ps,by go_num,by omega,HC5.out,hL.out,hW.out,hDR5.out,HCH5.out⟩
      case measure=>simp [intOf];omega
  ·obtain rfl:k=m.tasks.length:=by omega
   have HCE:=zh hC.out
   go_wp2_with fail
   go_ret;refine ⟨go,ps,rfl,⟨HCE.out.ext,?_,?_⟩,hL.out,hW.out⟩
   ·have h1:=HCE.out.lo;have h2:=HGD.out;have h3:=HGM.out;omega
   ·obtain ⟨vs,hb,hl2,he⟩:=HCE.out.row;exact ⟨vs,hb,hl2,fun i x hx=>by obtain ⟨u,hu,hi⟩:=he i x hx;exact ⟨u,hu,hi.weaken fun b hb=>⟨hb.1,by have h2:=HGD.out;have h3:=HGM.out;omega⟩⟩⟩
theorem kmade_calls {okm okl:Nat→Prop} {vm vl o0 o1 o2:Value} {ls:List (List Int)} {l:List Int} {tk:Nat} (w:World) (hm:zo w okm vm ls) (hll:ls.length≤9223372036854775807) (hlx:∀x∈ls,x.length≤9223372036854775807) (hl:zf w okl vl l) (hl2:l.length≤9223372036854775807) (htk:tk<256):
  Calls Tryz.prog 9 #[.agg #[vm,vl,o0,o1,o2,.int .u8 tk]] w fun e w'=>∃vz vp z ps t,e=.returned (.tuple #[vz,vp,.int .i64 (t:Nat)])∧Ext w w'∧zr w' (fun b=>w.heap.size≤b) vz z∧MadeM z∧zo w' (fun b=>w.heap.size≤b) vp ps∧zau z ps=true∧t<z.tasks.length∧ps.getD t []=[]:=by
 have HM:=zh hm;have HL:=zh hl
 go_enter Tryz.func9,Tryz.ntmps9
 go_upto_region 1 with fail;obtain ⟨W2,hW2⟩:∃W2,W2=(w.alloc (.cells #[vm,vl,o0,o1,o2,.int .u8 tk] 26)).alloc (.cells #[.int .i64 0,.int .i64 0,.int .i64 0,.slice none 0 0,.slice none 0 0,.slice none 0 0] 32):=⟨_,rfl⟩;rw [←hW2];have hE2:Ext w W2:=by rw [hW2];exact zcD [_,_] w
 have hB2:∀(i:Nat) o,[Obj.cells #[vm,vl,o0,o1,o2,.int .u8 tk] 26,Obj.cells #[.int .i64 0,.int .i64 0,.int .i64 0,.slice none 0 0,.slice none 0 0,.slice none 0 0] 32][i]?=some o→W2.heap[w.heap.size+i]?=some o:=fun i o h=>by rw [hW2];exact allocs_at _ w i o h
 clear hW2;obtain ⟨gc,hgc⟩:∃gc,gc=w.heap.size:=⟨_,rfl⟩;rw [←hgc] at hB2⊢;have bc:Blk W2 gc 26 _:=hB2 0 _ rfl;have HZ2:Hid (Blk W2 (gc+1) 32 _):=hB2 1 _ rfl;have k0:=Ext.rule (bc.cell (k:=0) rfl);have k1:=Ext.rule (bc.cell (k:=1) rfl);have k5:=Ext.rule (bc.cell (k:=5) rfl);obtain ⟨gz,hgz⟩:∃gz,gz=gc+1:=⟨_,rfl⟩;rw [←hgz] at HZ2⊢;have HGZ:Hid (gz=w.heap.size+1):=by (show _=_);omega
 have HW2:=zh hE2;have hx:Ext W2 W2:=Ext.refl W2;obtain ⟨_,⟨Am,cm,rfl,-,-⟩,-⟩:=id hm;obtain ⟨Al,cl,rfl,-,-⟩:=id hl;have HGC:Hid (gz=gc+1):=hgz;clear hgc hB2 bc hE2 hgz
 go_wp2_with fail
 refine (made_calls W2 (HM.out.below HW2.out) hll hlx).mono ?_;rintro e w3 hpost;obtain ⟨v',z,rfl,hE3,hz3,hmm⟩:=hpost;obtain ⟨Bf,df,Bu,du,Bt,dt,rfl,-,-,-⟩:=hz3.parts;have HMM:=zh hmm;have HZ3:=zh hz3;have HE3:=zh hE3;have hn:=hmm.tk;clear hz3 hmm hm hl;have e1:=fun W h=>k1 W (hE3.trans h)
 have e5:=fun W h=>k5 W (hE3.trans h)
 clear k0 k1 k5 hE3;go_upto_region 2 with fail;obtain ⟨hE4,r0,r1,r2,r3,r4,r5⟩:=box6 w3 (.int .i64 z.w) (.int .i64 z.h) (.int .i64 z.l) (.slice Bf z.free.length df) (.slice Bu z.up.length du) (.slice Bt z.tasks.length dt)
 have hgz4:gz<(w3.alloc (.cells #[.int .i64 z.w,.int .i64 z.h,.int .i64 z.l,.slice Bf z.free.length df,.slice Bu z.up.length du,.slice Bt z.tasks.length dt] 32)).heap.size:=by
  have h1:=zb HZ2.out;have h2:=HE3.out.size;simp;omega
 generalize w3.alloc (.cells #[.int .i64 z.w,.int .i64 z.h,.int .i64 z.l,.slice Bf z.free.length df,.slice Bu z.up.length du,.slice Bt z.tasks.length dt] 32)=w4 at hE4 r0 r1 r2 r3 r4 r5 hgz4⊢;obtain ⟨gm,hgm⟩:∃gm,gm=w3.heap.size:=⟨_,rfl⟩;rw [←hgm] at r0 r1 r2 r3 r4 r5⊢;have k1:=fun W h=>e1 W (hE4.trans h)
 have k5:=fun W h=>e5 W (hE4.trans h)
 have HZ4:Hid (Blk w4 gz 32 _):=((HZ2.out.ext HE3.out).ext hE4);have HW4:Hid (Ext w w4):=((HW2.out.trans HE3.out).trans hE4);have HGW:Hid (gz<w4.heap.size):=hgz4
 have HMZ:Hid (zr w4 (fun b=>gz+1≤b) _ z):=(HZ3.out.below hE4).weaken (fun b hb=>by
  have h1:=zb HZ2.out;omega)
 have hx:Ext w4 w4:=Ext.refl w4
 have HNE:Hid (gm≠gz):=by
  show _≠_;have h1:=zb HZ2.out;have h2:=HE3.out.size;omega
 have HNC:Hid (gc≠gz):=by show _≠_;have:=HGC.out;omega
 clear hgm hE4 e1 e5 hgz4
 obtain ⟨t,ht,htq,htw⟩:∃t:Nat,t<z.tasks.length∧((tk:Nat):Int).tmod (z.tasks.length:Int)=(t:Int)∧IntKind.i64.wrap (((tk:Nat):Int).tmod (z.tasks.length:Int))=(t:Int):=by
  have h:=rem_idx (n:=z.tasks.length) (k:=tk) (x:=0) (by omega) (by omega) (by omega);simpa using h
 have hw5:IntKind.i64.wrap ((tk:Nat):Int)=(tk:Nat):=by rw [IntKind.wrap_i64];omega
 have hn0:¬ ((z.tasks.length:Nat):Int)=0:=by omega
 have HTT:Hid (t<z.tasks.length):=ht;have HMD:Hid (∀W,Ext w4 W→_):=fun W (hE:Ext w4 W)=>made31_calls (vl:=.slice Al l.length cl) (m:=z) ((t:Nat):Int) W (HMZ.out.below hE) (HMM.out.lens) (zbk HMM.out.good) (by omega) (HL.out.below ((HW4.out.trans hE))) hl2
 go_upto_region 3 with fail;have l1:=fun W (h:Chg (fun b=>b=gz) w4 W)=>h.cellk (k1 w4 hx) HNC.out
 have q0:=fun W (h:Chg (fun b=>b=gz) w4 W)=>h.cellk (r0 w4 hx) HNE.out
 have q1:=fun W (h:Chg (fun b=>b=gz) w4 W)=>h.cellk (r1 w4 hx) HNE.out
 have q2:=fun W (h:Chg (fun b=>b=gz) w4 W)=>h.cellk (r2 w4 hx) HNE.out
 have q3:=fun W (h:Chg (fun b=>b=gz) w4 W)=>h.cellk (r3 w4 hx) HNE.out
 have q4:=fun W (h:Chg (fun b=>b=gz) w4 W)=>h.cellk (r4 w4 hx) HNE.out
 have q5:=fun W (h:Chg (fun b=>b=gz) w4 W)=>h.cellk (r5 w4 hx) HNE.out
 clear r0 r1 r2 r3 r4 r5 k1 k5;refine wp_region_held_drew (S:=(fun W=>Chg (fun b=>b=gz) w4 W)) zS (Chg.of_ext (Ext.refl w4).drew) (fun zH=>?_);have hHd:Ext w4 w4.drew:=(Ext.refl w4).drew;generalize w4.drew=wd at zH hHd⊢;refine rtT 0 zH ?_;simp only [za,Act.put];refine rtT 1 zH ?_;simp only [za,Act.put];refine rtT 2 zH ?_;simp only [za,Act.put];refine rtT 3 zH ?_;simp only [za,Act.put];refine rtT 4 zH ?_;simp only [za,Act.put];refine rtT 6 zH ?_;simp only [za,Act.put];refine rtR 5 (fun K hK=>?_);go_simp;go_at_call 36;refine (HMD.out wd hHd).mono ?_;rintro e w6 ⟨go,ps,rfl,hCP,hLB,hW⟩;have HE6:Hid (Ext wd w6):=hCP.ext;have HCP:=zh hCP;have HLB:=zh hLB;have HWO:=zh hW;clear hCP hLB hW;refine hK.out _ _ (Chg.of_ext (X:=fun b=>b=gz) (hHd.trans HE6.out)) (fun zH=>?_);clear hK K;try simp only [za,Act.put]
 refine rtR 7 (fun K hK=>?_);have HZ6:=zh ((HZ4.out.ext hHd).ext HE6.out);have z0:=HZ6.out.cell (k:=0) rfl;have z1:=HZ6.out.cell (k:=1) rfl;have z2:=HZ6.out.cell (k:=2) rfl;have z3:=HZ6.out.cell (k:=3) rfl;have z4:=HZ6.out.cell (k:=4) rfl;have z5:=HZ6.out.cell (k:=5) rfl;have hfz:∀j,w6.frozen? ⟨gz,j,none⟩=false:=fun j=>HZ6.out.frozen j
 go_simp;refine hK.out _ _ (Chg.set (Chg.set (Chg.set (Chg.set (Chg.set (Chg.set (Chg.of_ext (X:=fun b=>b=gz) (hHd.trans HE6.out)) gz 0 (.int .i64 z.w) rfl) gz 1 (.int .i64 z.h) rfl) gz 2 (.int .i64 z.l) rfl) gz 3 (.slice Bf z.free.length df) rfl) gz 4 (.slice Bu z.up.length du) rfl) gz 5 (.slice Bt z.tasks.length dt) rfl) (fun zH=>?_);clear hK K;try simp only [za,Act.put]
 refine rtR 8 (fun K hK=>?_);go_simp;refine hK.out _ _ (Chg.set (Chg.set (Chg.set (Chg.set (Chg.set (Chg.set (Chg.of_ext (X:=fun b=>b=gz) (hHd.trans HE6.out)) gz 0 (.int .i64 z.w) rfl) gz 1 (.int .i64 z.h) rfl) gz 2 (.int .i64 z.l) rfl) gz 3 (.slice Bf z.free.length df) rfl) gz 4 (.slice Bu z.up.length du) rfl) gz 5 (.slice Bt z.tasks.length dt) rfl) (fun zH=>?_);clear hK K;try simp only [za,Act.put]
 refine rtR 9 (fun K hK=>?_);go_simp;refine hK.out _ _ (Chg.set (Chg.set (Chg.set (Chg.set (Chg.set (Chg.set (Chg.of_ext (X:=fun b=>b=gz) (hHd.trans HE6.out)) gz 0 (.int .i64 z.w) rfl) gz 1 (.int .i64 z.h) rfl) gz 2 (.int .i64 z.l) rfl) gz 3 (.slice Bf z.free.length df) rfl) gz 4 (.slice Bu z.up.length du) rfl) gz 5 (.slice Bt z.tasks.length dt) rfl) (fun zH=>?_);clear hK K;try simp only [za,Act.put]
 refine wpAnyH_done (by kernel_rfl) ?_ _;go_wp2;refine zc4 (P:=fun W=>bodyPost Tryz.prog Tryz.f9 _ Exit.ret _ W) (g2:=gz) ?_ HZ6.out;intro WZ hbz hEb hkk;have y0:=hbz.cell (k:=0) rfl;have y1:=hbz.cell (k:=1) rfl;have y2:=hbz.cell (k:=2) rfl;have y3:=hbz.cell (k:=3) rfl;have y4:=hbz.cell (k:=4) rfl;have y5:=hbz.cell (k:=5) rfl;refine bodyPost_ret (v:=.tuple #[.agg #[.int .i64 z.w,.int .i64 z.h,.int .i64 z.l,.slice Bf z.free.length df,.slice Bu z.up.length du,.slice Bt z.tasks.length dt],.slice (some ⟨go,0,none⟩) z.tasks.length z.tasks.length,.int .i64 (t:Nat)]) (by simp [results,Tryz.results9,go_sem,y0,y1,y2,y3,y4,y5]) rfl ?_;have hpl:=(zC.1 HLB.out).2.1;have hS:∀b,gz+1≤b→b<w6.heap.size→WZ.heap[b]?=w6.heap[b]?:=fun b hb hlt=>hkk b hlt (by omega)
 refine ⟨_,_,z,ps,t,rfl,Below.trans ((HW4.out.trans hHd).trans HE6.out) (hEb.mono (by have:=HGZ.out;omega)),?_,HMM.out,?_,HLB.out,HTT.out,HWO.out t rfl⟩
 ·exact (((HMZ.out.below hHd).below HE6.out).keep fun b hb hlt=>hS b hb hlt).weaken fun b hb=>by have:=HGZ.out;omega
 ·have h:=(HCP.out.intss z.tasks.length (by rw [hpl];exact Nat.le_refl _));rw [hpl] at h;exact (h.keep fun b hb hlt=>hS b (by have h1:=HGW.out;have h2:=hHd.size;omega) hlt).weaken fun b hb=>by have h1:=HGW.out;have h2:=hHd.size;have h3:=HGZ.out;omega
end Go.Proofs.YthbjngbhbbkkgaaGreat
