/- RtI RtVa RtVi RtUa RtUb -/
import Derived.Test.YthbjngbhbbkkgaaGreatHUr
import Derived.Deep.OwnRows
import Derived.BigQuiet
import Derived.Deep.RegionHeld3
import Derived.Deep.DrawnRows
set_option linter.unusedVariables false
set_option linter.unusedSimpArgs false
set_option maxRecDepth 100000
set_option maxHeartbeats 16000000
namespace Go.Proofs.YthbjngbhbbkkgaaGreat
open Go.RowKit
attribute [local go_sem ↓] Go.wp_at_zero Go.wp_at_succ
def memF (s:List Int) (i:Nat):Value:=.bool (decide ((i:Int)∈s))
open Classical in
section
variable {w1 wr w':World} {gi gt n:Nat} {s tk todo:List Int} {v:Value}
theorem memF_more {s:List Int} {x:Int} {n:Nat} (h:¬ (0≤x∧x<n)) {j:Nat} (hj:j<n):memF s j=memF (s++[x]) j:=by
 unfold memF;congr 1;rw [decide_eq_decide,List.mem_append,List.mem_singleton];constructor
 ·exact .inl
 ·rintro (h1 | h1)
  ·exact h1
  ·omega
theorem memF_set {s:List Int} {x:Int} (h:0≤x) (j:Nat):(if j=x.toNat then Value.bool true else memF s j)=memF (s++[x]) j:=by
 unfold memF;by_cases hj:j=x.toNat
 ·rw [if_pos hj];congr 1;symm;rw [decide_eq_true_eq,List.mem_append,List.mem_singleton]
  right;omega
 ·rw [if_neg hj];congr 1;rw [decide_eq_decide,List.mem_append,List.mem_singleton];constructor
  ·exact .inl
  ·rintro (h1 | h1)
   ·exact h1
   ·omega
end
end Go.Proofs.YthbjngbhbbkkgaaGreat
namespace Go.Proofs.YthbjngbhbbkkgaaGreat
open Go.RowKit
theorem bestL_none {F:List (Int×Int)}:∀{l:List Int} {b:Option Int},zaS F l b=none→b=none∧∀n∈l,F.lookup n=none
 | [],b,h=>⟨h,fun n hn=>(by cases hn)⟩
 | n :: l,b,h=>by
  unfold zaS at h;obtain ⟨h1,h2⟩:=bestL_none h
  cases hl:F.lookup n with
  | none=>
   rw [hl] at h1;refine ⟨h1,fun x hx=>?_⟩;rcases List.mem_cons.1 hx with rfl | hx
   ·exact hl
   ·exact h2 x hx
  | some d=>
   rw [hl] at h1
   exfalso
   cases b with
   | none=>cases h1
   | some c=>
    simp only at h1
    split at h1 <;> cases h1
theorem dist_le {m:MZ} {fr:Int→Bool} {tg tg':List Int} {k:Nat} {F G:List (Int×Int)} (hF:DFI m fr tg k F) (hG:DFI m fr tg' G.length G) (ht:∀x∈tg,x∈tg'):
  ∀(d:Nat) (x:Int),F.lookup x=some (d:Int)→∃e,G.lookup x=some e∧e≤(d:Int)
 | d,x,h=>by
  have h1:=zag h;obtain ⟨-,hfx,-⟩:=hF.rg _ h1;rcases hF.bk _ h1 with ⟨h2,h3⟩ | ⟨q,hq,h2,h3⟩
  ·exact ⟨0,zbM hG.nd (hG.ini x (ht x h3) hfx),by omega⟩
  ·simp only at h2 h3;obtain ⟨-,-,hq0⟩:=hF.rg q hq;obtain ⟨d',hd'⟩:∃d':Nat,d=d'+1:=⟨d - 1,by omega⟩;subst hd';have hq2:q.2=(d':Int):=by omega
   have h4:F.lookup q.1=some (d':Int):=zbM hF.nd (by rw [←hq2];exact hq);obtain ⟨e,h5,h6⟩:=dist_le hF hG ht d' q.1 h4;obtain ⟨i,hi,ei⟩:=List.getElem_of_mem (zag h5);obtain ⟨q',hq',h7,h8⟩:=hG.cl i hi _ (List.getElem?_eq_getElem hi) x (by rw [ei];exact h2) hfx;rw [ei] at h8;refine ⟨q'.2,zbM hG.nd (by rw [←h7];exact hq'),?_⟩;simp only at h8;omega
theorem dist_nat {m:MZ} {fr:Int→Bool} {tg:List Int} {k:Nat} {F:List (Int×Int)} (hF:DFI m fr tg k F) {x d:Int} (h:F.lookup x=some d):∃n:Nat,d=n:=by
 obtain ⟨-,-,h0⟩:=hF.rg _ (zag h);exact ⟨d.toNat,by simp only at h0;omega⟩
theorem dist_uniq {m:MZ} {fr:Int→Bool} {tg tg':List Int} {F G:List (Int×Int)} (hF:DFI m fr tg F.length F) (hG:DFI m fr tg' G.length G) (ht:∀x,x∈tg↔x∈tg') (x:Int):F.lookup x=G.lookup x:=by
 cases hf:F.lookup x with
 | none=>
  cases hg:G.lookup x with
  | none=>rfl
  | some e=>
   obtain ⟨n,rfl⟩:=dist_nat hG hg;obtain ⟨e,h1,-⟩:=dist_le hG hF (fun x h=>(ht x).2 h) n x hg;rw [hf] at h1;cases h1
 | some d=>
  obtain ⟨n,rfl⟩:=dist_nat hF hf;obtain ⟨e,h1,h2⟩:=dist_le hF hG (fun x h=>(ht x).1 h) n x hf;obtain ⟨k,rfl⟩:=dist_nat hG h1;obtain ⟨e',h3,h4⟩:=dist_le hG hF (fun x h=>(ht x).2 h) k x h1;rw [hf] at h3;injection h3 with h3;rw [h1];congr 1;omega
def toL (m:MZ) (t:Nat):List Int:=((List.range m.n.toNat).map Int.ofNat).filter fun x=>decide (x∈(m.tasks.getD t ([],[])).2)
def farQ (m:MZ) (t:Nat) (fixed:List (List Int)):List (Int×Int):=bfs m (frP m t fixed) (m.n.toNat+1) 0 (zp (frP m t fixed) 0 (toL m t) [])
theorem mem_toL {m:MZ} {t:Nat} (g:zx m) (ht:t<m.tasks.length) (x:Int):x∈toL m t↔x∈(m.tasks.getD t ([],[])).2:=by
 unfold toL;rw [List.mem_filter,decide_eq_true_eq];refine ⟨fun h=>h.2,fun h=>⟨?_,h⟩⟩;have h2:=h;rw [List.getD_eq_getElem?_getD,List.getElem?_eq_getElem ht,Option.getD_some] at h2;obtain ⟨h3,h4⟩:=g.tn _ (List.getElem_mem ht) x (.inr h2);exact List.mem_map.2 ⟨x.toNat,List.mem_range.2 (by omega),by show ((x.toNat:Nat):Int)=x;omega⟩
theorem farQ_fi {m:MZ} {t:Nat} {fixed:List (List Int)} (g:zx m) (ht:t<m.tasks.length):DFI m (frP m t fixed) (toL m t) (farQ m t fixed).length (farQ m t fixed):=by
 have h0:DFI m (frP m t fixed) (toL m t) 0 (zp (frP m t fixed) 0 (toL m t) []):=DFI.start fun x hx=>by
  have hx:=(mem_toL g ht x).1 hx;rw [List.getD_eq_getElem?_getD,List.getElem?_eq_getElem ht,Option.getD_some] at hx;exact g.tn _ (List.getElem_mem ht) x (.inr hx)
 obtain ⟨j,hj,e⟩:=bfs_fi g.dim (m.n.toNat+1) 0 _ h0 (Nat.zero_le _) (by omega);have:j=(farQ m t fixed).length:=e;rw [←this];exact hj
theorem farQ_eq {m:MZ} {t:Nat} {fixed:List (List Int)} (g:zx m) (ht:t<m.tasks.length) (x:Int):(farQ m t fixed).lookup x=(farP m t fixed).lookup x:=dist_uniq (farQ_fi g ht) (farP_fi g ht) (mem_toL g ht) x
def zbf (F:List (Int×Int)) (fm:List Int) (k:Nat) (b:Option Int):Prop:=match b with
 | none=>∀n∈fm,0≤n→n<k→F.lookup n=none
 | some r=>r∈fm∧0≤r∧r<k∧∃d,F.lookup r=some d∧∀n∈fm,0≤n→n<k→∀e,F.lookup n=some e→d<e∨(d=e∧r≤n)
theorem zbf.zero (F:List (Int×Int)) (fm:List Int):zbf F fm 0 none:=fun n _ h0 h1=>by omega
theorem zbf.skip {F:List (Int×Int)} {fm:List Int} {k:Nat} {b:Option Int} (h:zbf F fm k b) (hs:(k:Int)∉fm∨F.lookup (k:Int)=none):zbf F fm (k+1) b:=by
 cases b with
 | none=>
  intro n hn h0 h1;by_cases hk:n=(k:Int)
  ·subst hk;exact hs.resolve_left fun h=>h hn
  ·exact h n hn h0 (by omega)
 | some r=>
  obtain ⟨h1,h2,h3,d,h4,h5⟩:=h;refine ⟨h1,h2,by omega,d,h4,fun n hn h0 h6 e he=>?_⟩;by_cases hk:n=(k:Int)
  ·subst hk;rcases hs with hs | hs
   ·exact absurd hn hs
   ·rw [hs] at he;cases he
  ·exact h5 n hn h0 (by omega) e he
theorem zbf.old {F:List (Int×Int)} {fm:List Int} {k:Nat} {r d e:Int} (h:zbf F fm k (some r)) (hr:F.lookup r=some d) (hk:F.lookup (k:Int)=some e) (hle:d≤e):zbf F fm (k+1) (some r):=by
 obtain ⟨h1,h2,h3,d',h4,h5⟩:=h;rw [hr] at h4;injection h4 with h4;subst h4;refine ⟨h1,h2,by omega,d,hr,fun n hn h0 h6 e' he=>?_⟩;by_cases hn2:n=(k:Int)
 ·subst hn2;rw [hk] at he;injection he with he;omega
 ·exact h5 n hn h0 (by omega) e' he
theorem zbf.new {F:List (Int×Int)} {fm:List Int} {k:Nat} {b:Option Int} {e:Int} (h:zbf F fm k b) (hm:(k:Int)∈fm) (hk:F.lookup (k:Int)=some e) (hlt:∀r d,b=some r→F.lookup r=some d→e<d):zbf F fm (k+1) (some (k:Int)):=by
 refine ⟨hm,by omega,by omega,e,hk,fun n hn h0 h6 e' he=>?_⟩;by_cases hn2:n=(k:Int)
 ·subst hn2;rw [hk] at he;injection he with he;omega
 ·cases b with
  | none=>rw [h n hn h0 (by omega)] at he;cases he
  | some r=>
   obtain ⟨h1,h2,h3,d,h4,h5⟩:=h;have:=hlt r d rfl h4;have:=h5 n hn h0 (by omega) e' he;omega
theorem zbf.all {F:List (Int×Int)} {fm:List Int} {k:Nat} {b:Option Int} (h:zbf F fm k b) (hr:∀n∈fm,0≤n∧n<k):zaS F fm none=b:=by
 cases hb:zaS F fm none with
 | none=>
  obtain ⟨-,h2⟩:=bestL_none hb
  cases b with
  | none=>rfl
  | some r=>
   obtain ⟨h1,-,-,d,h4,-⟩:=h;rw [h2 r h1] at h4;cases h4
 | some s=>
  obtain ⟨d,h1,h2,-,h3⟩:=zbF (b:=none) (fun c hc=>by cases hc) hb;have h2:=h2.resolve_left (by simp);obtain ⟨h4,h5⟩:=hr s h2
  cases b with
  | none=>rw [h s h2 h4 h5] at h1;cases h1
  | some r=>
   obtain ⟨a1,a2,a3,e,a4,a5⟩:=h;have b1:=a5 s h2 h4 h5 d h1;have b2:=h3 r e a1 a4;congr 1;omega
theorem downN_congr {m:MZ} {F G:List (Int×Int)} (h:∀x,F.lookup x=G.lookup x) (b:Int):zbS m F b=zbS m G b:=by
 unfold zbS;simp only [h]
theorem down_congr {m:MZ} {F G:List (Int×Int)} (h:∀x,F.lookup x=G.lookup x):∀(f:Nat) (b:Int),zb7 m F f b=zb7 m G f b
 | 0,b=>rfl
 | f+1,b=>by
  unfold zb7;rw [downN_congr h,down_congr h f]
theorem bestL_congr {F G:List (Int×Int)} (h:∀x,F.lookup x=G.lookup x):∀(l:List Int) (b:Option Int),zaS F l b=zaS G l b
 | [],b=>rfl
 | n :: l,b=>by
  unfold zaS;simp only [h];exact bestL_congr h l _
theorem descP_congr {m:MZ} {F G:List (Int×Int)} (h:∀x,F.lookup x=G.lookup x) (fm:List Int):zb9 m F fm=zb9 m G fm:=by
 unfold zb9;rw [bestL_congr h];congr 1;funext b;rw [h,down_congr h]
theorem pathP_far {m:MZ} {t:Nat} {fixed:List (List Int)} (hc:chk m=0) (ht:t<m.tasks.length):za9 m t fixed=zb9 m (farQ m t fixed) (m.tasks.getD t ([],[])).1:=by
 unfold za9;rw [if_pos (zaf.2 ⟨hc,by omega,by omega⟩),Int.toNat_natCast];exact descP_congr (fun x=>(farQ_eq (zx.of hc) ht x).symm) _
end Go.Proofs.YthbjngbhbbkkgaaGreat
namespace Go.Proofs.YthbjngbhbbkkgaaGreat
open Go.RowKit
attribute [local go_sem ↓] Go.wp_at_zero Go.wp_at_succ
structure TK (w1 wr:World) (gt n:Nat) (tk:List Int):Prop where
 ext:Ext w1 wr
 lo:w1.heap.size≤gt
 tak:wr.rowIs gt 4 n (memF tk)
section
variable {w1 wr w':World} {gt n:Nat} {tk:List Int}
theorem TK.set {x:Int} (h:TK w1 wr gt n tk) (hx:0≤x):TK w1 (wr.setCell ⟨gt,x.toNat,none⟩ (.bool true)) gt n (tk++[x]):=
 ⟨h.ext.setCell (p:=⟨gt,x.toNat,none⟩) h.lo _,h.lo,(h.tak.set x.toNat (.bool true)).congr fun j _=>memF_set hx j⟩
theorem TK.skip {x:Int} (h:TK w1 wr gt n tk) (hx:¬ (0≤x∧x<n)):TK w1 wr gt n (tk++[x]):=⟨h.ext,h.lo,h.tak.congr fun j hj=>memF_more hx hj⟩
theorem TK.cell (h:TK w1 wr gt n tk) {x:Int} (h0:0≤x) (h1:x<n):wr.cell? ⟨gt,x.toNat,none⟩=some (.bool (decide (x∈tk)))∧wr.frozen? ⟨gt,x.toNat,none⟩=false:=by
 refine ⟨?_,h.tak.frozen _⟩;rw [h.tak.cell (by omega)];unfold memF;rw [Int.toNat_of_nonneg h0]
end
theorem taken_calls {ok okf:Nat→Prop} {v vf:Value} {m:MZ} {fixed:List (List Int)} (w:World) (hm:zr w ok v m) (g:zx m) (hl:Lens m) (hf:zo w okf vf fixed) (hfl:fixed.length≤20000000000000) (hfx:∀x∈fixed,x.length≤20000000000000):
  Calls Tryz.prog 52 #[v,vf] w fun e w'=>∃gt,e=.returned (.slice (some ⟨gt,0,none⟩) m.n.toNat m.n.toNat)∧TK w w' gt m.n.toNat fixed.flatten:=by
 obtain ⟨Af,cf,Au,cu,At,ct,rfl,-,-,-⟩:=hm.parts;have HF:=zh hf;have HFX:=zh hfx;obtain ⟨vs,⟨A,c,rfl,hc,hr⟩,he⟩:=hf;have HR:=zh hr;have HE:=zh he;obtain ⟨hl1,hl2⟩:=g.dim.layer;obtain ⟨dw1,dw2,hh1,hh2,ll1,ll2,n1,-⟩:=g.dim;clear hm hr he hl hfx;obtain ⟨N,hN⟩:∃N:Nat,m.w*m.h*m.l=(N:Int):=⟨(m.w*m.h*m.l).toNat,by omega⟩;have hN3:N≤300:=by omega
 have HNN:Hid (m.n.toNat=N):=by (show _=_);unfold MZ.n;omega
 have hwm1:IntKind.i64.wrap (m.w*m.h)=m.w*m.h:=by rw [IntKind.wrap_i64];omega
 have hwm2:IntKind.i64.wrap (m.w*m.h*m.l)=m.w*m.h*m.l:=by rw [IntKind.wrap_i64];omega
 have HN:=zh hN;clear hN
 have hmk:∀W:World,(Instr.makeSlice 29 (.int .i64 (m.w*m.h*m.l)) (.int .i64 (m.w*m.h*m.l))).run Tryz.prog W=.ok (.slice (some ⟨W.heap.size,0,none⟩) N N) (W.alloc (.cells (madeCells #[.bool false] N) 4)):=fun W=>by
  rw [HN.out];exact run_make_row' 29 4 (.bool false) 1 Tryz.underlying29 Tryz.infoBool rfl .i64 .i64 N (by omega) (by omega) W
 rw [HNN.out]
 go_enter Tryz.func52,Tryz.ntmps52
 go_upto_region 1 with fail;obtain ⟨hb0,r0,r1,r2,r3,r4,r5⟩:=box6 w (.int .i64 m.w) (.int .i64 m.h) (.int .i64 m.l) (.slice Af m.free.length cf) (.slice Au m.up.length cu) (.slice At m.tasks.length ct);generalize w.alloc (.cells #[.int .i64 m.w,.int .i64 m.h,.int .i64 m.l,.slice Af m.free.length cf,.slice Au m.up.length cu,.slice At m.tasks.length ct] 32)=w1 at hb0 r0 r1 r2 r3 r4 r5⊢;obtain ⟨gm,hgm⟩:∃gm,gm=w.heap.size:=⟨_,rfl⟩;rw [←hgm] at r0 r1 r2 r3 r4 r5⊢;have HW1:=zh hb0;clear hgm hb0;have hx:Ext w1 w1:=Ext.refl w1
 go_wp2_with fail
 have HT0:Hid (TK w (w1.alloc (.cells (madeCells #[.bool false] N) 4)) w1.heap.size N []):=⟨HW1.out.alloc _,HW1.out.size,World.rowIs_made w1 (.bool false) N 4⟩;generalize w1.alloc (.cells (madeCells #[.bool false] N) 4)=w2 at HT0⊢;obtain ⟨gt,hgt⟩:∃gt,gt=w1.heap.size:=⟨_,rfl⟩;rw [←hgt] at HT0⊢;clear hgt hmk r0 r1 r2 r3 r4 r5 hx hwm1 hwm2;go_loopw [6] (fun i wr=>∃k:Nat,k≤fixed.length∧i=.int .i64 k∧Hid (TK w wr gt N (fixed.take k).flatten)) (fun i _=>fixed.length - (intOf i).toNat)
 case atStart=>exact ⟨0,Nat.zero_le _,rfl,HT0.out⟩
 clear HT0
 case round=>
  obtain ⟨k,hk,rfl,hT⟩:=hrel;obtain ⟨wk,rfl⟩:∃wk:World,wk=wr:=⟨_,rfl⟩;have hx:Ext w wk:=hT.out.ext;by_cases hlt:k<fixed.length
  ·have hltI:(k:Int)<(fixed.length:Int):=by omega
   have kk0:(0:Int)≤(k:Int):=by omega
   obtain ⟨bp,offp,up,rfl,-,hcp,hup⟩:=zP HR.out HE.out hlt hlt;have hxl:=HFX.out _ (List.getElem_mem hlt);have HS:Hid ((fixed.take (k+1)).flatten=(fixed.take k).flatten++fixed[k]):=by (show _=_);rw [List.take_succ_eq_append_getElem hlt,List.flatten_append];simp
   obtain ⟨x,hxx⟩:∃x,x=fixed[k]:=⟨_,rfl⟩;rw [←hxx] at hup hxl HS;have HUP:=zh hup;obtain ⟨Aq,cq,rfl,hcq,hrq⟩:=hup;have HRQ:=zh hrq;have rp:=Ext.rule hcp;obtain ⟨B,hB⟩:∃B,B=(fixed.take k).flatten:=⟨_,rfl⟩;rw [←hB] at hT HS;have HT1:Hid (TK w wk gt N (B++x.take 0)):=by (show TK _ _ _ _ _);rw [List.take_zero,List.append_nil];exact hT.out
   clear hcp hrq hxx hB hT
   go_wp2_with fail
   clear hx;go_loopw [7] (fun i wr=>∃j:Nat,j≤x.length∧i=.int .i64 j∧Hid (TK w wr gt N (B++x.take j))) (fun i _=>x.length - (intOf i).toNat)
   case atStart=>exact ⟨0,Nat.zero_le _,rfl,HT1.out⟩
   clear HT1
   case round=>
    obtain ⟨j,hj,rfl,hT⟩:=hrel;obtain ⟨wj,rfl⟩:∃wj:World,wj=wr:=⟨_,rfl⟩;have hx:Ext w wj:=hT.out.ext;by_cases hltj:j<x.length
    ·have hltI2:(j:Int)<(x.length:Int):=by omega
     have kk1:(0:Int)≤(j:Int):=by omega
     obtain ⟨bq,offq,rfl,-,hcy⟩:=zt HRQ.out hltj hltj;have HSY:=zh (List.take_succ_eq_append_getElem hltj);obtain ⟨y,hy⟩:∃y,y=x[j]:=⟨_,rfl⟩;rw [←hy] at hcy HSY;have ry:=Ext.rule hcy;clear hcy hy;by_cases hy0:0≤y
     ·by_cases hyn:y<(N:Int)
      ·obtain ⟨hct,hft⟩:=hT.out.cell hy0 hyn;have hT':=zh (hT.out.set hy0)
       go_wp2_with fail
       go_roundw
       case rel=>exact ⟨j+1,by omega,by go_num,by rw [HSY.out,←List.append_assoc];exact hT'⟩
       case measure=>simp [intOf];omega
      ·have hT':=zh (hT.out.skip (x:=y) (by omega))
       go_wp2_with fail
       go_roundw
       case rel=>exact ⟨j+1,by omega,by go_num,by rw [HSY.out,←List.append_assoc];exact hT'⟩
       case measure=>simp [intOf];omega
     ·have hT':=zh (hT.out.skip (x:=y) (by omega))
      go_wp2_with fail
      go_roundw
      case rel=>exact ⟨j+1,by omega,by go_num,by rw [HSY.out,←List.append_assoc];exact hT'⟩
      case measure=>simp [intOf];omega
    ·obtain rfl:j=x.length:=by omega
     rw [List.take_length] at hT
     go_wp2_with fail
     go_roundw
     case rel=>exact ⟨k+1,by omega,by go_num,by rw [HS.out];exact hT⟩
     case measure=>simp [intOf];omega
  ·obtain rfl:k=fixed.length:=by omega
   rw [List.take_length] at hT
   go_wp2_with fail
   go_ret;exact ⟨gt,rfl,hT.out⟩
def dF (F:List (Int×Int)) (i:Nat):Value:=.int .i64 ((F.lookup (i:Int)).getD (-1))
def dK (k:Nat) (F:List (Int×Int)) (i:Nat):Value:=if i<k then dF F i else .int .i64 0
def toK (m:MZ) (t k:Nat):List Int:=((List.range k).map Int.ofNat).filter fun x=>decide (x∈(m.tasks.getD t ([],[])).2)
theorem toK_t {m:MZ} {t k:Nat} (h:(k:Int)∈(m.tasks.getD t ([],[])).2):toK m t (k+1)=toK m t k++[(k:Int)]:=by
 unfold toK;rw [List.range_succ,List.map_append,List.filter_append];congr 1;rw [List.map_cons,List.map_nil,List.filter_cons_of_pos (by simpa using h)]
 all_goals rfl
theorem toK_f {m:MZ} {t k:Nat} (h:(k:Int)∉(m.tasks.getD t ([],[])).2):toK m t (k+1)=toK m t k:=by
 unfold toK;rw [List.range_succ,List.map_append,List.filter_append,List.map_cons,List.map_nil,List.filter_cons_of_neg (by simpa using h)];simp
theorem addAll_snoc (fr:Int→Bool) (d:Int) (l:List Int) (x:Int) (F:List (Int×Int)):zp fr d (l++[x]) F=addS fr d (zp fr d l F) x:=by
 rw [zbP,zbP,List.foldl_append]
 all_goals rfl
theorem toK_lt {m:MZ} {t k:Nat} {fr:Int→Bool} {d:Int}:∀p∈zp fr d (toK m t k) [],p.1<(k:Int):=fun p hp=>by
 obtain ⟨G,h1,h2,-,-⟩:=zI fr d (toK m t k) [];rw [h1,List.nil_append] at hp;have:=(h2 p hp).2.1;unfold toK at this;obtain ⟨i,hi,e⟩:=List.mem_map.1 (List.mem_filter.1 this).1;have:=List.mem_range.1 hi;rw [←e];show (i:Int)<k;omega
structure DI (w1 wr:World) (go N k:Nat) (F:List (Int×Int)) (T:List Int) (v:Value):Prop where
 ext:Ext w1 wr
 lo:w1.heap.size≤go
 row:wr.rowIs go 3 N (dK k F)
 own:zy wr (go+1) v T
theorem lookup_snoc {F:List (Int×Int)} {x y d:Int}:(F++[(x,d)]).lookup y=match F.lookup y with | some e=>some e | none=>if y=x then some d else none:=by
 induction F with
 | nil=>
  rw [List.nil_append,List.lookup_cons];by_cases h:y=x
  ·rw [if_pos h,beq_iff_eq.2 h];rfl
  ·rw [if_neg h,beq_eq_false_iff_ne.2 h];rfl
 | cons a F ih=>
  obtain ⟨z,e⟩:=a;rw [List.cons_append,List.lookup_cons,List.lookup_cons];by_cases h:y=z
  ·rw [beq_iff_eq.2 h]
  ·rw [beq_eq_false_iff_ne.2 h];exact ih
section
variable {w1 wr w':World} {go N k:Nat} {F:List (Int×Int)} {T:List Int} {v:Value}
theorem DI.more (h:DI w1 wr go N k F T v) (hb:Ext wr w'):DI w1 w' go N k F T v:=⟨h.ext.trans hb,h.lo,h.row.of_block (hb.block _ h.row.lt),h.own.ext hb⟩
theorem DI.lay (h:DI w1 wr go N k F T v) (hk:F.lookup (k:Int)=none):DI w1 (wr.setCell ⟨go,k,none⟩ (.int .i64 (-1))) go N (k+1) F T v:=
 ⟨h.ext.setCell (p:=⟨go,k,none⟩) h.lo _,h.lo,(h.row.set k (.int .i64 (-1))).congr fun j _=>by
  by_cases hj:j=k
  ·subst hj;unfold dK dF;rw [if_pos rfl,if_pos (by omega),hk]
   all_goals rfl
  ·unfold dK;rw [if_neg hj];by_cases h1:j<k
   ·rw [if_pos h1,if_pos (by omega)]
   ·rw [if_neg h1,if_neg (by omega)],ownsRow_setCell_below h.own (by show go<go+1;omega) _⟩
theorem DI.put {x d:Int} (h:DI w1 wr go N k F T v) (h0:0≤x) (h1:x<k) (hn:F.lookup x=none):DI w1 (wr.setCell ⟨go,x.toNat,none⟩ (.int .i64 d)) go N k (F++[(x,d)]) T v:=
 ⟨h.ext.setCell (p:=⟨go,x.toNat,none⟩) h.lo _,h.lo,(h.row.set x.toNat (.int .i64 d)).congr fun j _=>by
  by_cases hj:j=x.toNat
  ·subst hj;unfold dK dF;rw [if_pos rfl,if_pos (by omega),lookup_snoc,Int.toNat_of_nonneg h0,hn];simp
  ·unfold dK dF;rw [if_neg hj,lookup_snoc]
   split
   ·cases hl:F.lookup (j:Int) with
    | some e=>rfl
    | none=>simp only [];rw [if_neg (by omega)]
   ·rfl,ownsRow_setCell_below h.own (by show go<go+1;omega) _⟩
theorem DI.app {v':Value} {T':List Int} (h:DI w1 wr go N k F T v) (ho:zy w' (go+1) v' T') (hg:Hid (wr.grownBy w' v.ownBlock)):DI w1 w' go N k F T' v':=
 ⟨zT h.ext hg h.ext.size (fun b hb=>by have:=za8 h.own hb;have:=h.lo;omega),h.lo,h.row.of_block (hg.out.block _ h.row.lt (fun e=>by have:=za8 h.own e.symm;omega)),ho⟩
theorem DI.cell (h:DI w1 wr go N k F T v) {j:Nat} (hj:j<N):wr.cell? ⟨go,j,none⟩=some (dK k F j)∧wr.frozen? ⟨go,j,none⟩=false:=⟨h.row.cell hj,h.row.frozen _⟩
theorem DI.bound (h:DI w1 wr go N k F T v):go+1≤wr.heap.size:=h.row.lt
end
theorem Ext.cell_other {w W:World} {g i j:Nat} {v u:Value} (h:Ext w W) (hc:w.cell? ⟨g,i,none⟩=some v) (hne:i≠j):(W.setCell ⟨g,j,none⟩ u).cell? ⟨g,i,none⟩=some v:=by
 refine (World.cell?_setCell_other _ _ _ _ ?_).trans (h.cell hc);intro e;injection e with _ e2;exact hne e2.symm
theorem nextO_in {m:MZ} (hc:chk m=0) {x:Int} (h0:0≤x) (h1:x<m.n):zap m x=zi m x:=by
 unfold zap;rw [if_pos ⟨hc,h0,h1⟩]
theorem distances_calls {ok:Nat→Prop} {v:Value} {m:MZ} {fixed:List (List Int)} {gu:Nat} (t:Nat) (w:World) (hm:zr w ok v m) (hl:Lens m) (hc:chk m=0) (ht:t<m.tasks.length) (hu:w.rowIs gu 4 m.n.toNat (memF fixed.flatten)):
  Calls Tryz.prog 51 #[v,.int .i64 t,.slice (some ⟨gu,0,none⟩) m.n.toNat m.n.toNat] w fun e w'=>∃go,e=.returned (.slice (some ⟨go,0,none⟩) m.n.toNat m.n.toNat)∧Ext w w'∧w.heap.size≤go∧w'.rowIs go 3 m.n.toNat (dF (farQ m t fixed)):=by
 have HM:=zh hm;have HL:=zh hl;have HC:=zh hc;have G:=zh (zx.of hc);have HU:=zh hu;obtain ⟨Af,cf,Au,cu,At,ct,rfl,hfr,-,hts⟩:=hm.parts;have HFR:=zh hfr;obtain ⟨bt,offt,sn,u1,u2,rfl,-,-,-,hct2,-,hi2⟩:=zam hts ht;have hto:=(hl.tl _ (List.getElem_mem ht)).2;have HTG:Hid ((m.tasks.getD t ([],[])).2=(m.tasks[t]).2):=by (show _=_);rw [List.getD_eq_getElem?_getD,List.getElem?_eq_getElem ht];rfl
 obtain ⟨tg,htg⟩:∃tg,tg=(m.tasks[t]).2:=⟨_,rfl⟩;rw [←htg] at hi2 hto HTG;have HTO:=zh hi2;obtain ⟨Atg,ctg,rfl,-,-⟩:=hi2;have htf:t<m.free.length:=by rw [G.out.fl];exact ht
 have HTF:=zh htf;have htI:(t:Int)<(m.tasks.length:Int):=by omega
 have htI0:(0:Int)≤(t:Int):=by omega
 have htfI:(t:Int)<(m.free.length:Int):=by omega
 obtain ⟨hl1,hl2⟩:=G.out.dim.layer;obtain ⟨dw1,dw2,hh1,hh2,ll1,ll2,n1,-⟩:=G.out.dim;clear hm hfr hts htg hl hc hu;obtain ⟨N,hN⟩:∃N:Nat,N=m.n.toNat:=⟨_,rfl⟩;have HN:Hid (m.n=(N:Int)):=by (show _=_);rw [hN];unfold MZ.n;omega
 have hN3:N≤300:=by rw [hN];unfold MZ.n;omega
 have HNN:=zh hN;rw [←hN] at HU⊢;clear hN dw1 dw2 hh1 hh2 ll1 ll2 n1 hl1 hl2
 have hmk:∀W:World,(Instr.makeSlice 23 (.int .i64 (N:Nat)) (.int .i64 (N:Nat))).run Tryz.prog W=.ok (.slice (some ⟨W.heap.size,0,none⟩) N N) (W.alloc (.cells (madeCells #[.int .i64 0] N) 3)):=fun W=>
  run_make_row' 23 3 (.int .i64 0) 8 Tryz.underlying23 Tryz.infoInt rfl .i64 .i64 N (by omega) (by omega) W
 go_enter Tryz.func51,Tryz.ntmps51
 go_upto_region 1 with fail;obtain ⟨hb0,r0,r1,r2,r3,r4,r5⟩:=box6 w (.int .i64 m.w) (.int .i64 m.h) (.int .i64 m.l) (.slice Af m.free.length cf) (.slice Au m.up.length cu) (.slice (some ⟨bt,offt,none⟩) m.tasks.length ct);generalize w.alloc (.cells #[.int .i64 m.w,.int .i64 m.h,.int .i64 m.l,.slice Af m.free.length cf,.slice Au m.up.length cu,.slice (some ⟨bt,offt,none⟩) m.tasks.length ct] 32)=w1 at hb0 r0 r1 r2 r3 r4 r5⊢;obtain ⟨gm,hgm⟩:∃gm,gm=w.heap.size:=⟨_,rfl⟩;rw [←hgm] at r0 r1 r2 r3 r4 r5⊢;have HW1:=zh hb0;have rtg:=Ext.rule (hb0.cell hct2);clear hgm hb0 hct2;have hx:Ext w1 w1:=Ext.refl w1
 go_wp2_with fail
 have HD0:Hid (DI w1 (w1.alloc (.cells (madeCells #[.int .i64 0] N) 3)) w1.heap.size N 0 (zp (frP m t fixed) 0 (toK m t 0) []) ((zp (frP m t fixed) 0 (toK m t 0) []).map Prod.fst) (.slice none 0 0)):=
  ⟨(Ext.refl w1).alloc _,Nat.le_refl _,(World.rowIs_made w1 (.int .i64 0) N 3).congr fun j _=>by unfold dK;rw [if_neg (by omega)],World.ownsRow_nil _ _ _ _⟩
 generalize w1.alloc (.cells (madeCells #[.int .i64 0] N) 3)=w2 at HD0⊢;obtain ⟨go,hgo⟩:∃go,go=w1.heap.size:=⟨_,rfl⟩;rw [←hgo] at HD0⊢;have HGO:Hid (go=w1.heap.size):=hgo;clear hgo hmk hx;obtain ⟨fr,hfr⟩:∃fr,fr=frP m t fixed:=⟨_,rfl⟩;rw [←hfr] at HD0;have HFF:Hid (∀x,fr x=(ze m t x && !decide (x∈fixed.flatten))):=fun x=>by rw [hfr];rfl
 have HFRQ:=zh hfr;clear hfr;go_loopw [8,9] (fun v i wr=>∃k:Nat,k≤N∧i=.int .i64 k∧Hid (DI w1 wr go N k (zp fr 0 (toK m t k) []) ((zp fr 0 (toK m t k) []).map Prod.fst) v)) (fun _ i _=>N - (intOf i).toNat)
 case atStart=>exact ⟨0,Nat.zero_le _,rfl,HD0.out⟩
 clear HD0
 case round=>
  obtain ⟨k,hk,rfl,hD⟩:=hrel;obtain ⟨wk,rfl⟩:∃wk:World,wk=wr:=⟨_,rfl⟩;have hx:Ext w1 wk:=hD.out.ext;by_cases hlt:k<N
  ·have hltI:(k:Int)<(N:Int):=by omega
   have kk0:(0:Int)≤(k:Int):=by omega
   have hF300:(zp fr 0 (toK m t k) []).length≤300:=by
    refine start_len G.out (tg:=toK m t k) (fun x hx=>?_) (toK m t k).length |> fun h=>by rwa [List.take_length] at h
    unfold toK at hx;obtain ⟨i,hi,e⟩:=List.mem_map.1 (List.mem_filter.1 hx).1;have:=List.mem_range.1 hi;rw [←e,HN.out];show (0:Int)≤(i:Int)∧(i:Int)<N;omega
   have hnone:(zp fr 0 (toK m t k) []).lookup (k:Int)=none:=zcw.2 fun p hp=>by have:=toK_lt p hp;omega
   have HTT:Hid ((k:Int)∈tg→zp fr 0 (toK m t (k+1)) []=addS fr 0 (zp fr 0 (toK m t k) []) k):=fun h=>by rw [toK_t (by rw [HTG.out];exact h),addAll_snoc]
   have HTN:Hid ((k:Int)∉tg→zp fr 0 (toK m t (k+1)) []=zp fr 0 (toK m t k) []):=fun h=>by rw [toK_f (by rw [HTG.out];exact h)]
   obtain ⟨F,hF⟩:∃F,F=zp fr 0 (toK m t k) []:=⟨_,rfl⟩;rw [←hF] at hD hF300 hnone HTT HTN;clear hF;obtain ⟨bf,off,b',off',l,c',rfl,hc1,hl,hlc,hfc,hc2⟩:=zcc HFR.out G.out.fn HTF.out kk0 (by rw [HN.out];exact hltI);rw [Int.toNat_natCast] at hc2;have q1:=Ext.rule (HW1.out.cell hc1);have q2:=Ext.rule (HW1.out.cell hc2);have hcu:w.cell? ⟨gu,k,none⟩=some (.bool (decide ((k:Int)∈fixed.flatten))):=HU.out.cell hlt;have q3:=Ext.rule (HW1.out.cell hcu);have HFK:Hid (fr (k:Int)=(ze m t (k:Int) && !decide ((k:Int)∈fixed.flatten))):=HFF.out _;obtain ⟨fv,hfv⟩:∃fv,fv=ze m t (k:Int):=⟨_,rfl⟩;obtain ⟨uv,huv⟩:∃uv,uv=decide ((k:Int)∈fixed.flatten):=⟨_,rfl⟩;rw [←hfv] at q2 HFK;rw [←huv] at q3 HFK;clear hfv huv hc1 hc2 hcu;obtain ⟨hck,hfk⟩:=hD.out.cell hlt;have HD1:=zh (hD.out.lay hnone);go_upto_region 7 with fail;generalize wk.setCell ⟨go,k,none⟩ (.int .i64 (-1))=w3 at HD1⊢;clear hck hfk hx;have hx:Ext w1 w3:=HD1.out.ext;have HNO:=zh hnone;obtain ⟨bd,hbd⟩:∃bd:Bool,bd=(decide ((k:Int)∈tg) && (fv && !uv)):=⟨_,rfl⟩;have HBD:=zh hbd;clear hbd hD hnone;go_cut [49] (fun v wx=>v=.bool bd∧w3=wx)
   case first=>
    go_wp2_with fail
    refine (zE (k:Int) w3 (HTO.out.below (HW1.out.trans hx)) (by omega)).mono ?_;rintro e w4 ⟨rfl,rfl⟩;by_cases hin:(k:Int)∈tg
    ·have hd:decide ((k:Int)∈tg)=true:=decide_eq_true hin;rw [hd];have HB:Hid (bd=(fv && !uv)):=by (show _=_);rw [HBD.out,hd,Bool.true_and]
     clear hd hin
     cases fv with
     | false=>
      go_wp2_with fail
      go_meet;exact ⟨by rw [HB.out];rfl,rfl⟩
     | true=>
      go_wp2_with fail
      go_meet;exact ⟨by rw [HB.out];simp,rfl⟩
    ·have hd:decide ((k:Int)∈tg)=false:=decide_eq_false hin;rw [hd];have HB:Hid (bd=false):=by (show _=_);rw [HBD.out,hd];rfl
     clear hd hin
     go_wp2_with fail
     go_meet;exact ⟨by rw [HB.out],rfl⟩
   case rest=>
    obtain ⟨rfl,rfl⟩:=hcut;clear q1 q2 q3
    cases bd with
    | true=>
     have hb:=HBD.out;rw [eq_comm,Bool.and_eq_true,decide_eq_true_eq] at hb
     have HFE:Hid (zp fr 0 (toK m t (k+1)) []=F++[((k:Int),0)]):=by
      (show _=_)
      rw [HTT.out hb.1];exact addS_new HNO.out (by rw [HFK.out];exact hb.2)
     clear hb;obtain ⟨hck,hfk⟩:=HD1.out.cell hlt;have HD2:=zh (HD1.out.put (x:=(k:Int)) (d:=0) kk0 (by omega) HNO.out);rw [Int.toNat_natCast] at HD2;obtain ⟨L,hL⟩:∃L:List Int,L=F.map Prod.fst:=⟨_,rfl⟩;rw [←hL] at HD2;have HLE:=zh hL;have hL300:L.length≤300:=by rw [hL,List.length_map];exact hF300
     have hgb:=HD2.out.bound;clear hL
     go_wp2_with (at_builtin;refine zan rfl _ _ rfl _ L k (go+1) w3.heap.size 1 _ rfl rfl (HD2.out.own.alloc _) ?d1 ?d2 ?d3 ?_)
     (try case d1=>exact zm _ _ _ (by simp))
     (try case d2=>(first | (simp;done) | (simp at hgb⊢;omega) | omega))
     (try case d3=>omega)
     intro v' wb hob hgb2 hbl;have HD3:=zh ((HD2.out.more ((Ext.refl _).alloc _)).app hob hgb2);clear hob hgb2 hbl hck hfk hx;go_wp2;go_roundw
     case rel=>exact ⟨k+1,by omega,by go_num,by rw [HFE.out,List.map_append,←HLE.out];exact HD3⟩
     case measure=>simp [intOf];omega
    | false=>
     have HFE:Hid (zp fr 0 (toK m t (k+1)) []=F):=by
      (show _=_)
      have hb:=HBD.out;by_cases hin:(k:Int)∈tg
      ·rw [decide_eq_true hin,Bool.true_and] at hb;rw [HTT.out hin];exact addS_not (by rw [HFK.out];exact hb.symm)
      ·exact HTN.out hin
     go_wp2_with fail
     go_roundw
     case rel=>exact ⟨k+1,by omega,by go_num,by rw [HFE.out];exact HD1⟩
     case measure=>simp [intOf];omega
  ·obtain rfl:k=N:=by omega
   obtain ⟨F0,hF0⟩:∃F0,F0=zp fr 0 (toK m t k) []:=⟨_,rfl⟩;rw [←hF0] at hD;have HTL:Hid (toK m t k=toL m t):=by (show _=_);rw [HNN.out];rfl
   have HFI0:Hid (DFI m fr (toL m t) 0 F0):=by
    (show DFI _ _ _ _ _)
    rw [hF0,HTL.out];refine DFI.start fun x hx=>?_
    unfold toL at hx;obtain ⟨i,hi,e⟩:=List.mem_map.1 (List.mem_filter.1 hx).1;have:=List.mem_range.1 hi;rw [←e];show (0:Int)≤(i:Int)∧(i:Int)<m.n;omega
   have HFQ:Hid (farQ m t fixed=bfs m fr (k+1) 0 F0):=by (show _=_);unfold farQ;rw [hF0,HTL.out,HFRQ.out,HNN.out]
   have HD4:=zh hD.out;clear hF0 hD hk hx hlt HTL
   go_wp2_with fail
   go_loopw [8,10] (fun v i wr=>∃(j:Nat) (F:List (Int×Int)),i=.int .i64 j∧j≤F.length∧Hid (DFI m fr (toL m t) j F)∧Hid (DI w1 wr go k k F (F.map Prod.fst) v)∧Hid (farQ m t fixed=bfs m fr (k+1 - j) j F)) (fun _ i _=>k+1 - (intOf i).toNat)
   case atStart=>exact ⟨0,F0,rfl,Nat.zero_le _,HFI0.out,HD4.out,HFQ.out⟩
   clear HFI0 HD4 HFQ
   case round=>
    obtain ⟨q,F,rfl,hq,hFI,hD,hfq⟩:=hrel;obtain ⟨wk,rfl⟩:∃wk:World,wk=wr:=⟨_,rfl⟩;have hx:Ext w1 wk:=hD.out.ext;have hFl:F.length≤k:=by have:=hFI.out.len;rw [←HNN.out] at this;exact this
    obtain ⟨T,hT⟩:∃T:List Int,T=F.map Prod.fst:=⟨_,rfl⟩;rw [←hT] at hD;have hTl:T.length=F.length:=by rw [hT,List.length_map]
    have HTL:=zh hTl;have hT3:T.length≤300:=by omega
    obtain ⟨Av,cv,hv,-⟩:=za6 hD.out.own;by_cases hlt:q<T.length
    ·have hqF:q<F.length:=by omega
     clear hTl;have hltI:(q:Int)<(T.length:Int):=by omega
     have kk0:(0:Int)≤(q:Int):=by omega
     obtain ⟨p,hp⟩:∃p,F[q]?=some p:=⟨_,List.getElem?_eq_getElem hqF⟩;obtain ⟨x,d⟩:=p
     have hTx:T[q]=x:=by
      have:T[q]?=some x:=by rw [hT,List.getElem?_map,hp];rfl
      rw [List.getElem?_eq_getElem hlt] at this;injection this
     have hpm:=List.mem_of_getElem? hp;obtain ⟨⟨hx0,hx1⟩,-,-⟩:=hFI.out.rg _ hpm;have hxl:F.lookup x=some d:=zbM hFI.out.nd hpm;obtain ⟨hd0,hd3⟩:=hFI.out.dist G.out hxl;simp only at hx0 hx1;have HOW:=zh hD.out.own;rw [hv] at HOW;obtain ⟨bv,ebv,-,hcv⟩:=own_at HOW.out hlt;rw [hTx] at hcv;subst ebv;have HXL:=zh hxl;have HP:=zh hp;have HVV:=zh hv;subst hv;have HX0:Hid (0≤x∧x<m.n):=⟨hx0,hx1⟩;have HD0:Hid (0≤d∧d<300):=⟨hd0,hd3⟩;have rv:=Ext.rule hcv;have hcv0:=zh hcv;have hx':Ext wk wk:=Ext.refl wk;have HTT:=zh hT;clear hTx hpm hxl hp hcv hx0 hx1 hd0 hd3 hT;go_upto_region 13 with fail
     go_region_held3 (fun w'=>Ext w1 w'∧Ext wk w')
      (first | (exact ⟨hx.drew,hx'.drew⟩) | (exact ⟨hx.drew.trans hM9.ext,hx'.drew.trans hM9.ext⟩))
      ((go_at_call 53;refine (zdf x _ (HM.out.below (HW1.out.trans hx.drew)) HL.out).mono ?_;rintro e wn ⟨v9,rfl,hM9⟩))
     rename_i hS
     have hS1:Ext w1 wn:=hS.1;have HI9:Hid (zf wn (fun b=>wk.heap.size≤b∧b<wn.heap.size) v9 (zap m x)):=hM9.ints.bound;have HEQ:Hid (zap m x=zi m x):=nextO_in HC.out HX0.out.1 HX0.out.2;rw [HEQ.out] at HI9;have hnl:=za5 m x;have HNX:Hid (∀y∈zi m x,0≤y∧y<m.n):=fun y hy=>zab G.out.dim HX0.out.1 HX0.out.2 hy
     have HPART:Hid (∀j,(zp fr (d+1) ((zi m x).take j) F).length≤300):=fun j=>hFI.out.part G.out HP.out j
     have HSTEP:Hid (DFI m fr (toL m t) (q+1) (zp fr (d+1) (zi m x) F)):=hFI.out.step G.out.dim HP.out
     have HBN:Hid (bfs m fr (k+1 - q) q F=bfs m fr (k+1 - (q+1)) (q+1) (zp fr (d+1) (zi m x) F)):=by
      (show _=_)
      rw [show k+1 - q=(k+1 - (q+1))+1 from by omega];exact bfs_next HP.out
     obtain ⟨L,hL⟩:∃L,L=zi m x:=⟨_,rfl⟩;rw [←hL] at HI9 hnl HNX HPART HSTEP HBN;obtain ⟨AL,cL,rfl,-,hrl⟩:=HI9.out;have HRL:=zh hrl;have HDn:=zh (hD.out.more hS.2);have HSK:=zh hS.2;have HGB:Hid (go<wk.heap.size):=hD.out.bound;obtain ⟨vT,hvT⟩:∃vT,vT=Value.slice (some ⟨bv,0,none⟩) T.length cv:=⟨_,rfl⟩
     have HNL0:Hid (NL wk wn wn (.slice (some ⟨bv,0,none⟩) T.length cv)):=NL.start (fun b hb=>by
      have:bv=b:=by simpa [Value.ownBlock] using hb
      rw [←this];exact zl hcv0.out)
     clear hM9 hS hx hx' rv hcv0 hrl hL hvT;have hx:Ext w1 wn:=hS1
     go_wp2_with fail
     clear hx;go_loopw [8,12] (fun v i wr=>∃j:Nat,j≤L.length∧i=.int .i64 j∧Hid (DI w1 wr go k k (zp fr (d+1) (L.take j) F) ((zp fr (d+1) (L.take j) F).map Prod.fst) v)∧Hid (NL wk wn wr v)) (fun _ i _=>L.length - (intOf i).toNat)
     case atStart=>exact ⟨0,Nat.zero_le _,rfl,by (show DI _ _ _ _ _ _ _ _);rw [List.take_zero];(show DI w1 wn go k k F (F.map Prod.fst) _);rw [←HTT.out];exact HDn.out,HNL0.out⟩
     case round=>
      obtain ⟨j,hj,rfl,hDj,hNj⟩:=hrel;obtain ⟨wi,rfl⟩:∃wi:World,wi=wr:=⟨_,rfl⟩;have hx:Ext w1 wi:=hDj.out.ext;by_cases hltj:j<L.length
      ·have hltI2:(j:Int)<(L.length:Int):=by omega
       have kk1:(0:Int)≤(j:Int):=by omega
       obtain ⟨bl,offl,rfl,hbl,hcb0⟩:=zt HRL.out hltj hltj;obtain ⟨hy0,hy1⟩:=HNX.out _ (List.getElem_mem hltj);have HSU0:=zh (zcV (fr:=fr) (d:=d+1) (F:=F) hltj);obtain ⟨y,hyy⟩:∃y,y=L[j]:=⟨_,rfl⟩;rw [←hyy] at hcb0 hy0 hy1 HSU0;have HBL:Hid (wk.heap.size≤bl∧bl<wn.heap.size):=hbl;have hcb:wi.cell? ⟨bl,offl+j,none⟩=some (.int .i64 y):=(zbI (hNj.out.same bl hbl hbl.2)).trans hcb0;have HF3:Hid ((zp fr (d+1) (L.take j) F).length≤300):=HPART.out j;have HXE:Hid ((zp fr (d+1) (L.take j) F).lookup x=some d):=addAll_lookup HXL.out;obtain ⟨Fj,hFj⟩:∃Fj,Fj=zp fr (d+1) (L.take j) F:=⟨_,rfl⟩;rw [←hFj] at hDj HF3 HXE HSU0;obtain ⟨bf,off,b',off',l,c',rfl,hc1,hl,hlc,hfc,hc2⟩:=zcc HFR.out G.out.fn HTF.out hy0 hy1;have q1:=Ext.rule (HW1.out.cell hc1);have q2:=Ext.rule (HW1.out.cell hc2);have HYN:Hid (y.toNat<k):=by (show _<_);have:=HN.out;omega
       have HYI:Hid (y<(k:Int)):=by (show _<_);have:=HN.out;omega
       have hcu:w.cell? ⟨gu,y.toNat,none⟩=some (.bool (decide (y∈fixed.flatten))):=by
        have:=HU.out.cell HYN.out;rw [this];unfold memF;rw [Int.toNat_of_nonneg hy0]
       have q3:=Ext.rule (HW1.out.cell hcu);have HFK:Hid (fr y=(ze m t y && !decide (y∈fixed.flatten))):=HFF.out _;obtain ⟨fv,hfv⟩:∃fv,fv=ze m t y:=⟨_,rfl⟩;obtain ⟨uv,huv⟩:∃uv,uv=decide (y∈fixed.flatten):=⟨_,rfl⟩;rw [←hfv] at q2 HFK;rw [←huv] at q3 HFK;have hyk:y<(k:Int):=HYI.out
       have hco:wi.cell? ⟨go,y.toNat,none⟩=some (.int .i64 ((Fj.lookup y).getD (-1))):=by
        have:=(hDj.out.cell HYN.out).1;rw [this];unfold dK dF;rw [if_pos HYN.out,Int.toNat_of_nonneg hy0]
       obtain ⟨ov,hov⟩:∃ov,ov=(Fj.lookup y).getD (-1):=⟨_,rfl⟩;rw [←hov] at hco;have HOV:=zh hov
       have HOV2:Hid (ov<0↔Fj.lookup y=none):=by
        (show _↔_)
        rw [hov]
        cases hl:Fj.lookup y with
        | none=>simp
        | some e=>
         have hm:=zag hl;rw [hFj] at hm;obtain ⟨G',h1,h2,-,-⟩:=zI fr (d+1) (L.take j) F;rw [h1] at hm
         have:0≤e:=by
          rcases List.mem_append.1 hm with hm | hm
          ·exact (hFI.out.rg _ hm).2.2
          ·have:=(h2 _ hm).1;simp only at this;have:=HD0.out;omega
         simp only [Option.getD_some];constructor
         ·intro h;omega
         ·intro h;cases h
       obtain ⟨bd,hbd⟩:∃bd:Bool,bd=(decide (ov<0) && (fv && !uv)):=⟨_,rfl⟩;have HBD:=zh hbd;have HFJ:=zh hFj;have hx':Ext wi wi:=Ext.refl wi;clear hfv huv hc1 hc2 hcu hcb0 hbl hyy hov hbd hFj;go_upto_region 17 with fail;go_cut [105] (fun v wx=>v=.bool bd∧Ext wi wx)
       case first=>
        by_cases ho:ov<0
        ·have hd:decide (ov<0)=true:=decide_eq_true ho;have HB:Hid (bd=(fv && !uv)):=by (show _=_);rw [HBD.out,hd,Bool.true_and]
         cases fv with
         | false=>
          go_quiet (fail)
          go_wp2_with fail
          go_meet;exact ⟨by rw [HB.out];rfl,hx'.drewN _⟩
         | true=>
          go_quiet (fail)
          go_wp2_with fail
          go_meet;exact ⟨by rw [HB.out,Bool.true_and],hx'.drewN _⟩
        ·have hd:decide (ov<0)=false:=decide_eq_false ho;have HB:Hid (bd=false):=by (show _=_);rw [HBD.out,hd];rfl
         go_quiet (fail)
         go_wp2_with fail
         go_meet;exact ⟨by rw [HB.out],hx'.drewN _⟩
       case rest=>
        obtain ⟨rfl,hE9⟩:=hcut;have HDc:=zh (hDj.out.more hE9);have HNc:=zh (hNj.out.more hE9);clear hco q1 q2 q3
        cases bd with
        | false=>
         have HADD:Hid (addS fr (d+1) Fj y=Fj):=by
          (show _=_)
          have hb:=HBD.out
          cases hl:Fj.lookup y with
          | some e=>exact addS_old hl
          | none=>
           rw [decide_eq_true (HOV2.out.2 hl),Bool.true_and] at hb;exact addS_not (by rw [HFK.out];exact hb.symm)
         clear hcb
         go_wp2_with fail
         go_roundw
         case rel=>exact ⟨j+1,by omega,by go_num,by rw [HSU0.out,HADD.out];exact HDc,HNc⟩
         case measure=>simp [intOf];omega
        | true=>
         have hb:=HBD.out;rw [eq_comm,Bool.and_eq_true,decide_eq_true_eq] at hb;have HYL:Hid (Fj.lookup y=none):=HOV2.out.1 hb.1;have HADD:Hid (addS fr (d+1) Fj y=Fj++[(y,d+1)]):=addS_new HYL.out (by rw [HFK.out];exact hb.2);have HSU:Hid (zp fr (d+1) (L.take (j+1)) F=addS fr (d+1) Fj y):=HSU0.out;have HCB:=zh hcb
         have HXCc:Hid (wi.cell? ⟨go,x.toNat,none⟩=some (.int .i64 d)):=by
          (show _=_)
          have:=(hDj.out.cell (j:=x.toNat) (by have:=HX0.out;have:=HN.out;omega)).1;rw [this];unfold dK dF;rw [if_pos (by have:=HX0.out;have:=HN.out;omega),Int.toNat_of_nonneg HX0.out.1,HXE.out];rfl
         have HXC:Hid (wc.cell? ⟨go,x.toNat,none⟩=some (.int .i64 d)):=hE9.cell HXCc.out;have HCB:Hid (wc.cell? ⟨bl,offl+j,none⟩=some (.int .i64 y)):=hE9.cell HCB.out;obtain ⟨AT,cT,hvT,-⟩:=za6 HDc.out.own;subst hvT
         have hqj:q<(Fj.map Prod.fst).length:=by
          obtain ⟨G',h1,-,-,-⟩:=zI fr (d+1) (L.take j) F;rw [HFJ.out,h1,List.map_append,List.length_append,List.length_map];omega
         have hTq:(Fj.map Prod.fst)[q]=x:=by
          obtain ⟨G',h1,-,-,-⟩:=zI fr (d+1) (L.take j) F
          have h2:(Fj.map Prod.fst)[q]?=some x:=by
           rw [List.getElem?_map,HFJ.out,h1,List.getElem?_append_left hqF,HP.out];rfl
          rw [List.getElem?_eq_getElem hqj] at h2;injection h2
         obtain ⟨bT,ebT,hbT,hcT⟩:=own_at HDc.out.own hqj;rw [hTq] at hcT;subst ebT;obtain ⟨TL,hTL2⟩:∃TL,TL=(Fj.map Prod.fst).length:=⟨_,rfl⟩;have hqTL:(q:Int)<(TL:Int):=by omega
         rw [←hTL2] at HDc HNc⊢;have HGB2:=HGB.out;have rT:∀W,Chg (fun b=>b=go) wc W→W.cell? ⟨bT,q,none⟩=some (.int .i64 x):=fun W h=>h.cellk hcT (by show ¬ (bT=go);omega)
         have rL:∀W,Chg (fun b=>b=go) wc W→W.cell? ⟨bl,offl+j,none⟩=some (.int .i64 y):=fun W h=>h.cellk HCB.out (by have:=HBL.out;show ¬ (bl=go);omega)
         have hxk:x<(k:Int):=by have:=HX0.out;have:=HN.out;omega
         have hx00:(0:Int)≤x:=HX0.out.1;have hwd:IntKind.i64.wrap (d+1)=d+1:=by rw [IntKind.wrap_i64];have:=HD0.out;omega
         have HNE:Hid (x.toNat≠y.toNat):=fun e=>by
          have:x=y:=by omega
          rw [this,HYL.out] at HXE
          cases HXE.out
         clear hcb hbT hcT hTq hqj hTL2 hb hx';go_upto_region 18 with fail;refine wp_region_held_drew (S:=(fun W=>W.cell? ⟨go,x.toNat,none⟩=some (.int .i64 d)∧Chg (fun b=>b=go) wc W)) zS (⟨(Ext.refl wc).drew.cell HXC.out,Chg.of_ext (Ext.refl wc).drew⟩) (fun zH=>?_);have hHd:Ext wc wc.drew:=(Ext.refl wc).drew;generalize wc.drew=wd at zH hHd⊢;refine rtT 0 zH ?_;simp only [za,Act.put];refine rtT 1 zH ?_;simp only [za,Act.put];refine rtT 2 zH ?_;simp only [za,Act.put];refine rtT 3 zH ?_;simp only [za,Act.put];refine rtT 4 zH ?_;simp only [za,Act.put];refine rtT 5 zH ?_;simp only [za,Act.put];refine rtT 6 zH ?_;simp only [za,Act.put];refine rtT 7 zH ?_;simp only [za,Act.put];refine rtT 8 zH ?_;simp only [za,Act.put];refine rtT 9 zH ?_;simp only [za,Act.put];refine rtT 10 zH ?_;simp only [za,Act.put];refine rtT 11 zH ?_;simp only [za,Act.put];refine rtT 12 zH ?_;simp only [za,Act.put];refine rtT 13 zH ?_;simp only [za,Act.put];refine rtR 14 (fun K hK=>?_);obtain ⟨hco,hfo⟩:=(HDc.out.more hHd).cell HYN.out;go_simp;clear hco hfo;refine hK.out _ _ (⟨hHd.cell_other HXC.out HNE.out,Chg.set (Chg.of_ext (X:=fun b=>b=go) hHd) go y.toNat (.int .i64 (d+1)) rfl⟩) (fun zH=>?_);clear hK K;try simp only [za,Act.put]
         refine wpAnyH_done (by kernel_rfl) ?_ _;have HDw:=zh (HDc.out.more hHd);have HNw:=zh (HNc.out.more hHd);clear HDc HNc;obtain ⟨hco,hfo⟩:=HDw.out.cell HYN.out;have HD2:=zh (HDw.out.put (x:=y) (d:=d+1) hy0 (by have:=HYI.out;omega) HYL.out);have HN2:=zh (HNw.out.put (zb4 wd go y.toNat (.int .i64 (d+1))) HGB.out);have rl2:(wd.setCell ⟨go,y.toNat,none⟩ (.int .i64 (d+1))).cell? ⟨bl,offl+j,none⟩=some (.int .i64 y):=(Chg.set (Chg.of_ext (X:=fun b=>b=go) hHd) go y.toNat (.int .i64 (d+1)) rfl).cellk HCB.out (by have:=HBL.out;have:=HGB.out;show ¬ (bl=go);omega);generalize wd.setCell ⟨go,y.toNat,none⟩ (.int .i64 (d+1))=w5 at HD2 HN2 rl2⊢;obtain ⟨T,hT⟩:∃T:List Int,T=Fj.map Prod.fst:=⟨_,rfl⟩;rw [←hT] at HD2;have HTE:=zh hT;have hT300:T.length≤300:=by rw [hT,List.length_map];exact HF3.out
         have hgb:=HD2.out.bound;clear hT hco hfo
         go_wp2_with (at_builtin;refine zan rfl _ _ rfl _ T y (go+1) w5.heap.size 1 _ rfl rfl (HD2.out.own.alloc _) ?d1 ?d2 ?d3 ?_)
         (try case d1=>exact zm _ _ _ (by simp))
         (try case d2=>(first | (simp;done) | (simp;omega) | omega))
         (try case d3=>omega)
         intro v' wb hob hgb2 hbl;have HD3:=zh ((HD2.out.more ((Ext.refl _).alloc _)).app hob hgb2);have HN3:=zh ((HN2.out.more ((Ext.refl w5).alloc (.cells #[.int .i64 y] 3))).app hgb2 (by (show _∨_);rw [World.size_alloc];exact hbl.out));clear hob hgb2 hbl rl2;go_wp2;go_roundw
         case rel=>exact ⟨j+1,by omega,by go_num,by rw [HSU.out,HADD.out,List.map_append,←HTE.out];exact HD3,HN3⟩
         case measure=>simp [intOf];omega
      ·obtain rfl:j=L.length:=by omega
       rw [List.take_length] at hDj;have hfq':Hid (farQ m t fixed=bfs m fr (k+1 - (q+1)) (q+1) (zp fr (d+1) L F)):=by (show _=_);rw [hfq.out,HBN.out]
       have HLEN:Hid (q+1≤(zp fr (d+1) L F).length):=by
        (show _≤_)
        obtain ⟨G',h1,-,-,-⟩:=zI fr (d+1) L F;rw [h1,List.length_append];omega
       clear hx
       go_wp2_with fail
       go_roundw
       case rel=>exact ⟨q+1,_,by go_num,HLEN.out,HSTEP.out,hDj.out,hfq'.out⟩
       case measure=>simp [intOf];omega
    ·have hqe:q=F.length:=by omega
     have HEND:Hid (farQ m t fixed=F):=by (show _=_);rw [hfq.out,hqe];exact bfs_end _
     have HROW:Hid (wk.rowIs go 3 k (dF F)):=hD.out.row.congr fun j hj=>by unfold dK;rw [if_pos hj]
     have hge:¬ ((q:Int)<(T.length:Int)):=by omega
     have hge2:decide (q<T.length)=false:=decide_eq_false hlt;subst hv;clear hqe hTl hT
     go_wp2_with fail
     go_ret;refine ⟨go,rfl,HW1.out.trans hx,by rw [HGO.out];exact HW1.out.size,?_⟩;rw [HEND.out];exact HROW.out
end Go.Proofs.YthbjngbhbbkkgaaGreat
