/- RtVc RtWd RtVg RtLh -/
import Derived.Test.YthbjngbhbbkkgaaGreatHUzc
import Derived.Test.YthbjngbhbbkkgaaGreatHUze
set_option linter.unusedVariables false
set_option linter.unusedSimpArgs false
set_option maxRecDepth 100000
set_option maxHeartbeats 16000000
namespace Go.Proofs.YthbjngbhbbkkgaaGreat
open Go.RowKit
def crossK (ps:List (List Int)) (p:List Int) (k:Nat):Bool:=(ps.getD k []).any fun n=>decide (n∈p)
def crossP (ps:List (List Int)) (p:List Int):List Int:=((List.range ps.length).filter (crossK ps p)).map Int.ofNat
end Go.Proofs.YthbjngbhbbkkgaaGreat
namespace Go.Proofs.YthbjngbhbbkkgaaGreat
open Go.RowKit
attribute [local go_sem ↓] Go.wp_at_zero Go.wp_at_succ
def selL (f:Nat→Bool) (k:Nat):List Int:=((List.range k).filter f).map Int.ofNat
theorem selL_t {f:Nat→Bool} {k:Nat} (h:f k=true):selL f (k+1)=selL f k++[(k:Int)]:=by
 unfold selL;rw [List.range_succ,List.filter_append,List.filter_cons_of_pos h,List.map_append];rfl
theorem selL_f {f:Nat→Bool} {k:Nat} (h:f k=false):selL f (k+1)=selL f k:=by
 unfold selL;rw [List.range_succ,List.filter_append,List.filter_cons_of_neg (by simp [h])];simp
theorem selL_len (f:Nat→Bool) (k:Nat):(selL f k).length≤k:=by
 unfold selL;rw [List.length_map];exact Nat.le_trans (List.length_filter_le _ _) (by simp)
theorem crossed1_calls {ok:Nat→Prop} {v:Value} {p:List Int} {gp:Nat} (x:Int) (w:World) (hc:w.cell? ⟨gp,0,none⟩=some v) (hp:zf w ok v p) (hl:p.length≤20000000000000):
  Calls Tryz.prog 55 #[.int .i64 x,.pointer (some ⟨gp,0,none⟩)] w fun e w'=>e=.returned (.bool (decide (x∈p)))∧zG w w':=by
 have HP:=zh hp;clear hp
 go_enter Tryz.func55,Tryz.ntmps55
 go_wp2_with fail
 refine (zv x w HP.out hl).mono ?_;rintro e w8 ⟨rfl,rfl⟩;go_wp2;go_ret;exact ⟨rfl,zG.refl _⟩
theorem crossed_calls {ok ok':Nat→Prop} {v vp:Value} {ps:List (List Int)} {p:List Int} (w:World) (h:zo w ok v ps) (hl:ps.length≤1000000000000) (hx:∀x∈ps,x.length≤20000000000000) (hp:zf w ok' vp p) (hpl:p.length≤20000000000000):
  Calls Tryz.prog 20 #[v,vp] w fun e w'=>∃v',e=.returned v'∧Mk w w' v' (crossP ps p):=by
 obtain ⟨vs,⟨A,c,rfl,hc,hr⟩,he⟩:=h;have HR:=zh hr;have HE:=zh he;have HP:=zh hp;obtain ⟨Ap,cp,rfl,-⟩:=hp;have HX:=zh hx;clear hr he hx;have hmk:∀(fn:Fn) (first cap:Array Value) (w:World),(Instr.makeFunc fn first cap).run Tryz.prog w=.ok (.func fn first cap) w:=fun _ _ _ _=>rfl
 go_enter Tryz.func20,Tryz.ntmps20
 go_wp2_with fail
 obtain ⟨hb1,q0⟩:=box1 w (.slice Ap p.length cp) 23;generalize w.alloc (.cells #[.slice Ap p.length cp] 23)=w1 at hb1 q0⊢;obtain ⟨gp,hgp⟩:∃gp,gp=w.heap.size:=⟨_,rfl⟩;rw [←hgp] at q0⊢;clear hgp;have hM0:=zh (Mk.nil w1);go_loopw [5,10] (fun v i wr=>∃k:Nat,k≤ps.length∧i=.int .i64 (k:Nat)∧Hid (Mk w1 wr v (selL (crossK ps p) k))) (fun _ i _=>ps.length - (intOf i).toNat)
 case atStart=>exact ⟨0,Nat.zero_le _,rfl,hM0⟩
 clear hM0
 case round=>
  obtain ⟨k,hk,rfl,hM⟩:=hrel;have hx:Ext w1 wr:=hM.out.ext;obtain ⟨wk,rfl⟩:∃wk:World,wk=wr:=⟨_,rfl⟩;by_cases hlt:k<ps.length
  ·obtain ⟨b,off,u,rfl,_,hcell,hu⟩:=zP HR.out HE.out hlt hlt;have rc:=Ext.rule hcell;have hcell:wk.cell? ⟨b,off+k,none⟩=some u:=(hb1.trans hx).cell hcell;have hul:=HX.out _ (List.getElem_mem hlt);have hkx:crossK ps p k=(ps[k]).any fun n=>decide (n∈p):=by unfold crossK;rw [List.getD_eq_getElem?_getD,List.getElem?_eq_getElem hlt];rfl
   obtain ⟨q,hq⟩:∃q,q=ps[k]:=⟨_,rfl⟩;rw [←hq] at hu hul hkx;clear hq;have HU:=zh (zf.below hu (hb1.trans hx));clear hu;have HKX:=zh hkx;clear hkx;have HQ0:Hid (∀W,Ext wk W→W.cell? ⟨gp,0,none⟩=some (.slice Ap p.length cp)):=fun W hW=>q0 W (hx.trans hW)
   have HP2:=zh (HP.out.below (hb1.trans hx));clear rc
   go_wp2_with fail
   refine (za0 55 #[.pointer (some ⟨gp,0,none⟩)] (fun n=>decide (n∈p)) wk HU.out hul (zad (P:=Tryz.prog) Tryz.func55 (by kernel_rfl) (by kernel_rfl)) (fun x _ w2 hw2=>crossed1_calls x w2 (HQ0.out w2 hw2.ext) (HP2.out.below hw2.ext) hpl)).mono ?_;rintro e w9 ⟨rfl,hd9⟩;have hM9:=zh (hM.out.more hd9.ext);have hx9:=hM9.out.ext;rw [←HKX.out];have hln:=selL_len (crossK ps p) k
   cases hb:crossK ps p k with
   | true=>
    have HS:=zh (selL_t hb);clear hb;obtain ⟨l,hle⟩:∃l,l=selL (crossK ps p) k:=⟨_,rfl⟩;rw [←hle] at hM9 hln HS;clear hle
    go_wp2_with (at_builtin;refine zan rfl _ _ rfl _ l (k:Int) w1.heap.size w9.heap.size 1 _ rfl rfl (hM9.out.own.alloc _) ?d1 ?d2 ?d3 ?_)
    (try case d1=>exact zm _ _ _ (by simp))
    case d2=>(first | (simp;done) | (have:=hx9.size;simp;omega) | (have:=hx9.size;omega))
    case d3=>omega
    intro v' wb hob hgb hbl;have hM':=zh ((hM9.out.alloc _).app hob hgb);clear hob hgb hbl;go_wp2;go_roundw
    case rel=>exact ⟨k+1,by omega,by go_num,by rw [HS.out];exact hM'⟩
    case measure=>simp [intOf];omega
   | false=>
    have HS:=zh (selL_f hb);clear hb;go_wp2;go_roundw
    case rel=>exact ⟨k+1,by omega,by go_num,by rw [HS.out];exact hM9⟩
    case measure=>simp [intOf];omega
  ·obtain rfl:k=ps.length:=by omega
   go_wp2;go_ret;exact ⟨_,rfl,hb1.mono_mk hM.out⟩
end Go.Proofs.YthbjngbhbbkkgaaGreat
namespace Go.Proofs.YthbjngbhbbkkgaaGreat
open Go.RowKit
def begP (m:MZ) (t:Nat) (ps:List (List Int)):List Int:=(m.tasks.getD t ([],[])).1.filter fun n=>ze m t n && !decide (n∈ps.flatten)
theorem mem_dom {F:List (Int×Int)} {x:Int}:F.lookup x≠none↔∃q∈F,q.1=x:=by
 rw [Ne,zcw];constructor
 ·intro h;apply Decidable.byContradiction;intro h2;exact h fun p hp e=>h2 ⟨p,hp,e⟩
 ·rintro ⟨q,hq,e⟩ h;exact h q hq e
theorem path_some {m:MZ} {t:Nat} {ps:List (List Int)} (hc:chk m=0) (ht:t<m.tasks.length) {x:Int} (hx:x∈zaA m t (begP m t ps) ps.flatten) (hto:x∈(m.tasks.getD t ([],[])).2):∃p,za9 m t ps=some p:=by
 have g:=zx.of hc;have d:=g.dim;have hF:=farP_fi (fixed:=ps) g ht;have hrp:=(zaP d).1 hx;have hfr:∀y,frP m t ps y=(ze m t y && !decide (y∈ps.flatten)):=fun _=>rfl
 have key:(0≤x∧x<m.n)∧frP m t ps x=true∧((farP m t ps).lookup x≠none→∃y∈(m.tasks.getD t ([],[])).1,(farP m t ps).lookup y≠none):=by
  refine hrp (fun z=>(0≤z∧z<m.n)∧frP m t ps z=true∧((farP m t ps).lookup z≠none→∃y∈(m.tasks.getD t ([],[])).1,(farP m t ps).lookup y≠none)) (fun y hy h0 h1=>?_) (fun y z hy hz hf hu=>?_)
  ·obtain ⟨h2,h3⟩:=List.mem_filter.1 hy;exact ⟨⟨h0,h1⟩,h3,fun h=>⟨y,h2,h⟩⟩
  ·obtain ⟨⟨h0,h1⟩,h2,h3⟩:=hy;have hr:=zab d h0 h1 hz;refine ⟨hr,by rw [hfr,hf,decide_eq_false hu];rfl,fun h=>h3 ?_⟩;obtain ⟨q,hq,e⟩:=mem_dom.1 h;obtain ⟨i,hi,e2⟩:=List.getElem_of_mem hq;obtain ⟨q2,hq2,e3,-⟩:=hF.cl i hi q (by rw [List.getElem?_eq_getElem hi,e2]) y (by rw [e];exact nextL_symm d h0 h1 hz) h2;exact mem_dom.2 ⟨q2,hq2,e3⟩
 obtain ⟨y,hy,hy2⟩:=key.2.2 (mem_dom.2 ⟨_,hF.ini x hto key.2.1,rfl⟩);unfold za9;rw [if_pos (zaf.2 ⟨hc,by omega,by omega⟩),Int.toNat_natCast];unfold zb9
 cases hb:zaS (farP m t ps) (m.tasks.getD t ([],[])).1 none with
 | none=>exact absurd ((bestL_none hb).2 y hy) hy2
 | some b=>exact ⟨_,rfl⟩
theorem path_reach {m:MZ} {t:Nat} {ps:List (List Int)} {p:List Int} (hp:za9 m t ps=some p):∃x∈zaA m t (begP m t ps) ps.flatten,x∈(m.tasks.getD t ([],[])).2:=by
 obtain ⟨hc,⟨h0,h1⟩,hI⟩:=pathP_ok hp;rw [Int.toNat_natCast] at hI;have d:=(zx.of hc).dim;have hpos:0<p.length:=List.length_pos_iff.2 hI.ne
 have hall:∀i (hi:i<p.length),RP m t (begP m t ps) ps.flatten p[i]:=by
  intro i
  induction i with
  | zero=>
   intro hi;have e:p.getD 0 0=p[0]:=by rw [List.getD_eq_getElem?_getD,List.getElem?_eq_getElem hi];rfl
   have hm:=List.getElem_mem hi;have h2:=hI.hd;rw [e] at h2;have h3:=hI.fr _ hm;exact RP.base (List.mem_filter.2 ⟨h2,by rw [h3.1,decide_eq_false h3.2];rfl⟩) (hI.rg _ hm).1 (hI.rg _ hm).2
  | succ i ih=>
   intro hi;have hm:=List.getElem_mem hi;have h3:=hI.fr _ hm;exact (ih (by omega)).step (hI.ch i _ _ (List.getElem?_eq_getElem (by omega)) (List.getElem?_eq_getElem hi)) h3.1 h3.2
 refine ⟨p[p.length - 1],(zaP d).2 (hall _ (by omega)),?_⟩;have h2:=hI.lt;have e:p.getD (p.length - 1) 0=p[p.length - 1]:=by rw [List.getD_eq_getElem?_getD,List.getElem?_eq_getElem (by omega),Option.getD_some]
 rw [e] at h2;exact h2
theorem path_cross {m:MZ} {t:Nat} {ps:List (List Int)} {p:List Int} (h:PathI m t ps p):crossP ps p=[]:=by
 unfold crossP;rw [List.map_eq_nil_iff,List.filter_eq_nil_iff];intro k hk hc;unfold crossK at hc;obtain ⟨x,hx,hx2⟩:=List.any_eq_true.1 hc;exact (h.fr x (of_decide_eq_true hx2)).2 (za2.2 ⟨k,hx⟩)
theorem own_right {m:MZ} {t:Nat} {p:List Int} (hc:chk m=0) (ht:t<m.tasks.length) (h:PathT m t p) (hn:p.Nodup):zZ (ownM m t) [p]=true:=by
 refine zbc.2 ⟨zbk (ownM_good (zx.of hc) ht),by simp [ownM],fun j hj=>?_,fun i=>?_,fun i j x hi hj=>?_⟩
 ·have:j=0:=by simpa using hj
  subst this;exact h.congr rfl rfl rfl rfl rfl rfl
 ·cases i with
  | zero=>simpa using hn
  | succ i=>simp
 ·cases i with
  | zero=>cases j with
   | zero=>rfl
   | succ j=>simp at hj
  | succ i=>simp at hi
end Go.Proofs.YthbjngbhbbkkgaaGreat
namespace Go.Proofs.YthbjngbhbbkkgaaGreat
open Go.ChangeShapes Go.WideShapes Go.ChangeAt Go.RowKit
attribute [local go_sem ↓] Go.wp_at_zero Go.wp_at_succ
theorem nextO_inG {m:MZ} (g:zx m) {x:Int} (h0:0≤x) (h1:x<m.n):zap m x=zi m x:=by
 unfold zap;rw [if_pos ⟨zbk g,h0,h1⟩]
theorem reachL_leN (m:MZ) (t:Nat) (f us:List Int):(zaA m t f us).length≤m.n.toNat:=by
 unfold zaA;exact Nat.le_trans (List.length_filter_le _ _) (by simp)
theorem short_can {m:MZ} {t:Nat} {ps:List (List Int)} (hc:chk m=0) (ht:t<m.tasks.length):((zaA m t (begP m t ps) ps.flatten).any fun x=>decide (x∈(m.tasks.getD t ([],[])).2))=(za9 m t ps).isSome:=by
 rw [Bool.eq_iff_iff,List.any_eq_true,Option.isSome_iff_exists];constructor
 ·rintro ⟨x,hx,hto⟩;exact path_some hc ht hx (of_decide_eq_true hto)
 ·rintro ⟨p,hp⟩;obtain ⟨x,hx,hto⟩:=path_reach hp;exact ⟨x,hx,decide_eq_true hto⟩
theorem flat_len:∀(l:List (List Int)) (N:Nat),(∀x∈l,x.length≤N)→l.flatten.length≤l.length*N
 | [],N,_=>by simp
 | x :: l,N,h=>by
  have h1:=flat_len l N (fun y hy=>h y (List.mem_cons_of_mem _ hy));have h2:=h x (List.mem_cons_self ..);rw [List.flatten_cons,List.length_append,List.length_cons,Nat.succ_mul];omega
theorem take_filter {PR:Int→Bool} {l:List Int} {k:Nat} (hk:k<l.length):(l.take (k+1)).filter PR=(l.take k).filter PR++[l[k]].filter PR:=by
 rw [List.take_succ_eq_append_getElem hk,List.filter_append]
theorem take_any {PR:Int→Bool} {l:List Int} {k:Nat} (hk:k<l.length):(l.take (k+1)).any PR=((l.take k).any PR || PR l[k]):=by
 rw [List.take_succ_eq_append_getElem hk,List.any_append];simp
theorem short_calls {ok1 ok2:Nat→Prop} {vm vl:Value} {ls:List (List Int)} {l:List Int} {tk:Nat} (o0 o1 o2:Int) (w:World) (hm:zo w ok1 vm ls) (hll:ls.length≤9223372036854775807) (hlx:∀x∈ls,x.length≤9223372036854775807) (hl:zf w ok2 vl l) (hl2:l.length≤9223372036854775807) (htk:tk<256):
  Calls Tryz.prog 5 #[.agg #[vm,vl,.int .i64 o0,.int .i64 o1,.int .i64 o2,.int .u8 tk]] w fun e w'=>e=.returned (.bool true)∧Ext w w':=by
 have HLS:=zh hm;have HLI:=zh hl;have HLX:=zh hlx;obtain ⟨_,⟨A,c,rfl,-,-⟩,-⟩:=hm;obtain ⟨A2,c2,rfl,-,-⟩:=hl;clear hlx
 go_enter Tryz.func5,Tryz.ntmps5
 go_wp2_with fail
 generalize hwa:w.alloc (.cells #[.slice A ls.length c,.slice A2 l.length c2,.int .i64 o0,.int .i64 o1,.int .i64 o2,.int .u8 tk] 26)=wa;have hEa:Ext w wa:=by rw [←hwa];exact (Ext.refl _).alloc _
 have hBa:Blk wa w.heap.size 26 #[.slice A ls.length c,.slice A2 l.length c2,.int .i64 o0,.int .i64 o1,.int .i64 o2,.int .u8 tk]:=by rw [←hwa];exact Blk.new _ _ _ rfl
 clear hwa;have r0:∀W,Ext wa W→W.cell? ⟨w.heap.size,0,none⟩=some (.slice A ls.length c):=Ext.rule (hBa.cell (k:=0) rfl);have r1:∀W,Ext wa W→W.cell? ⟨w.heap.size,1,none⟩=some (.slice A2 l.length c2):=Ext.rule (hBa.cell (k:=1) rfl);have r2:∀W,Ext wa W→W.cell? ⟨w.heap.size,2,none⟩=some (.int .i64 o0):=Ext.rule (hBa.cell (k:=2) rfl);have r3:∀W,Ext wa W→W.cell? ⟨w.heap.size,3,none⟩=some (.int .i64 o1):=Ext.rule (hBa.cell (k:=3) rfl);have r4:∀W,Ext wa W→W.cell? ⟨w.heap.size,4,none⟩=some (.int .i64 o2):=Ext.rule (hBa.cell (k:=4) rfl);have r5:∀W,Ext wa W→W.cell? ⟨w.heap.size,5,none⟩=some (.int .u8 tk):=Ext.rule (hBa.cell (k:=5) rfl);clear hBa;refine (zc0 wa).mono ?_;rintro e w1 ⟨rfl,hE1⟩;have hx1:Ext wa w1:=hE1
 go_wp2_with fail
 refine (kmade_calls w1 (HLS.out.below (hEa.trans hx1)) hll HLX.out (HLI.out.below (hEa.trans hx1)) hl2 htk).mono ?_;rintro e w2 ⟨vz,vp,z,ps,t,rfl,hE2,hz,hMM,hps,hlaid,htl,hpt⟩;obtain ⟨Af,cf,Au,cu,At,ct,rfl,hfr,hup,hts⟩:=hz.parts;obtain ⟨_,⟨Ap,cp,rfl,-,-⟩,-⟩:=id hps;have HZ:=zh hz;have HFR:=zh hfr;have HUP:=zh hup;have HTS:=zh hts;have HMM:=zh hMM;have HPS:=zh hps;have HLD:=zh hlaid;have HTL:=zh htl;have HEW:=zh ((hEa.trans hx1).trans hE2);have HC:Hid (chk z=0):=(zC.1 hlaid).1;have G:=zh hMM.good;clear hfr hup hts hz hMM hps hlaid hpt hx1 hE1 hEa hE2 r0 r1 r2 r3 r4 r5 hll hl2 htk
 have hps6:ps.length≤6:=by
  have h1:=(zC.1 HLD.out).2.1;have h2:=HMM.out.tk.2;omega
 have HP6:=zh hps6;have HLN:Hid (∀x∈ps,x.length≤300):=zbL HLD.out
 have HFL:Hid (ps.flatten.length≤1800):=by
  (show _≤_)
  have h:=flat_len ps 300 HLN.out;omega
 clear hps6;go_upto_region 3 with fail;obtain ⟨hb3,q0,q1,q2,q3,q4,q5⟩:=box6 w2 (.int .i64 z.w) (.int .i64 z.h) (.int .i64 z.l) (.slice Af z.free.length cf) (.slice Au z.up.length cu) (.slice At z.tasks.length ct);generalize w2.alloc (.cells #[.int .i64 z.w,.int .i64 z.h,.int .i64 z.l,.slice Af z.free.length cf,.slice Au z.up.length cu,.slice At z.tasks.length ct] 32)=w3 at hb3 q0 q1 q2 q3 q4 q5⊢;obtain ⟨gm,hgm⟩:∃g,g=w2.heap.size:=⟨_,rfl⟩;rw [←hgm] at q0 q1 q2 q3 q4 q5⊢;clear hgm;have HW3:Hid (Ext w w3):=HEW.out.trans hb3;have HZ3:=zh (HZ.out.below hb3);have HFR3:=zh (HFR.out.below hb3);have HUP3:=zh (HUP.out.below hb3);have HTS3:=zh (HTS.out.below hb3);have HPS3:=zh (HPS.out.below hb3);clear hb3 HZ HFR HUP HTS HPS HEW;have hct:z.tasks.length≤ct:=by obtain ⟨_,⟨_,_,e,h,-⟩,-⟩:=HTS3.out;injection e with e1 e2 e3;subst e3;exact h
 have hcf:z.free.length≤cf:=by obtain ⟨_,⟨_,_,e,h,-⟩,-⟩:=HFR3.out;injection e with e1 e2 e3;subst e3;exact h
 have HCT:Hid (z.tasks.length≤ct∧z.free.length≤cf):=⟨hct,hcf⟩;clear hct hcf;obtain ⟨bt,offt,sn,u1,u2,rfl,-,-,htc1,htc2,hi1,hi2⟩:=zam HTS3.out HTL.out;have rt1:=Ext.rule htc1;have rt2:=Ext.rule htc2;have htf:t<z.free.length:=by rw [G.out.fl];exact htl
 obtain ⟨_,⟨_,_,eq1,-,hrf⟩,hef⟩:=HFR3.out;injection eq1 with eq1 eqn eqc;subst eq1;clear eqn eqc;obtain ⟨bf,offf,uf,rfl,-,hcf1,hbf⟩:=zP hrf hef htf htf;have rf1:=Ext.rule hcf1;obtain ⟨Afl,cfl,rfl,-,hrfl⟩:=hbf;have HRFL:=zh hrfl;have HTF:=zh htf;have hfln:=G.out.fn _ (List.getElem_mem htf)
 have HFA:Hid (∀x:Nat,(hx:x<(z.free[t]).length)→(z.free[t])[x]=ze z t (x:Int)):=fun x hx=>by
  have e1:z.free.getD t []=z.free[t]:=by rw [List.getD_eq_getElem?_getD,List.getElem?_eq_getElem htf];rfl
  unfold ze;rw [e1];simp [List.getElem?_eq_getElem hx]
 generalize hfl9:z.free[t]'htf=fl at rf1 hfln HRFL HFA;have HFA2:Hid (∀x:Nat,(hx:x<fl.length)→fl[x]=ze z t (x:Int)):=HFA;have HFN:=zh hfln;clear HFA hfl9 hrf hef hcf1 hrfl hfln htc1 htc2;have hg1:(z.tasks.getD t ([],[]))=z.tasks[t]:=by rw [List.getD_eq_getElem?_getD,List.getElem?_eq_getElem htl];rfl
 have hte:=HMM.out.te _ (List.getElem_mem htl);have htn:=G.out.tn _ (List.getElem_mem htl);generalize htk9:z.tasks[t]'htl=tk9 at hi1 hi2 hte htn hg1;obtain ⟨fm,tg⟩:=tk9;dsimp only at hi1 hi2 hte htn;have HFM:Hid ((z.tasks.getD t ([],[])).1=fm):=by (show _=_);rw [hg1]
 have HTG:Hid ((z.tasks.getD t ([],[])).2=tg):=by (show _=_);rw [hg1]
 clear htk9;have HI1:=zh hi1;have HI2:=zh hi2;obtain ⟨A1,c1,rfl,-,hr1⟩:=hi1;obtain ⟨A2',c2',rfl,-,-⟩:=hi2;have HR1:=zh hr1;have HTE:Hid (fm.length≤2∧tg.length≤2∧∀x,x∈fm∨x∈tg→0≤x∧x<z.n):=⟨hte.2.1,hte.2.2,htn⟩;have htlI:(t:Int)<(z.tasks.length:Int):=by omega
 have htfI:(t:Int)<(z.free.length:Int):=by omega
 have htI0:(0:Int)≤(t:Int):=by omega
 clear hr1 hg1 hte htn htl htf;have HU0:=zh (Mk.nil w3);have HLP:Hid (ps.take ps.length=ps):=List.take_length
 go_wp2_with fail
 go_loopw [7,30] (fun v i wr=>∃k:Nat,k≤ps.length∧i=.int .i64 (k:Nat)∧Hid (Mk w3 wr v (ps.take k).flatten)) (fun _ i _=>ps.length - (intOf i).toNat)
 case atStart=>exact ⟨0,Nat.zero_le _,rfl,HU0.out⟩
 clear HU0
 case round=>
  obtain ⟨k,hk,rfl,hM⟩:=hrel;obtain ⟨wk,rfl⟩:∃wk:World,wk=wr:=⟨_,rfl⟩;have hx:Ext w3 wk:=hM.out.ext;by_cases hlt:k<ps.length
  ·have hltI:(k:Int)<(ps.length:Int):=by omega
   have hp6:=HP6.out;have hkI0:(0:Int)≤(k:Int):=by omega
   obtain ⟨_,⟨_,_,eq1,-,hrp⟩,hep⟩:=HPS3.out;injection eq1 with eq1 eqn eqc;subst eq1;clear eqn eqc;obtain ⟨bp,offp,up,rfl,-,hcp0,hup⟩:=zP hrp hep hlt hlt;have hpx:=HLN.out _ (List.getElem_mem hlt);have HS:Hid ((ps.take (k+1)).flatten=(ps.take k).flatten++ps[k]):=by (show _=_);rw [List.take_succ_eq_append_getElem hlt,List.flatten_append];simp
   have hul:=flat_len (ps.take k) 300 (fun x hx=>HLN.out x (List.mem_of_mem_take hx));have hkl:(ps.take k).length≤6:=by have:=HP6.out;rw [List.length_take];omega
   obtain ⟨x,hxx⟩:∃x,x=ps[k]:=⟨_,rfl⟩;rw [←hxx] at hup hpx HS;obtain ⟨us,hus⟩:∃us,us=(ps.take k).flatten:=⟨_,rfl⟩;rw [←hus] at hM HS hul;have HUX:=zh hup;obtain ⟨Ax,cx,rfl,-,-⟩:=hup;have rp:=Ext.rule hcp0;clear hrp hep hcp0 hxx hus;have hull:us.length≤1800:=by omega
   clear hul hkl
   go_wp2_with (at_builtin;refine zaC (ok:=fun b=>w2.heap.size≤b∨True) rfl _ _ _ rfl w3.heap.size us x _ _ rfl rfl hM.out.own ((HUX.out.below hx).weaken fun _ _=>.inr trivial) ?d1 ?d2 ?_)
   case d1=>exact hx.size
   case d2=>omega
   intro v' w9 ho hg hv;have HM9:=zh (hM.out.app ho hg);clear ho hg hv
   go_wp2_with fail
   go_roundw
   case rel=>exact ⟨k+1,hlt,by go_num,by rw [HS.out];exact HM9⟩
   case measure=>simp [intOf];omega
  ·obtain rfl:k=ps.length:=by omega
   rw [HLP.out] at hM;have HUS:=zh hM.out.ints;obtain ⟨Au2,cu2,rfl,-⟩:=hM.out.slice;have HX:=zh hx;have HUL:=HFL;obtain ⟨us,hus⟩:∃us,us=ps.flatten:=⟨_,rfl⟩;rw [←hus] at HUS HUL⊢;have HUSE:=zh hus;obtain ⟨PR,hPR⟩:∃PR:Int→Bool,PR=fun n=>ze z t n && !decide (n∈us):=⟨_,rfl⟩
   have HPR:=zh hPR;have HM0:=zh (Mk.nil wk);have hfl2:fm.length≤2:=HTE.out.1;clear hM hus hPR hlt hk
   go_wp2_with fail
   go_loopw [8,45] (fun v i wr=>∃k:Nat,k≤fm.length∧i=.int .i64 (k:Nat)∧Hid (Mk wk wr v ((fm.take k).filter PR))) (fun _ i _=>fm.length - (intOf i).toNat)
   case atStart=>exact ⟨0,Nat.zero_le _,rfl,HM0.out⟩
   clear HM0 hx
   case round=>
    obtain ⟨k,hk,rfl,hM⟩:=hrel;obtain ⟨wj,rfl⟩:∃wj:World,wj=wr:=⟨_,rfl⟩;have hx:Ext w3 wj:=HX.out.trans hM.out.ext;by_cases hlt:k<fm.length
    ·have hltI:(k:Int)<(fm.length:Int):=by omega
     have hkI0:(0:Int)≤(k:Int):=by omega
     obtain ⟨b1,off1,rfl,-,hc1⟩:=zt HR1.out hlt hlt;have hxr:=HTE.out.2.2 _ (.inl (List.getElem_mem hlt));have HS:=zh (take_filter (PR:=PR) hlt);obtain ⟨x,hxx⟩:∃x,x=fm[k]:=⟨_,rfl⟩;rw [←hxx] at hc1 hxr HS;clear hxx;obtain ⟨xn,rfl⟩:∃xn:Nat,x=xn:=⟨x.toNat,by omega⟩;have hxf:xn<fl.length:=by have:=HFN.out;omega
     have hxfI:(xn:Int)<(fl.length:Int):=by omega
     have hxf0:(0:Int)≤(xn:Int):=by omega
     obtain ⟨b4,off4,rfl,-,hc4⟩:=zbn HRFL.out hxf hxf;rw [HFA2.out xn hxf] at hc4;have rc1:=Ext.rule hc1;have rc4:=Ext.rule hc4;have HHAS:Hid (∀W,Ext wk W→Calls Tryz.prog 12 #[.slice Au2 us.length cu2,.int .i64 xn] W fun e w'=>e=.returned (.bool (decide ((xn:Int)∈us)))∧W=w'):=fun W hW=>zE _ W (HUS.out.below hW) (by have:=HUL.out;omega)
     have HPX:Hid (PR xn=(ze z t xn && !decide ((xn:Int)∈us))):=by (show _=_);rw [HPR.out]
     have hlk:((fm.take k).filter PR).length≤2:=by
      have h1:=List.length_filter_le PR (fm.take k);have h2:(fm.take k).length≤fm.length:=by rw [List.length_take];omega
      omega
     obtain ⟨lk,hlk9⟩:∃lk,lk=(fm.take k).filter PR:=⟨_,rfl⟩;rw [←hlk9] at hM HS hlk;generalize decide ((xn:Int)∈us)=d at HHAS HPX;generalize ze z t (xn:Int)=f at rc4 HPX;clear hc1 hc4 hlk9 hxr;have hxj:=hM.out.ext;cases f
     ·have HS':Hid ((fm.take (k+1)).filter PR=lk):=by (show _=_);rw [HS.out,List.filter_cons_of_neg (by rw [HPX.out];simp),List.filter_nil,List.append_nil]
      go_wp2_with fail
      go_roundw
      case rel=>exact ⟨k+1,hlt,by go_num,by rw [HS'.out];exact hM⟩
      case measure=>simp [intOf];omega
     ·go_wp2_with fail
      refine (HHAS.out _ hxj).mono ?_;rintro e w8 ⟨rfl,rfl⟩;cases d
      ·have HS':Hid ((fm.take (k+1)).filter PR=lk++[(xn:Int)]):=by (show _=_);rw [HS.out,List.filter_cons_of_pos (by rw [HPX.out];simp),List.filter_nil]
       have hxs:=hxj.size
       go_wp2_with (at_builtin;refine zan rfl _ _ rfl _ lk xn wk.heap.size wj.heap.size 1 _ rfl rfl (hM.out.own.alloc _) ?d1 ?d2 ?d3 ?_)
       (try case d1=>exact zm _ _ _ (by simp))
       (try case d2=>(first | (simp;done) | (simp;omega) | omega))
       (try case d3=>omega)
       intro v' wb hob hgb hbl;have hM':=zh ((hM.out.alloc _).app hob hgb);clear hob hgb hbl
       go_wp2_with fail
       go_roundw
       case rel=>exact ⟨k+1,hlt,by go_num,by rw [HS'.out];exact hM'⟩
       case measure=>simp [intOf];omega
      ·have HS':Hid ((fm.take (k+1)).filter PR=lk):=by (show _=_);rw [HS.out,List.filter_cons_of_neg (by rw [HPX.out];simp),List.filter_nil,List.append_nil]
       go_wp2_with fail
       go_roundw
       case rel=>exact ⟨k+1,hlt,by go_num,by rw [HS'.out];exact hM⟩
       case measure=>simp [intOf];omega
    ·obtain rfl:k=fm.length:=by omega
     have HB:Hid (begP z t ps=fm.filter PR):=by
      (show _=_)
      unfold begP;rw [HFM.out,HPR.out,HUSE.out]
     have hM2:=hM;rw [List.take_length] at hM2;have hfl3:(fm.filter PR).length≤2:=Nat.le_trans (List.length_filter_le _ _) hfl2;have hrc:=rReach_calls (t:Int) wj (HZ3.out.below hx) HMM.out.lens hM2.out.ints (by omega) (HUS.out.below hM.out.ext) (by have:=HUL.out;omega)
     have hro:zcr z (t:Int) (fm.filter PR) us=zaA z t (begP z t ps) ps.flatten:=by
      unfold zcr;rw [if_pos ⟨HC.out,htI0,by have:=HTL.out;omega⟩,Int.toNat_natCast,HB.out,HUSE.out]
     rw [hro] at hrc;have hcan:=short_can (ps:=ps) HC.out HTL.out;rw [HTG.out] at hcan;have hrl:=reachL_leN z t (begP z t ps) ps.flatten;have hn16:=HMM.out.n.2;obtain ⟨L,hL⟩:∃L,L=zaA z t (begP z t ps) ps.flatten:=⟨_,rfl⟩;rw [←hL] at hrc hcan hrl;have HRC:=zh hrc;have HCAN:=zh hcan;have hL16:L.length≤16:=by omega
     obtain ⟨Ab,cb,rfl,-⟩:=hM2.out.slice;clear hrc hro hcan hrl hn16 hL hM hM2 HB hlt hk hfl3
     go_wp2_with fail
     refine HRC.out.mono ?_;rintro e wr2 ⟨v2,rfl,hMr⟩;have HXr:Hid (Ext w3 wr2):=hx.trans hMr.ext;have HLI:=zh hMr.ints;obtain ⟨Al,cl,rfl,-⟩:=hMr.slice;have HLI2:=HLI.out;obtain ⟨_,_,eq1,-,hrl⟩:=HLI2;injection eq1 with eq1 eq2 eq3;subst eq1;have HRL:=zh hrl;clear hMr hx HRC hrl eq2 eq3 HX
     go_wp2_with fail
     go_loopw [13,74] (fun cv i wr=>∃k:Nat,k≤L.length∧i=.int .i64 (k:Nat)∧cv=.bool ((L.take k).any fun x=>decide (x∈tg))∧wr=wr2) (fun _ i _=>L.length - (intOf i).toNat)
     case atStart=>exact ⟨0,Nat.zero_le _,rfl,rfl,rfl⟩
     case round=>
      obtain ⟨k,hk,rfl,rfl,rfl⟩:=hrel;have hx:Ext w3 wr:=HXr.out;by_cases hlt:k<L.length
      ·have hltI:(k:Int)<(L.length:Int):=by omega
       have hkI0:(0:Int)≤(k:Int):=by omega
       obtain ⟨b1,off1,rfl,-,hc1⟩:=zt HRL.out hlt hlt;have HS:=zh (take_any (PR:=fun x=>decide (x∈tg)) hlt);obtain ⟨x,hxx⟩:∃x,x=L[k]:=⟨_,rfl⟩;rw [←hxx] at hc1 HS;clear hxx;generalize (L.take k).any (fun x=>decide (x∈tg))=b at HS⊢;have hhas:=zE x wr (HI2.out.below hx) (by have:=HTE.out.2.1;omega);generalize decide (x∈tg)=d at HS hhas;have HHAS:=zh hhas;clear hhas;cases b
       ·go_wp2_with fail
        refine HHAS.out.mono ?_;rintro e w8 ⟨rfl,rfl⟩
        go_wp2_with fail
        go_roundw
        case rel=>exact ⟨k+1,hlt,by go_num,by rw [HS.out];simp,trivial⟩
        case measure=>simp [intOf];omega
       ·go_wp2_with fail
        go_roundw
        case rel=>exact ⟨k+1,hlt,by go_num,by rw [HS.out];simp,trivial⟩
        case measure=>simp [intOf];omega
      ·obtain rfl:k=L.length:=by omega
       rw [List.take_length,HCAN.out];have HPT:=zh (zcO (t:Int) wr (HZ3.out.below hx) HMM.out.lens (HPS3.out.below hx) (by have:=HP6.out;omega) (fun x hx=>by have:=HLN.out x hx;omega));clear HRL HLI HCAN hlt hk
       cases hpp:za9 z t ps with
       | none=>
        rw [hpp] at HPT;clear hpp
        go_wp2_with fail
        refine HPT.out.mono ?_;rintro e wf ⟨vf,rfl,hMf⟩;simp only [Option.getD_none,Option.isSome_none] at hMf⊢;obtain ⟨Ag,cg,rfl,-⟩:=hMf.slice;have HXf:Hid (Ext w3 wf):=hx.trans hMf.ext;clear hMf hx HPT
        go_wp2_with fail
        go_ret;exact ⟨rfl,HW3.out.trans HXf.out⟩
       | some p=>
        obtain ⟨-,-,hPI⟩:=pathP_ok hpp;rw [Int.toNat_natCast] at hPI;have HPI:=zh hPI;rw [hpp] at HPT;have hpl:=path_len hpp;clear hpp hPI
        go_wp2_with fail
        refine HPT.out.mono ?_;rintro e wp ⟨vf,rfl,hMf⟩;simp only [Option.getD_some,Option.isSome_some] at hMf⊢;have HIP:=zh hMf.ints;obtain ⟨Ag,cg,rfl,-⟩:=hMf.slice;have hx:Ext w3 wp:=hx.trans hMf.ext;clear hMf HPT HTE HPR HUS HI1 HR1 hfl2 HFM HUL;have HNCR:Hid (crossP ps p=[]):=path_cross HPI.out;have HRB:Hid (zZ (ownM z t) [p]=true):=own_right HC.out HTL.out HPI.out.pathT HPI.out.nd;have htct:=HCT.out;have htl2:=HTL.out;have htf2:=HTF.out;have hk1:(t:Int)+1≤(ct:Int):=by omega
        have hk2:(t:Int)+1≤(cf:Int):=by omega
        have hk3:(0:Int)≤(t:Int)+1:=by omega
        have hne1:¬ ct=t:=by omega
        have hne2:¬ cf=t:=by omega
        have ht6:t<6:=by have:=G.out.tk;omega
        have hkw:IntKind.i64.wrap ((t:Int)+1)=(t:Int)+1:=by rw [IntKind.wrap_i64];omega
        clear htct htl2 htf2;go_upto_region 25 with fail;have hB0:=zh (Blk.new wp #[.int .i64 z.w,.int .i64 z.h,.int .i64 z.l,.slice (some ⟨bf,offf,none⟩) z.free.length cf,.slice Au z.up.length cu,.slice (some ⟨bt,offt,none⟩) z.tasks.length ct] 32 (g:=wp.heap.size) rfl);have hE5:Ext wp (wp.alloc (.cells #[.int .i64 z.w,.int .i64 z.h,.int .i64 z.l,.slice (some ⟨bf,offf,none⟩) z.free.length cf,.slice Au z.up.length cu,.slice (some ⟨bt,offt,none⟩) z.tasks.length ct] 32)):=(Ext.refl wp).alloc _;generalize wp.alloc (.cells #[.int .i64 z.w,.int .i64 z.h,.int .i64 z.l,.slice (some ⟨bf,offf,none⟩) z.free.length cf,.slice Au z.up.length cu,.slice (some ⟨bt,offt,none⟩) z.tasks.length ct] 32)=w5 at hB0 hE5⊢;obtain ⟨g8,hg8⟩:∃g8,g8=wp.heap.size:=⟨_,rfl⟩;rw [←hg8] at hB0⊢;have HG8:Hid (wp.heap.size≤g8):=by show _≤_;omega
        clear hg8;have HXP:=zh hx;have hxk:Ext w3 w5.drew:=(hx.trans hE5).drew;have k3:∀W,Ext wp W→W.cell? ⟨gm,3,none⟩=some (.slice (some ⟨bf,offf,none⟩) z.free.length cf):=fun W h=>q3 W (HXP.out.trans h)
        have k5:∀W,Ext wp W→W.cell? ⟨gm,5,none⟩=some (.slice (some ⟨bt,offt,none⟩) z.tasks.length ct):=fun W h=>q5 W (HXP.out.trans h)
        clear hx;refine wp_region_held_drew (S:=(fun W=>Ext wp W)) zS (hE5.drew) (fun zH=>?_);have hHd:Ext wp w5.drew:=zH;have hBd:Blk w5.drew g8 32 _:=hB0.out;generalize w5.drew=wd at zH hHd hBd hxk⊢;refine rtT 0 zH ?_;simp only [za,Act.put];refine rtT 1 zH ?_;simp only [za,Act.put];refine rtT 2 zH ?_;simp only [za,Act.put];refine rtT 3 zH ?_;simp only [za,Act.put];refine rtT 4 zH ?_;simp only [za,Act.put];refine rtT 5 zH ?_;simp only [za,Act.put];refine rtT 6 zH ?_;simp only [za,Act.put];refine rtT 7 zH ?_;simp only [za,Act.put];refine rtT 8 zH ?_;simp only [za,Act.put];refine rtT 9 zH ?_;simp only [za,Act.put];refine rtT 10 zH ?_;simp only [za,Act.put];refine rtT 11 zH ?_;simp only [za,Act.put];refine rtT 12 zH ?_;simp only [za,Act.put];refine rtR 13 (fun K hK=>?_);have hc5:=hBd.cell (k:=5) rfl;have hf5:=hBd.frozen 5;go_simp;have hB6:=hBd.set (k:=5) (.slice (some ⟨bt,offt+t*3,none⟩) 1 (ct - t));have hE6:=hHd.setCell (p:=⟨g8,5,none⟩) HG8.out (.slice (some ⟨bt,offt+t*3,none⟩) 1 (ct - t));generalize wd.setCell ⟨g8,5,none⟩ (.slice (some ⟨bt,offt+t*3,none⟩) 1 (ct - t))=we at hB6 hE6⊢;refine hK.out _ _ (hE6) (fun zH=>?_);clear hK K;try simp only [za,Act.put]
        refine rtT 14 zH ?_;simp only [za,Act.put];refine rtR 15 (fun K hK=>?_);have hc3:=hB6.cell (k:=3) rfl;have hf3:=hB6.frozen 3;go_simp;have hB7:=zh (hB6.set (k:=3) (.slice (some ⟨bf,offf+t,none⟩) 1 (cf - t)));have hE7:=zh (hE6.setCell (p:=⟨g8,3,none⟩) HG8.out (.slice (some ⟨bf,offf+t,none⟩) 1 (cf - t)));generalize we.setCell ⟨g8,3,none⟩ (.slice (some ⟨bf,offf+t,none⟩) 1 (cf - t))=wf at hB7 hE7⊢;refine hK.out _ _ (hE7.out) (fun zH=>?_);clear hK K;try simp only [za,Act.put]
        refine wpAnyH_done (by kernel_rfl) ?_ _;clear hB6 hE6 hBd hHd zH;simp only [List.setIfInBounds_toArray,List.set_cons_zero,List.set_cons_succ] at hB7;obtain ⟨m0,m1,m2,m3,m4,m5⟩:=zw hB7.out;have HX5:Hid (Ext w3 wf):=HXP.out.trans hE7.out;have n0:=Ext.rule m0;have n1:=Ext.rule m1;have n2:=Ext.rule m2;have n3:=Ext.rule m3;have n4:=Ext.rule m4;have n5:=Ext.rule m5;have c0:=fun W h=>q0 W (HX5.out.trans h)
        have c1':=fun W h=>q1 W (HX5.out.trans h)
        have c2'':=fun W h=>q2 W (HX5.out.trans h)
        have c3:=fun W h=>q3 W (HX5.out.trans h)
        have c4:=fun W h=>q4 W (HX5.out.trans h)
        have c5:=fun W h=>q5 W (HX5.out.trans h)
        have HIF:=zh (HIP.out.below hE7.out);obtain ⟨_,_,eq1,-,hrpp⟩:=HIF.out;injection eq1 with eq1 eq2 eq3;subst eq1;have HRP:=zh hrpp;have HZ5:=zh (HZ3.out.below HX5.out);clear m0 m1 m2 m3 m4 m5 q0 q1 q2 q3 q4 q5 rt1 rt2 rf1 k3 k5 hB0 hE5 hxk hB7 hE7 hrpp hk1 hk2 hk3 hne1 hne2 hkw HIP eq2 eq3;have hxf:Ext wf wf:=Ext.refl wf
        go_wp2_with fail
        clear hxf;go_loopw [134] (fun i wr=>∃k:Nat,k≤p.length∧i=.int .i64 (k:Nat)∧Hid (Ext wf wr)) (fun i _=>p.length - (intOf i).toNat)
        case atStart=>exact ⟨0,Nat.zero_le _,rfl,Ext.refl _⟩
        case round=>
         obtain ⟨k,hk,rfl,hE⟩:=hrel;obtain ⟨wk,rfl⟩:∃wk:World,wk=wr:=⟨_,rfl⟩;by_cases hlt:k<p.length
         ·have hltI:(k:Int)<(p.length:Int):=by omega
          have hkI0:(0:Int)≤(k:Int):=by omega
          have hkw2:IntKind.i64.wrap ((k:Int)+2)=(k:Int)+2:=by rw [IntKind.wrap_i64];omega
          go_wp2_with fail
          go_loopw [20] (fun i wr=>∃j:Nat,k+2≤j∧j≤p.length+1∧i=.int .i64 (j:Nat)∧Hid (Ext wf wr)) (fun i _=>p.length+1 - (intOf i).toNat)
          case atStart=>exact ⟨k+2,Nat.le_refl _,by omega,by go_num,hE.out⟩
          case round=>
           obtain ⟨j,hj1,hj2,rfl,hE2⟩:=hrel;obtain ⟨wj,rfl⟩:∃wj:World,wj=wr:=⟨_,rfl⟩;by_cases hlt2:j<p.length
           ·have hltJ:(j:Int)<(p.length:Int):=by omega
            have hjI0:(0:Int)≤(j:Int):=by omega
            obtain ⟨bp,offp,rfl,-,hcx⟩:=zt HRP.out hlt hlt;obtain ⟨_,_,eb,-,hcy⟩:=zt HRP.out hlt2 hlt2;injection eb with eb;injection eb with eb1 eb2;subst eb1 eb2;have hxr:=HPI.out.rg _ (List.getElem_mem hlt);have hnn:=HPI.out.nc k j p[k] p[j] hj1 (List.getElem?_eq_getElem hlt) (List.getElem?_eq_getElem hlt2);rw [←nextO_inG G.out hxr.1 hxr.2] at hnn;obtain ⟨x,hxx⟩:∃x,x=p[k]:=⟨_,rfl⟩;obtain ⟨y,hyy⟩:∃y,y=p[j]:=⟨_,rfl⟩;rw [←hxx,←hyy] at hnn;rw [←hxx] at hcx;rw [←hyy] at hcy;have HNO:Hid (decide (y∈zap z x)=false):=decide_eq_false hnn;have rx:=Ext.rule hcx;have ry:=Ext.rule hcy;have hxj:Ext wf wj:=hE2.out;clear hcx hcy hxx hyy hnn hxr;go_upto_region 32 with fail;refine wp_region_held_drew (S:=(fun W=>Ext wf W)) zS (hxj.drew) (fun zH=>?_);have hHd:Ext wf wj.drew:=zH;generalize wj.drew=wd at zH hHd⊢;refine rtT 0 zH ?_;simp only [za,Act.put];refine rtT 1 zH ?_;simp only [za,Act.put];refine rtT 2 zH ?_;simp only [za,Act.put];refine rtT 3 zH ?_;simp only [za,Act.put];refine rtT 4 zH ?_;simp only [za,Act.put];refine rtT 6 zH ?_;simp only [za,Act.put];refine rtT 7 zH ?_;simp only [za,Act.put];refine rtT 8 zH ?_;simp only [za,Act.put];refine rtT 9 zH ?_;simp only [za,Act.put];refine rtR 5 (fun K hK=>?_);go_simp;go_at_call 26;refine (zcy x _ (HZ5.out.below zH) HMM.out.lens).mono ?_;rintro e wm ⟨vn,rfl,hMn⟩;have hHm:Ext wf wm:=zH.trans hMn.ext;go_simp;refine hK.out _ _ (hHm) (fun zH=>?_);clear hK K;try simp only [za,Act.put]
            refine rtR 10 (fun K hK=>?_);go_simp;go_at_call 12;refine (zE y wm hMn.ints (by have:=nextO_len z x;omega)).mono ?_;rintro e wn ⟨rfl,rfl⟩;rw [HNO.out];have hHn:Ext wf wm:=hHm;go_simp;refine hK.out _ _ (hHn) (fun zH=>?_);clear hK K;try simp only [za,Act.put]
            refine wpAnyH_done (by kernel_rfl) ?_ _;have hxj2:Ext wf wm:=hHn;clear zH hHn hxj
            go_wp2_with fail
            go_roundw
            case rel=>exact ⟨j+1,by omega,by omega,by go_num,hxj2⟩
            case measure=>simp [intOf];omega
           ·have hxj:Ext wf wj:=hE2.out
            go_wp2_with fail
            go_roundw
            case rel=>exact ⟨k+1,hlt,by go_num,hxj⟩
            case measure=>simp [intOf];omega
         ·obtain rfl:k=p.length:=by omega
          have hxk:Ext wf wk:=hE.out;clear hlt hk
          go_wp2_with fail
          have hc1:=zm wk (.slice Ag p.length cg) 23 (g:=wk.heap.size) rfl;have hEg:Ext wk (wk.alloc (.cells #[.slice Ag p.length cg] 23)):=(Ext.refl wk).alloc _;generalize wk.alloc (.cells #[.slice Ag p.length cg] 23)=wg at hc1 hEg⊢;have HXG:Hid (Ext w3 wg):=HX5.out.trans (hxk.trans hEg);have HXG5:Hid (Ext wf wg):=hxk.trans hEg
          have HMG:Hid (zr wg _ (.agg #[.int .i64 z.w,.int .i64 z.h,.int .i64 z.l,(.slice (some ⟨bf,offf+t,none⟩) 1 (cf - t)),.slice Au z.up.length cu,(.slice (some ⟨bt,offt+t*3,none⟩) 1 (ct - t))]) (ownM z t)):=
           ⟨_,_,_,rfl,boolss_slice1 (HFR3.out.below HXG.out) HTF.out (by have:=HCT.out;have:=HTF.out;omega),HUP3.out.below HXG.out,tasks_slice1 (HTS3.out.below HXG.out) HTL.out (by have:=HCT.out;have:=HTL.out;omega)⟩
          have HPG:=zh (ints_of_cell (c:=1) hc1 (HIF.out.below HXG5.out) (Nat.le_refl _));clear hc1 hEg hxk;refine (zcz wg HMG.out (ownM_lens HMM.out.lens t) HPG.out (by simp) (by intro x hx;simp at hx;subst hx;omega)).mono ?_;rintro e w10 ⟨rfl,hE10⟩;rw [HRB.out];have HXA:Hid (Ext w3 w10):=HXG.out.trans hE10;have HXB:Hid (Ext wf w10):=HXG5.out.trans hE10;clear HMG HPG hE10
          go_wp2_with fail
          refine (crossed_calls w10 (HPS3.out.below HXA.out) (by have:=HP6.out;omega) (fun x hx=>by have:=HLN.out x hx;omega) (HIF.out.below HXB.out) (by omega)).mono ?_;rintro e w11 ⟨v11,rfl,hM11⟩;rw [HNCR.out] at hM11;obtain ⟨Az,cz,rfl,-⟩:=hM11.slice;have HXZ:Hid (Ext w3 w11):=HXA.out.trans hM11.ext;clear hM11
          go_wp2_with fail
          go_ret;exact ⟨rfl,HW3.out.trans HXZ.out⟩
theorem shoveShort_walk {H:Type} {enc:TypeId×Value→H} {base:Nat} {v0:Value} {d0:DataW H} {p0:List MemPlace} (W:World) (hv0:Value.okWide Tryz.prog W .any base 26 v0) (h0:DataW.Trod enc Tryz.prog W 0 (fun _=>true) true 26 v0 d0 p0):
  Calls Tryz.prog 5 #[v0] W fun e w'=>e=.returned (.bool true)∧Below W.heap.size W w':=by
 obtain ⟨va,vb,o0,o1,o2,ls,ns,tk,rfl,h2,h3,h4,h5,h6,h7,-⟩:=case31Open h0 (case31Agg hv0);exact short_calls o0 o1 o2 W h2 h3 h4 h5 h6 h7
end Go.Proofs.YthbjngbhbbkkgaaGreat
