/- RtWc RtVd RtFp RtVe RtVf RtWd -/
import Derived.Test.YthbjngbhbbkkgaaGreatHUa
import Derived.Test.YthbjngbhbbkkgaaGreatHUb
import Derived.Test.YthbjngbhbbkkgaaGreatHUc
import Derived.Test.YthbjngbhbbkkgaaGreatHUd
import Derived.Test.YthbjngbhbbkkgaaGreatHUe
import Derived.Test.YthbjngbhbbkkgaaGreatHUf
import Derived.Test.YthbjngbhbbkkgaaGreatHUg
import Derived.Test.YthbjngbhbbkkgaaGreatHUh
import Derived.Test.YthbjngbhbbkkgaaGreatHUi
import Derived.Test.YthbjngbhbbkkgaaGreatHUj
import Derived.Test.YthbjngbhbbkkgaaGreatHUk
import Derived.Test.YthbjngbhbbkkgaaGreatHUl
import Derived.Test.YthbjngbhbbkkgaaGreatHUm
set_option linter.unusedVariables false
set_option linter.unusedSimpArgs false
set_option maxRecDepth 100000
set_option maxHeartbeats 16000000
namespace Go.Proofs.YthbjngbhbbkkgaaGreat
open Go.RowKit
attribute [local go_sem ↓] Go.wp_at_zero Go.wp_at_succ
structure UI (w wr:World) (gs gb:Nat) (s:List Int):Prop where
 ext:Ext w wr
 lo:w.heap.size≤gs
 lt:gs<gb
 set:zA wr gs s
 cb:wr.cell? ⟨gb,0,none⟩=some (.map (some gs))
section
variable {w wr w':World} {gs gb:Nat} {s:List Int} {x:Int}
theorem UI.add (h:UI w wr gs gb s) (hs:zA w' gs (ins s x)) (hg:wr.grownBy w' (some gs)):UI w w' gs gb (ins s x):=
 ⟨h.ext.grown hg h.ext.size (fun k hk=>by injection hk with hk;have:=h.lo;omega),h.lo,h.lt,hs,
  (World.cell?_of_block (w:=wr) (a:=⟨gb,0,none⟩) (hg.block gb (zl h.cb) (fun e=>by injection e with e;have:=h.lt;omega))).trans h.cb⟩
theorem UI.new (w:World):UI w ((w.alloc (.map #[] 0)).alloc (.cells #[.map (some w.heap.size)] 78)) w.heap.size (w.heap.size+1) []:=by
 have hB:Blk ((w.alloc (.map #[] 0)).alloc (.cells #[.map (some w.heap.size)] 78)) (w.heap.size+1) 78 #[.map (some w.heap.size)]:=Blk.new _ _ _ (by simp);have hE:Ext w ((w.alloc (.map #[] 0)).alloc (.cells #[.map (some w.heap.size)] 78)):=((Ext.refl w).alloc _).alloc _;exact ⟨hE,Nat.le_refl _,Nat.lt_succ_self _,(zA.new w).below ((Ext.refl _).alloc _),hB.cell (k:=0) rfl⟩
end
def addS (fr:Int→Bool) (d:Int) (F:List (Int×Int)) (x:Int):List (Int×Int):=if ((F.lookup x).isNone && fr x)=true then F++[(x,d)] else F
theorem zbP (fr:Int→Bool) (d:Int):∀(l:List Int) (F:List (Int×Int)),zp fr d l F=l.foldl (addS fr d) F
 | [],F=>rfl
 | x :: l,F=>by
  unfold zp;rw [List.foldl_cons,zbP fr d l]
  all_goals rfl
theorem zcV {fr:Int→Bool} {d:Int} {l:List Int} {F:List (Int×Int)} {k:Nat} (hk:k<l.length):zp fr d (l.take (k+1)) F=addS fr d (zp fr d (l.take k) F) l[k]:=by
 rw [zbP,zbP,List.take_succ_eq_append_getElem hk,List.foldl_append]
 all_goals rfl
theorem addS_new {fr:Int→Bool} {d x:Int} {F:List (Int×Int)} (h:F.lookup x=none) (hf:fr x=true):addS fr d F x=F++[(x,d)]:=by unfold addS;rw [h,hf];rfl
theorem addS_old {fr:Int→Bool} {d x e:Int} {F:List (Int×Int)} (h:F.lookup x=some e):addS fr d F x=F:=by unfold addS;rw [h];rfl
theorem addS_not {fr:Int→Bool} {d x:Int} {F:List (Int×Int)} (hf:fr x=false):addS fr d F x=F:=by unfold addS;rw [hf];simp
structure PI (w wr:World) (gf:Nat) (F:List (Int×Int)) (v:Value) (todo:List Int):Prop where
 ext:Ext w wr
 lo:w.heap.size≤gf
 far:zbs wr gf F
 que:Que wr (gf+1) v todo
section
variable {w wr w':World} {gf:Nat} {F F':List (Int×Int)} {v v':Value} {todo todo':List Int}
theorem PI.more (h:PI w wr gf F v todo) (hE:Ext wr w'):PI w w' gf F v todo:=⟨h.ext.trans hE,h.lo,h.far.below hE,h.que.more hE⟩
theorem PI.put (h:PI w wr gf F v todo) (hf:zbs w' gf F') (hg:wr.grownBy w' (some gf)):PI w w' gf F' v todo:=
 ⟨h.ext.grown hg h.ext.size (fun k hk=>by injection hk with hk;have:=h.lo;omega),h.lo,hf,h.que.kept hg (fun k hk e=>by injection e with e;have:=(h.que.ge hk).1;omega)⟩
theorem PI.app (h:PI w wr gf F v todo) (hq:Que w' (gf+1) v' todo') (hg:Hid (wr.grownBy w' v.ownBlock)):PI w w' gf F v' todo':=
 ⟨h.ext.grown hg.out h.ext.size (fun k hk=>by have:=(h.que.ge hk).1;have:=h.lo;omega),h.lo,
  (hg.out.block gf (zb h.far) (fun e=>by have:=(h.que.ge e.symm).1;omega)).trans h.far,hq⟩
theorem PI.que2 (h:PI w wr gf F v todo) (hq:Que wr (gf+1) v' todo'):PI w wr gf F v' todo':=⟨h.ext,h.lo,h.far,hq⟩
theorem PI.lt (h:PI w wr gf F v todo):gf<wr.heap.size:=zb h.far
end
structure NL (wk w2 wi:World) (v:Value):Prop where
 same:zX (fun b=>wk.heap.size≤b∧b<w2.heap.size) w2 wi
 ob:∀k,v.ownBlock=some k→k<wk.heap.size∨w2.heap.size≤k
 sz:w2.heap.size≤wi.heap.size
section
variable {wk w2 wi w':World} {v v':Value} {gf:Nat}
theorem NL.start (hv:∀k,v.ownBlock=some k→k<wk.heap.size):NL wk w2 w2 v:=⟨zX.refl _ _,fun k hk=>.inl (hv k hk),Nat.le_refl _⟩
theorem NL.more (h:NL wk w2 wi v) (hE:Ext wi w'):NL wk w2 w' v:=⟨fun b hb hlt=>(hE.block b (Nat.lt_of_lt_of_le hlt h.sz)).trans (h.same b hb hlt),h.ob,Nat.le_trans h.sz hE.size⟩
theorem NL.put (h:NL wk w2 wi v) (hg:wi.grownBy w' (some gf)) (hgf:gf<wk.heap.size):NL wk w2 w' v:=
 ⟨fun b hb hlt=>(hg.block b (Nat.lt_of_lt_of_le hlt h.sz) (fun e=>by injection e with e;have:=hb.1;omega)).trans (h.same b hb hlt),h.ob,Nat.le_trans h.sz hg.size⟩
theorem NL.app (h:NL wk w2 wi v) (hg:Hid (wi.grownBy w' v.ownBlock)) (hv:Hid (v'.ownBlock=v.ownBlock∨v'.ownBlock=some wi.heap.size)):NL wk w2 w' v':=
 ⟨fun b hb hlt=>(hg.out.block b (Nat.lt_of_lt_of_le hlt h.sz) (fun e=>by have h1:=h.ob b e.symm;have:=hb.1;have:=hb.2;omega)).trans (h.same b hb hlt),
  fun k hk=>by
   rcases hv.out with e | e
   ·exact h.ob k (e ▸ hk)
   ·rw [e] at hk;have:k=wi.heap.size:=by simpa using hk.symm
    have:=h.sz;omega,Nat.le_trans h.sz hg.out.size⟩
end
theorem lookup_app {F G:List (Int×Int)} {x d:Int} (h:F.lookup x=some d):(F++G).lookup x=some d:=by
 induction F with
 | nil=>cases h
 | cons a F ih=>
  obtain ⟨y,e⟩:=a;rw [List.cons_append,List.lookup_cons] at*
  split at h
  ·exact h
  ·exact ih h
theorem addAll_lookup {fr:Int→Bool} {d e x:Int} {l:List Int} {F:List (Int×Int)} (h:F.lookup x=some e):(zp fr d l F).lookup x=some e:=by
 obtain ⟨G,h1,-⟩:=zI fr d l F;rw [h1];exact lookup_app h
theorem DFI.part {m:MZ} {fr:Int→Bool} {tg:List Int} {k:Nat} {F:List (Int×Int)} (g:zx m) (h:DFI m fr tg k F) {p:Int×Int} (hp:F[k]?=some p) (j:Nat):(zp fr (p.2+1) ((zi m p.1).take j) F).length≤300:=by
 obtain ⟨G,h1,h2,h3,-⟩:=zI fr (p.2+1) ((zi m p.1).take j) F;rw [h1];have hr:=h.rg _ (List.mem_of_getElem? hp)
 have h4:=zaK (h3 h.nd) m.n (fun x hx=>by
  obtain ⟨q,hq,rfl⟩:=List.mem_map.1 hx;rcases List.mem_append.1 hq with hq | hq
  ·exact (h.rg q hq).1
  ·exact zab g.dim hr.1.1 hr.1.2 (List.mem_of_mem_take (h2 q hq).2.1))
 have h5:=g.dim.n1;rw [List.length_map] at h4;unfold MZ.n at h4;omega
theorem start_len {m:MZ} {fr:Int→Bool} (g:zx m) {tg:List Int} (hr:∀x∈tg,0≤x∧x<m.n) (j:Nat):(zp fr 0 (tg.take j) []).length≤300:=by
 have:=(DFI.start (m:=m) (fr:=fr) (tg:=tg.take j) (fun x hx=>hr x (List.mem_of_mem_take hx))).len;have h5:=g.dim.n1;unfold MZ.n at this;omega
theorem bfs_end {m:MZ} {fr:Int→Bool} {F:List (Int×Int)}:∀f,bfs m fr f F.length F=F
 | 0=>rfl
 | f+1=>by
  unfold bfs;rw [List.getElem?_eq_none (Nat.le_refl _)]
theorem bfs_next {m:MZ} {fr:Int→Bool} {F:List (Int×Int)} {f k:Nat} {p:Int×Int} (h:F[k]?=some p):bfs m fr (f+1) k F=bfs m fr f (k+1) (zp fr (p.2+1) (zi m p.1) F):=by
 conv=>lhs;unfold bfs
 rw [h]
theorem zcO {okm okf:Nat→Prop} {v vf:Value} {m:MZ} {fixed:List (List Int)} (t:Int) (w:World) (hm:zr w okm v m) (hl:Lens m) (hf:zo w okf vf fixed) (hfl:fixed.length≤20000000000000) (hfx:∀x∈fixed,x.length≤20000000000000):
  Calls Tryz.prog 18 #[v,.int .i64 t,vf] w fun e w'=>∃v',e=.returned (.tuple #[v',.bool (za9 m t fixed).isSome])∧Mk w w' v' ((za9 m t fixed).getD []):=by
 have HMZ:=zh hm;have HL:=zh hl;have HFS:=zh hf;have HFX:=zh hfx;obtain ⟨Af,cf,Au,cu,At,ct,rfl,hmf,-,hmt⟩:=hm.parts;have HMF:=zh hmf;have HMT:=zh hmt;obtain ⟨vfs,⟨A,c,rfl,hcc,hr⟩,hef⟩:=hf;have HR:=zh hr;have HEF:=zh hef;have hlts:=hl.ts;clear hm hl hr hef hmf hmt hfx;have hmm:=@run_makeMap Tryz.prog;have hmk:∀(fn:Fn) (first cap:Array Value) (w:World),(Instr.makeFunc fn first cap).run Tryz.prog w=.ok (.func fn first cap) w:=fun _ _ _ _=>rfl
 have hcf48:∀(a:Array Value) (w:World),(callFunc 48 a).run Tryz.prog w=.ok (.enter 48 a) w:=fun a w=>zad Tryz.func48 (by kernel_rfl) (by kernel_rfl) a w
 go_enter Tryz.func18,Tryz.ntmps18
 go_wp2_with fail
 obtain ⟨hb1,r0,r1,r2,r3,r4,r5⟩:=box6 w (.int .i64 m.w) (.int .i64 m.h) (.int .i64 m.l) (.slice Af m.free.length cf) (.slice Au m.up.length cu) (.slice At m.tasks.length ct);have hs1:(w.alloc (.cells #[.int .i64 m.w,.int .i64 m.h,.int .i64 m.l,.slice Af m.free.length cf,.slice Au m.up.length cu,.slice At m.tasks.length ct] 32)).heap.size=w.heap.size+1:=by simp
 generalize w.alloc (.cells #[.int .i64 m.w,.int .i64 m.h,.int .i64 m.l,.slice Af m.free.length cf,.slice Au m.up.length cu,.slice At m.tasks.length ct] 32)=w1 at hb1 r0 r1 r2 r3 r4 r5 hs1⊢;obtain ⟨hb2,q0⟩:=box1 w1 (.int .i64 t) 3;generalize w1.alloc (.cells #[.int .i64 t] 3)=w2 at hb2 q0⊢;obtain ⟨gm,hgm⟩:∃gm,gm=w.heap.size:=⟨_,rfl⟩;rw [←hgm] at r0 r1 r2 r3 r4 r5 hs1⊢;obtain ⟨gt,hgt⟩:∃gt,gt=gm+1:=⟨_,rfl⟩;rw [←hgt] at hs1⊢;rw [hs1] at q0;clear hgm hgt hs1;have HE12:=zh hb2;have HE2:=zh (hb1.trans hb2);have r0:=fun W h=>r0 W (HE12.out.trans h)
 have r1:=fun W h=>r1 W (HE12.out.trans h)
 have r2:=fun W h=>r2 W (HE12.out.trans h)
 have r3:=fun W h=>r3 W (HE12.out.trans h)
 have r4:=fun W h=>r4 W (HE12.out.trans h)
 have r5:=fun W h=>r5 W (HE12.out.trans h)
 clear hb1 hb2;have hx:Ext w2 w2:=Ext.refl w2
 go_wp2_with fail
 refine (zda t w2 (HMZ.out.below HE2.out) HL.out).mono ?_;rintro e w3 ⟨rfl,hE3⟩;clear hx;have hx:Ext w2 w3:=hE3;have HE3:=zh (HE2.out.trans hE3);clear hE3;by_cases hk:zar m t=true
 case neg=>
  have hk':zar m t=false:=by simpa using hk
  have hp:za9 m t fixed=none:=by unfold za9;rw [if_neg hk]
  have HP:=zh hp;clear hk hp;rw [hk'];go_wp2
  go_ret2
  rw [HP.out];exact ⟨_,rfl,Mk.nil' HE3.out⟩
 rw [hk];have HP:Hid (za9 m t fixed=zb9 m (farP m t.toNat fixed) (m.tasks.getD t.toNat ([],[])).1):=by show _=_;unfold za9;rw [if_pos hk]
 obtain ⟨hc0,ht0,ht1⟩:=zaf.1 hk;clear hk;have HC:=zh hc0;clear hc0;have G:=zh (zx.of HC.out);obtain ⟨t,rfl⟩:∃tn:Nat,t=(tn:Int):=⟨t.toNat,by omega⟩;rw [Int.toNat_natCast] at HP;have htl:t<m.tasks.length:=by omega
 have htf:t<m.free.length:=by rw [G.out.fl];exact htl
 obtain ⟨bt,offt,sn,u1,u2,rfl,_,hct0,hct1,hct2,hi1,hi2⟩:=zam (HMT.out.below HE2.out) htl;have hget:m.tasks.getD t ([],[])=m.tasks[t]:=by rw [List.getD_eq_getElem?_getD,List.getElem?_eq_getElem htl];rfl
 have htn:=G.out.tn _ (List.getElem_mem htl);have htll:=HL.out.tl _ (List.getElem_mem htl);rw [hget] at HP;obtain ⟨tk,htk⟩:∃tk,tk=m.tasks[t]:=⟨_,rfl⟩;rw [←htk] at hi1 hi2 htn htll HP;have HTK:Hid (tk=m.tasks.getD t ([],[])):=by show _=_;rw [hget,htk]
 obtain ⟨A1,c1,rfl,hc1,hr1⟩:=hi1;obtain ⟨A2,c2,rfl,hc2,hr2⟩:=hi2;have HI1:Hid (zf w2 okm (.slice A1 tk.1.length c1) tk.1):=⟨A1,c1,rfl,hc1,hr1⟩;have HI2:=zh hr2;have rt1:=Ext.rule hct1;have rt2:=Ext.rule hct2;have HTN:=zh htn;clear hct0 hct1 hct2 hr1 hr2 htn htk hget;obtain ⟨htll1,htll2⟩:=htll
 go_wp2_with fail
 have hU0:=zh (UI.new w3);generalize ((w3.alloc (.map #[] 0)).alloc (.cells #[.map (some w3.heap.size)] 78))=wu at hU0⊢;obtain ⟨gs,hgs⟩:∃gs,gs=w3.heap.size:=⟨_,rfl⟩;rw [←hgs] at hU0;rw [←hgs];obtain ⟨gb,hgb⟩:∃gb,gb=gs+1:=⟨_,rfl⟩;rw [←hgb] at hU0;rw [←hgb];clear hgs hgb;have HX3:Hid (Ext w2 w3):=hx;clear hx;go_loopw [32] (fun i wr=>∃k s,k≤fixed.length∧i=.int .i64 (k:Nat)∧Hid (UI w3 wr gs gb s)∧Hid (∀x,x∈s↔x∈(fixed.take k).flatten)) (fun i _=>fixed.length - (intOf i).toNat)
 case atStart=>exact ⟨0,[],Nat.zero_le _,rfl,hU0,by simp [Hid]⟩
 clear hU0
 case round=>
  obtain ⟨k,s,hk,rfl,hU,hmem⟩:=hrel;obtain ⟨wk,rfl⟩:∃wk:World,wk=wr:=⟨_,rfl⟩;by_cases hlt:k<fixed.length
  ·obtain ⟨b,off,u,rfl,_,hcell0,hu⟩:=zP HR.out HEF.out hlt hlt;have hcell:wk.cell? ⟨b,off+k,none⟩=some u:=(HE3.out.trans hU.out.ext).cell hcell0;have hul:=HFX.out _ (List.getElem_mem hlt)
   have hfl1:Hid (∀x,x∈(fixed.take (k+1)).flatten↔x∈(fixed.take k).flatten∨x∈fixed[k]):=fun x=>by
    rw [List.take_succ_eq_append_getElem hlt,List.flatten_append];simp
   obtain ⟨l,hl⟩:∃l,l=fixed[k]:=⟨_,rfl⟩;rw [←hl] at hu hul hfl1;clear hl hcell0;obtain ⟨Al,cl,rfl,hcl,hrl⟩:=hu;have HRL:=zh hrl;clear hrl
   go_wp2_with fail
   go_loopw [38] (fun i wi=>∃j s',j≤l.length∧i=.int .i64 (j:Nat)∧Hid (UI w3 wi gs gb s')∧Hid (∀x,x∈s'↔x∈(fixed.take k).flatten∨x∈l.take j)) (fun i _=>l.length - (intOf i).toNat)
   case atStart=>exact ⟨0,s,Nat.zero_le _,rfl,hU,fun x=>by rw [hmem.out];simp⟩
   clear hU hmem hcell
   case round=>
    obtain ⟨j,s',hj,rfl,hU,hmem⟩:=hrel;obtain ⟨wi,rfl⟩:∃wi:World,wi=wr:=⟨_,rfl⟩;by_cases hjl:j<l.length
    ·obtain ⟨b2,off2,rfl,_,hcell0⟩:=zt HRL.out hjl hjl;have hcell:wi.cell? ⟨b2,off2+j,none⟩=some (.int .i64 l[j]):=(HE3.out.trans hU.out.ext).cell hcell0;have htk2:Hid (∀x,x∈l.take (j+1)↔x∈l.take j∨x=l[j]):=zW hjl;obtain ⟨y,hy⟩:∃y,y=l[j]:=⟨_,rfl⟩;rw [←hy] at hcell htk2;clear hy hcell0;have hcb:=hU.out.cb
     go_wp2_with (at_mapUpdate;refine zbD rfl _ _ _ _ rfl Tryz.underlying78 gs s' y rfl rfl rfl hU.out.set ?_)
     intro wa hsa hga;have hU':=zh (hU.out.add hsa hga);clear hsa hga;go_wp2;go_roundw
     case rel=>exact ⟨j+1,ins s' y,by omega,by go_num,hU',fun x=>by rw [mem_ins,hmem.out,htk2.out];exact or_assoc⟩
     case measure=>simp [intOf];omega
    ·obtain rfl:j=l.length:=by omega
     have hm2:Hid (∀x,x∈s'↔x∈(fixed.take (k+1)).flatten):=fun x=>by rw [hmem.out,hfl1.out,List.take_length]
     go_wp2;go_roundw
     case rel=>exact ⟨k+1,s',by omega,by go_num,hU,hm2⟩
     case measure=>simp [intOf];omega
  ·obtain rfl:k=fixed.length:=by omega
   have hm2:Hid (∀x,x∈s↔x∈fixed.flatten):=fun x=>by rw [hmem.out,List.take_length]
   clear hmem hlt hk;have hx:Ext w2 wk:=HX3.out.trans hU.out.ext;have HEK:=zh (HE3.out.trans hU.out.ext);have HFM:Hid (FreeM wk okm gm gt gb gs m t Af cf fixed s):=⟨r3 wk hx,q0 wk hx,hU.out.cb,HMF.out.below HEK.out,hU.out.set,hm2.out⟩;clear hU hm2 HX3;have HXK:Hid (Ext w2 wk):=hx;clear hx;have hx:Ext w2 (wk.alloc (.map #[] 0)):=HXK.out.alloc _
   go_wp2_with fail
   have hP0:Hid (PI wk (wk.alloc (.map #[] 0)) wk.heap.size [] (.slice none 0 0) []):=⟨(Ext.refl wk).alloc _,Nat.le_refl _,zbs.new wk,Que.nil _ _⟩;obtain ⟨gf,hgf⟩:∃gf,gf=wk.heap.size:=⟨_,rfl⟩;rw [←hgf] at hP0⊢;have hgfk:Hid (gf=wk.heap.size):=hgf;clear hgf;generalize wk.alloc (.map #[] 0)=w4 at hP0 hx⊢;have hP0:Hid (∃F v,PI wk w4 gf F v (F.map Prod.fst)∧F=zp (frP m t fixed) 0 (tk.2.take 0) []∧v=.slice none 0 0):=⟨[],_,hP0.out,rfl,rfl⟩;clear hx;go_loopw [15,55] (fun v i wr=>∃k F,k≤tk.2.length∧i=.int .i64 (k:Nat)∧Hid (PI wk wr gf F v (F.map Prod.fst))∧Hid (F=zp (frP m t fixed) 0 (tk.2.take k) [])) (fun _ i _=>tk.2.length - (intOf i).toNat)
   case atStart=>exact ⟨0,[],Nat.zero_le _,rfl,by obtain ⟨F,v,h1,h2,h3⟩:=hP0.out;subst h3;rw [show F=[] from h2] at h1;exact h1,rfl⟩
   clear hP0
   case round=>
    obtain ⟨k,F,hk,rfl,hP,hF⟩:=hrel;obtain ⟨wi,rfl⟩:∃wi:World,wi=wr:=⟨_,rfl⟩;by_cases hlt:k<tk.2.length
    ·obtain ⟨b2,off2,rfl,_,hcell0⟩:=zt HI2.out hlt hlt;have hcell:wi.cell? ⟨b2,off2+k,none⟩=some (.int .i64 tk.2[k]):=(HXK.out.trans hP.out.ext).cell hcell0;have hsucc:Hid (zp (frP m t fixed) 0 (tk.2.take (k+1)) []=addS (frP m t fixed) 0 F tk.2[k]):=by show _=_;rw [hF.out];exact zcV hlt
     have hyr:=HTN.out tk.2[k] (.inr (List.getElem_mem hlt));have hF300:F.length≤300:=by rw [hF.out];exact start_len G.out (fun x hx=>HTN.out x (.inr hx)) k
     obtain ⟨y,hy⟩:∃y,y=tk.2[k]:=⟨_,rfl⟩;rw [←hy] at hcell hsucc hyr;clear hy hcell0;obtain ⟨hy0,hy1⟩:=hyr
     cases hyl:F.lookup y with
     | some d=>
      have hlk:=zcl hP.out.far hyl;have HF':Hid (F=zp (frP m t fixed) 0 (tk.2.take (k+1)) []):=by show _=_;rw [hsucc.out,addS_old hyl]
      clear hyl;go_wp2;go_roundw
      case rel=>exact ⟨k+1,F,by omega,by go_num,hP,HF'⟩
      case measure=>simp [intOf];omega
     | none=>
      have hlk:=zcJ hP.out.far hyl;have HYL:=zh hyl;have HPC:=zh (path1_calls y wi (HFM.out.ext hP.out.ext) G.out.fn htf hy0 hy1)
      cases hfr:frP m t fixed y with
      | false=>
       have HF':Hid (F=zp (frP m t fixed) 0 (tk.2.take (k+1)) []):=by show _=_;rw [hsucc.out,addS_not hfr]
       rw [hfr] at HPC;clear hyl hfr
       go_wp2_with fail
       refine HPC.out.mono ?_;rintro e w' ⟨rfl,rfl⟩;go_wp2;go_roundw
       case rel=>exact ⟨k+1,F,by omega,by go_num,hP,HF'⟩
       case measure=>simp [intOf];omega
      | true=>
       have HF':Hid (F++[(y,0)]=zp (frP m t fixed) 0 (tk.2.take (k+1)) []):=by show _=_;rw [hsucc.out,addS_new hyl hfr]
       rw [hfr] at HPC;clear hyl hfr
       go_wp2_with fail
       refine HPC.out.mono ?_;rintro e w' ⟨rfl,rfl⟩
       go_wp2_with (at_mapUpdate;refine wpFarAdd rfl _ _ _ _ rfl Tryz.underlying83 gf F y 0 HYL.out rfl rfl rfl hP.out.far ?_)
       intro wa hfa hga;have hPa:=zh (hP.out.put hfa hga);have hlt2:=hPa.out.lt;clear hfa hga hlk;have hml:(F.map Prod.fst).length≤300:=by rw [List.length_map];exact hF300
       go_wp2_with (at_builtin;refine wpQueApp rfl _ _ rfl _ (F.map Prod.fst) y (gf+1) wa.heap.size 1 _ rfl rfl (hPa.out.more ((Ext.refl _).alloc _)).que ?d1 ?d2 ?d3 ?_)
       (try case d1=>exact zm _ _ _ (by simp))
       case d2=>(first | (simp;done) | (simp;omega) | omega)
       case d3=>omega
       intro v' wb hqb hgb hbl
       have hP':Hid (PI wk wb gf (F++[(y,0)]) v' ((F++[(y,0)]).map Prod.fst)):=by
        have:=(hPa.out.more ((Ext.refl _).alloc _)).app hqb hgb;rw [List.map_append];exact this
       clear hqb hgb hbl;go_wp2;go_roundw
       case rel=>exact ⟨k+1,F++[(y,0)],by omega,by go_num,hP',HF'⟩
       case measure=>simp [intOf];omega
    ·obtain rfl:k=tk.2.length:=by omega
     have HF2:Hid (F=zp (frP m t fixed) 0 (m.tasks.getD t ([],[])).2 []):=by have:=hF.out;rwa [List.take_length,HTK.out] at this
     have hFI:Hid (DFI m (frP m t fixed) (m.tasks.getD t ([],[])).2 0 F):=by
      rw [HF2.out];exact DFI.start fun x hx=>HTN.out x (.inr (by rw [HTK.out];exact hx))
     have hBF:Hid (∃f,bfs m (frP m t fixed) f 0 F=farP m t fixed∧m.n.toNat<f+0):=⟨m.n.toNat+1,by rw [HF2.out];rfl,by omega⟩;clear hF HF2 hlt hk;go_wp2
     go_loopg [15] 301 (fun gk v wr=>∃k F,gk+k=301∧k≤F.length∧Hid (PI wk wr gf F v ((F.drop k).map Prod.fst))∧Hid (DFI m (frP m t fixed) (m.tasks.getD t ([],[])).2 k F)∧Hid (∃f,bfs m (frP m t fixed) f k F=farP m t fixed∧m.n.toNat<f+k))
     case atStart=>exact ⟨0,F,rfl,Nat.zero_le _,hP,hFI,hBF⟩
     clear hP hFI hBF
     case round=>
      obtain ⟨k,F,hgk,hkl,hP,hFI,hBF⟩:=hrel;obtain ⟨wo,rfl⟩:∃wo:World,wo=wr:=⟨_,rfl⟩;have hFl:=hFI.out.len;have hn1:=G.out.dim.n1;have hF300:F.length≤300:=by unfold MZ.n at hFl;omega
      clear hFl hn1;by_cases hlt:k<F.length
      ·obtain ⟨p,hp⟩:∃p,p=F[k]:=⟨_,rfl⟩;have hpk:F[k]?=some p:=by rw [List.getElem?_eq_getElem hlt,hp]
       have hdrop:(F.drop k).map Prod.fst=p.1 :: (F.drop (k+1)).map Prod.fst:=by rw [List.drop_eq_getElem_cons hlt,←hp,List.map_cons]
       have hq:=hP.out.que;rw [hdrop] at hq;obtain ⟨gq,oq,cq,v2,hv,hlc,hcell,hq2,hbk,hsl1,hsl2⟩:=hq.head;subst hv;have hP2:Hid (PI wk wo gf F v2 ((F.drop (k+1)).map Prod.fst)):=hP.out.que2 hq2;have hgf2:=hP.out.lt;have hv2:Hid (∀j,v2.ownBlock=some j→j<wo.heap.size):=fun j hj=>(hq2.ge hj).2
       have hpr:=hFI.out.rg _ (List.mem_of_getElem? hpk);obtain ⟨⟨hp0,hp1⟩,_,_⟩:=hpr;have hpl:F.lookup p.1=some p.2:=zbM hFI.out.nd (List.mem_of_getElem? hpk);have hpd:=hFI.out.dist G.out hpl;have HPART:=zh (hFI.out.part G.out hpk);have HSTEP:=zh (hFI.out.step G.out.dim hpk)
       have HBF2:Hid (∃f,bfs m (frP m t fixed) f (k+1) (zp (frP m t fixed) (p.2+1) (zi m p.1) F)=farP m t fixed∧m.n.toNat<f+(k+1)):=by
        obtain ⟨f,h1,h2⟩:=hBF.out;have hFl:=hFI.out.len
        cases f with
        | zero=>omega
        | succ f=>exact ⟨f,by rw [←h1,bfs_next hpk],by omega⟩
       have HPL:=zh hpl;have HPK:=zh hpk;have HDR:Hid (∀G',(((F++G').drop (k+1)).map Prod.fst:List Int)=(F.drop (k+1)).map Prod.fst++G'.map Prod.fst):=fun G'=>by rw [List.drop_append_of_le_length (by omega),List.map_append]
       obtain ⟨x,d⟩:=p;simp only at hcell hp0 hp1 hpd HPART HSTEP HBF2 HPL hdrop;have hxw:Hid (Ext w2 wo):=HXK.out.trans hP.out.ext;have hx:Ext w2 wo:=hxw.out;have HN:Hid (zap m x=zi m x):=by show _=_;unfold zap;rw [if_pos ⟨HC.out,hp0,hp1⟩]
       have hll:(List.map Prod.fst (List.drop (k+1) F)).length=F.length - (k+1):=by simp
       rw [hll] at hsl1 hsl2 hlc;have hpos:(0:Int)<((F.length - (k+1)+1:Nat):Int):=by omega
       clear hp hpk hq hdrop hq2 hbk hFI hBF hpl hP hll;have hdk:(List.map Prod.fst (List.drop k F)).length=F.length - (k+1)+1:=by simp;omega
       try rw [hdk]
       clear hdk
       go_wp2_with fail
       refine (zcy x wo (HMZ.out.below (HE2.out.trans hxw.out)) HL.out).mono ?_;rintro e w9 ⟨vn,rfl,hMn⟩;have hMn':Hid (Mk wo w9 vn (zi m x)):=by have:=hMn;rw [HN.out] at this;exact this
       clear hMn HN;have hP9:=zh (hP2.out.more hMn'.out.ext);have hN9:Hid (NL wo w9 w9 v2):=NL.start hv2.out;have hgfo:gf<wo.heap.size:=hgf2;obtain ⟨A3,c3,rfl,hc3,hr3⟩:=hMn'.out.ints;have HR3:=zh hr3;have hl6:=za5 m x;have hws:=hMn'.out.ext.size;have HFK:Hid (k+1≤F.length):=hlt;clear hr3 hMn' hP2 hv2 hx hcell hsl1 hsl2
       go_wp2_with fail
       go_loopw [15,91] (fun v i wr=>∃j F',j≤(zi m x).length∧i=.int .i64 (j:Nat)∧Hid (PI wk wr gf F' v ((F'.drop (k+1)).map Prod.fst))∧Hid (F'=zp (frP m t fixed) (d+1) ((zi m x).take j) F)∧Hid (NL wo w9 wr v)) (fun _ i _=>(zi m x).length - (intOf i).toNat)
       case atStart=>exact ⟨0,F,Nat.zero_le _,rfl,hP9,rfl,hN9⟩
       clear hP9 hN9
       case round=>
        obtain ⟨j,F',hj,rfl,hP,hF,hN⟩:=hrel;obtain ⟨wi,rfl⟩:∃wi:World,wi=wr:=⟨_,rfl⟩;by_cases hjl:j<(zi m x).length
        ·obtain ⟨b2,off2,rfl,hb2,hcell0⟩:=zt HR3.out hjl hjl;have hb2lt:=zl hcell0;have hcell:wi.cell? ⟨b2,off2+j,none⟩=some (.int .i64 (zi m x)[j]):=(zbI (hN.out.same b2 ⟨hb2,hb2lt⟩ hb2lt)).trans hcell0;have hsucc:Hid (zp (frP m t fixed) (d+1) ((zi m x).take (j+1)) F=addS (frP m t fixed) (d+1) F' (zi m x)[j]):=by show _=_;rw [hF.out];exact zcV hjl
         have hyr:=zab G.out.dim hp0 hp1 (List.getElem_mem hjl);have hF300':F'.length≤300:=by rw [hF.out];exact HPART.out j
         have hFF:Hid (k+1≤F'.length):=by
          obtain ⟨G',hG,-⟩:=zI (frP m t fixed) (d+1) ((zi m x).take j) F;have:=HFK.out;show _≤_;rw [hF.out,hG,List.length_append];omega
         have hlx:Hid (F'.lookup x=some d):=by show _=_;rw [hF.out];exact addAll_lookup HPL.out
         obtain ⟨y,hy⟩:∃y,y=(zi m x)[j]:=⟨_,rfl⟩;rw [←hy] at hcell hsucc hyr;clear hy hcell0;obtain ⟨hy0,hy1⟩:=hyr
         cases hyl:F'.lookup y with
         | some e=>
          have hlk:=zcl hP.out.far hyl;have HF':Hid (F'=zp (frP m t fixed) (d+1) ((zi m x).take (j+1)) F):=by show _=_;rw [hsucc.out,addS_old hyl]
          clear hyl;go_wp2;go_roundw
          case rel=>exact ⟨j+1,F',by omega,by go_num,hP,HF',hN⟩
          case measure=>simp [intOf];omega
         | none=>
          have hlk:=zcJ hP.out.far hyl;have HYL:=zh hyl;have HPC:=zh (path1_calls y wi (HFM.out.ext hP.out.ext) G.out.fn htf hy0 hy1)
          cases hfr:frP m t fixed y with
          | false=>
           have HF':Hid (F'=zp (frP m t fixed) (d+1) ((zi m x).take (j+1)) F):=by show _=_;rw [hsucc.out,addS_not hfr]
           rw [hfr] at HPC;clear hyl hfr
           go_wp2_with fail
           refine HPC.out.mono ?_;rintro e w' ⟨rfl,rfl⟩;go_wp2;go_roundw
           case rel=>exact ⟨j+1,F',by omega,by go_num,hP,HF',hN⟩
           case measure=>simp [intOf];omega
          | true=>
           have HF':Hid (F'++[(y,d+1)]=zp (frP m t fixed) (d+1) ((zi m x).take (j+1)) F):=by show _=_;rw [hsucc.out,addS_new hyl hfr]
           rw [hfr] at HPC;clear hyl hfr;have hlkx:=far_some hP.out.far hlx.out;have hw1:IntKind.i64.wrap (d+1)=d+1:=by rw [IntKind.wrap_i64];omega
           go_wp2_with fail
           refine HPC.out.mono ?_;rintro e w' ⟨rfl,rfl⟩
           go_wp2_with (at_mapUpdate;refine wpFarAdd rfl _ _ _ _ rfl Tryz.underlying83 gf F' y (d+1) HYL.out rfl rfl rfl hP.out.far ?_)
           intro wa hfa hga;have hPa:=zh (hP.out.put hfa hga);have hNa:=zh (hN.out.put hga (by assumption));have hlt2:=hPa.out.lt;clear hfa hga hlk hlkx;have hml:(List.map Prod.fst (List.drop (k+1) F')).length≤300:=by rw [List.length_map,List.length_drop];omega
           obtain ⟨td,htd⟩:∃td,td=List.map Prod.fst (List.drop (k+1) F'):=⟨_,rfl⟩
           have HTD:Hid ((List.drop (k+1) (F'++[(y,d+1)])).map Prod.fst=td++[y]):=by
            show _=_;rw [List.drop_append_of_le_length hFF.out,List.map_append,htd];rfl
           rw [←htd] at hPa hml;clear htd
           go_wp2_with (at_builtin;refine wpQueApp rfl _ _ rfl _ td y (gf+1) wa.heap.size 1 _ rfl rfl (hPa.out.more ((Ext.refl _).alloc _)).que ?d1 ?d2 ?d3 ?_)
           (try case d1=>exact zm _ _ _ (by simp))
           case d2=>(first | (simp;done) | (simp;omega) | omega)
           case d3=>omega
           intro v' wb hqb hgb hbl
           have hP':Hid (PI wk wb gf (F'++[(y,d+1)]) v' ((List.drop (k+1) (F'++[(y,d+1)])).map Prod.fst)):=by
            rw [HTD.out];exact (hPa.out.more ((Ext.refl _).alloc _)).app hqb hgb
           have hN':=zh ((hNa.out.more ((Ext.refl _).alloc _)).app hgb (by have h:=hbl.out;show _∨_;simpa using h));clear hqb hgb hbl;go_wp2;go_roundw
           case rel=>exact ⟨j+1,F'++[(y,d+1)],by omega,by go_num,hP',HF',hN'⟩
           case measure=>simp [intOf];omega
        ·have hje:j=(zi m x).length:=by omega
         subst hje;rw [List.take_length] at hF;have hFI':Hid (DFI m (frP m t fixed) (m.tasks.getD t ([],[])).2 (k+1) F'):=by rw [hF.out];exact HSTEP.out
         have hBF':Hid (∃f,bfs m (frP m t fixed) f (k+1) F'=farP m t fixed∧m.n.toNat<f+(k+1)):=by rw [hF.out];exact HBF2.out
         have hlen':Hid (k+1≤F'.length):=by
          obtain ⟨G',hG,-⟩:=zI (frP m t fixed) (d+1) (zi m x) F;have:=HFK.out;show _≤_;rw [hF.out,hG,List.length_append];omega
         go_wp2
         go_roundg (gk - 1)
         case measure=>omega
         case rel=>exact ⟨k+1,F',by omega,hlen'.out,hP,hFI',hBF'⟩
      ·have hke:k=F.length:=by omega
       subst hke
       have hfar:Hid (F=farP m t fixed):=by
        obtain ⟨f,h1,-⟩:=hBF.out;show _=_;rw [←h1,bfs_end]
       have hq:=hP.out.que;rw [List.drop_length,List.map_nil] at hq;obtain ⟨A0,c0,hv,hc0⟩:=hq.slice;subst hv;have hxw:Hid (Ext w2 wo):=HXK.out.trans hP.out.ext;have hx:Ext w2 wo:=hxw.out;have hFo:=zh hP.out.far;have HI1o:=zh (HI1.out.below hxw.out);have HD:Hid (zb9 m F tk.1=za9 m t fixed):=by show _=_;rw [HP.out,←hfar.out]
       have hz:(List.map Prod.fst (List.drop F.length F)).length=0:=by simp
       have hz2:([]:List Int).length=0:=rfl;clear hq hP hBF hfar
       try rw [hz]
       try rw [hz2]
       clear hz hz2
       go_wp2_with fail
       go_region_held3 (fun w'=>Ext w2 w'∧Ext wo w')
        (first | (exact zc6 hx) | (exact held_ext (by assumption) hM9.ext))
        ((go_at_call 49;refine (descend_calls wo.drew (HMZ.out.below (HE2.out.trans hxw.out.drew)) HL.out HC.out (HI1o.out.below (Ext.refl wo).drew) (by omega) (hFo.out.below (Ext.refl wo).drew) hFI.out).mono ?_;rintro e w9 ⟨v9,rfl,hM9⟩))
       rename_i hS
       have HM9:=zh hM9;clear hM9 hS;go_wp2
       go_ret2
       rw [←HD.out];exact ⟨v9,rfl,(HE2.out.trans hxw.out.drew).mono_mk HM9.out⟩
end Go.Proofs.YthbjngbhbbkkgaaGreat
namespace Go.Proofs.YthbjngbhbbkkgaaGreat
open Go.RowKit
def Apart (ps:List (List Int)):Prop:=(∀i,(ps.getD i []).Nodup)∧∀i j x,x∈ps.getD i []→x∈ps.getD j []→i=j
theorem za2 {ps:List (List Int)} {x:Int}:x∈ps.flatten↔∃i,x∈ps.getD i []:=by
 rw [List.mem_flatten];constructor
 ·rintro ⟨p,hp,hx⟩;obtain ⟨i,hi,rfl⟩:=List.getElem_of_mem hp;exact ⟨i,by rw [List.getD_eq_getElem?_getD,List.getElem?_eq_getElem hi];exact hx⟩
 ·rintro ⟨i,hx⟩;by_cases hi:i<ps.length
  ·exact ⟨_,getD_mem hi,hx⟩
  ·rw [List.getD_eq_getElem?_getD,List.getElem?_eq_none (by omega)] at hx;cases hx
theorem zc1 {ps:List (List Int)} {t:Nat} {x:Int}:x∈(ps.take t).flatten↔∃i,i<t∧x∈ps.getD i []:=by
 rw [za2];constructor
 ·rintro ⟨i,hi⟩;rw [List.getD_eq_getElem?_getD,List.getElem?_take] at hi
  split at hi
  ·rename_i h;exact ⟨i,h,by rw [List.getD_eq_getElem?_getD];exact hi⟩
  ·cases hi
 ·rintro ⟨i,h,hi⟩;exact ⟨i,by rw [List.getD_eq_getElem?_getD,List.getElem?_take,if_pos h,←List.getD_eq_getElem?_getD];exact hi⟩
theorem apart_iff:∀{ps:List (List Int)},ps.flatten.Nodup↔Apart ps
 | []=>by simp [Apart]
 | p :: ps=>by
  rw [List.flatten_cons,List.nodup_append,apart_iff (ps:=ps)];constructor
  ·rintro ⟨h1,⟨h2,h3⟩,h4⟩;refine ⟨fun i=>?_,fun i j x hi hj=>?_⟩
   ·cases i with
    | zero=>simpa using h1
    | succ i=>simpa using h2 i
   ·cases i with
    | zero=>cases j with
     | zero=>rfl
     | succ j=>exact absurd rfl (h4 x (by simpa using hi) x (za2.2 ⟨j,by simpa using hj⟩))
    | succ i=>cases j with
     | zero=>exact absurd rfl (h4 x (by simpa using hj) x (za2.2 ⟨i,by simpa using hi⟩))
     | succ j=>rw [h3 i j x (by simpa using hi) (by simpa using hj)]
  ·rintro ⟨h1,h2⟩;refine ⟨by simpa using h1 0,⟨fun i=>by simpa using h1 (i+1),fun i j x hi hj=>?_⟩,fun a ha b hb e=>?_⟩
   ·have:=h2 (i+1) (j+1) x (by simpa using hi) (by simpa using hj);omega
   ·subst e;obtain ⟨i,hi⟩:=za2.1 hb;have:=h2 0 (i+1) a (by simpa using ha) (by simpa using hi);omega
theorem zaJ {α:Type} {l:List α} {i j:Nat} {a d:α}:(l.set i a).getD j d=if i=j∧j<l.length then a else l.getD j d:=by
 rw [List.getD_eq_getElem?_getD,List.getD_eq_getElem?_getD,List.getElem?_set];by_cases h:i=j
 ·subst h;by_cases h2:i<l.length
  ·simp [h2]
  ·simp [h2]
 ·simp [h]
theorem Apart.set {ps:List (List Int)} {k:Nat} {p:List Int} (h:Apart ps) (hp:p.Nodup) (hd:∀x∈p,∀i,i≠k→x∉ps.getD i []):Apart (ps.set k p):=by
 refine ⟨fun i=>?_,fun i j x hi hj=>?_⟩
 ·rw [zaJ]
  split
  ·exact hp
  ·exact h.1 i
 ·rw [zaJ] at hi hj
  split at hi
  ·split at hj
   ·omega
   ·rename_i h1 h2
    by_cases hj2:j=k
    ·subst hj2;omega
    ·exact absurd hj (hd x hi j hj2)
  ·split at hj
   ·rename_i h1 h2
    by_cases hi2:i=k
    ·subst hi2;omega
    ·exact absurd hi (hd x hj i hi2)
   ·exact h.2 i j x hi hj
structure PathT (m:MZ) (t:Nat) (p:List Int):Prop where
 ne:p≠[]
 hd:p.getD 0 0∈(m.tasks.getD t ([],[])).1
 lt:p.getD (p.length - 1) 0∈(m.tasks.getD t ([],[])).2
 rg:∀x∈p,0≤x∧x<m.n
 fr:∀x∈p,ze m t x=true
 ch:∀(i:Nat) x y,p[i]?=some x→p[i+1]?=some y→y∈zi m x
theorem pathB_iff {m:MZ} {t:Nat} {p pre:List Int}:pathB m t p pre=true↔PathT m t p∧p.Nodup∧∀x∈p,x∉pre:=by
 have gk:∀{k:Nat} (hk:k<p.length),p.getD k 0=p[k]:=fun hk=>by rw [List.getD_eq_getElem?_getD,List.getElem?_eq_getElem hk,Option.getD_some]
 constructor
 ·intro h;unfold pathB at h;simp only [Bool.and_eq_true,Bool.not_eq_true',decide_eq_false_iff_not,decide_eq_true_eq,List.all_eq_true,List.mem_range] at h;obtain ⟨h0,h1,h2,h3⟩:=h
  have h4:∀k (hk:k<p.length),(0≤p[k]∧p[k]<m.n)∧p[k]∉pre++p.take k∧ze m t p[k]=true∧(k=0∨p[k]∈zi m (p.getD (k - 1) 0)):=fun k hk=>by
   have:=h3 k hk;unfold zbB at this;rw [gk hk] at this;simp only [Bool.and_eq_true,Bool.or_eq_true,Bool.not_eq_true',decide_eq_false_iff_not,decide_eq_true_eq] at this;exact ⟨⟨this.1,this.2.1⟩,this.2.2.1,this.2.2.2.1,this.2.2.2.2⟩
  refine ⟨⟨h0,h1,h2,fun x hx=>?_,fun x hx=>?_,fun i x y hx hy=>?_⟩,?_,fun x hx hp=>?_⟩
  ·obtain ⟨k,hk,rfl⟩:=List.getElem_of_mem hx;exact (h4 k hk).1
  ·obtain ⟨k,hk,rfl⟩:=List.getElem_of_mem hx;exact (h4 k hk).2.2.1
  ·obtain ⟨hi,rfl⟩:=List.getElem?_eq_some_iff.1 hx;obtain ⟨hj,rfl⟩:=List.getElem?_eq_some_iff.1 hy;rcases (h4 _ hj).2.2.2 with h5 | h5
   ·omega
   ·rw [Nat.add_sub_cancel,gk hi] at h5;exact h5
  ·rw [List.nodup_iff_pairwise_ne,List.pairwise_iff_getElem];intro i j hi hj hij e;refine (h4 j hj).2.1 (List.mem_append_right _ ?_);rw [←e];exact List.mem_iff_getElem.2 ⟨i,by rw [List.length_take];omega,by rw [List.getElem_take]⟩
  ·obtain ⟨k,hk,rfl⟩:=List.getElem_of_mem hx;exact (h4 k hk).2.1 (List.mem_append_left _ hp)
 ·rintro ⟨h,hn,hp⟩;refine pathB_ok h.ne h.hd h.lt fun k hk=>?_
  have hm:=List.getElem_mem hk;have hr:=h.rg _ hm;unfold zbB;rw [gk hk,decide_eq_true hr.1,decide_eq_true hr.2,h.fr _ hm]
  have h1:p[k]∉pre++p.take k:=fun hc=>by
   rcases List.mem_append.1 hc with hc | hc
   ·exact hp _ hm hc
   ·obtain ⟨i,hi,e⟩:=List.getElem_of_mem hc;rw [List.getElem_take] at e;have hi':i<k:=by rw [List.length_take] at hi;omega
    exact List.pairwise_iff_getElem.1 (List.nodup_iff_pairwise_ne.1 hn) i k (by omega) hk hi' e
  rw [decide_eq_false h1];rcases Nat.eq_zero_or_pos k with rfl | h0
  ·rfl
  ·have h3:=h.ch (k - 1) _ _ (List.getElem?_eq_getElem (by omega)) (by rw [show k - 1+1=k by omega];exact List.getElem?_eq_getElem hk);rw [gk (show k - 1<p.length by omega),decide_eq_true h3];simp
theorem zbc {m:MZ} {ps:List (List Int)}:zZ m ps=true↔chk m=0∧ps.length=m.tasks.length∧(∀t,t<ps.length→PathT m t (ps.getD t []))∧Apart ps:=by
 constructor
 ·intro h;unfold zZ at h;simp only [Bool.and_eq_true,decide_eq_true_eq,List.all_eq_true,List.mem_range,pathB_iff] at h;obtain ⟨h0,h1,h2⟩:=h;refine ⟨h0,h1,fun t ht=>(h2 t ht).1,fun i=>?_,fun i j x hi hj=>?_⟩
  ·by_cases hi:i<ps.length
   ·exact (h2 i hi).2.1
   ·rw [List.getD_eq_getElem?_getD,List.getElem?_eq_none (by omega)];exact List.nodup_nil
  ·have lt:∀{i:Nat},x∈ps.getD i []→i<ps.length:=fun {i} hx=>by
    by_cases hi:i<ps.length
    ·exact hi
    ·rw [List.getD_eq_getElem?_getD,List.getElem?_eq_none (by omega)] at hx;cases hx
   rcases Nat.lt_trichotomy i j with h4 | h4 | h4
   ·exact absurd (zc1.2 ⟨i,h4,hi⟩) ((h2 j (lt hj)).2.2 x hj)
   ·exact h4
   ·exact absurd (zc1.2 ⟨j,h4,hj⟩) ((h2 i (lt hi)).2.2 x hi)
 ·rintro ⟨h0,h1,h2,h3⟩;refine rightB_ok h0 h1 fun t ht=>pathB_iff.2 ⟨h2 t ht,h3.1 t,fun x hx hp=>?_⟩
  obtain ⟨i,hi,hx2⟩:=zc1.1 hp;have:=h3.2 i t x hx2 hx;omega
theorem PathT.congr {m m':MZ} {t t':Nat} {p:List Int} (h:PathT m t p) (h1:m'.w=m.w) (h2:m'.h=m.h) (h3:m'.l=m.l) (h4:m'.up=m.up) (h5:m'.tasks.getD t' ([],[])=m.tasks.getD t ([],[])) (h6:m'.free.getD t' []=m.free.getD t []):PathT m' t' p:=by
 have hn:m'.n=m.n:=by unfold MZ.n;rw [h1,h2,h3]
 have hx:∀x,zi m' x=zi m x:=fun x=>by unfold zi;rw [h1,h2,h3,h4]
 exact ⟨h.ne,by rw [h5];exact h.hd,by rw [h5];exact h.lt,by rw [hn];exact h.rg,fun x hx=>by unfold ze;rw [h6];exact h.fr x hx,fun i x y hi hj=>by rw [hx];exact h.ch i x y hi hj⟩
theorem good_part {m:MZ} (g:zx m) {l:List Nat} (hl:l.length≤6) (ht:∀k∈l,k<m.tasks.length):zx ⟨m.w,m.h,m.l,l.map (m.free.getD · []),m.up,l.map (m.tasks.getD · ([],[]))⟩:=by
 have d:=g.dim;refine ⟨⟨d.w1,d.w2,d.h1,d.h2,d.l1,d.l2,d.n1,d.up⟩,by simp,fun f hf=>?_,by simpa using hl,fun t htm x hx=>?_⟩
 ·obtain ⟨k,hk,rfl⟩:=List.mem_map.1 hf;have:=ht k hk;have h2:=g.fl;exact g.fn _ (getD_mem (by omega))
 ·obtain ⟨k,hk,rfl⟩:=List.mem_map.1 htm;have:=ht k hk;refine g.tn _ ?_ x hx;rw [List.getD_eq_getElem?_getD,List.getElem?_eq_getElem this];exact List.getElem_mem this
theorem ownM_good {m:MZ} (g:zx m) {k:Nat} (hk:k<m.tasks.length):zx (ownM m k):=good_part (l:=[k]) g (by simp) (by simpa using hk)
theorem zc8 {ps:List (List Int)} {t k:Nat}:k∈zat ps t↔k<ps.length∧zah ps t k=true:=by
 unfold zat;rw [List.mem_filter,List.mem_range]
theorem keepL_len (ps:List (List Int)) (t:Nat):(zat ps t).length≤ps.length:=Nat.le_trans (List.length_filter_le _ _) (by simp)
theorem zcB {m:MZ} (g:zx m) {ps:List (List Int)} (hp:ps.length=m.tasks.length) (t:Nat):zx (zay m ps t):=
 good_part g (by have:=keepL_len ps t;have:=g.tk;omega) (fun k hk=>by have:=(zc8.1 hk).1;omega)
theorem zC {m:MZ} {ps:List (List Int)}:zau m ps=true↔chk m=0∧ps.length=m.tasks.length∧(∀k,k<ps.length→ps.getD k []≠[]→PathT m k (ps.getD k []))∧Apart ps:=by
 unfold zau;simp only [Bool.and_eq_true,decide_eq_true_eq,List.all_eq_true,List.mem_range,apart_iff];constructor
 ·rintro ⟨h0,h1,h2,h3⟩;refine ⟨h0,h1,fun k hk hne=>?_,h3⟩;have:=h2 k hk;unfold laidK at this;rw [decide_eq_false hne,Bool.false_or,zbc] at this;exact (this.2.2.1 0 (by simp)).congr rfl rfl rfl rfl rfl rfl
 ·rintro ⟨h0,h1,h2,h3⟩;refine ⟨h0,h1,fun k hk=>?_,h3⟩;unfold laidK;by_cases hne:ps.getD k []=[]
  ·rw [decide_eq_true hne,Bool.true_or]
  ·rw [decide_eq_false hne,Bool.false_or,zbc];refine ⟨zbk (ownM_good (zx.of h0) (by omega)),by simp [ownM],fun t ht=>?_,fun i=>?_,fun i j x hi hj=>?_⟩
   ·have:t=0:=by simpa using ht
    subst this;exact (h2 k hk hne).congr rfl rfl rfl rfl rfl rfl
   ·cases i with
    | zero=>simpa using h3.1 k
    | succ i=>simp
   ·cases i with
    | zero=>cases j with
     | zero=>rfl
     | succ j=>simp at hj
    | succ i=>simp at hi
structure PathR (m:MZ) (t:Nat) (p:List Int):Prop where
 hd:∀x,p.head?=some x→x∈(m.tasks.getD t ([],[])).1
 fr:∀x∈p,ze m t x=true
 nb:∀k x y,p[k]?=some x→p[k+1]?=some y→y∈zi m x
def FinP (m:MZ) (t:Nat) (p:List Int):Prop:=∃x,p.getLast?=some x∧x∈(m.tasks.getD t ([],[])).2
theorem PathR.nil (m:MZ) (t:Nat):PathR m t []:=⟨(fun x h=>by cases h),(fun x h=>by cases h),(fun k x y h=>by simp at h)⟩
theorem PathR.snoc {m:MZ} {t:Nat} {p:List Int} {n:Int} (h:PathR m t p) (hf:ze m t n=true) (h0:p=[]→n∈(m.tasks.getD t ([],[])).1) (h1:∀x,p.getLast?=some x→n∈zi m x):PathR m t (p++[n]):=by
 refine ⟨fun x hx=>?_,fun x hx=>?_,fun k x y hx hy=>?_⟩
 ·cases p with
  | nil=>
   have:n=x:=by simpa using hx
   subst this;exact h0 rfl
  | cons a p=>exact h.hd x (by simpa using hx)
 ·rcases List.mem_append.1 hx with hx | hx
  ·exact h.fr x hx
  ·rw [List.mem_singleton] at hx;subst hx;exact hf
 ·rcases Nat.lt_or_ge (k+1) p.length with hk | hk
  ·rw [List.getElem?_append_left (by omega)] at hx;rw [List.getElem?_append_left hk] at hy;exact h.nb k x y hx hy
  ·have hlt:k+1<(p++[n]).length:=by
    rcases Nat.lt_or_ge (k+1) (p++[n]).length with h2 | h2
    ·exact h2
    ·rw [List.getElem?_eq_none h2] at hy;cases hy
   have hkp:k+1=p.length:=by simp at hlt;omega
   rw [List.getElem?_append_right (by omega),show k+1 - p.length=0 from by omega] at hy;have:n=y:=by simpa using hy
   subst this;rw [List.getElem?_append_left (by omega)] at hx;refine h1 x ?_;rw [List.getLast?_eq_getElem?,show p.length - 1=k from by omega];exact hx
structure PsR (m:MZ) (ps:List (List Int)):Prop where
 one:∀t p,ps[t]?=some p→PathR m t p
 fin:∀t p,ps[t]?=some p→t+1<ps.length→FinP m t p
theorem cand_step {m:MZ} {ps:List (List Int)} {us:List Int} {n:Int} (h:n∈zb3 m ps us):ze m (ps.length - 1) n=true∧((ps.getD (ps.length - 1) [])=[]→n∈(m.tasks.getD (ps.length - 1) ([],[])).1)∧(∀x,(ps.getD (ps.length - 1) []).getLast?=some x→n∈zi m x):=by
 unfold zb3 at h
 split at h
 ·cases h
 ·split at h
  ·rename_i hl
   obtain ⟨h1,h2⟩:=List.mem_filter.1 h;simp only [Bool.and_eq_true] at h2;exact ⟨h2.1,fun _=>mem_sortL.1 (zdb h1),fun x hx=>by rw [hl] at hx;cases hx⟩
  ·rename_i x hl
   obtain ⟨h1,h2⟩:=List.mem_filter.1 h;unfold zL at h2;simp only [Bool.and_eq_true] at h2;refine ⟨h2.1.1.1,(fun h0=>by rw [h0] at hl;cases hl),fun y hy=>?_⟩;rw [hl] at hy;injection hy with hy;subst hy;exact h1
theorem PsR.add {m:MZ} {ps:List (List Int)} {us:List Int} {n:Int} (h:PsR m ps) (hp:0<ps.length) (hn:n∈zb3 m ps us):PsR m (zbx ps n):=by
 obtain ⟨h1,h2,h3⟩:=cand_step hn;obtain ⟨qs,p,rfl,he⟩:=addN_eq hp n;rw [he];have hl:(qs++[p]).length - 1=qs.length:=by simp
 have hg:(qs++[p]).getD qs.length []=p:=by simp
 rw [hl] at h1 h2 h3;rw [hg] at h2 h3;refine ⟨fun t q hq=>?_,fun t q hq ht=>?_⟩
 ·rcases Nat.lt_or_ge t qs.length with hlt | hge
  ·rw [List.getElem?_append_left hlt] at hq;exact h.one t q (by rw [List.getElem?_append_left hlt];exact hq)
  ·have hte:t=qs.length:=by
    rcases Nat.lt_or_ge t (qs++[p++[n]]).length with h4 | h4
    ·simp at h4;omega
    ·rw [List.getElem?_eq_none h4] at hq;cases hq
   subst hte;rw [List.getElem?_append_right (Nat.le_refl _),Nat.sub_self] at hq;have:p++[n]=q:=by simpa using hq
   subst this;exact (h.one qs.length p (by simp)).snoc h1 h2 h3
 ·have hlt:t<qs.length:=by simp at ht;omega
  rw [List.getElem?_append_left hlt] at hq;exact h.fin t q (by rw [List.getElem?_append_left hlt];exact hq) (by simp;omega)
theorem PsR.with {m:MZ} {ps:List (List Int)} {us:List Int} {n:Int} (h:PsR m ps) (hp:0<ps.length) (hn:n∈zb3 m ps us):PsR m (zbe m ps n):=by
 have h1:=h.add hp hn;unfold zbe
 split
 ·rename_i hf
  have hlen:(zbx ps n).length=ps.length:=zci
  have hF:∀t p,(zbx ps n)[t]?=some p→t+1=ps.length→FinP m t p:=fun t p ht he=>by
   have h2:=hf.1;unfold finB at h2;rw [hlen,show ps.length - 1=t from by omega,List.getD_eq_getElem?_getD,ht] at h2;simp only [Option.getD_some] at h2
   split at h2
   ·cases h2
   ·rename_i x hx
    exact ⟨x,hx,of_decide_eq_true h2⟩
  refine ⟨fun t p ht=>?_,fun t p ht hlt=>?_⟩
  ·rcases Nat.lt_or_ge t (zbx ps n).length with h2 | h2
   ·rw [List.getElem?_append_left h2] at ht;exact h1.one t p ht
   ·rw [List.getElem?_append_right h2] at ht
    have hp0:p=[]:=by
     cases hk:t - (zbx ps n).length with
     | zero=>rw [hk] at ht;simpa using ht.symm
     | succ j=>rw [hk] at ht;simp at ht
    subst hp0;exact PathR.nil m t
  ·have h2:t<(zbx ps n).length:=by simp at hlt;omega
   rw [List.getElem?_append_left h2] at ht;rcases Nat.lt_or_ge (t+1) (zbx ps n).length with h3 | h3
   ·exact h1.fin t p ht h3
   ·exact hF t p ht (by omega)
 ·exact h1
theorem zu.psR {m:MZ} {ch:List Int} (h:zu m ch):PsR m (zJ m ch):=by
 induction h with
 | nil=>
  rw [psOf_nil];unfold ps0
  split
  ·exact ⟨fun t p h=>by simp at h,fun t p h=>by simp at h⟩
  ·refine ⟨fun t p h=>?_,fun t p h hl=>by simp at hl⟩
   match t,h with
   | 0,h=>
    have:p=[]:=by simpa using h.symm
    subst this;exact PathR.nil m 0
 | @snoc ch n h hn ih=>
  rw [zcA];exact ih.with (h.psOk.pn (zbz (zbo hn))) hn
theorem zu.all {m:MZ} {ch:List Int} (h:zu m ch) (hcm:zae m ch=true):(zJ m ch).length=m.tasks.length∧(∀t p,(zJ m ch)[t]?=some p→PathR m t p∧FinP m t p):=by
 have hR:=h.psR;have hO:=h.psOk;unfold zae cmpB at hcm;rw [Bool.or_eq_true,decide_eq_true_eq,Bool.and_eq_true,decide_eq_true_eq] at hcm;rcases hcm with h0 | ⟨h0,h1⟩
 ·have:=hO.pl;refine ⟨by omega,fun t p ht=>?_⟩;rw [List.getElem?_eq_none (by omega)] at ht;cases ht
 ·refine ⟨h0,fun t p ht=>⟨hR.one t p ht,?_⟩⟩
  have htl:t<(zJ m ch).length:=by
   rcases Nat.lt_or_ge t (zJ m ch).length with h2 | h2
   ·exact h2
   ·rw [List.getElem?_eq_none h2] at ht;cases ht
  rcases Nat.lt_or_ge (t+1) (zJ m ch).length with h2 | h2
  ·exact hR.fin t p ht h2
  ·unfold finB at h1;rw [show (zJ m ch).length - 1=t from by omega,List.getD_eq_getElem?_getD,ht] at h1;simp only [Option.getD_some] at h1
   split at h1
   ·cases h1
   ·rename_i x hx
    exact ⟨x,hx,of_decide_eq_true h1⟩
theorem right_ch {m:MZ} {ch:List Int} (g:zx m) (h:zu m ch) (hcm:zae m ch=true):zZ m (zJ m ch)=true:=by
 obtain ⟨h1,h2⟩:=h.all hcm;have hr:=h.range g;have hfl:=h.psOk.fl;have hin:∀t x,x∈(zJ m ch).getD t []→x∈ch:=fun t x hx=>by rw [←hfl];exact za2.2 ⟨t,hx⟩
 refine zbc.2 ⟨zbk g,h1,fun t ht=>?_,apart_iff.1 (by rw [hfl];exact hr.2)⟩;have e:(zJ m ch).getD t []=(zJ m ch)[t]:=by rw [List.getD_eq_getElem?_getD,List.getElem?_eq_getElem ht];rfl
 obtain ⟨hP,x,hx,hto⟩:=h2 t _ (List.getElem?_eq_getElem ht);have hin2:=hin t;rw [e] at hin2⊢;generalize (zJ m ch)[t]=p at hP hx hin2;have hne:p≠[]:=fun e=>by subst e;cases hx
 have hpos:0<p.length:=List.length_pos_iff.2 hne;refine ⟨hne,hP.hd _ ?_,?_,fun y hy=>hr.1 y (hin2 y hy),hP.fr,hP.nb⟩
 ·rw [List.head?_eq_getElem?,List.getD_eq_getElem?_getD,List.getElem?_eq_getElem hpos];rfl
 ·rw [List.getLast?_eq_getElem?,List.getElem?_eq_getElem (by omega)] at hx;have e2:p.getD (p.length - 1) 0=p[p.length - 1]:=by rw [List.getD_eq_getElem?_getD,List.getElem?_eq_getElem (by omega),Option.getD_some]
  injection hx with hx;rw [e2,hx];exact hto
theorem combos_sub:∀(k:Nat) (l s:List Int),s∈zD k l→s.Sublist l
 | 0,l,s,h=>by
  have:s=[]:=by simpa [zD] using h
  subst this;exact List.nil_sublist l
 | k+1,[],s,h=>by simp [zD] at h
 | k+1,x :: l,s,h=>by
  unfold zD at h;rcases List.mem_append.1 h with h | h
  ·obtain ⟨s',hs,rfl⟩:=List.mem_map.1 h;exact (combos_sub k l s' hs).cons_cons x
  ·exact (combos_sub (k+1) l s h).cons x
theorem subsP_sub {l s:List Int} (h:s∈zav l):s.Sublist l:=by
 unfold zav at h;obtain ⟨k,-,h⟩:=List.mem_flatMap.1 h;exact combos_sub k l s h
theorem mem_laidL {ps:List (List Int)} {x:Int}:x∈zaV ps↔∃k:Nat,k<ps.length∧x=(k:Int)∧ps.getD k []≠[]:=by
 unfold zaV;rw [List.mem_map];constructor
 ·rintro ⟨k,hk,rfl⟩;rw [List.mem_filter,List.mem_range] at hk;exact ⟨k,hk.1,rfl,of_decide_eq_true hk.2⟩
 ·rintro ⟨k,hk,rfl,hne⟩;exact ⟨k,List.mem_filter.2 ⟨List.mem_range.2 hk,decide_eq_true hne⟩,rfl⟩
theorem zbJ:∀(s:List Int) (ps:List (List Int)),(zba ps s).length=ps.length
 | [],ps=>rfl
 | x :: s,ps=>by
  have hlen:=zbJ s (ps.set x.toNat []);unfold zba at hlen⊢;rw [List.foldl_cons,hlen,List.length_set]
theorem PathI.pathT {m:MZ} {t:Nat} {fixed:List (List Int)} {p:List Int} (h:PathI m t fixed p):PathT m t p:=⟨h.ne,h.hd,h.lt,h.rg,fun x hx=>(h.fr x hx).1,h.ch⟩
theorem okC_of {m:MZ} {ch:List Int} (hc:chk m=0) (h:zu m ch):okC m ch=true:=by
 unfold okC;rw [decide_eq_true hc,zbd.2 h];rfl
theorem curF_eq {m:MZ} {pp:List (List Int)} {c:Nat}:∀(f t:Nat),t≤c→c≤t+f→(∀j,t≤j→j<c→j<pp.length∧endB m pp j=true)→¬ (c<pp.length∧endB m pp c=true)→curF m pp f t=c
 | 0,t,h0,h1,_,_=>by unfold curF;omega
 | f+1,t,h0,h1,h2,h3=>by
  unfold curF;by_cases h:t=c
  ·subst h;rw [if_neg h3]
  ·rw [if_pos (h2 t (Nat.le_refl _) (by omega))];exact curF_eq f (t+1) (by omega) (by omega) (fun j hj hjc=>h2 j (by omega) hjc) h3
theorem fin_last {m:MZ} {ch:List Int} (h:zu m ch) (hl:(zJ m ch).length<m.tasks.length):finB m (zJ m ch)=false:=by
 have hz:∀l:List (List Int),finB m (l++[[]])=false:=fun l=>by
  unfold finB
  have:(l++[([]:List Int)]).getD ((l++[([]:List Int)]).length - 1) []=[]:=by
   rw [List.length_append,List.length_singleton,Nat.add_sub_cancel,List.getD_eq_getElem?_getD,List.getElem?_append_right (Nat.le_refl _)];simp
  rw [this];rfl
 cases h with
 | nil=>
  rw [psOf_nil] at hl⊢;unfold ps0 at hl⊢
  split
  ·rename_i h0;omega
  ·exact hz []
 | @snoc ch n h hn=>
  rw [zcA] at hl⊢;unfold zbe at hl⊢
  split
  ·exact hz _
  ·rename_i h0
   rw [if_neg h0,zci] at hl
   cases hf:finB m (zbx (zJ m ch) n) with
   | false=>rfl
   | true=>exact absurd ⟨hf,hl⟩ h0
structure Cur (m:MZ) (ch:List Int) (qs:List (List Int)) (a:List Int):Prop where
 ps:zJ m ch=qs++[a]
 lt:qs.length<m.tasks.length
 cur:zO m ch=qs.length
 pp:zn m ch=if a=[] then qs else qs++[a]
theorem ne_of_fin {m:MZ} {t:Nat} {p:List Int} (h:FinP m t p):p≠[]:=by
 obtain ⟨x,hx,-⟩:=h;intro e;subst e;cases hx
theorem endB_fin {m:MZ} {pp:List (List Int)} {t:Nat} {p:List Int} (hp:pp[t]?=some p) (h:FinP m t p):endB m pp t=true:=by
 obtain ⟨x,hx,h2⟩:=h;unfold endB;rw [List.getD_eq_getElem?_getD,hp,Option.getD_some,hx];exact decide_eq_true h2
theorem filter_ne {l:List (List Int)} (h:∀q∈l,q≠[]):l.filter (fun p=>decide (p.length≠0))=l:=
 List.filter_eq_self.2 fun q hq=>decide_eq_true (fun e=>h q hq (List.length_eq_zero_iff.1 e))
theorem cur_of {m:MZ} {ch:List Int} (hc:chk m=0) (h:zu m ch):(zae m ch=true∧zO m ch=m.tasks.length)∨(zae m ch=false∧∃qs a,Cur m ch qs a):=by
 have g:=zx.of hc;have hO:=h.psOk;have hR:=h.psR;have hpp:zn m ch=(zJ m ch).filter (fun p=>decide (p.length≠0)):=by unfold zn;rw [if_pos (okC_of hc h)]
 cases hcm:zae m ch with
 | true=>
  left
  obtain ⟨h1,h2⟩:=h.all hcm
  have hall:zn m ch=zJ m ch:=by
   rw [hpp];refine filter_ne fun q hq=>?_
   obtain ⟨i,hi,rfl⟩:=List.getElem_of_mem hq;exact ne_of_fin (h2 i _ (List.getElem?_eq_getElem hi)).2
  refine ⟨rfl,?_⟩;unfold zO;rw [hall];refine curF_eq _ _ (Nat.zero_le _) (by omega) (fun j _ hj=>?_) (fun hx=>by omega);have hj2:j<(zJ m ch).length:=by omega
  exact ⟨hj2,endB_fin (List.getElem?_eq_getElem hj2) (h2 j _ (List.getElem?_eq_getElem hj2)).2⟩
 | false=>
  right
  refine ⟨rfl,?_⟩;have ht:=zbz (ps:=zJ m ch) hcm;have hpos:=hO.pn ht;rcases List.eq_nil_or_concat (zJ m ch) with he | ⟨qs,a,he⟩
  ·rw [he] at hpos;cases hpos
  ·rw [List.concat_eq_append] at he;have hlen:(zJ m ch).length=qs.length+1:=by rw [he];simp
   have hfin:∀j (hj:j<qs.length),FinP m j qs[j]:=fun j hj=>hR.fin j _ (by rw [he,List.getElem?_append_left hj,List.getElem?_eq_getElem hj]) (by omega)
   have hqs:∀q∈qs,q≠[]:=fun q hq=>by
    obtain ⟨i,hi,rfl⟩:=List.getElem_of_mem hq;exact ne_of_fin (hfin i hi)
   have hpa:zn m ch=if a=[] then qs else qs++[a]:=by
    rw [hpp,he,List.filter_append,filter_ne hqs];by_cases ha:a=[]
    ·subst ha;simp
    ·rw [if_neg ha,filter_ne (l:=[a]) (by simpa using ha)]
   have hlt:=hO.pl;refine ⟨qs,a,he,by omega,?_,hpa⟩
   have hj:∀j (hj:j<qs.length),(zn m ch)[j]?=some qs[j]:=fun j hj=>by
    rw [hpa]
    split
    ·exact List.getElem?_eq_getElem hj
    ·rw [List.getElem?_append_left hj,List.getElem?_eq_getElem hj]
   unfold zO;refine curF_eq _ _ (Nat.zero_le _) ?_ (fun j _ hjc=>?_) ?_
   ·rw [hpa];split <;> simp
   ·have h3:=hj j hjc;obtain ⟨h4,-⟩:=List.getElem?_eq_some_iff.1 h3;exact ⟨h4,endB_fin h3 (hfin j hjc)⟩
   ·rintro ⟨h4,h5⟩;have ha:a≠[]:=fun e=>by rw [hpa,if_pos e] at h4;omega
    have h6:(zn m ch).getD qs.length []=a:=by
     rw [hpa,if_neg ha,List.getD_eq_getElem?_getD,List.getElem?_append_right (Nat.le_refl _)];simp
    unfold endB at h5;rw [h6] at h5
    have hfb:finB m (zJ m ch)=true:=by
     unfold finB;rw [hlen,Nat.add_sub_cancel]
     have:(zJ m ch).getD qs.length []=a:=by
      rw [he,List.getD_eq_getElem?_getD,List.getElem?_append_right (Nat.le_refl _)];simp
     rw [this];exact h5
    unfold zae cmpB at hcm;rw [hfb,Bool.and_true,Bool.or_eq_false_iff,decide_eq_false_iff_not,decide_eq_false_iff_not] at hcm;have h7:qs.length+1<m.tasks.length:=by omega
    exact absurd hfb (by rw [fin_last h (by rw [hlen];exact h7)];simp)
theorem headP_range {m:MZ} {ch:List Int} {qs:List (List Int)} {a:List Int} (hc:chk m=0) (hi:zu m ch) (h:Cur m ch qs a) {t:Nat} (ht:t<m.tasks.length):∀x∈zao m ch t,0≤x∧x<m.n:=by
 have g:=zx.of hc;intro x hx;unfold zao at hx
 split at hx
 ·rw [Option.mem_toList] at hx;have h1:x∈(zn m ch).flatten:=za2.2 ⟨t,List.mem_of_getLast? hx⟩;refine (hi.range g).1 x ?_;rw [←hi.psOk.fl,h.ps];rw [h.pp] at h1
  split at h1
  ·rw [List.flatten_append];exact List.mem_append_left _ h1
  ·exact h1
 ·rw [List.mem_filter,List.getD_eq_getElem?_getD,List.getElem?_eq_getElem ht] at hx;exact g.tn _ (List.getElem_mem ht) x (.inl hx.1)
theorem sideP_eq {m:MZ} {ch:List Int} {t:Nat} (hc:chk m=0) (ht:t<m.tasks.length):zb6 m ch t=zaA m t (zao m ch t) ch:=by
 unfold zb6 zcr;rw [if_pos ⟨hc,by omega,by omega⟩,Int.toNat_natCast]
inductive All2 (P:Int→PT→Prop):List Int→List PT→Prop
 | nil:All2 P [] []
 | cons {n:Int} {p:PT} {l:List Int} {ps:List PT}:P n p→All2 P l ps→All2 P (n :: l) (p :: ps)
theorem kidsR_ok {f:Int→Nat→Int×PT×Nat} {P:Int→PT→Prop}:∀(l:List Int) (k:Nat) (acc:List PT),(∀n∈l,∀k,k≤3000→(f n k).1=0→P n (f n k).2.1∧(f n k).2.2=k+(f n k).2.1.size∧(f n k).2.2≤3000)→k≤3000→(zV f l k acc).1=0→
  ∃ps,(zV f l k acc).2.1=acc++ps∧All2 P l ps∧(zV f l k acc).2.2=k+PT.sizeL ps∧(zV f l k acc).2.2≤3000
 | [],k,acc,_,hk,_=>⟨[],by simp [zV],.nil,by simp [zV,PT.sizeL],hk⟩
 | n :: l,k,acc,hf,hk,h=>by
  unfold zV at h⊢;by_cases h0:(f n k).1=0
  ·rw [if_pos h0] at h⊢;obtain ⟨h1,h2,h3⟩:=hf n (List.mem_cons_self ..) k hk h0;obtain ⟨ps,q1,q2,q3,q4⟩:=kidsR_ok l _ (acc++[(f n k).2.1]) (fun n' hn=>hf n' (List.mem_cons_of_mem _ hn)) h3 h;exact ⟨(f n k).2.1 :: ps,by rw [q1];simp,.cons h1 q2,by rw [q3,h2];simp only [PT.sizeL];omega,q4⟩
  ·rw [if_neg h0] at h;exact absurd h h0
theorem holdsL_of {m:MZ} {ch:List Int} {l:List Int} {ps:List PT} (h:All2 (fun n p=>zaI m p (ch++[n])=true) l ps):zaH m ps ch l=true:=by
 induction h with
 | nil=>simp [zaH]
 | cons h1 _ ih=>unfold zaH;rw [h1,ih];rfl
theorem incB_of {N:Int}:∀{l:List Int} {b:Int},l.Pairwise (·<·)→(∀x∈l,b<x)→(∀x∈l,x<N)→incB N b l=true
 | [],_,_,_,_=>rfl
 | x :: l,b,hp,h1,h2=>by
  rw [List.pairwise_cons] at hp;unfold incB;rw [decide_eq_true (h1 x (List.mem_cons_self ..)),decide_eq_true (h2 x (List.mem_cons_self ..)),incB_of hp.2 hp.1 (fun y hy=>h2 y (List.mem_cons_of_mem _ hy))];rfl
theorem cutT_some {m:MZ} {ch:List Int} {t:Nat} (h:cutT m ch=some t):zO m ch≤t∧t<m.tasks.length∧offB m ch t=true:=by
 unfold cutT at h;have h1:=List.find?_some h;have h2:=List.mem_of_find?_eq_some h;obtain ⟨k,hk,rfl⟩:=List.mem_map.1 h2;rw [List.mem_range] at hk;exact ⟨by omega,by omega,h1⟩
theorem cut_holds {m:MZ} {ch:List Int} {t:Nat} (hc:chk m=0) (hi:zu m ch) (h:cutT m ch=some t):cutB m ch t (zb6 m ch t) 0=true∧((t:Int)≠zO m ch∨zb6 m ch t≠[]):=by
 obtain ⟨h1,h2,h3⟩:=cutT_some h;have g:=zx.of hc;have d:=g.dim;rcases cur_of hc hi with ⟨-,h4⟩ | ⟨-,qs,a,hC⟩
 ·omega
 ·have hs:=sideP_eq (ch:=ch) hc h2;have hr:=headP_range hc hi hC h2;unfold offB at h3;rw [Bool.and_eq_true,Bool.or_eq_true,decide_eq_true_eq,decide_eq_true_eq,Bool.not_eq_true'] at h3;obtain ⟨h5,h6⟩:=h3;refine ⟨?_,h6.symm.imp (fun h=>by omega) id⟩;unfold cutB;rw [if_neg]
  ·rw [Int.toNat_natCast,h5,Bool.not_false,Bool.true_and,Bool.and_eq_true,Bool.and_eq_true];rw [hs];refine ⟨incB_of (reachL_pw ..) (fun x hx=>?_) (fun x hx=>?_),?_,?_⟩
   ·have:=((zaP d).1 hx).range d;omega
   ·exact (((zaP d).1 hx).range d).2
   ·rw [List.all_eq_true];intro x hx;exact decide_eq_true ((zaP d).2 (RP.base hx (hr x hx).1 (hr x hx).2))
   ·unfold wallB;rw [List.all_eq_true];intro x hx;rw [List.all_eq_true];intro y hy;have hx2:=(zaP d).1 hx;unfold zap at hy
    split at hy
    ·by_cases hf:ze m t y=true
     ·by_cases hu:y∈ch
      ·rw [decide_eq_true hu];simp
      ·rw [decide_eq_true ((zaP d).2 (hx2.step hy hf hu))];simp
     ·have hf':ze m t y=false:=by simpa using hf
      rw [hf'];simp
    ·cases hy
  ·rintro (h7 | h7 | ⟨h7,h8⟩ | h7)
   ·omega
   ·omega
   ·rcases h6 with h6 | h6
    ·exact h6 h8
    ·omega
   ·exact h7 rfl
theorem zcf {m:MZ} (hc:chk m=0):∀(f:Nat) (ch:List Int) (k:Nat),zu m ch→k≤3000→(zq m f ch k).1=0→zaI m (zq m f ch k).2.1 ch=true∧(zq m f ch k).2.2=k+(zq m f ch k).2.1.size∧(zq m f ch k).2.2≤3000
 | 0,ch,k,_,_,h=>by simp [zq] at h
 | f+1,ch,k,hi,hk,h=>by
  unfold zq at h⊢
  split at h
  ·simp at h
  ·rename_i h1
   rw [if_neg h1]
   split at h
   ·simp at h
   ·rename_i h2
    rw [if_neg h2]
    split at h
    ·rename_i t ht
     obtain ⟨h3,h4⟩:=cut_holds hc hi ht;refine ⟨?_,by simp [PT.size,PT.sizeL],by show k+1≤3000;omega⟩;unfold zaI;rw [if_neg h1,if_pos h4];exact h3
    ·rename_i hn
     have e:zM m ch=cand m ch:=by unfold zM;rw [if_pos (okC_of hc hi)]
     simp only at h⊢
     split at h
     ·rename_i h3
      rw [if_pos h3];obtain ⟨ps,q1,q2,q3,q4⟩:=kidsR_ok (P:=fun n p=>zaI m p (ch++[n])=true) (zM m ch) (k+1) [] (fun n hn k' hk' h0=>zcf hc f (ch++[n]) k' (.snoc hi (by rw [←e];exact hn)) hk' h0) (by omega) h3;rw [q1,List.nil_append];refine ⟨?_,by rw [q3];simp only [PT.size];omega,q4⟩;unfold zaI;rw [if_neg h1,if_neg (by simp)];exact holdsL_of q2
     ·rename_i h3;exact absurd h h3
end Go.Proofs.YthbjngbhbbkkgaaGreat
namespace Go.Proofs.YthbjngbhbbkkgaaGreat
open Go.RowKit
attribute [local go_sem ↓] Go.wp_at_zero Go.wp_at_succ
theorem zG.ext {w w':World} (h:zG w w'):Ext w w':=h.below _
end Go.Proofs.YthbjngbhbbkkgaaGreat
