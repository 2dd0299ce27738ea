/- RtKc RtBa RtBb -/
import Derived.Test.YthbjngbhbbkkgaaGreatHUz
set_option linter.unusedVariables false
set_option linter.unusedSimpArgs false
set_option maxRecDepth 100000
set_option maxHeartbeats 16000000
namespace Go.Proofs.YthbjngbhbbkkgaaGreat
open Go.RowKit
attribute [local go_sem ↓] Go.wp_at_zero Go.wp_at_succ
def exN (l:List (Int×Int)):MZ:=⟨3,3,1,List.replicate l.length exFree,List.replicate 9 false,l.map fun x=>([x.1],[x.2])⟩
def exC:Array Value:=#[.bool true,.bool true,.bool true,.bool true,.bool false,.bool true,.bool true,.bool true,.bool true]
def upC:Array Value:=#[.bool false,.bool false,.bool false,.bool false,.bool false,.bool false,.bool false,.bool false,.bool false]
structure XI (B:Nat) (w:World) (gm gu nF:Nat) (vF vT:Value) (fs ts:List Value) (l:List (Int×Int)):Prop where
 hB:B≤w.heap.size
 gm0:B≤gm
 gu0:B≤gu
 mz:Blk w gm 32 #[.int .i64 3,.int .i64 3,.int .i64 1,vF,.slice (some ⟨gu,0,none⟩) 9 9,vT]
 up:Blk w gu 4 upC
 F:w.ownsRow B 29 1 vF nF fs
 T:w.ownsRow B 56 3 vT l.length ts
 fd:∀j,j<nF→∃g,fs[j]?=some (.slice (some ⟨g,0,none⟩) 9 9)∧B≤g∧Blk w g 4 exC
 td:∀(j:Nat) (x:Int×Int),l[j]?=some x→∃g1 g2,ts[j*3]?=some (.string ⟨#[]⟩)∧ts[j*3+1]?=some (.slice (some ⟨g1,0,none⟩) 1 1)∧ts[j*3+2]?=some (.slice (some ⟨g2,0,none⟩) 1 1)∧B≤g1∧B≤g2∧Blk w g1 3 #[.int .i64 x.1]∧Blk w g2 3 #[.int .i64 x.2]
section
variable {B:Nat} {w w':World} {gm gu nF:Nat} {vF vT:Value} {fs ts:List Value} {l:List (Int×Int)}
theorem XI.ext (h:XI B w gm gu nF vF vT fs ts l) (hE:Ext w w'):XI B w' gm gu nF vF vT fs ts l:=
 ⟨Nat.le_trans h.hB hE.size,h.gm0,h.gu0,Blk.ext h.mz hE,Blk.ext h.up hE,zaj h.F fun g hg=>hE.block g (World.ownsRow.lt h.F g hg).2,zaj h.T fun g hg=>hE.block g (World.ownsRow.lt h.T g hg).2,
  fun j hj=>by
   obtain ⟨g,h1,h2,h3⟩:=h.fd j hj;exact ⟨g,h1,h2,Blk.ext h3 hE⟩,
  fun j x hj=>by
   obtain ⟨g1,g2,h1,h2,h3,h4,h5,h6,h7⟩:=h.td j x hj;exact ⟨g1,g2,h1,h2,h3,h4,h5,Blk.ext h6 hE,Blk.ext h7 hE⟩⟩
theorem own_set {w:World} {B:Nat} {e t:TypeId} {sz n:Nat} {v:Value} {xs:List Value} {g k:Nat} {cs:Array Value} (h:w.ownsRow B e sz v n xs) (hb:Blk w g t cs) (hne:e≠t) (u:Value):(w.setCell ⟨g,k,none⟩ u).ownsRow B e sz v n xs:=
 zaj h fun g' hg'=>Below.heap_setCell w ⟨g,k,none⟩ _ g' (fun e=>by
  have e':g'=g:=e;subst e';exact zj h hb hne hg')
theorem own_other {w w5:World} {B B':Nat} {e e':TypeId} {sz n sz' n':Nat} {v v':Value} {xs xs':List Value} {o:Obj} (h:w.ownsRow B e sz v n xs) (h':w.ownsRow B' e' sz' v' n' xs') (hne:e≠e') (hg:(w.alloc o).grownBy w5 v'.ownBlock):w5.ownsRow B e sz v n xs:=
 zaj h fun g hg'=>by
  have hlt:=(World.ownsRow.lt h g hg').2;refine (hg.block g (by simp;omega) (fun e2=>?_)).trans (Below.heap_alloc _ _ _ hlt);obtain ⟨hl,⟨e3,_⟩ | ⟨g2,cap,cur,e3,h4,h5,h6⟩⟩:=h
  ·rw [e3] at hg';cases hg'
  ·rw [e3] at hg';have:g2=g:=by simpa [Value.ownBlock] using hg'
   subst this;exact zj h' h5 (Ne.symm hne) e2.symm
theorem XI.addT (h:XI B w gm gu nF vF vT fs ts l) {g1 g2:Nat} {x:Int×Int} {vT':Value} {w5:World} {o:Obj} (k1:B≤g1) (k2:B≤g2) (b1:Blk w g1 3 #[.int .i64 x.1]) (b2:Blk w g2 3 #[.int .i64 x.2])
  (ho:w5.ownsRow B 56 3 vT' (l.length+1) (ts++[.string ⟨#[]⟩,.slice (some ⟨g1,0,none⟩) 1 1,.slice (some ⟨g2,0,none⟩) 1 1])) (hg:(w.alloc o).grownBy w5 vT.ownBlock):
  XI B (w5.setCell ⟨gm,5,none⟩ vT') gm gu nF vF vT' fs (ts++[.string ⟨#[]⟩,.slice (some ⟨g1,0,none⟩) 1 1,.slice (some ⟨g2,0,none⟩) 1 1]) (l++[x])∧Below B w (w5.setCell ⟨gm,5,none⟩ vT'):=by
 have h1:∀g ty cs,Blk w g ty cs→ty≠56→w5.heap[g]?=w.heap[g]?:=fun g ty cs hb hty=>(hg.block g (by have:=zb hb;simp;omega) (fun e=>zj h.T hb (Ne.symm hty) e.symm)).trans (Below.heap_alloc _ _ _ (zb hb))
 have hm5:Blk w5 gm 32 _:=(h1 gm _ _ h.mz (by decide)).trans h.mz;have h2:∀g ty cs,Blk w g ty cs→ty≠56→ty≠32→Blk (w5.setCell ⟨gm,5,none⟩ vT') g ty cs:=fun g ty cs hb hty hty2=>(Below.heap_setCell w5 ⟨gm,5,none⟩ _ g (Blk.ne_ hb h.mz hty2)).trans ((h1 g ty cs hb hty).trans hb)
 have hsz:w.heap.size≤(w5.setCell ⟨gm,5,none⟩ vT').heap.size:=by have:=hg.size;simp [World.setCell] at this⊢;omega
 have hbel:Below B w (w5.setCell ⟨gm,5,none⟩ vT'):=by
  have h3:Below B w (w.alloc o):=(Below.refl B w).alloc h.hB _;have h4:Below B w w5:=h3.grown hg (by simp;have:=h.hB;omega) (fun k hk=>(h.T.lt k hk).1);exact h4.setCell (p:=⟨gm,5,none⟩) h.gm0 _
 refine ⟨⟨Nat.le_trans h.hB hsz,h.gm0,h.gu0,hm5.set (k:=5) vT',h2 gu _ _ h.up (by decide) (by decide),own_set (own_other h.F h.T (by decide) hg) hm5 (by decide) _,?_,fun j hj=>?_,fun j y hj=>?_⟩,hbel⟩
 ·rw [List.length_append];exact own_set ho hm5 (by decide) _
 ·obtain ⟨g,h3,h4,h5⟩:=h.fd j hj;exact ⟨g,h3,h4,h2 g _ _ h5 (by decide) (by decide)⟩
 ·have hlen:ts.length=l.length*3:=h.T.1;rcases Nat.lt_or_ge j l.length with hj2 | hj2
  ·rw [List.getElem?_append_left hj2] at hj;obtain ⟨a,b,h3,h4,h5,h6,h7,h8,h9⟩:=h.td j y hj;exact ⟨a,b,by rw [List.getElem?_append_left (by omega)];exact h3,by rw [List.getElem?_append_left (by omega)];exact h4,by rw [List.getElem?_append_left (by omega)];exact h5,h6,h7,h2 _ _ _ h8 (by decide) (by decide),h2 _ _ _ h9 (by decide) (by decide)⟩
  ·have hjt:j=l.length:=by
    have:=(List.getElem?_eq_some_iff.1 hj).1;simp at this;omega
   subst hjt;have hxy:x=y:=by simpa using hj
   subst hxy;refine ⟨g1,g2,?_,?_,?_,k1,k2,h2 _ _ _ b1 (by decide) (by decide),h2 _ _ _ b2 (by decide) (by decide)⟩
   ·rw [List.getElem?_append_right (by omega),show l.length*3 - ts.length=0 from by omega];rfl
   ·rw [List.getElem?_append_right (by omega),show l.length*3+1 - ts.length=1 from by omega];rfl
   ·rw [List.getElem?_append_right (by omega),show l.length*3+2 - ts.length=2 from by omega];rfl
theorem XI.addF (h:XI B w gm gu nF vF vT fs ts l) {g1:Nat} {vF':Value} {w5:World} {o:Obj} (k1:B≤g1) (b1:Blk w g1 4 exC)
  (ho:w5.ownsRow B 29 1 vF' (nF+1) (fs++[.slice (some ⟨g1,0,none⟩) 9 9])) (hg:(w.alloc o).grownBy w5 vF.ownBlock):
  XI B (w5.setCell ⟨gm,3,none⟩ vF') gm gu (nF+1) vF' vT (fs++[.slice (some ⟨g1,0,none⟩) 9 9]) ts l∧Below B w (w5.setCell ⟨gm,3,none⟩ vF'):=by
 have h1:∀g ty cs,Blk w g ty cs→ty≠29→w5.heap[g]?=w.heap[g]?:=fun g ty cs hb hty=>(hg.block g (by have:=zb hb;simp;omega) (fun e=>zj h.F hb (Ne.symm hty) e.symm)).trans (Below.heap_alloc _ _ _ (zb hb))
 have hm5:Blk w5 gm 32 _:=(h1 gm _ _ h.mz (by decide)).trans h.mz;have h2:∀g ty cs,Blk w g ty cs→ty≠29→ty≠32→Blk (w5.setCell ⟨gm,3,none⟩ vF') g ty cs:=fun g ty cs hb hty hty2=>(Below.heap_setCell w5 ⟨gm,3,none⟩ _ g (Blk.ne_ hb h.mz hty2)).trans ((h1 g ty cs hb hty).trans hb)
 have hsz:w.heap.size≤(w5.setCell ⟨gm,3,none⟩ vF').heap.size:=by have:=hg.size;simp [World.setCell] at this⊢;omega
 have hbel:Below B w (w5.setCell ⟨gm,3,none⟩ vF'):=by
  have h3:Below B w (w.alloc o):=(Below.refl B w).alloc h.hB _;have h4:Below B w w5:=h3.grown hg (by simp;have:=h.hB;omega) (fun k hk=>(h.F.lt k hk).1);exact h4.setCell (p:=⟨gm,3,none⟩) h.gm0 _
 have hlen:fs.length=nF*1:=h.F.1;refine ⟨⟨Nat.le_trans h.hB hsz,h.gm0,h.gu0,hm5.set (k:=3) vF',h2 gu _ _ h.up (by decide) (by decide),own_set ho hm5 (by decide) _,own_set (own_other h.T h.F (by decide) hg) hm5 (by decide) _,fun j hj=>?_,fun j y hj=>?_⟩,hbel⟩
 ·rcases Nat.lt_or_ge j nF with hj2 | hj2
  ·obtain ⟨g,h3,h4,h5⟩:=h.fd j hj2;exact ⟨g,by rw [List.getElem?_append_left (by omega)];exact h3,h4,h2 g _ _ h5 (by decide) (by decide)⟩
  ·have hjn:j=nF:=by omega
   subst hjn;exact ⟨g1,by rw [List.getElem?_append_right (by omega),show j - fs.length=0 from by omega];rfl,k1,h2 _ _ _ b1 (by decide) (by decide)⟩
 ·obtain ⟨a,b,h3,h4,h5,h6,h7,h8,h9⟩:=h.td j y hj;exact ⟨a,b,h3,h4,h5,h6,h7,h2 _ _ _ h8 (by decide) (by decide),h2 _ _ _ h9 (by decide) (by decide)⟩
theorem XI.maze (h:XI B w gm gu l.length vF vT fs ts l):zr w (fun b=>B≤b) (.agg #[.int .i64 3,.int .i64 3,.int .i64 1,vF,.slice (some ⟨gu,0,none⟩) 9 9,vT]) (exN l):=by
 refine ⟨vF,_,vT,rfl,⟨fs,by show Row w _ 1 vF (List.replicate l.length exFree).length fs;rw [List.length_replicate];exact Row.of_own h.F,fun i x hx=>?_⟩,⟨_,_,rfl,Nat.le_refl _,zY.block (cs:=upC) h.up h.gu0 rfl⟩,⟨ts,by show Row w _ 3 vT (l.map _).length ts;rw [List.length_map];exact Row.of_own h.T,fun i x hx=>?_⟩⟩
 ·have hx':(List.replicate l.length exFree)[i]?=some x:=hx;obtain ⟨hi,e⟩:=List.getElem?_eq_some_iff.1 hx';rw [List.length_replicate] at hi;rw [List.getElem_replicate] at e;subst e;obtain ⟨g,h1,h2,h3⟩:=h.fd i hi;exact ⟨_,h1,⟨_,_,rfl,Nat.le_refl _,zY.block (cs:=exC) h3 h2 rfl⟩⟩
 ·have hx':(l.map fun x=>([x.1],[x.2]))[i]?=some x:=hx;rw [List.getElem?_map] at hx'
  cases hy:l[i]? with
  | none=>rw [hy] at hx';cases hx'
  | some y=>
   rw [hy] at hx';injection hx' with hx';subst hx';obtain ⟨a,b,h3,h4,h5,h6,h7,h8,h9⟩:=h.td i y hy;exact ⟨_,_,_,h3,h4,h5,⟨_,_,rfl,Nat.le_refl _,zY.block (cs:=#[.int .i64 y.1]) h8 h6 rfl⟩,⟨_,_,rfl,Nat.le_refl _,zY.block (cs:=#[.int .i64 y.2]) h9 h7 rfl⟩⟩
end
theorem kexample_calls (l:List (Int×Int)) (gt:Nat) (w:World) (hl:l.length≤1000) (hc:∀(k:Nat) (x:Int×Int),l[k]?=some x→w.cell? ⟨gt,k*2,none⟩=some (.int .i64 x.1)∧w.cell? ⟨gt,k*2+1,none⟩=some (.int .i64 x.2)):
  Calls Tryz.prog 33 #[.slice (some ⟨gt,0,none⟩) l.length l.length] w fun e w'=>∃v,e=.returned v∧Ext w w'∧zr w' (fun x=>w.heap.size≤x) v (exN l):=by
 have HC:=zh hc;clear hc;obtain ⟨iT,ti,tz0,tz1,tz2⟩:=info_parts Tryz.infoTask;have TF:=zh ti;have TZ0:=zh tz0;have TZ1:=zh tz1;have TZ2:=zh tz2;clear ti tz0 tz1 tz2;obtain ⟨iL,li,lz0,lz1,lz2⟩:=info_parts Tryz.infoBools;have LF:=zh li;have LZ0:=zh lz0;have LZ1:=zh lz1;have LZ2:=zh lz2;clear li lz0 lz1 lz2;have hmk:∀w,(Instr.makeSlice 29 (.int .i64 9) (.int .i64 9)).run Tryz.prog w=.ok (.slice (some ⟨w.heap.size,0,none⟩) 9 9) (w.alloc (.cells #[.bool false,.bool false,.bool false,.bool false,.bool false,.bool false,.bool false,.bool false,.bool false] 4)):=fun _=>by kernel_rfl
 go_enter Tryz.func33,Tryz.ntmps33
 go_upto_region 1 with fail;have HG0:Hid (Blk (w.alloc (.cells #[.int .i64 0,.int .i64 0,.int .i64 0,.slice none 0 0,.slice none 0 0,.slice none 0 0] 32)) w.heap.size 32 _):=Blk.new w _ 32 rfl;have HW1:Hid (Ext w (w.alloc (.cells #[.int .i64 0,.int .i64 0,.int .i64 0,.slice none 0 0,.slice none 0 0,.slice none 0 0] 32))):=(Ext.refl w).alloc _;generalize w.alloc (.cells #[.int .i64 0,.int .i64 0,.int .i64 0,.slice none 0 0,.slice none 0 0,.slice none 0 0] 32)=w1 at HG0 HW1⊢;obtain ⟨g0,hg0⟩:∃g,g=w.heap.size:=⟨_,rfl⟩;rw [←hg0] at HG0⊢;have HGW:Hid (g0=w.heap.size):=hg0;clear hg0;have hc1:Hid (∀(k:Nat) (x:Int×Int),l[k]?=some x→w1.cell? ⟨gt,k*2,none⟩=some (.int .i64 x.1)∧w1.cell? ⟨gt,k*2+1,none⟩=some (.int .i64 x.2)):=fun k x hx=>⟨HW1.out.cell (HC.out k x hx).1,HW1.out.cell (HC.out k x hx).2⟩
 go_upto_region 2 with fail
 have HX0:Hid (XI w1.heap.size ((w1.alloc (.cells #[.bool false,.bool false,.bool false,.bool false,.bool false,.bool false,.bool false,.bool false,.bool false] 4)).alloc (.cells #[.int .i64 3,.int .i64 3,.int .i64 1,.slice none 0 0,.slice (some ⟨w1.heap.size,0,none⟩) 9 9,.slice none 0 0] 32)) (w1.heap.size+1) w1.heap.size 0 (.slice none 0 0) (.slice none 0 0) [] [] []):=
  ⟨by simp;omega,by omega,Nat.le_refl _,Blk.new _ _ _ (by simp),Blk.ext (Blk.new w1 _ _ rfl) ((Ext.refl _).alloc _),⟨rfl,.inl ⟨rfl,rfl⟩⟩,⟨rfl,.inl ⟨rfl,rfl⟩⟩,fun j hj=>absurd hj (by omega),fun j x hj=>by simp at hj⟩
 have HE0:Hid (Ext w1 _):=((Ext.refl w1).alloc (.cells #[.bool false,.bool false,.bool false,.bool false,.bool false,.bool false,.bool false,.bool false,.bool false] 4)).alloc (.cells #[.int .i64 3,.int .i64 3,.int .i64 1,.slice none 0 0,.slice (some ⟨w1.heap.size,0,none⟩) 9 9,.slice none 0 0] 32);generalize (w1.alloc (.cells #[.bool false,.bool false,.bool false,.bool false,.bool false,.bool false,.bool false,.bool false,.bool false] 4)).alloc (.cells #[.int .i64 3,.int .i64 3,.int .i64 1,.slice none 0 0,.slice (some ⟨w1.heap.size,0,none⟩) 9 9,.slice none 0 0] 32)=w2 at HX0 HE0⊢;obtain ⟨gu,hgu⟩:∃g,g=w1.heap.size:=⟨_,rfl⟩;obtain ⟨B,hB⟩:∃g,g=w1.heap.size:=⟨_,rfl⟩;have hX0:=HX0.out;rw [show XI w1.heap.size w2 (w1.heap.size+1) w1.heap.size=XI B w2 (gu+1) gu from by rw [hB,hgu]] at hX0;have HB:Hid (B=w1.heap.size):=hB;rw [←hgu] at⊢;obtain ⟨gm,hgm⟩:∃g,g=gu+1:=⟨_,rfl⟩;rw [←hgm] at hX0⊢;have HXI:=zh hX0;clear HX0 hX0 hgm hgu hB;go_upto_region 3 with fail
 go_loopg [10] l.length (fun gk v wr=>∃(k:Nat) (vF vT:Value) (fs ts:List Value),v=.int .i64 k∧k≤l.length∧gk=l.length - k∧Hid (XI B wr gm gu k vF vT fs ts (l.take k)∧Ext w1 wr))
 case atStart=>exact ⟨0,_,_,_,_,rfl,Nat.zero_le _,by omega,HXI.out,HE0.out⟩
 clear HXI HE0
 case round=>
  obtain ⟨k,vF,vT,fs,ts,rfl,hk,rfl,hXX⟩:=hrel;obtain ⟨wR,rfl⟩:∃wR:World,wR=wr:=⟨_,rfl⟩;rcases Nat.lt_or_ge k l.length with hlt | hge
  ·have hkd:decide ((k:Int)<(l.length:Int))=true:=decide_eq_true (by omega);have hki:((k:Int)<(l.length:Int)):=by omega
   obtain ⟨x,hx⟩:∃x,l[k]?=some x:=⟨_,List.getElem?_eq_getElem hlt⟩;have HXK:=zh hx;have c0:=hXX.out.2.cell (hc1.out k x hx).1;have c1:=hXX.out.2.cell (hc1.out k x hx).2;clear hx;go_upto_region 5 with fail;have HEA:Hid (Ext wR (wR.alloc (.cells #[.int .i64 x.1,.int .i64 x.2] 70))):=(Ext.refl _).alloc _;have HBA:Hid (Blk (wR.alloc (.cells #[.int .i64 x.1,.int .i64 x.2] 70)) wR.heap.size 70 #[.int .i64 x.1,.int .i64 x.2]):=Blk.new wR _ 70 rfl;generalize wR.alloc (.cells #[.int .i64 x.1,.int .i64 x.2] 70)=wa at HEA HBA⊢;obtain ⟨gx,hgx⟩:∃g,g=wR.heap.size:=⟨_,rfl⟩;rw [←hgx] at HBA⊢;clear hgx c0 c1;have x0:=Ext.rule (HBA.out.cell (k:=0) rfl);have x1:=Ext.rule (HBA.out.cell (k:=1) rfl);have hxw:Ext wa wa:=Ext.refl wa;have hxa:=zQ wa;have hXA:=hXX.out.1.ext HEA.out;have m5:wa.cell? ⟨gm,5,none⟩=some vT:=hXA.mz.cell (k:=5) rfl;have HTK:Hid ((l.take k).length=k):=by show _=_;rw [List.length_take];omega
   have HTA:Hid (wa.ownsRow B 56 3 vT k ts):=by have:=hXA.T;rw [HTK.out] at this;exact this
   have HXA:=zh hXA;clear hXA
   have hsrc:∀j u,[Value.string ⟨#[]⟩,.slice (some ⟨wa.heap.size,0,none⟩) 1 1,.slice (some ⟨wa.heap.size+1,0,none⟩) 1 1][j]?=some u→((((wa.alloc (.cells #[.int .i64 x.1] 3)).alloc (.cells #[.int .i64 x.2] 3)).alloc (.cells #[.string ⟨#[]⟩,.slice (some ⟨wa.heap.size,0,none⟩) 1 1,.slice (some ⟨wa.heap.size+1,0,none⟩) 1 1] 56))).cell? ((⟨wa.heap.size+1+1,0,none⟩:Addr).add j)=some u:=by
    intro j u h;have h2:=cells3n ((wa.alloc (.cells #[.int .i64 x.1] 3)).alloc (.cells #[.int .i64 x.2] 3)) _ _ _ 56 j u h;rw [show ((wa.alloc (.cells #[.int .i64 x.1] 3)).alloc (.cells #[.int .i64 x.2] 3)).heap.size=wa.heap.size+1+1 from by simp] at h2;exact h2
   have HSRC:=zh hsrc;clear hsrc
   go_wp2_with (at_builtin;refine wpList_append_own_at _ rfl _ _ 30 rfl B 56 iT (.agg #[.string ⟨#[]⟩,.slice none 0 0,.slice none 0 0]) 3 64 Tryz.underlying30 TF.out TZ0.out TZ1.out TZ2.out rfl (by decide) vT k _ rfl (((HTA.out.alloc _).alloc _).alloc _) ⟨wa.heap.size+1+1,0,none⟩ 1 1 [.string ⟨#[]⟩,.slice (some ⟨wa.heap.size,0,none⟩) 1 1,.slice (some ⟨wa.heap.size+1,0,none⟩) 1 1] rfl rfl HSRC.out (by simp [Value.oneCell']) (by unfold maxLen;omega) (by omega) (by have:=HXA.out.hB;simp;omega) ?_)
   intro v' w9 hown hg _ hv';obtain ⟨gv,cv,rfl,-,-⟩:=World.ownsRow.form hown (by omega);have hEb:Ext wa ((wa.alloc (.cells #[.int .i64 x.1] 3)).alloc (.cells #[.int .i64 x.2] 3)):=((Ext.refl _).alloc _).alloc _;have hXb:=HXA.out.ext hEb;have hBa:=HXA.out.hB;obtain ⟨hX1,hb1⟩:=hXb.addT (g1:=wa.heap.size) (g2:=wa.heap.size+1) (x:=x) (by omega) (by omega) (Blk.ext (Blk.new wa _ 3 rfl) ((Ext.refl _).alloc _)) (Blk.new _ _ 3 (by simp)) (by rw [HTK.out];exact hown) hg;have hblk9:=(hg.block gm (by have:=zb hXb.mz;simp at this⊢;omega) (fun e=>zj hXb.T hXb.mz (by decide) e.symm)).trans (Below.heap_alloc _ _ _ (zb hXb.mz));have hm9:Blk w9 gm 32 _:=hblk9.trans hXb.mz;have hc9:w9.cell? ⟨gm,5,none⟩=some vT:=hm9.cell (k:=5) rfl;have hf9:∀j,w9.frozen? ⟨gm,j,none⟩=false:=fun j=>hm9.frozen j
   have hlk:l.take k++[x]=l.take (k+1):=by rw [List.take_add_one,HXK.out];rfl
   rw [hlk] at hX1;have HX1:=zh hX1;have HE1:Hid (Ext w1 (w9.setCell ⟨gm,5,none⟩ (.slice (some ⟨gv,0,none⟩) (k+1) cv))):=Below.trans ((hXX.out.2.trans HEA.out).trans hEb) (HB.out ▸ hb1);clear hX1 hb1 hown hg hv' hblk9 hm9 hlk hXb hEb x0 x1 hxw hxa m5 hBa;go_upto_region 6 with fail;clear hc9 hf9;generalize w9.setCell ⟨gm,5,none⟩ (.slice (some ⟨gv,0,none⟩) (k+1) cv)=wv at HX1 HE1⊢;have m3:wv.cell? ⟨gm,3,none⟩=some vF:=HX1.out.mz.cell (k:=3) rfl
   have hsrc:∀j u,[Value.slice (some ⟨wv.heap.size,0,none⟩) 9 9][j]?=some u→(((wv.alloc (.cells exC 4)).alloc (.cells #[.slice (some ⟨wv.heap.size,0,none⟩) 9 9] 29))).cell? ((⟨wv.heap.size+1,0,none⟩:Addr).add j)=some u:=by
    intro j u h;have h2:=cell_one_new (wv.alloc (.cells exC 4)) (.slice (some ⟨wv.heap.size,0,none⟩) 9 9) 29 j u h;rw [show (wv.alloc (.cells exC 4)).heap.size=wv.heap.size+1 from by simp] at h2;exact h2
   have HSRC2:=zh hsrc;clear hsrc
   go_wp2_with (at_builtin;refine wpList_append_own_at _ rfl _ _ 28 rfl B 29 iL (.slice none 0 0) 1 24 Tryz.underlying28 LF.out LZ0.out LZ1.out LZ2.out rfl (by decide) vF k _ rfl ((HX1.out.F.alloc _).alloc _) ⟨wv.heap.size+1,0,none⟩ 1 1 [.slice (some ⟨wv.heap.size,0,none⟩) 9 9] rfl rfl HSRC2.out (by simp [Value.oneCell']) (by unfold maxLen;omega) (by omega) (by have:=HX1.out.hB;simp;omega) ?_)
   intro v2 w9 hown hg _ hv';obtain ⟨gv2,cv2,rfl,-,-⟩:=World.ownsRow.form hown (by omega);have hEb:Ext wv (wv.alloc (.cells exC 4)):=(Ext.refl _).alloc _;have hXb:=HX1.out.ext hEb;have hBa:=HX1.out.hB;obtain ⟨hX2,hb2⟩:=hXb.addF (g1:=wv.heap.size) (by omega) (Blk.new wv _ 4 rfl) hown hg;have hblk9:=(hg.block gm (by have:=zb hXb.mz;simp at this⊢;omega) (fun e=>zj hXb.F hXb.mz (by decide) e.symm)).trans (Below.heap_alloc _ _ _ (zb hXb.mz));have hm9:Blk w9 gm 32 _:=hblk9.trans hXb.mz;have hc9:w9.cell? ⟨gm,3,none⟩=some vF:=hm9.cell (k:=3) rfl;have hf9:∀j,w9.frozen? ⟨gm,j,none⟩=false:=fun j=>hm9.frozen j
   have HX2:=zh hX2;have HE2:Hid (Ext w1 (w9.setCell ⟨gm,3,none⟩ (.slice (some ⟨gv2,0,none⟩) (k+1) cv2))):=Below.trans (HE1.out.trans hEb) (HB.out ▸ hb2);clear hX2 hb2 hown hg hv' hblk9 hm9 hXb hEb m3 hBa
   go_wp2_with fail
   go_roundg (l.length - (k+1))
   case measure=>omega
   case rel=>exact ⟨k+1,_,_,_,_,by go_num,hlt,rfl,HX2.out,HE2.out⟩
  ·have hkd:decide ((k:Int)<(l.length:Int))=false:=decide_eq_false (by omega);have hkl:k=l.length:=by omega
   subst hkl;have hXf:=hXX.out.1;rw [List.take_length] at hXf;obtain ⟨Af,cf,rfl,-,-⟩:=Row.of_own hXf.F;obtain ⟨At,ct,rfl,-,-⟩:=Row.of_own hXf.T;have c0:=hXf.mz.cell (k:=0) rfl;have c1:=hXf.mz.cell (k:=1) rfl;have c2:=hXf.mz.cell (k:=2) rfl;have c3:=hXf.mz.cell (k:=3) rfl;have c4:=hXf.mz.cell (k:=4) rfl;have c5:=hXf.mz.cell (k:=5) rfl;have HGR:=zh (Blk.ext HG0.out hXX.out.2);have z0:=HGR.out.cell (k:=0) rfl;have z1:=HGR.out.cell (k:=1) rfl;have z2:=HGR.out.cell (k:=2) rfl;have z3:=HGR.out.cell (k:=3) rfl;have z4:=HGR.out.cell (k:=4) rfl;have z5:=HGR.out.cell (k:=5) rfl;have hfz:∀j,wR.frozen? ⟨g0,j,none⟩=false:=fun j=>HGR.out.frozen j
   have HXF:=zh hXf;clear hXf hge;go_wp2;refine zc4 (P:=fun W=>bodyPost Tryz.prog Tryz.f33 _ Exit.ret _ W) (g2:=g0) ?_ HGR.out;intro WZ hbz hEb hkk;have y0:=hbz.cell (k:=0) rfl;have y1:=hbz.cell (k:=1) rfl;have y2:=hbz.cell (k:=2) rfl;have y3:=hbz.cell (k:=3) rfl;have y4:=hbz.cell (k:=4) rfl;have y5:=hbz.cell (k:=5) rfl;refine bodyPost_ret (v:=.agg #[.int .i64 3,.int .i64 3,.int .i64 1,.slice Af l.length cf,.slice (some ⟨gu,0,none⟩) 9 9,.slice At l.length ct]) (by simp [results,Tryz.results33,go_sem,y0,y1,y2,y3,y4,y5]) rfl ?_;refine ⟨_,rfl,Below.trans (HW1.out.trans hXX.out.2) (hEb.mono (by have:=HGW.out;omega)),?_⟩;have hBg:g0<B:=by rw [HB.out];exact zb HG0.out
   have hBw:w.heap.size≤B:=by rw [HB.out];exact HW1.out.size
   exact (HXF.out.maze.keep fun b hb hlt=>hkk b hlt (by omega)).weaken fun b hb=>Nat.le_trans hBw hb
theorem endB_none {m:MZ} {pp:List (List Int)} {t:Nat} (h:pp.getD t []=[]):endB m pp t=false:=by
 unfold endB;rw [h]
 all_goals rfl
theorem endB_snoc {m:MZ} {pp:List (List Int)} {t:Nat} {q:List Int} {x:Int} (h:pp.getD t []=q++[x]):endB m pp t=decide (x∈(m.tasks.getD t ([],[])).2):=by
 unfold endB;rw [h,List.getLast?_append]
 all_goals rfl
theorem vfinished_calls {ok okp:Nat→Prop} {v vp:Value} {m:MZ} {pp:List (List Int)} (t:Nat) (w:World) (hm:zr w ok v m) (hl:Lens m) (hp:zo w okp vp pp) (hpl:pp.length≤m.tasks.length) (hpx:∀x∈pp,x.length≤20000000000000):
  Calls Tryz.prog 122 #[v,vp,.int .i64 t] w fun e w'=>e=.returned (.bool (endB m pp t))∧Ext w w':=by
 obtain ⟨Af,cf,Au,cu,At,ct,rfl,-,-,hts⟩:=hm.parts;have HTS:=zh hts;have HL:=zh hl;obtain ⟨vps,⟨Ap,cp,rfl,hcp,hrp⟩,hep⟩:=hp;have HRP:=zh hrp;have HEP:=zh hep;have HPL:=zh hpl;have HPX:=zh hpx;have hplI:(pp.length:Int)≤(m.tasks.length:Int):=by omega
 have htl:=hl.ts;clear hm hl hts hrp hep hpx;obtain ⟨fb,hfb⟩:∃fb,fb=endB m pp t:=⟨_,rfl⟩;rw [←hfb];have HFB:=zh hfb;clear hfb
 go_enter Tryz.func122,Tryz.ntmps122
 go_upto_region 1 with fail;obtain ⟨hb1,r0,r1,r2,r3,r4,r5⟩:=box6 w (.int .i64 m.w) (.int .i64 m.h) (.int .i64 m.l) (.slice Af m.free.length cf) (.slice Au m.up.length cu) (.slice At m.tasks.length ct);generalize w.alloc (.cells #[.int .i64 m.w,.int .i64 m.h,.int .i64 m.l,.slice Af m.free.length cf,.slice Au m.up.length cu,.slice At m.tasks.length ct] 32)=w1 at hb1 r0 r1 r2 r3 r4 r5⊢;obtain ⟨gm,hgm⟩:∃gm,gm=w.heap.size:=⟨_,rfl⟩;rw [←hgm] at r0 r1 r2 r3 r4 r5⊢;clear hgm;have HW1:=zh hb1;have hx:Ext w1 w1:=Ext.refl w1;clear hb1;have t0:(0:Int)≤(t:Int):=by omega
 by_cases hlt:t<pp.length
 ·have hltI:(t:Int)<(pp.length:Int):=by omega
  have hlt2:t<m.tasks.length:=by omega
  have hlt2I:(t:Int)<(m.tasks.length:Int):=by omega
  obtain ⟨bp,offp,up,rfl,-,hcq,hup⟩:=zP HRP.out HEP.out hlt hlt;have hlen:=HPX.out _ (List.getElem_mem hlt);have hgd:pp.getD t []=pp[t]:=by rw [List.getD_eq_getElem?_getD,List.getElem?_eq_getElem hlt];rfl
  obtain ⟨P,hPP⟩:∃P,P=pp[t]:=⟨_,rfl⟩;rw [←hPP] at hup hlen hgd;have HGD:=zh hgd;clear hPP hgd;have rq:=Ext.rule (HW1.out.cell hcq);clear hcq;rcases (show P=[]∨∃q x,P=q++[x] from by by_cases h:P=[];exact .inl h;exact .inr ⟨_,_,(List.dropLast_concat_getLast h).symm⟩) with rfl | ⟨q,x,rfl⟩
  ·have HF:Hid (fb=false):=by show _=_;rw [HFB.out];exact endB_none HGD.out
   obtain ⟨Aq,cq,rfl,-,-⟩:=hup;clear hlen
   go_wp2_with fail
   go_ret;exact ⟨zd HF.out.symm,HW1.out⟩
  ·obtain ⟨Aq,cq,rfl,hcq,hrq⟩:=hup;obtain ⟨bq,offq,e,-,hcx⟩:=zt hrq (k:=q.length) (by simp) (by simp);have hcx:w.cell? ⟨bq,offq+q.length,none⟩=some (.int .i64 x):=by rw [hcx];simp
   subst e;obtain ⟨bt,offt,sn,u1,u2,rfl,-,-,-,hc2,-,hi2⟩:=zam HTS.out hlt2;have hto:=(HL.out.tl _ (List.getElem_mem hlt2)).2;have hgt:m.tasks.getD t ([],[])=m.tasks[t]:=by rw [List.getD_eq_getElem?_getD,List.getElem?_eq_getElem hlt2];rfl
   have HF:Hid (fb=decide (x∈(m.tasks[t]).2)):=by show _=_;rw [HFB.out,endB_snoc HGD.out,hgt]
   clear hgt;obtain ⟨N,hN⟩:∃N,N=(q++[x]).length:=⟨_,rfl⟩;obtain ⟨n,hn⟩:∃n,n=q.length:=⟨_,rfl⟩;have hNn:N=n+1:=by rw [hN,hn];simp
   rw [←hN] at rq hlen hcq;rw [←hn] at hcx;have rx:=Ext.rule (HW1.out.cell hcx);have rt2:=Ext.rule (HW1.out.cell hc2);have HI2:=zh (hi2.below HW1.out);obtain ⟨Au2,cu2,rfl,-,-⟩:=hi2;have hqw:IntKind.i64.wrap ((N:Int) - 1)=(n:Int):=by rw [IntKind.wrap_i64];omega
   have hq0:(0:Int)≤(n:Int):=by omega
   have hq1:(n:Int)<(N:Int):=by omega
   have hq2:¬ ((N:Int)=0):=by omega
   have hq3:((N:Int)==0)=false:=by rw [beq_eq_false_iff_ne];omega
   have hq4:¬ ((pp.length:Int)≤(t:Int)):=by omega
   have hq5:decide (pp.length≤t)=false:=decide_eq_false (by omega);have HQ:=zh hNn;clear hrq hN hn hcx hc2 hNn hq2
   go_wp2_with fail
   go_region_held3 (fun w'=>Ext w1 w') (first | (exact hx.drew) | assumption) ((go_at_call 12;refine (zE x _ (HI2.out.below hx.drew) (by omega)).mono ?_;rintro e w9 ⟨rfl,rfl⟩))
   rename_i hS
   go_wp2_with fail
   go_ret;exact ⟨zd HF.out.symm,HW1.out.trans hS⟩
 ·have hltI:¬ ((t:Int)<(pp.length:Int)):=by omega
  have hleI:(pp.length:Int)≤(t:Int):=by omega
  have HF:Hid (fb=false):=by
   show _=_;rw [HFB.out];exact endB_none (by rw [List.getD_eq_getElem?_getD,List.getElem?_eq_none (by omega)];rfl)
  clear hltI
  go_wp2_with fail
  go_ret;exact ⟨zd HF.out.symm,HW1.out⟩
theorem zcv {ok okp:Nat→Prop} {v vp:Value} {m:MZ} {pp:List (List Int)} (w:World) (hm:zr w ok v m) (hl:Lens m) (hp:zo w okp vp pp) (hpl:pp.length≤m.tasks.length) (hpx:∀x∈pp,x.length≤20000000000000):
  Calls Tryz.prog 95 #[v,vp] w fun e w'=>e=.returned (.int .i64 (curF m pp pp.length 0))∧Ext w w':=by
 have HM:=zh hm;have HL:=zh hl;have HP:=zh hp;have HPX:=zh hpx;obtain ⟨Af,cf,Au,cu,At,ct,rfl,-,-,-⟩:=hm.parts;obtain ⟨vps,⟨Ap,cp,rfl,-,-⟩,-⟩:=hp;have htl:=hl.ts;clear hm hl hpx
 go_enter Tryz.func95,Tryz.ntmps95
 go_upto_region 1 with fail;obtain ⟨hb1,r0,r1,r2,r3,r4,r5⟩:=box6 w (.int .i64 m.w) (.int .i64 m.h) (.int .i64 m.l) (.slice Af m.free.length cf) (.slice Au m.up.length cu) (.slice At m.tasks.length ct);generalize w.alloc (.cells #[.int .i64 m.w,.int .i64 m.h,.int .i64 m.l,.slice Af m.free.length cf,.slice Au m.up.length cu,.slice At m.tasks.length ct] 32)=w1 at hb1 r0 r1 r2 r3 r4 r5⊢;obtain ⟨gm,hgm⟩:∃gm,gm=w.heap.size:=⟨_,rfl⟩;rw [←hgm] at r0 r1 r2 r3 r4 r5⊢;clear hgm;have HW1:=zh hb1;clear hb1
 go_wp2_with fail
 obtain ⟨N,hN⟩:∃N,N=pp.length:=⟨_,rfl⟩;have HN:=zh hN;have hNt:N≤20000000000000:=by omega
 rw [←hN];clear hN;go_loopw [5] (fun i wr=>∃k:Nat,k≤N∧i=.int .i64 k∧Hid (curF m pp (N - k) k=curF m pp N 0)∧Hid (Ext w1 wr)) (fun i _=>N - (intOf i).toNat)
 case atStart=>exact ⟨0,Nat.zero_le _,rfl,rfl,Ext.refl w1⟩
 case round=>
  obtain ⟨k,hk,rfl,hcu,hE⟩:=hrel;obtain ⟨wk,rfl⟩:∃wk:World,wk=wr:=⟨_,rfl⟩;have hx:Ext w1 wk:=hE.out
  have HV:Hid (Calls Tryz.prog 122 #[.agg #[.int .i64 m.w,.int .i64 m.h,.int .i64 m.l,.slice Af m.free.length cf,.slice Au m.up.length cu,.slice At m.tasks.length ct],.slice Ap N cp,.int .i64 k] wk fun e w'=>e=.returned (.bool (endB m pp k))∧Ext wk w'):=by
   (show Calls _ _ _ _ _)
   rw [HN.out];exact vfinished_calls k wk (HM.out.below (HW1.out.trans hx)) HL.out (HP.out.below (HW1.out.trans hx)) hpl HPX.out
  go_wp2_with fail
  refine HV.out.mono ?_;rintro e w9 ⟨rfl,hE9⟩;have hx9:Ext w1 w9:=Ext.trans ‹_› hE9;obtain ⟨b,hb⟩:∃b,b=endB m pp k:=⟨_,rfl⟩;rw [←hb];have HB:=zh hb;clear hb HV
  cases b with
  | true=>
   have hlt:k<N:=by
    rw [HN.out];refine Decidable.byContradiction fun h=>?_
    have:=HB.out;rw [endB_none (by rw [List.getD_eq_getElem?_getD,List.getElem?_eq_none (by omega)];rfl)] at this;cases this
   have hcu2:Hid (curF m pp (N - (k+1)) (k+1)=curF m pp N 0):=by
    show _=_;rw [←hcu.out,show N - k=(N - (k+1))+1 from by omega]
    conv=>rhs;unfold curF
    rw [if_pos ⟨by rw [←HN.out];exact hlt,HB.out.symm⟩]
   have hw1:IntKind.i64.wrap ((k:Int)+1)=(k:Int)+1:=by rw [IntKind.wrap_i64];omega
   go_wp2_with fail
   go_roundw
   case rel=>exact ⟨k+1,by omega,by go_num,hcu2,hx9⟩
   case measure=>simp [intOf];omega
  | false=>
   have hcu2:Hid (curF m pp N 0=k):=by
    show _=_;rw [←hcu.out]
    cases N - k with
    | zero=>rfl
    | succ n=>
     unfold curF;rw [if_neg (fun h=>by rw [←HB.out] at h;exact absurd h.2 (by simp))]
   go_wp2_with fail
   go_ret;exact ⟨(show Ending.returned (Value.int .i64 ((k:Nat):Int))=.returned (.int .i64 ((curF m pp pp.length 0:Nat):Int)) from by have h:=hcu2.out;rw [HN.out] at h;rw [h]),HW1.out.trans hx9⟩
theorem vComplete_calls {ok okc:Nat→Prop} {v vc:Value} {m:MZ} {ch:List Int} (w:World) (hm:zr w ok v m) (hl:Lens m) (hc:chk m=0) (hch:zf w okc vc ch) (hi:zu m ch):
  Calls Tryz.prog 99 #[v,vc] w fun e w'=>e=.returned (.bool (decide (m.tasks.length≤zO m ch)))∧Ext w w':=by
 have HM:=zh hm;have HL:=zh hl;have HC:=zh hc;have HI:=zh hi;have HCH:=zh hch;have HPL:=zh (zaq hc hi);obtain ⟨Af,cf,Au,cu,At,ct,rfl,-,-,-⟩:=hm.parts;obtain ⟨Ac,cc,rfl,-,-⟩:=hch;have htl:=hl.ts;clear hm hl hc hi;obtain ⟨c,hcc⟩:∃c,c=zO m ch:=⟨_,rfl⟩;rw [←hcc];have HCU:=zh hcc;clear hcc
 go_enter Tryz.func99,Tryz.ntmps99
 go_upto_region 1 with fail;obtain ⟨hb1,r0,r1,r2,r3,r4,r5⟩:=box6 w (.int .i64 m.w) (.int .i64 m.h) (.int .i64 m.l) (.slice Af m.free.length cf) (.slice Au m.up.length cu) (.slice At m.tasks.length ct);generalize w.alloc (.cells #[.int .i64 m.w,.int .i64 m.h,.int .i64 m.l,.slice Af m.free.length cf,.slice Au m.up.length cu,.slice At m.tasks.length ct] 32)=w1 at hb1 r0 r1 r2 r3 r4 r5⊢;obtain ⟨gm,hgm⟩:∃gm,gm=w.heap.size:=⟨_,rfl⟩;rw [←hgm] at r0 r1 r2 r3 r4 r5⊢;clear hgm;have HW1:=zh hb1;clear hb1;have hx:Ext w1 w1:=Ext.refl w1
 go_wp2_with fail
 refine (zcP w1 (HM.out.below HW1.out) HL.out (HCH.out.below HW1.out) (by have:=HPL.out;omega)).mono ?_;rintro e w2 ⟨vp,rfl,hE2,hps⟩;have HPS:=zh hps;have hx2:Ext w1 w2:=hE2;obtain ⟨_,⟨Ap,cp,rfl,-,-⟩,-⟩:=hps
 have HV:Hid (∀W,Ext w2 W→Calls Tryz.prog 95 #[.agg #[.int .i64 m.w,.int .i64 m.h,.int .i64 m.l,.slice Af m.free.length cf,.slice Au m.up.length cu,.slice At m.tasks.length ct],.slice Ap (zn m ch).length cp] W fun e w'=>e=.returned (.int .i64 c)∧Ext W w'):=fun W hW=>by
  rw [HCU.out];exact zcv W (HM.out.below ((HW1.out.trans hE2).trans hW)) HL.out (HPS.out.below hW) HPL.out.1 (fun x hx=>by have:=(HPL.out.2.2.2 x hx).2;omega)
 clear hE2;obtain ⟨PL,hPLL⟩:∃PL,PL=(zn m ch).length:=⟨_,rfl⟩;rw [←hPLL] at HV⊢;clear hPLL;have hy:Ext w2 w2:=Ext.refl w2
 go_wp2_with fail
 go_region_held3 (fun w'=>Ext w1 w'∧Ext w2 w') (first | (exact ⟨hx2.drew,hy.drew⟩) | (exact ⟨hx2.drew.trans hE9,hy.drew.trans hE9⟩)) ((go_at_call 95;refine (HV.out _ hy.drew).mono ?_;rintro e w9 ⟨rfl,hE9⟩))
 rename_i hS
 go_wp2_with fail
 go_ret;exact ⟨by simp,HW1.out.trans hS.1⟩
theorem vhead_calls {ok okc okp:Nat→Prop} {v vc vp:Value} {m:MZ} {ch:List Int} (tk:Nat) (w:World) (hm:zr w ok v m) (hl:Lens m) (hc:chk m=0) (hch:zf w okc vc ch) (hi:zu m ch) (hp:zo w okp vp (zn m ch)) (htk:tk<m.tasks.length):
  Calls Tryz.prog 123 #[v,vc,vp,.int .i64 tk] w fun e w'=>∃v',e=.returned v'∧Ext w w'∧zf w' (fun b=>w.heap.size≤b) v' (zao m ch tk):=by
 have hPL:=zaq hc hi;have G:=zh (zx.of hc);have HL:=zh hl;have HFL:=zh G.out.fl;have HCI:=zh hch;obtain ⟨Af,cf,Au,cu,At,ct,rfl,hf,-,hts⟩:=hm.parts;have HF:=zh hf;obtain ⟨Ac,cc,rfl,-,-⟩:=hch;obtain ⟨vps,⟨Ap,cp,rfl,hcp,hrp⟩,hep⟩:=hp;have HTS:=zh hts;have HRP:=zh hrp;have HEP:=zh hep;obtain ⟨PL,hP⟩:∃PL,PL=(zn m ch).length:=⟨_,rfl⟩;rw [←hP] at HRP⊢;clear hf hts hrp hep hl hc hm hcp;by_cases hlt:tk<PL
 ·obtain ⟨hpl,htk6,-,hpx⟩:=hPL;have hkp:tk<(zn m ch).length:=by omega
  obtain ⟨bp,offp,up,rfl,-,hcp,hup⟩:=zP HRP.out HEP.out hlt hkp;obtain ⟨hne,hlen⟩:=hpx _ (List.getElem_mem hkp)
  have hhd:Hid (zao m ch tk=((zn m ch)[tk]).getLast?.toList):=by
   show _=_;unfold zao;rw [if_pos hkp,List.getD_eq_getElem?_getD,List.getElem?_eq_getElem hkp];rfl
  obtain ⟨P,hPP⟩:∃P,P=(zn m ch)[tk]:=⟨_,rfl⟩;rw [←hPP] at hup hne hlen hhd;clear hPP hpx hi;obtain ⟨q,x,rfl⟩:∃q x,P=q++[x]:=⟨P.dropLast,P.getLast hne,(List.dropLast_concat_getLast hne).symm⟩;obtain ⟨Aq,cq,rfl,hcq,hrq⟩:=hup;obtain ⟨bq,offq,e,-,hcx⟩:=zt hrq (k:=q.length) (by simp) (by simp);have hcx:w.cell? ⟨bq,offq+q.length,none⟩=some (.int .i64 x):=by rw [hcx];simp
  subst e;obtain ⟨N,hN⟩:∃N,N=(q++[x]).length:=⟨_,rfl⟩;obtain ⟨n,hn⟩:∃n,n=q.length:=⟨_,rfl⟩;have hNn:N=n+1:=by rw [hN,hn];simp
  rw [←hN] at hcp hlen hcq;rw [←hn] at hcx
  have HHD:Hid (zao m ch tk=[x]):=by
   show _=_;rw [hhd.out,List.getLast?_append];rfl
  clear hrq hN hn hhd hne hP;have k0:(0:Int)≤(tk:Int):=by omega
  have k1:(tk:Int)<(PL:Int):=by omega
  have hqw:IntKind.i64.wrap ((N:Int) - 1)=(n:Int):=by rw [IntKind.wrap_i64];omega
  have hq0:(0:Int)≤(n:Int):=by omega
  have hq1:(n:Int)<(N:Int):=by omega
  have hq3:(0:Int)<(N:Int):=by omega
  go_enter Tryz.func123,Tryz.ntmps123
  go_upto_region 1 with fail;obtain ⟨hb1,r0,r1,r2,r3,r4,r5⟩:=box6 w (.int .i64 m.w) (.int .i64 m.h) (.int .i64 m.l) (.slice Af m.free.length cf) (.slice Au m.up.length cu) (.slice At m.tasks.length ct);generalize w.alloc (.cells #[.int .i64 m.w,.int .i64 m.h,.int .i64 m.l,.slice Af m.free.length cf,.slice Au m.up.length cu,.slice At m.tasks.length ct] 32)=w1 at hb1 r0 r1 r2 r3 r4 r5⊢;obtain ⟨gm,hgm⟩:∃gm,gm=w.heap.size:=⟨_,rfl⟩;rw [←hgm] at r0 r1 r2 r3 r4 r5⊢;have HGM:Hid (gm=w.heap.size):=hgm;clear hgm;have hx:Ext w1 w1:=Ext.refl w1;have HW1:=zh hb1;clear hb1;have qp:=Ext.rule (HW1.out.cell hcp);have qx:=Ext.rule (HW1.out.cell hcx);clear hcp hNn hcq hkp hcx
  go_wp2_with fail
  refine wp_region_held_drew (S:=(fun W=>Ext w1 W)) zS (hx.drew) (fun zH=>?_);have hHd:Ext w1 w1.drew:=zH;generalize w1.drew=wd at zH hHd⊢;refine rtT 0 zH ?_;simp only [za,Act.put];refine rtT 1 zH ?_;simp only [za,Act.put];refine rtT 2 zH ?_;simp only [za,Act.put];refine rtT 3 zH ?_;simp only [za,Act.put];refine rtT 4 zH ?_;simp only [za,Act.put];refine rtT 5 zH ?_;simp only [za,Act.put];refine rtT 6 zH ?_;simp only [za,Act.put];refine rtT 7 zH ?_;simp only [za,Act.put];refine rtT 8 zH ?_;simp only [za,Act.put];refine rtT 9 zH ?_;simp only [za,Act.put];refine rtT 10 zH ?_;simp only [za,Act.put];refine rtT 11 zH ?_;simp only [za,Act.put];refine rtR 12 (fun K hK=>?_);go_simp;have hA:Ext w1 (wd.alloc (.cells #[.int .i64 x] 3)):=hHd.alloc _;have hB:Blk (wd.alloc (.cells #[.int .i64 x] 3)) wd.heap.size 3 #[.int .i64 x]:=Blk.new _ _ _ rfl;generalize wd.alloc (.cells #[.int .i64 x] 3)=wb at hA hB⊢;refine hK.out _ _ (hA) (fun zH=>?_);clear hK K;try simp only [za,Act.put]
  refine rtR 13 (fun K hK=>?_);go_simp;refine hK.out _ _ (hA) (fun zH=>?_);clear hK K;try simp only [za,Act.put]
  refine wpAnyH_done (by kernel_rfl) ?_ _;go_wp2;go_ret;refine ⟨_,rfl,HW1.out.trans hA,?_⟩;rw [HHD.out];refine ⟨_,_,rfl,Nat.le_refl _,rfl,fun _=>⟨wd.heap.size,0,rfl,Nat.le_trans HW1.out.size hHd.size,fun j u hu=>?_⟩⟩
  match j,hu with
  | 0,hu=>
   have:u=.int .i64 x:=by simpa using hu.symm
   rw [this];exact hB.cell (k:=0) rfl
 ·obtain ⟨bt,offt,sn,u1,u2,rfl,-,-,hc1,-,hi1,-⟩:=zam HTS.out htk;have htn:=fun x hx=>G.out.tn _ (List.getElem_mem htk) x (.inl hx)
  have hfl1:=(HL.out.tl _ (List.getElem_mem htk)).1
  have hhd:Hid (zao m ch tk=((m.tasks[tk]).1).filter fun n=>ze m tk n && !decide (n∈ch)):=by
   show _=_;unfold zao;rw [if_neg (by omega),List.getD_eq_getElem?_getD,List.getElem?_eq_getElem htk];rfl
  obtain ⟨L,hL⟩:∃L,L=(m.tasks[tk]).1:=⟨_,rfl⟩;rw [←hL] at hi1 htn hfl1 hhd;clear hL;have HTN:=zh htn;have HCL:Hid (ch.length≤300):=hPL.2.2.1;have HTK:Hid (tk<m.free.length):=by show _<_;rw [HFL.out];exact htk
  have k0:(0:Int)≤(tk:Int):=by omega
  have k1:(tk:Int)<(m.tasks.length:Int):=by omega
  have k2:¬ ((tk:Int)<(PL:Int)):=by omega
  clear htn hPL hi hP;obtain ⟨p,hpd⟩:∃p:Int→Bool,p=fun n=>ze m tk n && !decide (n∈ch):=⟨_,rfl⟩
  rw [←hpd] at hhd;have HPD:=zh hpd;clear hpd
  go_enter Tryz.func123,Tryz.ntmps123
  go_upto_region 1 with fail;obtain ⟨hb1,r0,r1,r2,r3,r4,r5⟩:=box6 w (.int .i64 m.w) (.int .i64 m.h) (.int .i64 m.l) (.slice Af m.free.length cf) (.slice Au m.up.length cu) (.slice (some ⟨bt,offt,none⟩) m.tasks.length ct);generalize w.alloc (.cells #[.int .i64 m.w,.int .i64 m.h,.int .i64 m.l,.slice Af m.free.length cf,.slice Au m.up.length cu,.slice (some ⟨bt,offt,none⟩) m.tasks.length ct] 32)=w1 at hb1 r0 r1 r2 r3 r4 r5⊢;obtain ⟨gm,hgm⟩:∃gm,gm=w.heap.size:=⟨_,rfl⟩;rw [←hgm] at r0 r1 r2 r3 r4 r5⊢;clear hgm;have hx:Ext w1 w1:=Ext.refl w1;have HW1:=zh hb1;clear hb1;have qt:=Ext.rule (HW1.out.cell hc1);have HI1:=zh (hi1.below HW1.out);obtain ⟨Al,cl,rfl,hcl,-⟩:=hi1;clear hc1
  go_wp2_with fail
  have HM0:=zh (Mk.nil w1);go_loopw [9,11] (fun v i wr=>∃k:Nat,k≤L.length∧i=.int .i64 (k:Nat)∧Hid (Mk w1 wr v ((L.take k).filter p))) (fun _ i _=>L.length - (intOf i).toNat)
  case atStart=>exact ⟨0,Nat.zero_le _,rfl,HM0⟩
  clear HM0
  case round=>
   obtain ⟨k,hk,rfl,hM⟩:=hrel;have hx:Ext w1 wr:=hM.out.ext;obtain ⟨wk,rfl⟩:∃wk:World,wk=wr:=⟨_,rfl⟩;by_cases hlt2:k<L.length
   ·obtain ⟨A',c',e,-,hr1⟩:=HI1.out;injection e with e1 e2 e3;subst e1 e3;obtain ⟨bl,offl,rfl,-,hcell⟩:=zt hr1 hlt2 hlt2;clear hr1;obtain ⟨hx0,hx1⟩:=HTN.out _ (List.getElem_mem hlt2);have htk2:=List.take_succ_eq_append_getElem hlt2;obtain ⟨x,hxx⟩:∃x,x=L[k]:=⟨_,rfl⟩;rw [←hxx] at hcell hx0 hx1 htk2;clear hxx;have HT:=zh htk2;have rx:=Ext.rule hcell;clear htk2 hcell;obtain ⟨bf,off,b',off',l,c',rfl,hc1,hl,hlc,hfc,hc2⟩:=zcc HF.out G.out.fn HTK.out hx0 hx1;have q1:=Ext.rule (HW1.out.cell hc1);have q2:=Ext.rule (HW1.out.cell hc2);have kk0:(0:Int)≤(k:Int):=by omega
    have kk1:(k:Int)<(L.length:Int):=by omega
    have kf1:(tk:Int)<(m.free.length:Int):=by have:=HTK.out;omega
    have hp:Hid (p x=(ze m tk x && !decide (x∈ch))):=by (show _=_);rw [HPD.out]
    obtain ⟨fv,hfv⟩:∃fv,fv=ze m tk x:=⟨_,rfl⟩;rw [←hfv] at q2 hp;clear hfv hc1 hc2;have hln:((L.take k).filter p).length≤L.length:=Nat.le_trans (List.length_filter_le _ _) (by simp;omega);go_upto_region 8 with fail;go_cut [68] (fun v wx=>v=.bool (p x)∧Ext wk wx)
    case first=>
     cases fv with
     | false=>
      have hx':Ext wk wk:=Ext.refl wk;go_quiet (fail)
      go_wp2_with fail
      go_meet
      first | exact ⟨by rw [hp.out,Bool.false_and],hx'.drew⟩ | exact ⟨by rw [hp.out,Bool.false_and],hx'.drewN _⟩
     | true=>
      have hx':Ext wk wk:=Ext.refl wk
      go_region_held3 (fun w'=>Ext w1 w'∧Ext wk w') (first | (exact ⟨hx.drew,hx'.drew⟩) | assumption) ((go_at_call 12;refine (zE x _ (HCI.out.below (HW1.out.trans hx.drew)) (by have:=HCL.out;omega)).mono ?_;rintro e w9 ⟨rfl,rfl⟩))
      rename_i hS
      go_wp2_with fail
      go_meet;exact ⟨by rw [hp.out,Bool.true_and],hS.2⟩
    case rest=>
     obtain ⟨rfl,hxc⟩:=hcut;have hMc:=zh (hM.out.more hxc);have hx9:=hMc.out.ext
     cases hb:p x with
     | true=>
      have HS:Hid ((L.take (k+1)).filter p=(L.take k).filter p++[x]):=by show _=_;rw [HT.out,List.filter_append,List.filter_cons_of_pos hb];rfl
      clear hb;obtain ⟨l,hle⟩:∃l,l=(L.take k).filter p:=⟨_,rfl⟩;rw [←hle] at hMc hln HS;clear hle
      go_wp2_with (at_builtin;refine zan rfl _ _ rfl _ l x w1.heap.size wc.heap.size 1 _ rfl rfl (hMc.out.own.alloc _) ?d1 ?d2 ?d3 ?_)
      (try case d1=>exact zm _ _ _ (by simp))
      case d2=>(first | (simp;done) | (have:=hx9.size;simp;omega) | (have:=hx9.size;omega))
      case d3=>omega
      intro v' wb hob hgb hbl;have hM':=zh ((hMc.out.alloc _).app hob hgb);clear hob hgb hbl;go_wp2;go_roundw
      case rel=>exact ⟨k+1,by omega,by go_num,by rw [HS.out];exact hM'⟩
      case measure=>simp [intOf];omega
     | false=>
      have HS:Hid ((L.take (k+1)).filter p=(L.take k).filter p):=by show _=_;rw [HT.out,List.filter_append,List.filter_cons_of_neg (by rw [hb];simp),List.filter_nil,List.append_nil]
      clear hb;go_wp2;go_roundw
      case rel=>exact ⟨k+1,by omega,by go_num,by rw [HS.out];exact hMc⟩
      case measure=>simp [intOf];omega
   ·obtain rfl:k=L.length:=by omega
    go_wp2;go_ret;refine ⟨_,rfl,HW1.out.trans hx,?_⟩;rw [hhd.out];have h:=hM.out.ints;rw [List.take_length] at h;exact h.weaken (fun b hb=>Nat.le_trans HW1.out.size hb)
end Go.Proofs.YthbjngbhbbkkgaaGreat
