/- RtO RtP RtX RtGp -/
import Derived.Test.YthbjngbhbbkkgaaGreatHUa
import Derived.Test.YthbjngbhbbkkgaaGreatHUb
import Derived.Test.YthbjngbhbbkkgaaGreatHUc
import Derived.Test.YthbjngbhbbkkgaaGreatHUd
import Derived.Test.YthbjngbhbbkkgaaGreatHUe
import Derived.Test.YthbjngbhbbkkgaaGreatHUf
import Derived.Test.YthbjngbhbbkkgaaGreatHUg
import Derived.KernelRfl
set_option linter.unusedVariables false
set_option linter.unusedSimpArgs false
set_option maxRecDepth 100000
set_option maxHeartbeats 16000000
namespace Go.Proofs.YthbjngbhbbkkgaaGreat
open Go.RowKit Go.Shelf
attribute [local go_sem] Oper.semAt_some
attribute [local go_sem ↓] Go.wp_at_zero Go.wp_at_succ
noncomputable def openT (m:MZ) (ps:List (List Int)) (us:List Int) (t:Nat):Bool:=((m.tasks.getD t ([],[])).2).any fun x=>decide (x∈zaA m t (zaU m ps us t) us)
def tasksN (m:MZ) (ps:List (List Int)):Nat:=if cmpB m ps=true then 0 else m.tasks.length+1 - ps.length
noncomputable def openB (m:MZ) (ps:List (List Int)) (us:List Int):Bool:=(List.range (tasksN m ps)).all fun k=>openT m ps us (ps.length - 1+k)
theorem left_calls (g:Nat) (w:World):Calls Tryz.prog 109 #[.pointer (some ⟨g,0,none⟩)] w fun e w'=>e=.returned (.func (.func 129) #[] #[.pointer (some ⟨w.heap.size,0,none⟩)])∧w'=w.alloc (.cells #[.pointer (some ⟨g,0,none⟩)] 97):=by
 go_enter Tryz.func109,Tryz.ntmps109
 go_wp2;go_ret;exact ⟨rfl,rfl⟩
theorem left1_none {ok:Nat→Prop} {m:MZ} {ch us:List Int} {ps:List (List Int)} {g gu gb:Nat} {f u ts vc vp:Value} {G:Nat→Int×Value→World→Prop} (w:World) (h:zaZ w ok g m ch ps us f u ts vc vp gu) (so:SOk m ch ps) (hc:w.cell? ⟨gb,0,none⟩=some (.pointer (some ⟨g,0,none⟩))) (hp:cmpB m ps=true) (n:Nat) (hn:1≤n):
  GivesB n Tryz.prog 129 #[.pointer (some ⟨gb,0,none⟩)] (fun x:Int×Value=>#[.int .i64 x.1,x.2]) G 0 w:=by
 intro l J Jx W hW hwl hl hJ hJx hY h0;have HS:=zh h;clear h;have HJ:=zh hJ;clear hJ hJx;have HJ0:=zh h0;clear h0;have rb:=Ext.rule hc;have SO:=zh so;clear so hc hY;refine callsIn_of_wp Tryz.func129 rfl trivial ?_ rfl;simp only [Tryz.ntmps129,List.size_toArray,List.length_cons,List.length_nil,Nat.reduceAdd,Nat.reduceSub,Array.replicate_succ,Array.replicate_zero,List.push_toArray,List.append_toArray,List.nil_append,List.cons_append]
 gi_wp2_with (refine ⟨trivial,?_⟩;gi_at_call 64;refine (callsIn_wide.2 (zb8 _ (HS.out.ext hW) SO.out)).mono ?_;rintro e wA ⟨rfl,hdA⟩;rw [hp];have hxA:Ext W wA:=hdA.below _;have hA:Ext w wA:=hW.trans hxA)
 refine bodyPost_ret (results_none rfl _ _ _) rfl ?_;exact ⟨⟨_,rfl⟩,.inl (HJ.out _ _ _ HJ0.out hxA)⟩
theorem left1_gives' {ok:Nat→Prop} {m:MZ} {ch us:List Int} {ps:List (List Int)} {g gu gb:Nat} {f u ts vc vp:Value} (w:World) (h:zaZ w ok g m ch ps us f u ts vc vp gu) (so:SOk m ch ps) (hc:w.cell? ⟨gb,0,none⟩=some (.pointer (some ⟨g,0,none⟩))) (n:Nat) (hn:1≤n):
  GivesB n Tryz.prog 129 #[.pointer (some ⟨gb,0,none⟩)] (fun x:Int×Value=>#[.int .i64 x.1,x.2]) (fun k x W=>x.1=((ps.length - 1+k:Nat):Int)∧zf W (fun _=>True) x.2 (zaU m ps us (ps.length - 1+k))) (tasksN m ps) w:=by
 unfold tasksN;by_cases hp:cmpB m ps=true
 ·rw [if_pos hp];exact left1_none w h so hc hp n hn
 ·rw [if_neg hp];exact left1_gives w h so hc (by simpa using hp) n hn
theorem zY.apart {w:World} {ok:Nat→Prop} {size n b:Nat} {A:Option Addr} {xs:List Value} {r:Loop} (h:zY w ok size A n xs) (hs:0<size) (hb:w.heap[b]?=some (.loop r)):zY w (fun k=>ok k∧k≠b) size A n xs:=by
 refine ⟨h.1,fun hn=>?_⟩;obtain ⟨k,off,e,hk,hc⟩:=h.2 hn;have h0:0<xs.length:=by rw [h.1];exact Nat.mul_pos hn hs
 refine ⟨k,off,e,⟨hk,?_⟩,hc⟩;rintro rfl;have h1:=hc 0 _ (List.getElem?_eq_getElem h0);unfold World.cell? at h1;simp only [hb] at h1;cases h1
theorem zf.apart {w:World} {ok:Nat→Prop} {v:Value} {l:List Int} {b:Nat} {r:Loop} (h:zf w ok v l) (hb:w.heap[b]?=some (.loop r)):zf w (fun k=>ok k∧k≠b) v l:=by
 obtain ⟨A,c,e,hc,hr⟩:=h;exact ⟨A,c,e,hc,hr.apart (by decide) hb⟩
theorem zS:Tryz.prog.follows .mixedOrders=true:=by kernel_rfl
theorem results_bool {fn:Func} {p w2:Nat} {b:Bool} (h:fn.results=#[.cell p 4]) (tmps:Array Value) (w:World) (hp:tmps.getD p undef=.pointer (some ⟨w2,0,none⟩)) (hc:w.cell? ⟨w2,0,none⟩=some (.bool b)):(results fn tmps).run Tryz.prog w=.ok (.bool b) w:=by
 have hp':tmps[p]?.getD undef=.pointer (some ⟨w2,0,none⟩):=by simpa using hp
 simp [results,h,hp',asAddr,go_sem,hc]
theorem tasksN_lt {m:MZ} {ch:List Int} {ps:List (List Int)} {k t:Nat} (so:SOk m ch ps) (hk:k<tasksN m ps) (ht:t=ps.length - 1+k):t<m.tasks.length:=by
 unfold tasksN at hk
 split at hk
 ·omega
 ·rename_i h
  have h0:0<m.tasks.length:=by
   rcases Nat.eq_zero_or_pos m.tasks.length with h0 | h0
   ·exfalso;apply h;unfold cmpB;rw [decide_eq_true h0];rfl
   ·exact h0
  have:=so.pn h0;have:=so.pl;omega
theorem fromL_len {m:MZ} {ch us:List Int} {ps:List (List Int)} {t:Nat} (so:SOk m ch ps) (ht:t<m.tasks.length):(zaU m ps us t).length≤20000000000000:=by
 unfold zaU
 split
 ·simp
 ·refine Nat.le_trans (List.length_filter_le _ _) ?_;rw [List.getD_eq_getElem?_getD,List.getElem?_eq_getElem ht,Option.getD_some];have:=(so.lens.tl _ (List.getElem_mem ht)).1;omega
structure JO (W0:World) (g gu:Nat) (m:MZ) (frm us:List Int) (t:Nat) (x2 MV:Value) (e:Nat→Bool) (v:Nat→Value) (W:World):Prop where
 ext:Ext W0 W
 v0:e 0=true→v 0=.pointer (some ⟨g,0,none⟩)
 v1:e 1=true→v 1=.pointer (some ⟨g,0,none⟩)
 v2:e 2=true→v 2=.pointer (some ⟨g,0,none⟩)
 v3:e 3=true→v 3=MV
 v4:e 4=true→v 4=.int .i64 (t:Int)
 v5:e 5=true→v 5=x2
 v6:e 6=true→v 6=.pointer (some ⟨g,0,none⟩)
 v7:e 7=true→v 7=.pointer (some ⟨g,0,none⟩)
 v8:e 8=true→v 8=.pointer (some ⟨g,8,none⟩)
 v9:e 9=true→v 9=.map (some gu)
 call:e 10=true→∃gs s,v 10=.map (some gs)∧W0.heap.size≤gs∧zA W gs s∧∀x,x∈s↔RP m t frm us x
 al:e 11=true→∃g5,v 11=.pointer (some ⟨g5,0,none⟩)∧W0.heap.size≤g5∧(e 12=false→Blk W g5 79 #[.map none])∧(e 12=true→W.cell? ⟨g5,0,none⟩=some (v 10))
 d12:e 12=true→e 10=true∧e 11=true
section
variable {W0 W W':World} {g gu:Nat} {m:MZ} {frm us:List Int} {t:Nat} {x2 MV:Value} {e:Nat→Bool} {v:Nat→Value}
theorem JO.n12 (h:JO W0 g gu m frm us t x2 MV e v W) (h10:e 10=false):e 12=false:=notT (fun a=>(h.d12 a).1) h10
theorem JO.n12' (h:JO W0 g gu m frm us t x2 MV e v W) (h10:e 11=false):e 12=false:=notT (fun a=>(h.d12 a).2) h10
theorem JO.init (he:∀j∈[0,1,2,3,4,5,6,7,8,9,10,11,12],e j=false):JO W0 g gu m frm us t x2 MV e v { W0 with drawn:=W0.drawn+1 }:=
 ⟨zco,fun a=>ff (he 0 (by simp)) a,fun a=>ff (he 1 (by simp)) a,fun a=>ff (he 2 (by simp)) a,fun a=>ff (he 3 (by simp)) a,fun a=>ff (he 4 (by simp)) a,fun a=>ff (he 5 (by simp)) a,fun a=>ff (he 6 (by simp)) a,fun a=>ff (he 7 (by simp)) a,fun a=>ff (he 8 (by simp)) a,fun a=>ff (he 9 (by simp)) a,fun a=>ff (he 10 (by simp)) a,fun a=>ff (he 11 (by simp)) a,fun a=>ff (he 12 (by simp)) a⟩
theorem JO.s0 (h:JO W0 g gu m frm us t x2 MV e v W):JO W0 g gu m frm us t x2 MV (upd e 0 true) (upd v 0 (.pointer (some ⟨g,0,none⟩))) W:=
 ⟨h.ext,fun _=>rfl,h.v1,h.v2,h.v3,h.v4,h.v5,h.v6,h.v7,h.v8,h.v9,h.call,h.al,h.d12⟩
theorem JO.s1 (h:JO W0 g gu m frm us t x2 MV e v W):JO W0 g gu m frm us t x2 MV (upd e 1 true) (upd v 1 (.pointer (some ⟨g,0,none⟩))) W:=
 ⟨h.ext,h.v0,fun _=>rfl,h.v2,h.v3,h.v4,h.v5,h.v6,h.v7,h.v8,h.v9,h.call,h.al,h.d12⟩
theorem JO.s2 (h:JO W0 g gu m frm us t x2 MV e v W):JO W0 g gu m frm us t x2 MV (upd e 2 true) (upd v 2 (.pointer (some ⟨g,0,none⟩))) W:=
 ⟨h.ext,h.v0,h.v1,fun _=>rfl,h.v3,h.v4,h.v5,h.v6,h.v7,h.v8,h.v9,h.call,h.al,h.d12⟩
theorem JO.s3 (h:JO W0 g gu m frm us t x2 MV e v W):JO W0 g gu m frm us t x2 MV (upd e 3 true) (upd v 3 (MV)) W:=
 ⟨h.ext,h.v0,h.v1,h.v2,fun _=>rfl,h.v4,h.v5,h.v6,h.v7,h.v8,h.v9,h.call,h.al,h.d12⟩
theorem JO.s4 (h:JO W0 g gu m frm us t x2 MV e v W):JO W0 g gu m frm us t x2 MV (upd e 4 true) (upd v 4 (.int .i64 (t:Int))) W:=
 ⟨h.ext,h.v0,h.v1,h.v2,h.v3,fun _=>rfl,h.v5,h.v6,h.v7,h.v8,h.v9,h.call,h.al,h.d12⟩
theorem JO.s5 (h:JO W0 g gu m frm us t x2 MV e v W):JO W0 g gu m frm us t x2 MV (upd e 5 true) (upd v 5 (x2)) W:=
 ⟨h.ext,h.v0,h.v1,h.v2,h.v3,h.v4,fun _=>rfl,h.v6,h.v7,h.v8,h.v9,h.call,h.al,h.d12⟩
theorem JO.s6 (h:JO W0 g gu m frm us t x2 MV e v W):JO W0 g gu m frm us t x2 MV (upd e 6 true) (upd v 6 (.pointer (some ⟨g,0,none⟩))) W:=
 ⟨h.ext,h.v0,h.v1,h.v2,h.v3,h.v4,h.v5,fun _=>rfl,h.v7,h.v8,h.v9,h.call,h.al,h.d12⟩
theorem JO.s7 (h:JO W0 g gu m frm us t x2 MV e v W):JO W0 g gu m frm us t x2 MV (upd e 7 true) (upd v 7 (.pointer (some ⟨g,0,none⟩))) W:=
 ⟨h.ext,h.v0,h.v1,h.v2,h.v3,h.v4,h.v5,h.v6,fun _=>rfl,h.v8,h.v9,h.call,h.al,h.d12⟩
theorem JO.s8 (h:JO W0 g gu m frm us t x2 MV e v W):JO W0 g gu m frm us t x2 MV (upd e 8 true) (upd v 8 (.pointer (some ⟨g,8,none⟩))) W:=
 ⟨h.ext,h.v0,h.v1,h.v2,h.v3,h.v4,h.v5,h.v6,h.v7,fun _=>rfl,h.v9,h.call,h.al,h.d12⟩
theorem JO.s9 (h:JO W0 g gu m frm us t x2 MV e v W):JO W0 g gu m frm us t x2 MV (upd e 9 true) (upd v 9 (.map (some gu))) W:=
 ⟨h.ext,h.v0,h.v1,h.v2,h.v3,h.v4,h.v5,h.v6,h.v7,h.v8,fun _=>rfl,h.call,h.al,h.d12⟩
theorem JO.s10 {gs:Nat} {s:List Int} (h:JO W0 g gu m frm us t x2 MV e v W) (h12:e 12=false) (hE:Ext W W') (hg:W0.heap.size≤gs) (hs:zA W' gs s) (hrp:∀x,x∈s↔RP m t frm us x):
  JO W0 g gu m frm us t x2 MV (upd e 10 true) (upd v 10 (.map (some gs))) W':=
 ⟨h.ext.trans hE,h.v0,h.v1,h.v2,h.v3,h.v4,h.v5,h.v6,h.v7,h.v8,h.v9,fun _=>⟨gs,s,rfl,hg,hs,hrp⟩,fun a=>(by
  obtain ⟨g5,h1,h2,h3,_⟩:=h.al a;exact ⟨g5,h1,h2,fun _=>(h3 h12).ext hE,fun b=>ff (b:=e 12) h12 b⟩),fun a=>ff (b:=e 12) h12 a⟩
theorem JO.s11 (h:JO W0 g gu m frm us t x2 MV e v W) (h12:e 12=false):
  JO W0 g gu m frm us t x2 MV (upd e 11 true) (upd v 11 (.pointer (some ⟨W.heap.size,0,none⟩))) (W.alloc (.cells #[.map none] 79)):=
 ⟨h.ext.alloc _,h.v0,h.v1,h.v2,h.v3,h.v4,h.v5,h.v6,h.v7,h.v8,h.v9,fun a=>(by
  obtain ⟨gs,s,h1,h2,h3,h4⟩:=h.call a;exact ⟨gs,s,h1,h2,h3.below ((Ext.refl _).alloc _),h4⟩),fun _=>⟨_,rfl,h.ext.size,fun _=>Blk.new _ _ _ rfl,fun b=>ff (b:=e 12) h12 b⟩,fun a=>ff (b:=e 12) h12 a⟩
theorem JO.s12 {g5 gs:Nat} {x:Value} (h:JO W0 g gu m frm us t x2 MV e v W) (hv11:v 11=.pointer (some ⟨g5,0,none⟩)) (hv10:v 10=.map (some gs)) (hg:W0.heap.size≤g5) (hb:Blk W g5 79 #[.map none]) (h10:e 10=true) (h11:e 11=true):
  JO W0 g gu m frm us t x2 MV (upd e 12 true) (upd v 12 x) (W.setCell ⟨g5,0,none⟩ (.map (some gs))):=
 ⟨h.ext.setCell (p:=⟨g5,0,none⟩) hg _,h.v0,h.v1,h.v2,h.v3,h.v4,h.v5,h.v6,h.v7,h.v8,h.v9,fun a=>(by
  obtain ⟨gs',s,h1,h2,h3,h4⟩:=h.call a;refine ⟨gs',s,h1,h2,?_,h4⟩;have hne:g5≠gs':=blk_set_ne hb h3
  exact (Below.heap_setCell W ⟨g5,0,none⟩ _ gs' (fun e=>hne e.symm)).trans h3),fun _=>⟨g5,hv11,hg,fun a=>(by cases a),fun _=>by
   show _=some (v 10);rw [hv10];exact (hb.set (k:=0) _).cell (k:=0) rfl⟩,fun _=>⟨h10,h11⟩⟩
end
theorem open_calls {ok:Nat→Prop} {m:MZ} {ch us:List Int} {ps:List (List Int)} {g gu:Nat} {f u ts vc vp:Value} (w:World) (h:zaZ w ok g m ch ps us f u ts vc vp gu) (so:SOk m ch ps):
  Calls Tryz.prog 86 #[.pointer (some ⟨g,0,none⟩)] w fun e w'=>e=.returned (.bool (openB m ps us))∧Ext w w':=by
 refine (callsIn_wide (n:=6)).1 ?_;have HS:=zh h;have SO:=zh so;obtain ⟨r0,r1,r2,r3,r4,r5,r6,r7,r8⟩:=h.rules;clear h;refine callsIn_of_wp_marks Tryz.func86 rfl trivial ?_ rfl;simp only [Tryz.ntmps86,List.size_toArray,List.length_cons,List.length_nil,Nat.reduceAdd,Nat.reduceSub,Array.replicate_succ,Array.replicate_zero,List.push_toArray,List.append_toArray,List.nil_append,List.cons_append]
 gi_wp2_with (refine ⟨trivial,?_⟩;gi_at_call 109;refine (callsIn_wide.2 (left_calls _ _)).mono ?_;rintro e w1 ⟨rfl,rfl⟩)
 obtain ⟨w1,hw1⟩:∃w1,w1=((w.alloc (.cells #[.pointer (some ⟨g,0,none⟩)] 97)).alloc (.cells #[.bool false] 4)).alloc (.cells #[.pointer (some ⟨g,0,none⟩)] 97):=⟨_,rfl⟩;rw [←hw1];have hE1:Ext w w1:=by rw [hw1];exact (((Ext.refl w).alloc _).alloc _).alloc _
 have hz1:w1.heap.size=w.heap.size+3:=by rw [hw1];simp
 have hcb:w1.cell? ⟨w.heap.size,0,none⟩=some (.pointer (some ⟨g,0,none⟩)):=by
  rw [hw1];exact Ext.cell (zm w _ _ rfl) (((Ext.refl _).alloc _).alloc _)
 have hc2:w1.cell? ⟨w.heap.size+1,0,none⟩=some (.bool false)∧w1.frozen? ⟨w.heap.size+1,0,none⟩=false:=by
  rw [hw1];constructor
  ·exact Ext.cell (zm _ _ _ (by simp)) ((Ext.refl _).alloc _)
  ·rw [World.frozen?_alloc_past _ _ _ (by simp)];exact World.frozen?_alloc_at _ _ _ _ (by simp)
 have hcb2:w1.cell? ⟨w.heap.size+1+1,0,none⟩=some (.pointer (some ⟨g,0,none⟩)):=by
  rw [hw1];exact zm _ _ _ (by simp)
 clear hw1;have rb:=Ext.rule hcb;obtain ⟨tn0,htn0⟩:∃tn0,tn0=ps.length - 1:=⟨_,rfl⟩;obtain ⟨w2,hw2⟩:∃w2,w2=w.heap.size+1:=⟨_,rfl⟩;rw [←hw2] at hc2⊢;have hlw2:w2<w1.heap.size:=by omega
 have HW2:=zh hw2;rw [←hw2] at hcb2;clear hw2
 refine wpIn_loopB (gf:=129) (lb:=#[.pointer (some ⟨w2+1,0,none⟩)]) rfl (enters_of Tryz.func129 (by kernel_rfl) rfl) (left1_gives' w1 (HS.out.ext hE1) SO.out hcb2 _ (by omega)) (Ext.refl w1) (fun _=>rfl)
  (fun k W=>Ext w1 W∧(∀j,j<k→openT m ps us (ps.length - 1+j)=true)∧W.frozen? ⟨w2,0,none⟩=false∧∃b,W.cell? ⟨w2,0,none⟩=some (.bool b))
  (fun c W=>c=.ret∧Ext w W∧W.cell? ⟨w2,0,none⟩=some (.bool false)∧openB m ps us=false)
  ?hI ?hIx ?hG ⟨Ext.refl w1,fun _ h=>absurd h (by omega),hc2.2,_,hc2.1⟩ (fun x=>{ tmps:=#[Value.pointer (some ⟨g,0,none⟩),Value.pointer (some ⟨w.heap.size,0,none⟩),Value.pointer (some ⟨w2,0,none⟩),.int .i64 x.1,x.2,undef,Value.pointer (some ⟨g,0,none⟩),
    Value.func (Fn.func 129) #[] #[Value.pointer (some ⟨w2+1,0,none⟩)],.int .i64 x.1,x.2,undef,undef,undef,undef,undef,undef,undef,undef,undef,undef,undef,undef,undef,undef,undef,undef,undef,undef,undef,undef,undef,undef,undef],defers:=[] }) ?assign ?body ?done ?stop
 case hI=>
  rintro k A B ⟨h1,h2,h3,b,h4⟩ hAB;have hlt:=hlw2;exact ⟨Below.trans h1 hAB,h2,(hAB.frozen (p:=⟨w2,0,none⟩) hlt).trans h3,b,(hAB.cell (p:=⟨w2,0,none⟩) hlt).trans h4⟩
 case hIx=>
  rintro c A B ⟨h1,h2,h3,h4⟩ hAB;have hlt:=hlw2;exact ⟨h1,Below.trans h2 (hAB.mono hE1.size),(hAB.cell (p:=⟨w2,0,none⟩) hlt).trans h3,h4⟩
 case hG=>
  rintro k x A l ⟨h1,h2⟩ hl1 hl2 ⟨r,hr⟩ o;exact ⟨h1,((h2.apart hr).keep fun b hb hlt=>World.putObj_heap_other hb.2).weaken fun _ h=>h.1⟩
 case assign=>
  intro l x W K hK
  gi_wp2
  exact hK
 case body=>
  rintro l k ⟨x1,x2⟩ W0 hk ⟨hE,hall,hfz,b,hcz⟩ ⟨hx1,hx2⟩ hsz;dsimp only at hx1 hx2⊢;obtain ⟨t,ht⟩:∃t,t=ps.length - 1+k:=⟨_,rfl⟩;rw [←ht] at hx1 hx2;subst hx1;have hE0:Ext w W0:=hE1.trans hE;have HX:=zh hx2;clear hx2;obtain ⟨frm,hfrm⟩:∃frm,frm=zaU m ps us t:=⟨_,rfl⟩;rw [←hfrm] at HX;have HFRM:=zh hfrm;clear hfrm;have htT:t<m.tasks.length:=tasksN_lt SO.out hk ht;have htf:t<m.free.length:=by rw [SO.out.good.fl];exact htT
  have hfl:frm.length≤20000000000000:=by rw [HFRM.out];exact fromL_len SO.out htT
  have hmz:=HS.out.maze;obtain ⟨fr',up',ts',hee,_,_,hts⟩:=hmz;injection hee with hee;injection hee with hee;simp only [List.cons.injEq,and_true,true_and] at hee;obtain ⟨rfl,rfl,rfl⟩:=hee;have HTS:=zh hts;obtain ⟨vst,⟨At,ct,rfl,hct,_⟩,_⟩:=hts;obtain ⟨bt,offt,sn,u1,u2,rfl,_,hk0',hk1,hk2,hi1,hi2⟩:=zam HTS.out htT;have hlt2:=(SO.out.lens.tl _ (List.getElem_mem htT)).2;obtain ⟨tl2,hto⟩:∃tl2,tl2=(m.tasks[t]).2:=⟨_,rfl⟩;rw [←hto] at hi2 hlt2;have HTO:=zh hto;clear hto hi1 hk0' hk1;have HI2:=zh hi2;obtain ⟨A5,c5,rfl,hc5,_⟩:=hi2;have q2:=Ext.rule hk2;clear hk2;have htl:(t:Int)<(m.tasks.length:Int):=by omega
  have htl0:(0:Int)≤(t:Int):=by omega
  have htk:=SO.out.good.tk;obtain ⟨MV,hMV⟩:∃MV,MV=Value.agg #[.int .i64 m.w,.int .i64 m.h,.int .i64 m.l,f,u,.slice (some ⟨bt,offt,none⟩) m.tasks.length ct]:=⟨_,rfl⟩;have HT:=zh ht;clear ht;have HALL:=zh hall;clear hall;have HFZ:=zh hfz;clear hfz;have HCZ:=zh hcz;clear hcz
  gi_wp2
  refine wpIn_region_any zS ?_;simp only [List.size_toArray,List.length_cons,List.length_nil,Nat.reduceAdd,Array.replicate_succ,Array.replicate_zero,List.push_toArray,List.nil_append,List.cons_append];refine wpAnyIn_by_invF _ _ (by kernel_rfl) [0,1,2,3,4,5,6,7,8,9,10,11,12] (fun e v W=>JO W0 g gu m frm us t x2 MV e v W) (F:=?F1) (by kernel_rfl) (by kernel_rfl) (by decide) (fun v=>?hF1) ?init1 (by kernel_rfl) ?steps1 ?fin1
  case hF1=>(simp only [zK,zbp,List.getElem?_toArray,List.getElem?_cons_succ,List.getElem?_cons_zero,Option.bind,Act.put,List.setIfInBounds_toArray,List.set_cons_succ,List.set_cons_zero];rfl)
  case init1=>
   intro e v he;exact JO.init he
  case steps1=>
   refine zg.cons rfl (fun e v W K hJ hW he hd hK=>?_) ?_
   ·simp only [za] at hd hK⊢;have hxW:Ext w W:=hE0.trans hJ.ext;have hxW1:Ext w1 W:=hE.trans hJ.ext;go_simp;exact hK.out _ _ _ (by rfl) trivial hJ.s0
   refine zg.cons rfl (fun e v W K hJ hW he hd hK=>?_) ?_
   ·simp only [za] at hd hK⊢;have hxW:Ext w W:=hE0.trans hJ.ext;have hxW1:Ext w1 W:=hE.trans hJ.ext;have v0:=hJ.v0 (zk hd [0] (by kernel_rfl) 0 (by simp));go_simp;exact hK.out _ _ _ (by simp [Act.put,v0]) trivial hJ.s1
   refine zg.cons rfl (fun e v W K hJ hW he hd hK=>?_) ?_
   ·simp only [za] at hd hK⊢;have hxW:Ext w W:=hE0.trans hJ.ext;have hxW1:Ext w1 W:=hE.trans hJ.ext;have v1:=hJ.v1 (zk hd [1] (by kernel_rfl) 1 (by simp));go_simp;exact hK.out _ _ _ (by simp [Act.put,v1]) trivial hJ.s2
   refine zg.cons rfl (fun e v W K hJ hW he hd hK=>?_) ?_
   ·simp only [za] at hd hK⊢;have hxW:Ext w W:=hE0.trans hJ.ext;have hxW1:Ext w1 W:=hE.trans hJ.ext;have v2:=hJ.v2 (zk hd [2] (by kernel_rfl) 2 (by simp));go_simp;exact hK.out _ _ _ (by simp [Act.put,v2,hMV]) trivial hJ.s3
   refine zg.cons rfl (fun e v W K hJ hW he hd hK=>?_) ?_
   ·simp only [za] at hd hK⊢;have hxW:Ext w W:=hE0.trans hJ.ext;have hxW1:Ext w1 W:=hE.trans hJ.ext;go_simp;exact hK.out _ _ _ (by rfl) trivial hJ.s4
   refine zg.cons rfl (fun e v W K hJ hW he hd hK=>?_) ?_
   ·simp only [za] at hd hK⊢;have hxW:Ext w W:=hE0.trans hJ.ext;have hxW1:Ext w1 W:=hE.trans hJ.ext;go_simp;exact hK.out _ _ _ (by rfl) trivial hJ.s5
   refine zg.cons rfl (fun e v W K hJ hW he hd hK=>?_) ?_
   ·simp only [za] at hd hK⊢;have hxW:Ext w W:=hE0.trans hJ.ext;have hxW1:Ext w1 W:=hE.trans hJ.ext;go_simp;exact hK.out _ _ _ (by rfl) trivial hJ.s6
   refine zg.cons rfl (fun e v W K hJ hW he hd hK=>?_) ?_
   ·simp only [za] at hd hK⊢;have hxW:Ext w W:=hE0.trans hJ.ext;have hxW1:Ext w1 W:=hE.trans hJ.ext;have v6:=hJ.v6 (zk hd [6] (by kernel_rfl) 6 (by simp));go_simp;exact hK.out _ _ _ (by simp [Act.put,v6]) trivial hJ.s7
   refine zg.cons rfl (fun e v W K hJ hW he hd hK=>?_) ?_
   ·simp only [za] at hd hK⊢;have hxW:Ext w W:=hE0.trans hJ.ext;have hxW1:Ext w1 W:=hE.trans hJ.ext;have v7:=hJ.v7 (zk hd [7] (by kernel_rfl) 7 (by simp));go_simp;exact hK.out _ _ _ (by simp [Act.put,v7]) trivial hJ.s8
   refine zg.cons rfl (fun e v W K hJ hW he hd hK=>?_) ?_
   ·simp only [za] at hd hK⊢;have hxW:Ext w W:=hE0.trans hJ.ext;have hxW1:Ext w1 W:=hE.trans hJ.ext;have v8:=hJ.v8 (zk hd [8] (by kernel_rfl) 8 (by simp));go_simp;exact hK.out _ _ _ (by simp [Act.put,v8]) trivial hJ.s9
   refine zg.cons rfl (fun e v W K hJ hW he hd hK=>?_) ?_
   ·simp only [za] at hd hK⊢;have hxW:Ext w W:=hE0.trans hJ.ext;have hxW1:Ext w1 W:=hE.trans hJ.ext;have v3:=hJ.v3 (zk hd [3,4,5,9] (by kernel_rfl) 3 (by simp));have v4:=hJ.v4 (zk hd [3,4,5,9] (by kernel_rfl) 4 (by simp));have v5:=hJ.v5 (zk hd [3,4,5,9] (by kernel_rfl) 5 (by simp));have v9:=hJ.v9 (zk hd [3,4,5,9] (by kernel_rfl) 9 (by simp));have h12:e 12=false:=hJ.n12 he;go_simp;go_at_call 59;refine (reach_calls t W (HS.out.maze.below hxW) SO.out.good.dim htf SO.out.good.fn (HX.out.below hJ.ext) (by omega) (HS.out.us.below hxW)).mono ?_;rintro e9 w9 ⟨s,rfl,hb9,hs9,hrp⟩;go_simp;exact hK.out _ _ _ (by simp [Act.put,v3,v4,v5,v9,hMV]) trivial (hJ.s10 h12 hb9 (by have:=hJ.ext.size;omega) hs9 hrp)
   refine zg.cons rfl (fun e v W K hJ hW he hd hK=>?_) ?_
   ·simp only [za] at hd hK⊢;have hxW:Ext w W:=hE0.trans hJ.ext;have hxW1:Ext w1 W:=hE.trans hJ.ext;have h12:e 12=false:=hJ.n12' he;go_simp;exact hK.out _ _ _ (by rfl) trivial (hJ.s11 h12)
   refine zg.cons rfl (fun e v W K hJ hW he hd hK=>?_) ?_
   ·simp only [za] at hd hK⊢;have hxW:Ext w W:=hE0.trans hJ.ext;have hxW1:Ext w1 W:=hE.trans hJ.ext;have h10:e 10=true:=zk hd [10,11] (by kernel_rfl) 10 (by simp);have h11:e 11=true:=zk hd [10,11] (by kernel_rfl) 11 (by simp);obtain ⟨g5,hv11,hg5,hb5,_⟩:=hJ.al h11;have hb5:=hb5 he;have hf:=fun k=>hb5.frozen k
    have hc0:=hb5.cell (k:=0) rfl;obtain ⟨gs,s,hv10,hgs,hs5,hrp⟩:=hJ.call h10;go_simp;exact hK.out _ undef _ (by simp [Act.put,hv10,hv11]) trivial (hJ.s12 hv11 hv10 hg5 hb5 h10 h11)
   exact zg.nil
  case fin1=>
   intro v W5 hJ;have v10e:=hJ.call rfl;obtain ⟨gs,s,hv10,hgs,hs5,hrp⟩:=v10e;obtain ⟨g5,hv11,hg5,_,hc5⟩:=hJ.al rfl;have hc5:=hc5 rfl;rw [hv10] at hc5;have hE5:Ext W0 W5:=hJ.ext;have hxW:Ext w W5:=hE0.trans hE5;have hxW1:Ext w1 W5:=hE.trans hE5;have HJ:=zh hJ;clear hJ;have HRP:=zh hrp;clear hrp;rw [hv11];clear hv10 hv11
   have HC:=zh (za0 (l:=tl2) 110 #[.pointer (some ⟨g5,0,none⟩)] (fun x=>decide (x∈s)) W5 (HI2.out.below hxW) (by omega) (zad (P:=Tryz.prog) Tryz.func110 (by kernel_rfl) (by kernel_rfl))
    (fun x _ wa hd=>by
     have hEa:Ext W5 wa:=hd.below _;refine (open1_calls x wa (hs5.below hEa) (Ext.cell hc5 hEa)).mono ?_;rintro e wb ⟨rfl,rfl⟩;exact ⟨rfl,zG.refl _⟩))
   have HOT:Hid (openT m ps us t=tl2.any fun x=>decide (x∈s)):=by
    show openT m ps us t=_;unfold openT;rw [HTO.out,List.getD_eq_getElem?_getD,List.getElem?_eq_getElem htT,Option.getD_some,←HFRM.out];congr 1;funext x;rw [decide_eq_decide,zaP SO.out.good.dim];exact (HRP.out x).symm
   generalize (tl2.any fun x=>decide (x∈s))=bb at HC HOT;clear hs5 hc5
   cases bb with
   | true=>
    gi_wp2_with fail
    refine ⟨trivial,?_⟩;refine (CallsIn.inRound l (callsIn_wide.2 HC.out)).mono ?_;rintro e w6 ⟨rfl,hd6⟩;have hx6:Ext W5 w6:=hd6.below _;clear hd6;have hx06:Ext W0 w6:=hE5.trans hx6
    gi_wp2_with fail
    have hlt:=Nat.lt_of_lt_of_le hlw2 hE.size;refine ⟨hx06,hE.trans hx06,fun j hj=>?_,(Below.frozen hx06 (p:=⟨w2,0,none⟩) hlt).trans HFZ.out,b,(Below.cell hx06 (p:=⟨w2,0,none⟩) hlt).trans HCZ.out⟩;rcases Nat.lt_or_ge j k with h | h
    ·exact HALL.out j h
    ·rw [show j=k from by omega,←HT.out];exact HOT.out
   | false=>
    gi_wp2_with fail
    refine ⟨trivial,?_⟩;refine (CallsIn.inRound l (callsIn_wide.2 HC.out)).mono ?_;rintro e w6 ⟨rfl,hd6⟩;have hx6:Ext W5 w6:=hd6.below _;clear hd6;have hx06:Ext W0 w6:=hE5.trans hx6;have hlt:=Nat.lt_of_lt_of_le hlw2 hE.size;have hcz6:w6.cell? ⟨w2,0,none⟩=some (.bool b):=(Below.cell hx06 (p:=⟨w2,0,none⟩) hlt).trans HCZ.out;have hfz6:w6.frozen? ⟨w2,0,none⟩=false:=(Below.frozen hx06 (p:=⟨w2,0,none⟩) hlt).trans HFZ.out;have hg2:w.heap.size≤w2:=by have:=HW2.out;omega
    gi_wp2_with fail
    refine ⟨fun k' h1 h2=>(Below.heap_setCell w6 ⟨w2,0,none⟩ _ k' (by show k'≠w2;omega)).trans (hx06.block k' h2),rfl,(hE0.trans hx06).setCell (p:=⟨w2,0,none⟩) hg2 _,World.cell?_setCell_same' _ _ _ (by rw [hcz6];rfl),?_⟩;unfold openB;rw [List.all_eq_false];exact ⟨k,List.mem_range.2 hk,by rw [←HT.out,HOT.out];simp⟩
 case done=>
  rintro D W hD ⟨hE,hall,hfz,b,hcz⟩ hK;have hlt2:w2<W.heap.size:=Nat.lt_of_lt_of_le hlw2 hE.size
  gi_wp2
  refine ⟨by simp,.inl ⟨_,_,rfl,run_takeDeferred ((Below.heap_setCell W ⟨w2,0,none⟩ _ D (by show D≠w2;omega)).trans hK),?_⟩⟩;have hne:w2≠D:=by omega
  refine ⟨_,results_bool (w2:=w2) (b:=true) rfl _ _ rfl ?_,zd ?_,?_⟩
  ·exact (World.cell?_of_block (World.putObj_heap_other hne)).trans (World.cell?_setCell_same' _ _ _ (by rw [hcz];rfl))
  ·unfold openB;symm;rw [List.all_eq_true];exact fun j hj=>hall j (List.mem_range.1 hj)
  ·have hg2:w.heap.size≤w2:=by have:=HW2.out;omega
   exact ((hE1.trans hE).setCell (p:=⟨w2,0,none⟩) hg2 _).trans (belowK_b (w:=w) (Nat.le_refl _) _ D _ _ (by have:=hE1.size;omega) ((Below.heap_setCell W ⟨w2,0,none⟩ _ D (by show D≠w2;omega)).trans hK) rfl rfl)
 case stop=>
  rintro D c W hD ⟨rfl,hE,hcz,hop⟩ hK
  gi_wp2
  refine ⟨by simp,.inl ⟨_,_,rfl,run_takeDeferred hK,?_⟩⟩;have hne:w2≠D:=by omega
  refine ⟨_,results_bool (w2:=w2) (b:=false) rfl _ _ rfl ?_,zd hop.symm,?_⟩
  ·exact (World.cell?_of_block (World.putObj_heap_other hne)).trans hcz
  ·exact Below.trans hE (belowK_b (w:=w) (Nat.le_refl _) _ D _ _ (by have:=hE1.size;omega) hK rfl rfl)
end Go.Proofs.YthbjngbhbbkkgaaGreat
namespace Go.Proofs.YthbjngbhbbkkgaaGreat
open Go.RowKit
def zJ (m:MZ) (ch:List Int):List (List Int):=ch.foldl (zbe m) (ps0 m)
def cand (m:MZ) (ch:List Int):List Int:=zb3 m (zJ m ch) ch
def zae (m:MZ) (ch:List Int):Bool:=cmpB m (zJ m ch)
noncomputable def zaF (m:MZ) (ch:List Int):Bool:=openB m (zJ m ch) ch
theorem psOf_nil (m:MZ):zJ m []=ps0 m:=rfl
theorem zcA (m:MZ) (ch:List Int) (n:Int):zJ m (ch++[n])=zbe m (zJ m ch) n:=by simp [zJ,List.foldl_append]
section
variable {m:MZ} {ps:List (List Int)} {us us':List Int}
theorem dec_congr (h:∀x,x∈us↔x∈us') (n:Int):decide (n∈us)=decide (n∈us'):=by rw [decide_eq_decide];exact h n
theorem candL_congr (h:∀x,x∈us↔x∈us'):zb3 m ps us=zb3 m ps us':=by
 unfold zb3;simp only [zL,dec_congr h]
 have:(fun n=>zL m us (ps.length - 1) (ps.getD (ps.length - 1) []).dropLast (m.tasks.getD (ps.length - 1) ([],[])).1 n)=(fun n=>zL m us' (ps.length - 1) (ps.getD (ps.length - 1) []).dropLast (m.tasks.getD (ps.length - 1) ([],[])).1 n):=by
  funext n;simp only [zL,dec_congr h]
 have h2:zL m us (ps.length - 1) (ps.getD (ps.length - 1) []).dropLast (m.tasks.getD (ps.length - 1) ([],[])).1=zL m us' (ps.length - 1) (ps.getD (ps.length - 1) []).dropLast (m.tasks.getD (ps.length - 1) ([],[])).1:=this;rw [h2]
theorem fromL_congr (h:∀x,x∈us↔x∈us') (t:Nat):zaU m ps us t=zaU m ps us' t:=by
 unfold zaU;simp only [dec_congr h]
theorem reachL_congr (h:∀x,x∈us↔x∈us') (t:Nat) (f:List Int):zaA m t f us=zaA m t f us':=by
 unfold zaA;apply List.filter_congr;intro x _;rw [decide_eq_decide];exact ⟨fun hr=>hr.congr (fun _=>Iff.rfl) h,fun hr=>hr.congr (fun _=>Iff.rfl) (fun x=>(h x).symm)⟩
theorem openB_congr (h:∀x,x∈us↔x∈us'):openB m ps us=openB m ps us':=by
 unfold openB openT;simp only [fromL_congr h,reachL_congr h]
end
inductive zu (m:MZ):List Int→Prop
 | nil:zu m []
 | snoc {ch:List Int} {n:Int}:zu m ch→n∈cand m ch→zu m (ch++[n])
theorem zbo {m:MZ} {ch:List Int} {n:Int} (h:n∈cand m ch):zae m ch=false:=by
 unfold cand zb3 at h;unfold zae
 cases hc:cmpB m (zJ m ch)
 ·rfl
 ·rw [if_pos hc] at h;cases h
theorem zbz {m:MZ} {ps:List (List Int)} (h:cmpB m ps=false):0<m.tasks.length:=by
 rcases Nat.eq_zero_or_pos m.tasks.length with h0 | h0
 ·unfold cmpB at h;rw [decide_eq_true h0] at h;cases h
 ·exact h0
structure PsOk (m:MZ) (ch:List Int) (ps:List (List Int)):Prop where
 pl:ps.length≤m.tasks.length
 pn:0<m.tasks.length→0<ps.length
 fl:ps.flatten=ch
theorem getD_mem {α:Type} {l:List (List α)} {k:Nat} (h:k<l.length):l.getD k []∈l:=by
 rw [List.getD_eq_getElem?_getD,List.getElem?_eq_getElem h];exact List.getElem_mem h
theorem addN_eq {ps:List (List Int)} (hp:0<ps.length) (n:Int):∃qs p,ps=qs++[p]∧zbx ps n=qs++[p++[n]]:=by
 rcases List.eq_nil_or_concat ps with rfl | ⟨qs,p,rfl⟩
 ·simp at hp
 ·refine ⟨qs,p,by simp,?_⟩;unfold zbx;rw [List.concat_eq_append,List.length_append,List.length_singleton,Nat.add_sub_cancel,List.set_append_right _ _ (Nat.le_refl _)];simp
theorem zci {ps:List (List Int)} {n:Int}:(zbx ps n).length=ps.length:=by unfold zbx;simp
theorem addN_flat {ps:List (List Int)} (hp:0<ps.length) (n:Int):(zbx ps n).flatten=ps.flatten++[n]:=by
 obtain ⟨qs,p,rfl,h⟩:=addN_eq hp n;rw [h];simp
theorem withPs_flat {m:MZ} {ps:List (List Int)} (hp:0<ps.length) (n:Int):(zbe m ps n).flatten=ps.flatten++[n]:=by
 unfold zbe
 split
 ·rw [List.flatten_append,addN_flat hp];simp
 ·exact addN_flat hp n
theorem PsOk.step {m:MZ} {ch:List Int} {ps:List (List Int)} (h:PsOk m ch ps) (ht:0<m.tasks.length) (n:Int):PsOk m (ch++[n]) (zbe m ps n):=by
 have hp:=h.pn ht;refine ⟨?_,fun _=>?_,?_⟩
 ·unfold zbe
  split
  ·rename_i h1
   simp only [List.length_append,zci,List.length_singleton];omega
  ·rw [zci];exact h.pl
 ·unfold zbe
  split <;> simp [zci] <;> omega
 ·rw [withPs_flat hp,h.fl]
theorem psOk_nil (m:MZ):PsOk m [] (zJ m []):=by
 rw [psOf_nil];unfold ps0
 split
 ·rename_i h;exact ⟨by simp,fun h'=>by omega,rfl⟩
 ·rename_i h;exact ⟨by simp;omega,fun _=>by simp,rfl⟩
theorem zu.psOk {m:MZ} {ch:List Int} (h:zu m ch):PsOk m ch (zJ m ch):=by
 induction h with
 | nil=>exact psOk_nil m
 | snoc h hn ih=>rw [zcA];exact ih.step (zbz (zbo hn)) _
theorem mem_flat_last {ps:List (List Int)} {k:Nat} {x:Int} (hx:(ps.getD k []).getLast?=some x):x∈ps.flatten:=by
 have h1:x∈ps.getD k []:=List.mem_of_getLast? hx;by_cases hk:k<ps.length
 ·exact List.mem_flatten.2 ⟨_,getD_mem hk,h1⟩
 ·rw [List.getD_eq_getElem?_getD,List.getElem?_eq_none (by omega)] at h1;cases h1
theorem cand_range {m:MZ} (g:zx m) {ch:List Int} (hr:∀x∈ch,0≤x∧x<m.n) (hf:(zJ m ch).flatten=ch) {n:Int} (h:n∈cand m ch):0≤n∧n<m.n∧n∉ch:=by
 have ht:=zbz (zbo h);have hpn:=zbo h;unfold zae at hpn;unfold cand zb3 at h;rw [if_neg (by rw [hpn];simp)] at h
 split at h
 ·obtain ⟨h1,h2⟩:=List.mem_filter.1 h;have h3:=mem_sortL.1 (zdb h1);simp only [Bool.and_eq_true,Bool.not_eq_true',decide_eq_false_iff_not] at h2;by_cases hk:(zJ m ch).length - 1<m.tasks.length
  ·rw [List.getD_eq_getElem?_getD,List.getElem?_eq_getElem hk] at h3;have:=g.tn _ (List.getElem_mem hk) n (.inl h3);exact ⟨this.1,this.2,h2.2⟩
  ·rw [List.getD_eq_getElem?_getD,List.getElem?_eq_none (by omega)] at h3;cases h3
 ·rename_i x hx
  obtain ⟨h1,h2⟩:=List.mem_filter.1 h;have hx1:x∈ch:=by rw [←hf];exact mem_flat_last hx
  have hx2:=hr x hx1;have h3:=zab g.dim hx2.1 hx2.2 h1;unfold zL at h2;simp only [Bool.and_eq_true,Bool.not_eq_true',decide_eq_false_iff_not] at h2;exact ⟨h3.1,h3.2,h2.1.1.2⟩
theorem zu.range {m:MZ} (g:zx m) {ch:List Int} (h:zu m ch):(∀x∈ch,0≤x∧x<m.n)∧ch.Nodup:=by
 induction h with
 | nil=>exact ⟨fun x hx=>absurd hx List.not_mem_nil,List.nodup_nil⟩
 | snoc h hn ih=>
  have hc:=cand_range g ih.1 h.psOk.fl hn;refine ⟨fun x hx=>?_,?_⟩
  ·rcases List.mem_append.1 hx with hx | hx
   ·exact ih.1 x hx
   ·rw [List.mem_singleton] at hx;subst hx;exact ⟨hc.1,hc.2.1⟩
  ·rw [List.nodup_append];refine ⟨ih.2,by simp,fun a ha b hb=>?_⟩;rw [List.mem_singleton] at hb;subst hb;rintro rfl;exact hc.2.2 ha
theorem zu.len {m:MZ} (g:zx m) {ch:List Int} (h:zu m ch):ch.length≤m.n.toNat:=zaK (h.range g).2 m.n (h.range g).1
theorem flat_le {ps:List (List Int)} {p:List Int} (h:p∈ps):p.length≤ps.flatten.length:=by
 induction ps with
 | nil=>cases h
 | cons q qs ih=>
  rw [List.flatten_cons,List.length_append];rcases List.mem_cons.1 h with rfl | h
  ·omega
  ·have:=ih h;omega
theorem sok_of {m:MZ} (g:zx m) (hl:Lens m) {ch:List Int} {ps:List (List Int)} (h:PsOk m ch ps) (hr:∀x∈ch,0≤x∧x<m.n) (hc:ch.length≤1000):SOk m ch ps:=
 ⟨g,hl,h.pl,h.pn,fun p hp=>by have:=flat_le hp;rw [h.fl] at this;omega,fun p hp x hx=>hr x (by rw [←h.fl];exact List.mem_flatten.2 ⟨p,hp,hx⟩),hc⟩
theorem zu.len300 {m:MZ} (g:zx m) {ch:List Int} (h:zu m ch):ch.length≤300:=by
 have h1:=h.len g;have h2:=g.dim.n1;have h3:m.n=m.w*m.h*m.l:=rfl;omega
theorem zu.sok {m:MZ} (g:zx m) (hl:Lens m) {ch:List Int} (h:zu m ch):SOk m ch (zJ m ch):=
 sok_of g hl h.psOk (h.range g).1 (by have:=h.len300 g;omega)
theorem zu.sok1 {m:MZ} (g:zx m) (hl:Lens m) {ch:List Int} (h:zu m ch) {n:Int} (hn:n∈cand m ch):SOk m (ch++[n]) (zbx (zJ m ch) n):=by
 have h1:=h.psOk;have ht:=zbz (zbo hn);have h2:=zu.snoc h hn;refine sok_of g hl ⟨by rw [zci];exact h1.pl,fun h=>by rw [zci];exact h1.pn h,by rw [addN_flat (h1.pn ht),h1.fl]⟩ (h2.range g).1 (by have:=h2.len300 g;omega)
theorem zbR {m:MZ} (hl:Lens m) (ch:List Int):(cand m ch).length≤400000000000:=by
 unfold cand zb3
 split
 ·simp
 ·split
  ·refine Nat.le_trans (List.length_filter_le _ _) (Nat.le_trans (compact_len _) ?_);unfold zaW;rw [List.length_mergeSort];by_cases hk:(zJ m ch).length - 1<m.tasks.length
   ·rw [List.getD_eq_getElem?_getD,List.getElem?_eq_getElem hk];exact (hl.tl _ (List.getElem_mem hk)).1
   ·rw [List.getD_eq_getElem?_getD,List.getElem?_eq_none (by omega)];simp
  ·refine Nat.le_trans (List.length_filter_le _ _) ?_;have:=za5 m;exact Nat.le_trans (this _) (by omega)
noncomputable def aft (m:MZ) (ch:List Int) (last:Int):Option Int:=(cand m ch).find? fun n=>decide (last<n) && zaF m (ch++[n])
noncomputable def backN (m:MZ) (ch:List Int):Nat→Option (List Int)
 | 0=>none
 | k+1=>match aft m (ch.take k) (ch.getD k 0) with
  | some n=>some (ch.take k++[n])
  | none=>backN m ch k
noncomputable def stepC (m:MZ) (ch:List Int):Option (List Int):=
 match aft m ch (-1) with
 | some n=>some (ch++[n])
 | none=>backN m ch ch.length
structure RS where
 ch:List Int
 done:Bool
 steps:Int
noncomputable def RS.one (m:MZ) (s:RS):RS:=match stepC m s.ch with
 | some c=>⟨c,zae m c,s.steps+1⟩
 | none=>⟨[],true,s.steps+1⟩
noncomputable def RS.run (m:MZ):Nat→RS→RS
 | 0,s=>s
 | n+1,s=>if s.done=true then s else RS.run m n (s.one m)
theorem RS.run_done {m:MZ} {s:RS} (h:s.done=true):∀n,RS.run m n s=s
 | 0=>rfl
 | n+1=>by simp [RS.run,h]
theorem zu.take {m:MZ} {ch:List Int} (h:zu m ch) (k:Nat):zu m (ch.take k):=by
 induction h with
 | nil=>simpa using zu.nil
 | @snoc ch n h hn ih=>
  rcases Nat.lt_or_ge ch.length k with hk | hk
  ·rw [List.take_of_length_le (by simp;omega)];exact .snoc h hn
  ·rw [List.take_append_of_le_length hk];exact ih
theorem zu.at {m:MZ} {ch:List Int} (h:zu m ch) {k:Nat} (hk:k<ch.length):ch[k]∈cand m (ch.take k):=by
 induction h with
 | nil=>simp at hk
 | @snoc ch n h hn ih=>
  rcases Nat.lt_or_ge k ch.length with h1 | h1
  ·rw [List.getElem_append_left h1,List.take_append_of_le_length (by omega)];exact ih h1
  ·have h2:k=ch.length:=by simp at hk;omega
   subst h2;rw [List.getElem_append_right (Nat.le_refl _),List.take_append_of_le_length (Nat.le_refl _),List.take_length];simpa using hn
theorem aft_some {m:MZ} {ch:List Int} {last n:Int} (h:aft m ch last=some n):n∈cand m ch∧last<n∧zaF m (ch++[n])=true:=by
 unfold aft at h;have h1:=List.find?_some h;simp only [Bool.and_eq_true,decide_eq_true_eq] at h1;exact ⟨List.mem_of_find?_eq_some h,h1.1,h1.2⟩
theorem backN_some {m:MZ} {ch:List Int} (h:zu m ch):∀{k:Nat} {c:List Int},backN m ch k=some c→zu m c∧0<c.length∧zaF m c=true
 | 0,c,hc=>by cases hc
 | k+1,c,hc=>by
  unfold backN at hc
  split at hc
  ·rename_i n hn
   injection hc with hc;subst hc;obtain ⟨h1,_,h2⟩:=aft_some hn;exact ⟨.snoc (h.take k) h1,by simp,h2⟩
  ·exact backN_some h hc
theorem stepC_some {m:MZ} {ch c:List Int} (h:zu m ch) (hc:stepC m ch=some c):zu m c∧0<c.length∧zaF m c=true:=by
 unfold stepC at hc
 split at hc
 ·rename_i n hn
  injection hc with hc;subst hc;obtain ⟨h1,_,h2⟩:=aft_some hn;exact ⟨.snoc h h1,by simp,h2⟩
 ·exact backN_some h hc
def zbu (m:MZ) (t:Nat) (us acc:List Int) (z:Int):List Int:=if (ze m t z && !decide (z∈us) && !decide (z∈acc))=true then acc++[z] else acc
def grow (m:MZ) (t:Nat) (us S:List Int):List Int:=(S.flatMap (zi m)).foldl (zbu m t us) S
def growN (m:MZ) (t:Nat) (us:List Int):Nat→List Int→List Int
 | 0,S=>S
 | k+1,S=>growN m t us k (grow m t us S)
def start (m:MZ) (f:List Int):List Int:=f.foldl (fun acc x=>if (decide (0≤x) && decide (x<m.n) && !decide (x∈acc))=true then acc++[x] else acc) []
def reachX (m:MZ) (t:Nat) (f us:List Int):List Int:=growN m t us (m.n.toNat+1) (start m f)
section
variable {m:MZ} {t:Nat} {us f:List Int}
structure GK (m:MZ) (t:Nat) (f us S:List Int):Prop where
 nd:S.Nodup
 rg:∀x∈S,0≤x∧x<m.n
 rp:∀x∈S,RP m t f us x
theorem addIf_sub (acc:List Int) (z:Int):∀x∈acc,x∈zbu m t us acc z:=by
 intro x hx;unfold zbu
 split
 ·exact List.mem_append_left _ hx
 ·exact hx
theorem addIf_len (acc:List Int) (z:Int):acc.length≤(zbu m t us acc z).length:=by
 unfold zbu
 split <;> simp
theorem addIf_gk {acc:List Int} {z:Int} (h:GK m t f us acc) (h0:0≤z∧z<m.n) (h1:ze m t z=true→z∉us→RP m t f us z):GK m t f us (zbu m t us acc z):=by
 unfold zbu
 split
 ·rename_i hc
  simp only [Bool.and_eq_true,Bool.not_eq_true',decide_eq_false_iff_not] at hc;refine ⟨?_,fun x hx=>?_,fun x hx=>?_⟩
  ·rw [List.nodup_append];refine ⟨h.nd,by simp,fun a ha b hb=>?_⟩;rw [List.mem_singleton] at hb;rintro rfl;subst hb;exact hc.2 ha
  ·rcases List.mem_append.1 hx with hx | hx
   ·exact h.rg x hx
   ·rw [List.mem_singleton] at hx;subst hx;exact h0
  ·rcases List.mem_append.1 hx with hx | hx
   ·exact h.rp x hx
   ·rw [List.mem_singleton] at hx;subst hx;exact h1 hc.1.1 hc.1.2
 ·exact h
theorem fold_sub:∀(l acc:List Int),∀x∈acc,x∈l.foldl (zbu m t us) acc
 | [],acc,x,hx=>hx
 | z :: l,acc,x,hx=>fold_sub l (zbu m t us acc z) x (addIf_sub acc z x hx)
theorem fold_len:∀(l acc:List Int),acc.length≤(l.foldl (zbu m t us) acc).length
 | [],acc=>Nat.le_refl _
 | z :: l,acc=>Nat.le_trans (addIf_len acc z) (fold_len l _)
theorem fold_gk:∀(l acc:List Int),GK m t f us acc→(∀z∈l,(0≤z∧z<m.n)∧(ze m t z=true→z∉us→RP m t f us z))→GK m t f us (l.foldl (zbu m t us) acc)
 | [],acc,h,_=>h
 | z :: l,acc,h,hl=>fold_gk l _ (addIf_gk h (hl z (List.mem_cons_self ..)).1 (hl z (List.mem_cons_self ..)).2) (fun x hx=>hl x (List.mem_cons_of_mem _ hx))
theorem grow_gk (d:Dim m) {S:List Int} (h:GK m t f us S):GK m t f us (grow m t us S):=by
 refine fold_gk _ _ h fun z hz=>?_
 obtain ⟨y,hy,hzy⟩:=List.mem_flatMap.1 hz;have hyr:=h.rg y hy;exact ⟨zab d hyr.1 hyr.2 hzy,fun h1 h2=>(h.rp y hy).step hzy h1 h2⟩
def Closed (m:MZ) (t:Nat) (us S:List Int):Prop:=∀y∈S,∀z∈zi m y,ze m t z=true→z∉us→z∈S
theorem addIf_eq {acc:List Int} {z:Int} (h:ze m t z=true→z∉us→z∈acc):zbu m t us acc z=acc:=by
 unfold zbu;rw [if_neg];intro hc;simp only [Bool.and_eq_true,Bool.not_eq_true',decide_eq_false_iff_not] at hc;exact hc.2 (h hc.1.1 hc.1.2)
theorem fold_eq:∀(l acc:List Int),(∀z∈l,ze m t z=true→z∉us→z∈acc)→l.foldl (zbu m t us) acc=acc
 | [],acc,_=>rfl
 | z :: l,acc,h=>by
  rw [List.foldl_cons,addIf_eq (h z (List.mem_cons_self ..))];exact fold_eq l acc (fun x hx=>h x (List.mem_cons_of_mem _ hx))
theorem grow_closed {S:List Int} (h:Closed m t us S):grow m t us S=S:=
 fold_eq _ _ fun z hz=>by
  obtain ⟨y,hy,hzy⟩:=List.mem_flatMap.1 hz;exact h y hy z hzy
theorem fold_more:∀(l acc:List Int),(∃z∈l,ze m t z=true∧z∉us∧z∉acc)→acc.length<(l.foldl (zbu m t us) acc).length
 | z :: l,acc,⟨x,hx,h1,h2,h3⟩=>by
  rw [List.foldl_cons];rcases List.mem_cons.1 hx with rfl | hx
  ·have:(zbu m t us acc x).length=acc.length+1:=by
    unfold zbu;rw [if_pos (by simp [h1,h2,h3])];simp
   have:=fold_len (m:=m) (t:=t) (us:=us) l (zbu m t us acc x);omega
  ·by_cases hxz:x∈zbu m t us acc z
   ·have h4:acc.length<(zbu m t us acc z).length:=by
     unfold zbu at hxz⊢
     split
     ·simp
     ·rename_i hc;rw [if_neg hc] at hxz;exact absurd hxz h3
    exact Nat.lt_of_lt_of_le h4 (fold_len l _)
   ·exact Nat.lt_of_le_of_lt (addIf_len acc z) (fold_more l _ ⟨x,hx,h1,h2,hxz⟩)
theorem growN_gk (d:Dim m):∀(k:Nat) {S:List Int},GK m t f us S→GK m t f us (growN m t us k S)
 | 0,S,h=>h
 | k+1,S,h=>growN_gk d k (grow_gk d h)
theorem growN_sub:∀(k:Nat) (S:List Int),∀x∈S,x∈growN m t us k S
 | 0,S,x,hx=>hx
 | k+1,S,x,hx=>growN_sub k _ x (fold_sub _ _ x hx)
theorem growN_closed {S:List Int} (h:Closed m t us S):∀k,growN m t us k S=S
 | 0=>rfl
 | k+1=>by unfold growN;rw [grow_closed h];exact growN_closed h k
theorem growN_or:∀(k:Nat) (S:List Int),Closed m t us (growN m t us k S)∨S.length+k≤(growN m t us k S).length
 | 0,S=>.inr (Nat.le_refl _)
 | k+1,S=>by
  by_cases h:Closed m t us S
  ·left
   rw [growN_closed h];exact h
  ·have h1:S.length<(grow m t us S).length:=by
    refine fold_more _ _ ?_;unfold Closed at h;simp only [Classical.not_forall] at h;obtain ⟨y,hy,z,hz,h1,h2,h3⟩:=h;exact ⟨z,List.mem_flatMap.2 ⟨y,hy,hz⟩,h1,h2,h3⟩
   rcases growN_or k (grow m t us S) with h2 | h2
   ·exact .inl h2
   ·right
    unfold growN;omega
theorem start_gk (m:MZ) (t:Nat) (us f:List Int):GK m t f us (start m f)∧∀x∈f,0≤x→x<m.n→x∈start m f:=by
 have key:∀(l acc:List Int),(∀x∈l,x∈f)→GK m t f us acc→GK m t f us (l.foldl (fun acc x=>if (decide (0≤x) && decide (x<m.n) && !decide (x∈acc))=true then acc++[x] else acc) acc)∧
   (∀x∈acc,x∈l.foldl (fun acc x=>if (decide (0≤x) && decide (x<m.n) && !decide (x∈acc))=true then acc++[x] else acc) acc)∧∀x∈l,0≤x→x<m.n→x∈l.foldl (fun acc x=>if (decide (0≤x) && decide (x<m.n) && !decide (x∈acc))=true then acc++[x] else acc) acc:=by
  intro l
  induction l with
  | nil=>intro acc _ h;exact ⟨h,fun x hx=>hx,fun x hx=>by cases hx⟩
  | cons z l ih=>
   intro acc hl h;rw [List.foldl_cons];by_cases hc:(decide (0≤z) && decide (z<m.n) && !decide (z∈acc))=true
   ·rw [if_pos hc];simp only [Bool.and_eq_true,Bool.not_eq_true',decide_eq_false_iff_not,decide_eq_true_eq] at hc
    obtain ⟨h1,h2,h3⟩:=ih (acc++[z]) (fun x hx=>hl x (List.mem_cons_of_mem _ hx)) ⟨by
     rw [List.nodup_append];refine ⟨h.nd,by simp,fun a ha b hb=>?_⟩;rw [List.mem_singleton] at hb;rintro rfl;subst hb;exact hc.2 ha,fun x hx=>by
     rcases List.mem_append.1 hx with hx | hx
     ·exact h.rg x hx
     ·rw [List.mem_singleton] at hx;subst hx;exact hc.1,fun x hx=>by
     rcases List.mem_append.1 hx with hx | hx
     ·exact h.rp x hx
     ·rw [List.mem_singleton] at hx;subst hx;exact RP.base (hl x (List.mem_cons_self ..)) hc.1.1 hc.1.2⟩
    refine ⟨h1,fun x hx=>h2 x (List.mem_append_left _ hx),fun x hx a b=>?_⟩;rcases List.mem_cons.1 hx with rfl | hx
    ·exact h2 x (by simp)
    ·exact h3 x hx a b
   ·rw [if_neg hc];obtain ⟨h1,h2,h3⟩:=ih acc (fun x hx=>hl x (List.mem_cons_of_mem _ hx)) h;refine ⟨h1,h2,fun x hx a b=>?_⟩;rcases List.mem_cons.1 hx with rfl | hx
    ·refine h2 x ?_;simp only [Bool.and_eq_true,Bool.not_eq_true',decide_eq_false_iff_not,decide_eq_true_eq] at hc;by_cases hm:x∈acc
     ·exact hm
     ·exact absurd ⟨⟨a,b⟩,hm⟩ hc
    ·exact h3 x hx a b
 have h:=key f [] (fun _ h=>h) ⟨List.nodup_nil,fun x hx=>absurd hx List.not_mem_nil,fun x hx=>absurd hx List.not_mem_nil⟩;exact ⟨h.1,h.2.2⟩
theorem mem_reachX (d:Dim m) (x:Int):x∈reachX m t f us↔RP m t f us x:=by
 have hs:=start_gk m t us f;have hg:=growN_gk (t:=t) (f:=f) (us:=us) d (m.n.toNat+1) hs.1
 have hc:Closed m t us (reachX m t f us):=by
  rcases growN_or (m:=m) (t:=t) (us:=us) (m.n.toNat+1) (start m f) with h | h
  ·exact h
  ·have:=zaK hg.nd m.n hg.rg;omega
 constructor
 ·exact fun h=>hg.rp x h
 ·intro h;exact h (fun x=>x∈reachX m t f us) (fun y hy h0 h1=>growN_sub _ _ y (hs.2 y hy h0 h1)) (fun y z hy hz h1 h2=>hc y hy z hz h1 h2)
end
theorem reachL_x {m:MZ} (d:Dim m) (t:Nat) (f us:List Int):zaA m t f us=((List.range m.n.toNat).map Int.ofNat).filter fun x=>decide (x∈reachX m t f us):=by
 rw [reachL_of (fun x=>mem_reachX d x)]
def openTX (m:MZ) (ps:List (List Int)) (us:List Int) (t:Nat):Bool:=((m.tasks.getD t ([],[])).2).any fun x=>decide (x∈reachX m t (zaU m ps us t) us)
def openX (m:MZ) (ch:List Int):Bool:=(List.range (tasksN m (zJ m ch))).all fun k=>openTX m (zJ m ch) ch ((zJ m ch).length - 1+k)
theorem openC_x {m:MZ} (d:Dim m) (ch:List Int):zaF m ch=openX m ch:=by
 unfold zaF openX openB;congr 1;funext k;unfold openT openTX;congr 1;funext x;rw [decide_eq_decide,zaP d,mem_reachX d]
def aftX (m:MZ) (ch:List Int) (last:Int):Option Int:=(cand m ch).find? fun n=>decide (last<n) && openX m (ch++[n])
theorem aft_x {m:MZ} (d:Dim m) (ch:List Int) (last:Int):aft m ch last=aftX m ch last:=by
 unfold aft aftX;congr 1;funext n;rw [openC_x d]
def backX (m:MZ) (ch:List Int):Nat→Option (List Int)
 | 0=>none
 | k+1=>match aftX m (ch.take k) (ch.getD k 0) with
  | some n=>some (ch.take k++[n])
  | none=>backX m ch k
theorem back_x {m:MZ} (d:Dim m) (ch:List Int):∀k,backN m ch k=backX m ch k
 | 0=>rfl
 | k+1=>by
  unfold backN backX;rw [aft_x d,back_x d ch k]
  all_goals rfl
def stepX (m:MZ) (ch:List Int):Option (List Int):=
 match aftX m ch (-1) with
 | some n=>some (ch++[n])
 | none=>backX m ch ch.length
theorem step_x {m:MZ} (d:Dim m) (ch:List Int):stepC m ch=stepX m ch:=by
 unfold stepC stepX;rw [aft_x d,back_x d]
 all_goals rfl
def RS.oneX (m:MZ) (s:RS):RS:=match stepX m s.ch with
 | some c=>⟨c,zae m c,s.steps+1⟩
 | none=>⟨[],true,s.steps+1⟩
def RS.runX (m:MZ):Nat→RS→RS
 | 0,s=>s
 | n+1,s=>if s.done=true then s else RS.runX m n (s.oneX m)
theorem run_x {m:MZ} (d:Dim m):∀(n:Nat) (s:RS),RS.run m n s=RS.runX m n s
 | 0,s=>rfl
 | n+1,s=>by
  unfold RS.run RS.runX;rw [run_x d n];unfold RS.one RS.oneX;rw [step_x d]
  all_goals rfl
theorem emod_pred {a m:Int} (hm:0<m) (h:0<a % m):(a - 1) % m=a % m - 1:=by
 have h1:=Int.emod_add_mul_ediv a m;have h2:=Int.emod_lt_of_pos a hm;have h3:a - 1=(a % m - 1)+m*(a / m):=by omega
 rw [h3,Int.add_mul_emod_self_left,Int.emod_eq_of_lt (by omega) (by omega)]
theorem emod_succ {a m:Int} (hm:0<m) (h:a % m+1<m):(a+1) % m=a % m+1:=by
 have h1:=Int.emod_add_mul_ediv a m;have h2:=Int.emod_nonneg a (show m≠0 by omega);have h3:a+1=(a % m+1)+m*(a / m):=by omega
 rw [h3,Int.add_mul_emod_self_left,Int.emod_eq_of_lt (by omega) (by omega)]
theorem ediv_pred {a m:Int} (hm:0<m):(a - m) / m=a / m - 1:=by
 have h:a - m=a+(-1)*m:=by omega
 rw [h,Int.add_mul_ediv_right _ _ (by omega)];omega
theorem ediv_succ {a m:Int} (hm:0<m):(a+m) / m=a / m+1:=by
 have h:a+m=a+1*m:=by omega
 rw [h,Int.add_mul_ediv_right _ _ (by omega)]
theorem nextL_symm {m:MZ} (d:Dim m) {k x:Int} (h0:0≤k) (h1:k<m.n) (h:x∈zi m k):k∈zi m x:=by
 have hw:=d.w1;have hh:=d.h1;obtain ⟨l1,l2⟩:=d.layer;unfold MZ.n at h1;simp only [zi,mem_ap,Bool.and_eq_true,decide_eq_true_eq,List.not_mem_nil,false_or] at h⊢;rcases h with ((((( ⟨⟨a,b⟩,rfl⟩) | ⟨a,rfl⟩) | ⟨a,rfl⟩) | ⟨a,rfl⟩) | ⟨a,rfl⟩) | ⟨⟨a,b⟩,rfl⟩
 ·refine .inr ⟨⟨by omega,b⟩,by omega⟩
 ·refine .inl (.inr ⟨?_,by omega⟩);rw [ediv_pred (by omega),emod_pred (by omega) a];have:=Int.emod_lt_of_pos (k / m.w) (show 0<m.h by omega);omega
 ·refine .inl (.inl (.inr ⟨?_,by omega⟩));rw [emod_pred (by omega) a];have:=Int.emod_lt_of_pos k (show 0<m.w by omega);omega
 ·refine .inl (.inl (.inl (.inr ⟨?_,by omega⟩)));rw [emod_succ (by omega) a];have:=Int.emod_nonneg k (show m.w≠0 by omega);omega
 ·refine .inl (.inl (.inl (.inl (.inr ⟨?_,by omega⟩))));rw [ediv_succ (by omega),emod_succ (by omega) a];have:=Int.emod_nonneg (k / m.w) (show m.h≠0 by omega);omega
 ·refine .inl (.inl (.inl (.inl (.inl ⟨⟨by omega,?_⟩,by omega⟩))));rw [show k+m.w*m.h - m.w*m.h=k from by omega];exact b
theorem reachL_pw (m:MZ) (t:Nat) (f us:List Int):(zaA m t f us).Pairwise (·<·):=by
 unfold zaA;apply List.Pairwise.filter;rw [List.pairwise_map];exact List.Pairwise.imp (fun h=>by simpa using h) List.pairwise_lt_range
theorem zbk {m:MZ} (g:zx m):chk m=0:=by
 have d:=g.dim
 have hs:[m.w,m.h,m.l].any side=false:=by
  have h1:=d.w1;have h2:=d.w2;have h3:=d.h1;have h4:=d.h2;have h5:=d.l1;have h6:=d.l2;simp [side];omega
 unfold chk;rw [hs,if_neg (by simp),if_neg (by have:=d.n1;have:=g.tk;unfold MZ.n;omega),if_neg,if_neg]
 ·intro h;obtain ⟨t,ht,h1⟩:=List.any_eq_true.1 h;rw [Bool.or_eq_true] at h1;rcases h1 with h1 | h1
  ·obtain ⟨x,hx,h2⟩:=List.any_eq_true.1 h1;have:=g.tn t ht x (.inl hx);simp [zU] at h2;omega
  ·obtain ⟨x,hx,h2⟩:=List.any_eq_true.1 h1;have:=g.tn t ht x (.inr hx);simp [zU] at h2;omega
 ·intro h;rcases h with h | h | h
  ·exact h g.fl
  ·exact h d.up
  ·obtain ⟨f,hf,h2⟩:=List.any_eq_true.1 h;have:=g.fn f hf;simp at h2;exact h2 this
theorem mazeFree {W:World} {ok:Nat→Prop} {m:MZ} {vfr vup vts:Value} (h:zr W ok (.agg #[.int .i64 m.w,.int .i64 m.h,.int .i64 m.l,vfr,vup,vts]) m) (hfn:∀f∈m.free,(f.length:Int)=m.n) {t:Nat} (ht:t<m.free.length) {n:Int} (h0:0≤n) (h1:n<m.n):
  ∃b off c b' off' l c',vfr=.slice (some ⟨b,off,none⟩) m.free.length c∧W.cell? ⟨b,off+t,none⟩=some (.slice (some ⟨b',off',none⟩) l c')∧n<(l:Int)∧l≤c'∧m.free.length≤c∧W.cell? ⟨b',off'+n.toNat,none⟩=some (.bool (ze m t n)):=by
 obtain ⟨fr',up',ts',he,hfr,_,_⟩:=h;injection he with he;injection he with he;simp only [List.cons.injEq,and_true,true_and] at he;obtain ⟨rfl,rfl,rfl⟩:=he;obtain ⟨vsf,⟨Af,cf,rfl,hcf,hrf⟩,hef⟩:=hfr;obtain ⟨bf,off3,uf,rfl,_,hcf1,hbf⟩:=zP hrf hef ht ht;have hflen:=hfn _ (List.getElem_mem ht);obtain ⟨A4,c4,rfl,hc4,hr4⟩:=hbf;have hyl:n.toNat<(m.free[t]).length:=by omega
 obtain ⟨b4,off4,rfl,_,hcf2⟩:=zbn hr4 hyl hyl;have hfr:(m.free[t])[n.toNat]=ze m t n:=by simp [ze,ht,hyl]
 rw [hfr] at hcf2;exact ⟨bf,off3,cf,b4,off4,_,c4,rfl,hcf1,by omega,hc4,hcf,hcf2⟩
end Go.Proofs.YthbjngbhbbkkgaaGreat
