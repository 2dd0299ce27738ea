import Derived.Test.YtjomnbdjajjgfaaGreatDoorWIg
import Derived.Lib.ItoaLen
set_option linter.unusedVariables false
set_option linter.unusedSimpArgs false
set_option maxRecDepth 100000
set_option maxHeartbeats 16000000
namespace Go.Proofs.YtjomnbdjajjgfaaGreatDoor
variable {n:Int} {l:List Int} {bs xs:List Value} {B b c gb gs k size:Nat} {f ts u vc vp:Value}
section
open Go.RowKit Go.Shelf
attribute [local go_sem] Oper.semAt_some
attribute [local go_sem ↓] Go.wp_at_zero Go.wp_at_succ
noncomputable def CC (m:MZ) (ps:List (List Int)) (us:List Int) (t:Nat):Bool:=((m.tasks.getD t ([],[])).2).any fun x=>decide (x∈Cs m t (Ay m ps us t) us)
def tasksN (m:MZ) (ps:List (List Int)):Nat:=if cmpB m ps=true then 0 else m.tasks.length+1 - ps.length
noncomputable def openB (m:MZ) (ps:List (List Int)) (us:List Int):Bool:=(List.range (tasksN m ps)).all fun k=>CC m ps us (ps.length - 1+k)
theorem left_calls (g:Nat) (w:World):Calls Tryz.prog 205 #[.pointer (some ⟨g,0,none⟩)] w fun e w'=>e=.returned (.func (.func 227) #[] #[.pointer (some ⟨w.heap.size,0,none⟩)])/\w'=w.alloc (.cells #[.pointer (some ⟨g,0,none⟩)] 198):=by
 go_enter Tryz.func205,Tryz.ntmps205
 go_wp2;go_ret;exact ⟨rfl,rfl⟩
theorem left1_none {ok:Nat->Prop} {m:MZ} {ch us:List Int} {ps:List (List Int)} {g gu:Nat} {G:Nat->Int×Value->World->Prop} (w:World) (h:Bd w ok g m ch ps us f u ts vc vp gu) (so:SOk m ch ps) (K:w.cell? ⟨gb,0,none⟩=some (.pointer (some ⟨g,0,none⟩))) (hp:cmpB m ps=true) (n:Nat) (hn:1<=n):
  GivesB n Tryz.prog 227 #[.pointer (some ⟨gb,0,none⟩)] (fun x:Int×Value=>#[.int .i64 x.1,x.2]) G 0 w:=by
 intro l J Jx W hW U V I D Q h0;have O:=zh h;clear h;have M:=zh I;clear I D;have o:=zh h0;clear h0;have rb:=za.rule K;have SO:=zh so;clear so K Q;refine callsIn_of_wp Tryz.func227 rfl trivial ?_ rfl;simp only [Tryz.ntmps227,List.size_toArray,Fb,Fc,Nat.reduceAdd,Nat.reduceSub,Array.replicate_succ,Array.replicate_zero,List.push_toArray,List.append_toArray,List.nil_append,List.cons_append]
 gi_wp2_with (refine ⟨trivial,?_⟩;gi_at_call 151;refine (callsIn_wide.2 (Cc _ (O.out.ext hW) SO.out)).mono ?_;rintro e wA ⟨rfl,E⟩;rw [hp];have d:za W wA:=E.below _;have hA:za w wA:=hW.trans d)
 refine ER (results_none rfl _ _ _) rfl ?_;exact ⟨⟨_,rfl⟩,.inl (M.out _ _ _ o.out d)⟩
theorem left1_gives' {ok:Nat->Prop} {m:MZ} {ch us:List Int} {ps:List (List Int)} {g gu:Nat} (w:World) (h:Bd w ok g m ch ps us f u ts vc vp gu) (so:SOk m ch ps) (d:w.cell? ⟨gb,0,none⟩=some (.pointer (some ⟨g,0,none⟩))) (n:Nat) (o:1<=n):
  GivesB n Tryz.prog 227 #[.pointer (some ⟨gb,0,none⟩)] (fun x:Int×Value=>#[.int .i64 x.1,x.2]) (fun k x W=>x.1=((ps.length - 1+k:Nat):Int)/\zk W (fun _=>True) x.2 (Ay m ps us (ps.length - 1+k))) (tasksN m ps) w:=by
 unfold tasksN;by_cases hp:cmpB m ps=true
 ·rw [if_pos hp];exact left1_none w h so d hp n o
 ·rw [if_neg hp];exact left1_gives w h so d (by simpa using hp) n o
theorem AT.apart {w:World} {ok:Nat->Prop} {n:Nat} {A:Option Addr} {r:Loop} (h:AT w ok size A n xs) (G:0<size) (D:w.heap[b]?=some (.loop r)):AT w (fun k=>ok k/\k≠b) size A n xs:=by
 refine ⟨h.1,fun o=>?_⟩;obtain ⟨k,off,e,E,d⟩:=h.2 o;have h0:0<xs.length:=by rw [h.1];exact Nat.mul_pos o G
 refine ⟨k,off,e,⟨E,?_⟩,d⟩;rintro rfl;have h1:=d 0 _ (DW h0);unfold World.cell? at h1;simp only [D] at h1;cases h1
theorem zk.apart {w:World} {ok:Nat->Prop} {v:Value} {l:List Int} {b:Nat} {r:Loop} (h:zk w ok v l) (d:w.heap[b]?=some (.loop r)):zk w (fun k=>ok k/\k≠b) v l:=by
 obtain ⟨A,c,e,o,D⟩:=h;exact ⟨A,c,e,o,D.apart (by decide) d⟩
theorem AI:Tryz.prog.follows .mixedOrders=true:=by kernel_rfl
theorem results_bool {fn:Func} {p w2:Nat} {b:Bool} (h:fn.results=#[.cell p 4]) (tmps:Array Value) (w:World) (hp:tmps.getD p undef=.pointer (some ⟨w2,0,none⟩)) (o:w.cell? ⟨w2,0,none⟩=some (.bool b)):(results fn tmps).run Tryz.prog w=.ok (.bool b) w:=by
 have d:tmps[p]?.getD undef=.pointer (some ⟨w2,0,none⟩):=by simpa using hp
 simp [results,h,d,asAddr,go_sem,o]
theorem tasksN_lt {m:MZ} {ch:List Int} {ps:List (List Int)} {t:Nat} (so:SOk m ch ps) (d:k<tasksN m ps) (ht:t=ps.length - 1+k):t<m.tasks.length:=by
 unfold tasksN at d
 split at d
 ·omega
 ·rename_i h
  have h0:0<m.tasks.length:=by
   rcases EJ m.tasks.length with h0 | h0
   ·exfalso;apply h;unfold cmpB;rw [Eb h0];rfl
   ·exact h0
  have:=so.pn h0;have:=so.pl;omega
theorem fromL_len {m:MZ} {ch us:List Int} {ps:List (List Int)} {t:Nat} (so:SOk m ch ps) (ht:t<m.tasks.length):(Ay m ps us t).length<=20000000000000:=by
 unfold Ay
 split
 ·simp
 ·refine Ea (EB _ _) ?_;rw [DX,DW ht,ED];have:=(so.lens.tl _ (DZ ht)).1;omega
structure JO (W0:World) (g gu:Nat) (m:MZ) (frm us:List Int) (t:Nat) (x2 MV:Value) (e:Nat->Bool) (v:Nat->Value) (W:World):Prop where
 ext:za W0 W
 v0:e 0=true->v 0=.pointer (some ⟨g,0,none⟩)
 v1:e 1=true->v 1=.pointer (some ⟨g,0,none⟩)
 v2:e 2=true->v 2=.pointer (some ⟨g,0,none⟩)
 v3:e 3=true->v 3=MV
 v4:e 4=true->v 4=.int .i64 (t:Int)
 v5:e 5=true->v 5=x2
 v6:e 6=true->v 6=.pointer (some ⟨g,0,none⟩)
 v7:e 7=true->v 7=.pointer (some ⟨g,0,none⟩)
 v8:e 8=true->v 8=.pointer (some ⟨g,8,none⟩)
 v9:e 9=true->v 9=.map (some gu)
 call:e 10=true->∃gs s,v 10=.map (some gs)/\W0.heap.size<=gs/\zF W gs s/\∀x,x∈s↔RP m t frm us x
 al:e 11=true->∃g5,v 11=.pointer (some ⟨g5,0,none⟩)/\W0.heap.size<=g5/\(e 12=false->zl W g5 205 #[.map none])/\(e 12=true->W.cell? ⟨g5,0,none⟩=some (v 10))
 d12:e 12=true->e 10=true/\e 11=true
section
variable {W0 W W':World} {g gu:Nat} {m:MZ} {frm us:List Int} {t:Nat} {x2 MV:Value} {e:Nat->Bool} {v:Nat->Value}
theorem JO.n12 (h:JO W0 g gu m frm us t x2 MV e v W) (d:e 10=false):e 12=false:=notT (fun a=>(h.d12 a).1) d
theorem JO.n12' (h:JO W0 g gu m frm us t x2 MV e v W) (d:e 11=false):e 12=false:=notT (fun a=>(h.d12 a).2) d
theorem JO.init (he:∀j∈[0,1,2,3,4,5,6,7,8,9,10,11,12],e j=false):JO W0 g gu m frm us t x2 MV e v { W0 with drawn:=W0.drawn+1 }:=
 ⟨CZ,fun a=>ff (he 0 (by simp)) a,fun a=>ff (he 1 (by simp)) a,fun a=>ff (he 2 (by simp)) a,fun a=>ff (he 3 (by simp)) a,fun a=>ff (he 4 (by simp)) a,fun a=>ff (he 5 (by simp)) a,fun a=>ff (he 6 (by simp)) a,fun a=>ff (he 7 (by simp)) a,fun a=>ff (he 8 (by simp)) a,fun a=>ff (he 9 (by simp)) a,fun a=>ff (he 10 (by simp)) a,fun a=>ff (he 11 (by simp)) a,fun a=>ff (he 12 (by simp)) a⟩
theorem JO.s0 (h:JO W0 g gu m frm us t x2 MV e v W):JO W0 g gu m frm us t x2 MV (Aw e 0 true) (Aw v 0 (.pointer (some ⟨g,0,none⟩))) W:=
 ⟨h.ext,fun _=>rfl,h.v1,h.v2,h.v3,h.v4,h.v5,h.v6,h.v7,h.v8,h.v9,h.call,h.al,h.d12⟩
theorem JO.s1 (h:JO W0 g gu m frm us t x2 MV e v W):JO W0 g gu m frm us t x2 MV (Aw e 1 true) (Aw v 1 (.pointer (some ⟨g,0,none⟩))) W:=
 ⟨h.ext,h.v0,fun _=>rfl,h.v2,h.v3,h.v4,h.v5,h.v6,h.v7,h.v8,h.v9,h.call,h.al,h.d12⟩
theorem JO.s2 (h:JO W0 g gu m frm us t x2 MV e v W):JO W0 g gu m frm us t x2 MV (Aw e 2 true) (Aw v 2 (.pointer (some ⟨g,0,none⟩))) W:=
 ⟨h.ext,h.v0,h.v1,fun _=>rfl,h.v3,h.v4,h.v5,h.v6,h.v7,h.v8,h.v9,h.call,h.al,h.d12⟩
theorem JO.s3 (h:JO W0 g gu m frm us t x2 MV e v W):JO W0 g gu m frm us t x2 MV (Aw e 3 true) (Aw v 3 (MV)) W:=
 ⟨h.ext,h.v0,h.v1,h.v2,fun _=>rfl,h.v4,h.v5,h.v6,h.v7,h.v8,h.v9,h.call,h.al,h.d12⟩
theorem JO.s4 (h:JO W0 g gu m frm us t x2 MV e v W):JO W0 g gu m frm us t x2 MV (Aw e 4 true) (Aw v 4 (.int .i64 (t:Int))) W:=
 ⟨h.ext,h.v0,h.v1,h.v2,h.v3,fun _=>rfl,h.v5,h.v6,h.v7,h.v8,h.v9,h.call,h.al,h.d12⟩
theorem JO.s5 (h:JO W0 g gu m frm us t x2 MV e v W):JO W0 g gu m frm us t x2 MV (Aw e 5 true) (Aw v 5 (x2)) W:=
 ⟨h.ext,h.v0,h.v1,h.v2,h.v3,h.v4,fun _=>rfl,h.v6,h.v7,h.v8,h.v9,h.call,h.al,h.d12⟩
theorem JO.s6 (h:JO W0 g gu m frm us t x2 MV e v W):JO W0 g gu m frm us t x2 MV (Aw e 6 true) (Aw v 6 (.pointer (some ⟨g,0,none⟩))) W:=
 ⟨h.ext,h.v0,h.v1,h.v2,h.v3,h.v4,h.v5,fun _=>rfl,h.v7,h.v8,h.v9,h.call,h.al,h.d12⟩
theorem JO.s7 (h:JO W0 g gu m frm us t x2 MV e v W):JO W0 g gu m frm us t x2 MV (Aw e 7 true) (Aw v 7 (.pointer (some ⟨g,0,none⟩))) W:=
 ⟨h.ext,h.v0,h.v1,h.v2,h.v3,h.v4,h.v5,h.v6,fun _=>rfl,h.v8,h.v9,h.call,h.al,h.d12⟩
theorem JO.s8 (h:JO W0 g gu m frm us t x2 MV e v W):JO W0 g gu m frm us t x2 MV (Aw e 8 true) (Aw v 8 (.pointer (some ⟨g,8,none⟩))) W:=
 ⟨h.ext,h.v0,h.v1,h.v2,h.v3,h.v4,h.v5,h.v6,h.v7,fun _=>rfl,h.v9,h.call,h.al,h.d12⟩
theorem JO.s9 (h:JO W0 g gu m frm us t x2 MV e v W):JO W0 g gu m frm us t x2 MV (Aw e 9 true) (Aw v 9 (.map (some gu))) W:=
 ⟨h.ext,h.v0,h.v1,h.v2,h.v3,h.v4,h.v5,h.v6,h.v7,h.v8,fun _=>rfl,h.call,h.al,h.d12⟩
theorem JO.s10 {s:List Int} (h:JO W0 g gu m frm us t x2 MV e v W) (d:e 12=false) (D:za W W') (E:W0.heap.size<=gs) (G:zF W' gs s) (o:∀x,x∈s↔RP m t frm us x):
  JO W0 g gu m frm us t x2 MV (Aw e 10 true) (Aw v 10 (.map (some gs))) W':=
 ⟨h.ext.trans D,h.v0,h.v1,h.v2,h.v3,h.v4,h.v5,h.v6,h.v7,h.v8,h.v9,fun _=>⟨gs,s,rfl,E,G,o⟩,fun a=>(by
  obtain ⟨g5,h1,h2,h3,_⟩:=h.al a;exact ⟨g5,h1,h2,fun _=>(h3 d).ext D,fun b=>ff (b:=e 12) d b⟩),fun a=>ff (b:=e 12) d a⟩
theorem JO.s11 (h:JO W0 g gu m frm us t x2 MV e v W) (d:e 12=false):
  JO W0 g gu m frm us t x2 MV (Aw e 11 true) (Aw v 11 (.pointer (some ⟨W.heap.size,0,none⟩))) (W.alloc (.cells #[.map none] 205)):=
 ⟨h.ext.alloc _,h.v0,h.v1,h.v2,h.v3,h.v4,h.v5,h.v6,h.v7,h.v8,h.v9,fun a=>(by
  obtain ⟨gs,s,h1,h2,h3,o⟩:=h.call a;exact ⟨gs,s,h1,h2,h3.below ((za.refl _).alloc _),o⟩),fun _=>⟨_,rfl,h.ext.size,fun _=>zl.new _ _ _ rfl,fun b=>ff (b:=e 12) d b⟩,fun a=>ff (b:=e 12) d a⟩
theorem JO.s12 {g5:Nat} {x:Value} (h:JO W0 g gu m frm us t x2 MV e v W) (o:v 11=.pointer (some ⟨g5,0,none⟩)) (d:v 10=.map (some gs)) (J:W0.heap.size<=g5) (I:zl W g5 205 #[.map none]) (D:e 10=true) (E:e 11=true):
  JO W0 g gu m frm us t x2 MV (Aw e 12 true) (Aw v 12 x) (W.setCell ⟨g5,0,none⟩ (.map (some gs))):=
 ⟨h.ext.setCell (p:=⟨g5,0,none⟩) J _,h.v0,h.v1,h.v2,h.v3,h.v4,h.v5,h.v6,h.v7,h.v8,h.v9,fun a=>(by
  obtain ⟨gs',s,h1,h2,h3,K⟩:=h.call a;refine ⟨gs',s,h1,h2,?_,K⟩;have G:g5≠gs':=blk_set_ne I h3
  exact (Eh W ⟨g5,0,none⟩ _ gs' (fun e=>G e.symm)).trans h3),fun _=>⟨g5,o,J,fun a=>(by cases a),fun _=>by
   show _=some (v 10);rw [d];exact (I.set (k:=0) _).cell (k:=0) rfl⟩,fun _=>⟨D,E⟩⟩
end
theorem open_calls {ok:Nat->Prop} {m:MZ} {ch us:List Int} {ps:List (List Int)} {g gu:Nat} (w:World) (h:Bd w ok g m ch ps us f u ts vc vp gu) (so:SOk m ch ps):
  Calls Tryz.prog 150 #[.pointer (some ⟨g,0,none⟩)] w fun e w'=>e=.returned (.bool (openB m ps us))/\za w w':=by
 refine (callsIn_wide (n:=6)).1 ?_;have HS:=zh h;have SO:=zh so;obtain ⟨r0,r1,r2,r3,r4,r5,r6,r7,r8⟩:=h.rules;clear h;refine callsIn_of_wp_marks Tryz.func150 rfl trivial ?_ rfl;simp only [Tryz.ntmps150,List.size_toArray,Fb,Fc,Nat.reduceAdd,Nat.reduceSub,Array.replicate_succ,Array.replicate_zero,List.push_toArray,List.append_toArray,List.nil_append,List.cons_append]
 gi_wp2_with (refine ⟨trivial,?_⟩;gi_at_call 205;refine (callsIn_wide.2 (left_calls _ _)).mono ?_;rintro e w1 ⟨rfl,rfl⟩)
 obtain ⟨w1,a2⟩:=Fd (((w.alloc (.cells #[.pointer (some ⟨g,0,none⟩)] 198)).alloc (.cells #[.bool false] 4)).alloc (.cells #[.pointer (some ⟨g,0,none⟩)] 198));rw [<-a2];have a5:za w w1:=by rw [a2];exact (((za.refl w).alloc _).alloc _).alloc _
 have j5:w1.heap.size=w.heap.size+3:=by rw [a2];simp
 have g1:w1.cell? ⟨w.heap.size,0,none⟩=some (.pointer (some ⟨g,0,none⟩)):=by
  rw [a2];exact za.cell (zA w _ _ rfl) (((za.refl _).alloc _).alloc _)
 have c7:w1.cell? ⟨w.heap.size+1,0,none⟩=some (.bool false)/\w1.frozen? ⟨w.heap.size+1,0,none⟩=false:=by
  rw [a2];constructor
  ·exact za.cell (zA _ _ _ (by simp)) ((za.refl _).alloc _)
  ·rw [World.frozen?_alloc_past _ _ _ (by simp)];exact World.frozen?_alloc_at _ _ _ _ (by simp)
 have b8:w1.cell? ⟨w.heap.size+1+1,0,none⟩=some (.pointer (some ⟨g,0,none⟩)):=by
  rw [a2];exact zA _ _ _ (by simp)
 clear a2;have rb:=za.rule g1;obtain ⟨tn0,i2⟩:=Fd (ps.length - 1);obtain ⟨w2,b5⟩:=Fd (w.heap.size+1);rw [<-b5] at c7⊢;have V:w2<w1.heap.size:=by omega
 have e2:=zh b5;rw [<-b5] at b8;clear b5
 refine wpIn_loopB (gf:=227) (lb:=#[.pointer (some ⟨w2+1,0,none⟩)]) rfl (enters_of Tryz.func227 (by kernel_rfl) rfl) (left1_gives' w1 (HS.out.ext a5) SO.out b8 _ (by omega)) (za.refl w1) (fun _=>rfl)
  (fun k W=>za w1 W/\(∀j,j<k->CC m ps us (ps.length - 1+j)=true)/\W.frozen? ⟨w2,0,none⟩=false/\∃b,W.cell? ⟨w2,0,none⟩=some (.bool b))
  (fun c W=>c=.ret/\za w W/\W.cell? ⟨w2,0,none⟩=some (.bool false)/\openB m ps us=false)
  ?hI ?hIx ?hG ⟨za.refl w1,fun _ h=>absurd h (by omega),c7.2,_,c7.1⟩ (fun x=>{ tmps:=#[Value.pointer (some ⟨g,0,none⟩),Value.pointer (some ⟨w.heap.size,0,none⟩),Value.pointer (some ⟨w2,0,none⟩),.int .i64 x.1,x.2,undef,Value.pointer (some ⟨g,0,none⟩),
    Value.func (Fn.func 227) #[] #[Value.pointer (some ⟨w2+1,0,none⟩)],.int .i64 x.1,x.2,undef,undef,undef,undef,undef,undef,undef,undef,undef,undef,undef,undef,undef,undef,undef,undef,undef,undef,undef,undef,undef,undef,undef],defers:=[] }) ?assign ?body ?done ?stop
 case hI=>
  rintro k A B ⟨h1,h2,h3,b,h4⟩ a4;have U:=V;exact ⟨Below.trans h1 a4,h2,(a4.frozen (p:=⟨w2,0,none⟩) U).trans h3,b,(a4.cell (p:=⟨w2,0,none⟩) U).trans h4⟩
 case hIx=>
  rintro c A B ⟨h1,h2,h3,h4⟩ a4;have U:=V;exact ⟨h1,Below.trans h2 (a4.mono a5.size),(a4.cell (p:=⟨w2,0,none⟩) U).trans h3,h4⟩
 case hG=>
  rintro k x A l ⟨h1,h2⟩ i8 i9 ⟨r,hr⟩ o;exact ⟨h1,((h2.apart hr).keep fun b hb U=>World.putObj_heap_other hb.2).weaken fun _ h=>h.1⟩
 case assign=>
  intro l x W K E
  gi_wp2
  exact E
 case body=>
  rintro l k ⟨x1,x2⟩ W0 hk ⟨Q,a3,hfz,b,a7⟩ ⟨d7,b6⟩ j2;dsimp only at d7 b6⊢;obtain ⟨t,ht⟩:=Fd (ps.length - 1+k);rw [<-ht] at d7 b6;subst d7;have M:za w W0:=a5.trans Q;have HX:=zh b6;clear b6;obtain ⟨frm,b1⟩:=Fd (Ay m ps us t);rw [<-b1] at HX;have b7:=zh b1;clear b1;have b3:t<m.tasks.length:=tasksN_lt SO.out hk ht;have h5:t<m.free.length:=by rw [SO.out.good.fl];exact b3
  have i7:frm.length<=20000000000000:=by rw [b7.out];exact fromL_len SO.out b3
  have g7:=HS.out.maze;obtain ⟨fr',up',ts',a8,_,_,f2⟩:=g7;injection a8 with a8;injection a8 with a8;simp only [List.cons.injEq,and_true,true_and] at a8;obtain ⟨rfl,rfl,rfl⟩:=a8;have f8:=zh f2;obtain ⟨vst,⟨At,ct,rfl,i6,_⟩,_⟩:=f2;obtain ⟨bt,offt,sn,u1,u2,rfl,_,f0,g6,f1,g4,c9⟩:=Ce f8.out b3;have b9:=(SO.out.lens.tl _ (DZ b3)).2;obtain ⟨tl2,d6⟩:=Fd ((m.tasks[t]).2);rw [<-d6] at c9 b9;have f7:=zh d6;clear d6 g4 f0 g6;have f5:=zh c9;obtain ⟨A5,c5,rfl,a6,_⟩:=c9;have q2:=za.rule f1;clear f1;have j4:(t:Int)<(m.tasks.length:Int):=by omega
  have i1:(0:Int)<=(t:Int):=by omega
  have j3:=SO.out.good.tk;obtain ⟨MV,e6⟩:=Fd (Value.agg #[.int .i64 m.w,.int .i64 m.h,.int .i64 m.l,f,u,.slice (some ⟨bt,offt,none⟩) m.tasks.length ct]);have HT:=zh ht;clear ht;have d9:=zh a3;clear a3;have e1:=zh hfz;clear hfz;have e0:=zh a7;clear a7
  gi_wp2
  refine wpIn_region_any AI ?_;simp only [List.size_toArray,Fb,Fc,Nat.reduceAdd,Array.replicate_succ,Array.replicate_zero,List.push_toArray,List.nil_append,List.cons_append];refine wpAnyIn_by_invF _ _ (by kernel_rfl) [0,1,2,3,4,5,6,7,8,9,10,11,12] (fun e v W=>JO W0 g gu m frm us t x2 MV e v W) (F:=?F1) (by kernel_rfl) (by kernel_rfl) (by decide) (fun v=>?hF1) ?init1 (by kernel_rfl) ?steps1 ?fin1
  case hF1=>(simp only [zE,BU,List.getElem?_toArray,List.getElem?_cons_succ,List.getElem?_cons_zero,Option.bind,Act.put,List.setIfInBounds_toArray,List.set_cons_succ,List.set_cons_zero];rfl)
  case init1=>
   intro e v he;exact JO.init he
  case steps1=>
   refine zj.cons rfl (fun e v W K d hW he I E=>?_) ?_
   ·simp only [zd] at I E⊢;have J:za w W:=M.trans d.ext;have G:za w1 W:=Q.trans d.ext;go_simp;exact E.out _ _ _ (by rfl) trivial d.s0
   refine zj.cons rfl (fun e v W K d hW he I E=>?_) ?_
   ·simp only [zd] at I E⊢;have J:za w W:=M.trans d.ext;have G:za w1 W:=Q.trans d.ext;have v0:=d.v0 (zu I [0] (by kernel_rfl) 0 (by simp));go_simp;exact E.out _ _ _ (by simp [Act.put,v0]) trivial d.s1
   refine zj.cons rfl (fun e v W K d hW he I E=>?_) ?_
   ·simp only [zd] at I E⊢;have J:za w W:=M.trans d.ext;have G:za w1 W:=Q.trans d.ext;have v1:=d.v1 (zu I [1] (by kernel_rfl) 1 (by simp));go_simp;exact E.out _ _ _ (by simp [Act.put,v1]) trivial d.s2
   refine zj.cons rfl (fun e v W K d hW he I E=>?_) ?_
   ·simp only [zd] at I E⊢;have J:za w W:=M.trans d.ext;have G:za w1 W:=Q.trans d.ext;have v2:=d.v2 (zu I [2] (by kernel_rfl) 2 (by simp));go_simp;exact E.out _ _ _ (by simp [Act.put,v2,e6]) trivial d.s3
   refine zj.cons rfl (fun e v W K d hW he I E=>?_) ?_
   ·simp only [zd] at I E⊢;have J:za w W:=M.trans d.ext;have G:za w1 W:=Q.trans d.ext;go_simp;exact E.out _ _ _ (by rfl) trivial d.s4
   refine zj.cons rfl (fun e v W K d hW he I E=>?_) ?_
   ·simp only [zd] at I E⊢;have J:za w W:=M.trans d.ext;have G:za w1 W:=Q.trans d.ext;go_simp;exact E.out _ _ _ (by rfl) trivial d.s5
   refine zj.cons rfl (fun e v W K d hW he I E=>?_) ?_
   ·simp only [zd] at I E⊢;have J:za w W:=M.trans d.ext;have G:za w1 W:=Q.trans d.ext;go_simp;exact E.out _ _ _ (by rfl) trivial d.s6
   refine zj.cons rfl (fun e v W K d hW he I E=>?_) ?_
   ·simp only [zd] at I E⊢;have J:za w W:=M.trans d.ext;have G:za w1 W:=Q.trans d.ext;have v6:=d.v6 (zu I [6] (by kernel_rfl) 6 (by simp));go_simp;exact E.out _ _ _ (by simp [Act.put,v6]) trivial d.s7
   refine zj.cons rfl (fun e v W K d hW he I E=>?_) ?_
   ·simp only [zd] at I E⊢;have J:za w W:=M.trans d.ext;have G:za w1 W:=Q.trans d.ext;have v7:=d.v7 (zu I [7] (by kernel_rfl) 7 (by simp));go_simp;exact E.out _ _ _ (by simp [Act.put,v7]) trivial d.s8
   refine zj.cons rfl (fun e v W K d hW he I E=>?_) ?_
   ·simp only [zd] at I E⊢;have J:za w W:=M.trans d.ext;have G:za w1 W:=Q.trans d.ext;have v8:=d.v8 (zu I [8] (by kernel_rfl) 8 (by simp));go_simp;exact E.out _ _ _ (by simp [Act.put,v8]) trivial d.s9
   refine zj.cons rfl (fun e v W K d hW he I E=>?_) ?_
   ·simp only [zd] at I E⊢;have J:za w W:=M.trans d.ext;have G:za w1 W:=Q.trans d.ext;have v3:=d.v3 (zu I [3,4,5,9] (by kernel_rfl) 3 (by simp));have v4:=d.v4 (zu I [3,4,5,9] (by kernel_rfl) 4 (by simp));have v5:=d.v5 (zu I [3,4,5,9] (by kernel_rfl) 5 (by simp));have v9:=d.v9 (zu I [3,4,5,9] (by kernel_rfl) 9 (by simp));have c6:e 12=false:=d.n12 he;go_simp;go_at_call 206;refine (reach_calls t W (HS.out.maze.below J) SO.out.good.dim h5 SO.out.good.fn (HX.out.below d.ext) (by omega) (HS.out.us.below J)).mono ?_;rintro e9 w9 ⟨s,rfl,g0,g9,b2⟩;go_simp;exact E.out _ _ _ (by simp [Act.put,v3,v4,v5,v9,e6]) trivial (d.s10 c6 g0 (by have:=d.ext.size;omega) g9 b2)
   refine zj.cons rfl (fun e v W K d hW he I E=>?_) ?_
   ·simp only [zd] at I E⊢;have J:za w W:=M.trans d.ext;have G:za w1 W:=Q.trans d.ext;have c6:e 12=false:=d.n12' he;go_simp;exact E.out _ _ _ (by rfl) trivial (d.s11 c6)
   refine zj.cons rfl (fun e v W K d hW he I E=>?_) ?_
   ·simp only [zd] at I E⊢;have J:za w W:=M.trans d.ext;have G:za w1 W:=Q.trans d.ext;have e3:e 10=true:=zu I [10,11] (by kernel_rfl) 10 (by simp);have e4:e 11=true:=zu I [10,11] (by kernel_rfl) 11 (by simp);obtain ⟨g5,a1,e8,a9,_⟩:=d.al e4;have a9:=a9 he;have hf:=fun k=>a9.frozen k
    have i5:=a9.cell (k:=0) rfl;obtain ⟨gs,s,a0,g3,d5,b2⟩:=d.call e3;go_simp;exact E.out _ undef _ (by simp [Act.put,a0,a1]) trivial (d.s12 a1 a0 e8 a9 e3 e4)
   exact zj.nil
  case fin1=>
   intro v W5 d;have v10e:=d.call rfl;obtain ⟨gs,s,a0,g3,d5,b2⟩:=v10e;obtain ⟨g5,a1,e8,_,a6⟩:=d.al rfl;have a6:=a6 rfl;rw [a0] at a6;have b4:za W0 W5:=d.ext;have J:za w W5:=M.trans b4;have G:za w1 W5:=Q.trans b4;have HJ:=zh d;clear d;have f6:=zh b2;clear b2;rw [a1];clear a0 a1
   have HC:=zh (BH (l:=tl2) 207 #[.pointer (some ⟨g5,0,none⟩)] (fun x=>decide (x∈s)) W5 (f5.out.below J) (by omega) (Cb (P:=Tryz.prog) Tryz.func207 (by kernel_rfl) (by kernel_rfl))
    (fun x _ wa I=>by
     have e5:za W5 wa:=I.below _;refine (open1_calls x wa (d5.below e5) (za.cell a6 e5)).mono ?_;rintro e wb ⟨rfl,rfl⟩;exact ⟨rfl,z8.refl _⟩))
   have c0:Hid (CC m ps us t=tl2.any fun x=>decide (x∈s)):=by
    show CC m ps us t=_;unfold CC;rw [f7.out,DX,DW b3,ED,<-b7.out];congr 1;funext x;rw [decide_eq_decide,mem_reachL SO.out.good.dim];exact (f6.out x).symm
   generalize (tl2.any fun x=>decide (x∈s))=bb at HC c0;clear d5 a6
   cases bb with
   | true=>
    gi_wp2_with fail
    refine ⟨trivial,?_⟩;refine (CallsIn.inRound l (callsIn_wide.2 HC.out)).mono ?_;rintro e w6 ⟨rfl,b0⟩;have d8:za W5 w6:=b0.below _;clear b0;have O:za W0 w6:=b4.trans d8
    gi_wp2_with fail
    have U:=EA V Q.size;refine ⟨O,Q.trans O,fun j hj=>?_,(Below.frozen O (p:=⟨w2,0,none⟩) U).trans e1.out,b,(Below.cell O (p:=⟨w2,0,none⟩) U).trans e0.out⟩;rcases Ev j k with h | h
    ·exact d9.out j h
    ·rw [show j=k from by omega,<-HT.out];exact c0.out
   | false=>
    gi_wp2_with fail
    refine ⟨trivial,?_⟩;refine (CallsIn.inRound l (callsIn_wide.2 HC.out)).mono ?_;rintro e w6 ⟨rfl,b0⟩;have d8:za W5 w6:=b0.below _;clear b0;have O:za W0 w6:=b4.trans d8;have U:=EA V Q.size;have e7:w6.cell? ⟨w2,0,none⟩=some (.bool b):=(Below.cell O (p:=⟨w2,0,none⟩) U).trans e0.out;have h8:w6.frozen? ⟨w2,0,none⟩=false:=(Below.frozen O (p:=⟨w2,0,none⟩) U).trans e1.out;have c8:w.heap.size<=w2:=by have:=e2.out;omega
    gi_wp2_with fail
    refine ⟨fun k' h1 h2=>(Eh w6 ⟨w2,0,none⟩ _ k' (by show k'≠w2;omega)).trans (O.block k' h2),rfl,(M.trans O).setCell (p:=⟨w2,0,none⟩) c8 _,World.cell?_setCell_same' _ _ _ (by rw [e7];rfl),?_⟩;unfold openB;rw [List.all_eq_false];exact ⟨k,EW.2 hk,by rw [<-HT.out,c0.out];simp⟩
 case done=>
  rintro D W hD ⟨Q,a3,hfz,b,a7⟩ E;have b9:w2<W.heap.size:=EA V Q.size
  gi_wp2
  refine ⟨by simp,.inl ⟨_,_,rfl,run_takeDeferred ((Eh W ⟨w2,0,none⟩ _ D (by show D≠w2;omega)).trans E),?_⟩⟩;have d4:w2≠D:=by omega
  refine ⟨_,results_bool (w2:=w2) (b:=true) rfl _ _ rfl ?_,zo ?_,?_⟩
  ·exact (En (World.putObj_heap_other d4)).trans (World.cell?_setCell_same' _ _ _ (by rw [a7];rfl))
  ·unfold openB;symm;rw [Fa];exact fun j hj=>a3 j (EW.1 hj)
  ·have c8:w.heap.size<=w2:=by have:=e2.out;omega
   exact ((a5.trans Q).setCell (p:=⟨w2,0,none⟩) c8 _).trans (belowK_b (w:=w) (DY _) _ D _ _ (by have:=a5.size;omega) ((Eh W ⟨w2,0,none⟩ _ D (by show D≠w2;omega)).trans E) rfl rfl)
 case stop=>
  rintro D c W hD ⟨rfl,Q,a7,g8⟩ E
  gi_wp2
  refine ⟨by simp,.inl ⟨_,_,rfl,run_takeDeferred E,?_⟩⟩;have d4:w2≠D:=by omega
  refine ⟨_,results_bool (w2:=w2) (b:=false) rfl _ _ rfl ?_,zo g8.symm,?_⟩
  ·exact (En (World.putObj_heap_other d4)).trans a7
  ·exact Below.trans Q (belowK_b (w:=w) (DY _) _ D _ _ (by have:=a5.size;omega) E rfl rfl)
end
section
open Go.RowKit
def zW (m:MZ) (ch:List Int):List (List Int):=ch.foldl (BB m) (ps0 m)
def Ba (m:MZ) (ch:List Int):List Int:=BS m (zW m ch) ch
def zV (m:MZ) (ch:List Int):Bool:=cmpB m (zW m ch)
noncomputable def Az (m:MZ) (ch:List Int):Bool:=openB m (zW m ch) ch
theorem psOf_nil (m:MZ):zW m []=ps0 m:=rfl
theorem psOf_snoc (m:MZ) (ch:List Int) (n:Int):zW m (ch++[n])=BB m (zW m ch) n:=by simp [zW,List.foldl_append]
section
variable {m:MZ} {ps:List (List Int)} {us us':List Int}
theorem dec_congr (h:∀x,x∈us↔x∈us') (n:Int):decide (n∈us)=decide (n∈us'):=by rw [decide_eq_decide];exact h n
theorem candL_congr (h:∀x,x∈us↔x∈us'):BS m ps us=BS m ps us':=by
 unfold BS;simp only [zB,dec_congr h]
 have:(fun n=>zB m us (ps.length - 1) (ps.getD (ps.length - 1) []).dropLast (m.tasks.getD (ps.length - 1) ([],[])).1 n)=(fun n=>zB m us' (ps.length - 1) (ps.getD (ps.length - 1) []).dropLast (m.tasks.getD (ps.length - 1) ([],[])).1 n):=by
  funext n;simp only [zB,dec_congr h]
 have h2:zB m us (ps.length - 1) (ps.getD (ps.length - 1) []).dropLast (m.tasks.getD (ps.length - 1) ([],[])).1=zB m us' (ps.length - 1) (ps.getD (ps.length - 1) []).dropLast (m.tasks.getD (ps.length - 1) ([],[])).1:=this;rw [h2]
theorem fromL_congr (h:∀x,x∈us↔x∈us') (t:Nat):Ay m ps us t=Ay m ps us' t:=by
 unfold Ay;simp only [dec_congr h]
theorem reachL_congr (h:∀x,x∈us↔x∈us') (t:Nat) (f:List Int):Cs m t f us=Cs m t f us':=by
 unfold Cs;apply List.filter_congr;intro x _;rw [decide_eq_decide];exact ⟨fun d=>d.congr (fun _=>Iff.rfl) h,fun d=>d.congr (fun _=>Iff.rfl) (fun x=>(h x).symm)⟩
theorem openB_congr (h:∀x,x∈us↔x∈us'):openB m ps us=openB m ps us':=by
 unfold openB CC;simp only [fromL_congr h,reachL_congr h]
end
inductive zK (m:MZ):List Int->Prop
 | nil:zK m []
 | snoc {ch:List Int} {n:Int}:zK m ch->n∈Ba m ch->zK m (ch++[n])
theorem Cl {m:MZ} {ch:List Int} (h:n∈Ba m ch):zV m ch=false:=by
 unfold Ba BS at h;unfold zV
 cases d:cmpB m (zW m ch)
 ·rfl
 ·rw [if_pos d] at h;cases h
theorem By {m:MZ} {ps:List (List Int)} (h:cmpB m ps=false):0<m.tasks.length:=by
 rcases EJ m.tasks.length with h0 | h0
 ·unfold cmpB at h;rw [Eb h0] at h;cases h
 ·exact h0
structure PsOk (m:MZ) (ch:List Int) (ps:List (List Int)):Prop where
 pl:ps.length<=m.tasks.length
 pn:0<m.tasks.length->0<ps.length
 fl:ps.flatten=ch
theorem getD_mem {α:Type} {l:List (List α)} (h:k<l.length):l.getD k []∈l:=by
 rw [DX,DW h];exact DZ h
theorem addN_eq {ps:List (List Int)} (hp:0<ps.length) (n:Int):∃qs p,ps=qs++[p]/\Ca ps n=qs++[p++[n]]:=by
 rcases List.eq_nil_or_concat ps with rfl | ⟨qs,p,rfl⟩
 ·simp at hp
 ·refine ⟨qs,p,by simp,?_⟩;unfold Ca;rw [List.concat_eq_append,Eg,Ey,Nat.add_sub_cancel,List.set_append_right _ _ (DY _)];simp
theorem Dl {ps:List (List Int)}:(Ca ps n).length=ps.length:=by unfold Ca;simp
theorem addN_flat {ps:List (List Int)} (hp:0<ps.length) (n:Int):(Ca ps n).flatten=ps.flatten++[n]:=by
 obtain ⟨qs,p,rfl,h⟩:=addN_eq hp n;rw [h];simp
theorem withPs_flat {m:MZ} {ps:List (List Int)} (hp:0<ps.length) (n:Int):(BB m ps n).flatten=ps.flatten++[n]:=by
 unfold BB
 split
 ·rw [List.flatten_append,addN_flat hp];simp
 ·exact addN_flat hp n
theorem PsOk.step {m:MZ} {ch:List Int} {ps:List (List Int)} (h:PsOk m ch ps) (ht:0<m.tasks.length) (n:Int):PsOk m (ch++[n]) (BB m ps n):=by
 have hp:=h.pn ht;refine ⟨?_,fun _=>?_,?_⟩
 ·unfold BB
  split
  ·rename_i h1
   simp only [Eg,Dl,Ey];omega
  ·rw [Dl];exact h.pl
 ·unfold BB
  split <;> simp [Dl] <;> omega
 ·rw [withPs_flat hp,h.fl]
theorem psOk_nil (m:MZ):PsOk m [] (zW m []):=by
 rw [psOf_nil];unfold ps0
 split
 ·rename_i h;exact ⟨by simp,fun d=>by omega,rfl⟩
 ·rename_i h;exact ⟨by simp;omega,fun _=>by simp,rfl⟩
theorem zK.psOk {m:MZ} {ch:List Int} (h:zK m ch):PsOk m ch (zW m ch):=by
 induction h with
 | nil=>exact psOk_nil m
 | snoc h d ih=>rw [psOf_snoc];exact ih.step (By (Cl d)) _
theorem mem_flat_last {ps:List (List Int)} {x:Int} (o:(ps.getD k []).getLast?=some x):x∈ps.flatten:=by
 have h1:x∈ps.getD k []:=List.mem_of_getLast? o;by_cases d:k<ps.length
 ·exact List.mem_flatten.2 ⟨_,getD_mem d,h1⟩
 ·rw [DX,Es (by omega)] at h1;cases h1
theorem cand_range {m:MZ} (g:AG m) {ch:List Int} (G:∀x∈ch,0<=x/\x<m.n) (hf:(zW m ch).flatten=ch) (h:n∈Ba m ch):0<=n/\n<m.n/\n∉ch:=by
 have ht:=By (Cl h);have d:=Cl h;unfold zV at d;unfold Ba BS at h;rw [if_neg (by rw [d];simp)] at h
 split at h
 ·obtain ⟨h1,h2⟩:=EV.1 h;have h3:=mem_sortL.1 (DN h1);simp only [Ek,Bool.not_eq_true',Ew] at h2;by_cases E:(zW m ch).length - 1<m.tasks.length
  ·rw [DX,DW E] at h3;have:=g.tn _ (DZ E) n (.inl h3);exact ⟨this.1,this.2,h2.2⟩
  ·rw [DX,Es (by omega)] at h3;cases h3
 ·rename_i x I
  obtain ⟨h1,h2⟩:=EV.1 h;have D:x∈ch:=by rw [<-hf];exact mem_flat_last I
  have o:=G x D;have h3:=Bz g.dim o.1 o.2 h1;unfold zB at h2;simp only [Ek,Bool.not_eq_true',Ew] at h2;exact ⟨h3.1,h3.2,h2.1.1.2⟩
theorem zK.range {m:MZ} (g:AG m) {ch:List Int} (h:zK m ch):(∀x∈ch,0<=x/\x<m.n)/\ch.Nodup:=by
 induction h with
 | nil=>exact ⟨fun x hx=>absurd hx EU,List.nodup_nil⟩
 | snoc h E ih=>
  have d:=cand_range g ih.1 h.psOk.fl E;refine ⟨fun x hx=>?_,?_⟩
  ·rcases EN.1 hx with hx | hx
   ·exact ih.1 x hx
   ·rw [EF] at hx;subst hx;exact ⟨d.1,d.2.1⟩
  ·rw [List.nodup_append];refine ⟨ih.2,by simp,fun a D b o=>?_⟩;rw [EF] at o;subst o;rintro rfl;exact d.2.2 D
theorem zK.len {m:MZ} (g:AG m) {ch:List Int} (h:zK m ch):ch.length<=m.n.toNat:=Bp (h.range g).2 m.n (h.range g).1
theorem flat_le {ps:List (List Int)} {p:List Int} (h:p∈ps):p.length<=ps.flatten.length:=by
 induction ps with
 | nil=>cases h
 | cons q qs ih=>
  rw [List.flatten_cons,Eg];rcases EM.1 h with rfl | h
  ·omega
  ·have:=ih h;omega
theorem sok_of {m:MZ} (g:AG m) (o:Lens m) {ch:List Int} {ps:List (List Int)} (h:PsOk m ch ps) (D:∀x∈ch,0<=x/\x<m.n) (d:ch.length<=1000):SOk m ch ps:=
 ⟨g,o,h.pl,h.pn,fun p hp=>by have:=flat_le hp;rw [h.fl] at this;omega,fun p hp x E=>D x (by rw [<-h.fl];exact List.mem_flatten.2 ⟨p,hp,E⟩),d⟩
theorem zK.len300 {m:MZ} (g:AG m) {ch:List Int} (h:zK m ch):ch.length<=300:=by
 have h1:=h.len g;have h2:=g.dim.n1;have h3:m.n=m.w*m.h*m.l:=rfl;omega
theorem zK.sok {m:MZ} (g:AG m) (d:Lens m) {ch:List Int} (h:zK m ch):SOk m ch (zW m ch):=
 sok_of g d h.psOk (h.range g).1 (by have:=h.len300 g;omega)
theorem zK.sok1 {m:MZ} (g:AG m) (o:Lens m) {ch:List Int} (h:zK m ch) (d:n∈Ba m ch):SOk m (ch++[n]) (Ca (zW m ch) n):=by
 have h1:=h.psOk;have ht:=By (Cl d);have h2:=zK.snoc h d;refine sok_of g o ⟨by rw [Dl];exact h1.pl,fun h=>by rw [Dl];exact h1.pn h,by rw [addN_flat (h1.pn ht),h1.fl]⟩ (h2.range g).1 (by have:=h2.len300 g;omega)
theorem cand_len {m:MZ} (o:Lens m) (ch:List Int):(Ba m ch).length<=400000000000:=by
 unfold Ba BS
 split
 ·simp
 ·split
  ·refine Ea (EB _ _) (Ea (compact_len _) ?_);unfold Bc;rw [List.length_mergeSort];by_cases d:(zW m ch).length - 1<m.tasks.length
   ·rw [DX,DW d];exact (o.tl _ (DZ d)).1
   ·rw [DX,Es (by omega)];simp
  ·refine Ea (EB _ _) ?_;have:=Cr m;exact Ea (this _) (by omega)
noncomputable def aft (m:MZ) (ch:List Int) (last:Int):Option Int:=(Ba m ch).find? fun n=>decide (last<n) && Az m (ch++[n])
noncomputable def backN (m:MZ) (ch:List Int):Nat->Option (List Int)
 | 0=>none
 | k+1=>match aft m (ch.take k) (ch.getD k 0) with
  | some n=>some (ch.take k++[n])
  | none=>backN m ch k
noncomputable def stepC (m:MZ) (ch:List Int):Option (List Int):=
 match aft m ch (-1) with
 | some n=>some (ch++[n])
 | none=>backN m ch ch.length
structure RS where
 ch:List Int
 done:Bool
 steps:Int
noncomputable def RS.one (m:MZ) (s:RS):RS:=match stepC m s.ch with
 | some c=>⟨c,zV m c,s.steps+1⟩
 | none=>⟨[],true,s.steps+1⟩
noncomputable def RS.run (m:MZ):Nat->RS->RS
 | 0,s=>s
 | n+1,s=>if s.done=true then s else RS.run m n (s.one m)
theorem RS.run_done {m:MZ} {s:RS} (h:s.done=true):∀n,RS.run m n s=s
 | 0=>rfl
 | n+1=>by simp [RS.run,h]
theorem zK.take {m:MZ} {ch:List Int} (h:zK m ch) (k:Nat):zK m (ch.take k):=by
 induction h with
 | nil=>simpa using zK.nil
 | @snoc ch n h d ih=>
  rcases Ev ch.length k with hk | hk
  ·rw [List.take_of_length_le (by simp;omega)];exact .snoc h d
  ·rw [List.take_append_of_le_length hk];exact ih
theorem zK.at {m:MZ} {ch:List Int} (h:zK m ch) {k:Nat} (d:k<ch.length):ch[k]∈Ba m (ch.take k):=by
 induction h with
 | nil=>simp at d
 | @snoc ch n h o ih=>
  rcases Ev k ch.length with h1 | h1
  ·rw [List.getElem_append_left h1,List.take_append_of_le_length (by omega)];exact ih h1
  ·have h2:k=ch.length:=by simp at d;omega
   subst h2;rw [List.getElem_append_right (DY _),List.take_append_of_le_length (DY _),Ej];simpa using o
theorem aft_some {m:MZ} {ch:List Int} {last:Int} (h:aft m ch last=some n):n∈Ba m ch/\last<n/\Az m (ch++[n])=true:=by
 unfold aft at h;have h1:=List.find?_some h;simp only [Ek,Ei] at h1;exact ⟨List.mem_of_find?_eq_some h,h1.1,h1.2⟩
theorem backN_some {m:MZ} {ch:List Int} (h:zK m ch):∀{k:Nat} {c:List Int},backN m ch k=some c->zK m c/\0<c.length/\Az m c=true
 | 0,c,d=>by cases d
 | k+1,c,d=>by
  unfold backN at d
  split at d
  ·rename_i n o
   injection d with d;subst d;obtain ⟨h1,_,h2⟩:=aft_some o;exact ⟨.snoc (h.take k) h1,by simp,h2⟩
  ·exact backN_some h d
theorem stepC_some {m:MZ} {ch c:List Int} (h:zK m ch) (d:stepC m ch=some c):zK m c/\0<c.length/\Az m c=true:=by
 unfold stepC at d
 split at d
 ·rename_i n o
  injection d with d;subst d;obtain ⟨h1,_,h2⟩:=aft_some o;exact ⟨.snoc h h1,by simp,h2⟩
 ·exact backN_some h d
end
section
open Go.RowKit
attribute [local go_sem ↓] Go.wp_at_zero Go.wp_at_succ
def StC (w:World) (ok:Nat->Prop) (p:Nat) (m:MZ) (ch:List Int):Prop:=
 ∃us f u t vc vp gu,(∀x,x∈us↔x∈ch)/\Bd w ok p m ch (zW m ch) us f u t vc vp gu
section
variable {w w':World} {ok ok':Nat->Prop} {p:Nat} {m:MZ} {ch:List Int}
theorem StC.keep (h:StC w ok p m ch) (d:Ar ok w w'):StC w' ok p m ch:=by
 obtain ⟨us,f,u,t,vc,vp,gu,h1,h2⟩:=h;exact ⟨us,f,u,t,vc,vp,gu,h1,h2.keep d⟩
theorem StC.weaken (h:StC w ok p m ch) (d:∀b,ok b->ok' b):StC w ok' p m ch:=by
 obtain ⟨us,f,u,t,vc,vp,gu,h1,h2⟩:=h;exact ⟨us,f,u,t,vc,vp,gu,h1,h2.weaken d⟩
theorem StC.bound (h:StC w ok p m ch):StC w (fun b=>ok b/\b<w.heap.size) p m ch:=by
 obtain ⟨us,f,u,t,vc,vp,gu,h1,h2⟩:=h;exact ⟨us,f,u,t,vc,vp,gu,h1,h2.bound⟩
theorem StC.ext (h:StC w ok p m ch) (d:za w w'):StC w' ok p m ch:=h.keep (Ar.of_below d)
end
theorem begin_c {ok:Nat->Prop} {v:Value} {m:MZ} (w:World) (hm:zY w ok v m) (d:m.tasks.length<=100000):
  Calls Tryz.prog 146 #[v] w fun e w'=>∃p,e=.returned (.pointer (some ⟨p,0,none⟩))/\za w w'/\StC w' (fun b=>ok b\/w.heap.size<=b) p m []:=by
 refine (begin_calls w hm d).mono ?_;rintro e w' ⟨v',rfl,o,g,f,u,t,vc,vp,gu,rfl,h⟩;exact ⟨g,rfl,o,[],f,u,t,vc,vp,gu,fun _=>Iff.rfl,h⟩
theorem Dr {ok:Nat->Prop} {m:MZ} {ch:List Int} {p:Nat} (w:World) (h:StC w ok p m ch) (g:AG m) (o:Lens m) (d:zK m ch):
  Calls Tryz.prog 151 #[.pointer (some ⟨p,0,none⟩)] w fun e w'=>e=.returned (.bool (zV m ch))/\z8 w w':=by
 obtain ⟨us,f,u,t,vc,vp,gu,h1,h2⟩:=h;exact Cc w h2 (d.sok g o)
theorem candidates_c {ok:Nat->Prop} {m:MZ} {ch:List Int} {p:Nat} (w:World) (h:StC w ok p m ch) (g:AG m) (o:Lens m) (d:zK m ch):
  Calls Tryz.prog 148 #[.pointer (some ⟨p,0,none⟩)] w fun e w'=>∃v',e=.returned v'/\Mk w w' v' (Ba m ch):=by
 obtain ⟨us,f,u,t,vc,vp,gu,h1,h2⟩:=h;unfold Ba;rw [<-candL_congr h1];exact candidates_calls w h2 (d.sok g o)
theorem open_c {ok:Nat->Prop} {m:MZ} {ch:List Int} {p:Nat} (w:World) (h:StC w ok p m ch) (g:AG m) (o:Lens m) (d:zK m ch):
  Calls Tryz.prog 150 #[.pointer (some ⟨p,0,none⟩)] w fun e w'=>e=.returned (.bool (Az m ch))/\za w w':=by
 obtain ⟨us,f,u,t,vc,vp,gu,h1,h2⟩:=h;unfold Az;rw [<-openB_congr h1];exact open_calls w h2 (d.sok g o)
theorem with_c {ok:Nat->Prop} {m:MZ} {ch:List Int} {p:Nat} (w:World) (h:StC w ok p m ch) (g:AG m) (o:Lens m) (d:zK m ch) (D:n∈Ba m ch):
  Calls Tryz.prog 149 #[.pointer (some ⟨p,0,none⟩),.int .i64 n] w fun e w'=>∃q,e=.returned (.pointer (some ⟨q,0,none⟩))/\za w w'/\StC w' (fun b=>(ok b/\b<w.heap.size)\/w.heap.size<=b) q m (ch++[n]):=by
 obtain ⟨us,f,u,t,vc,vp,gu,h1,h2⟩:=h;have hp:=d.psOk.pn (By (Cl D));refine (with_calls n w h2.bound (d.sok g o) (d.sok1 g o D) hp).mono ?_;rintro e w' ⟨v',rfl,G,us',h3,q,f',u',t',vc',vp',gu',rfl,E⟩;refine ⟨q,rfl,G,us',f',u',t',vc',vp',gu',fun x=>?_,?_⟩
 ·rw [h3,h1,EN,EF];exact Or.comm
 ·rw [psOf_snoc];exact E
def okR (X Y:Nat->Prop) (g gr:Nat) (b:Nat):Prop:=(X b/\b≠g/\b≠gr)\/Y b
def ptrV (p:Nat):Value:=.pointer (some ⟨p,0,none⟩)
def RtRow (w:World) (X Y:Nat->Prop) (g gr cap:Nat) (m:MZ) (ch:List Int) (ptrs:List Nat):Prop:=
 w.ownsRow 0 198 1 (.slice (some ⟨gr,0,none⟩) ptrs.length cap) ptrs.length (ptrs.map ptrV)/\ptrs.length=ch.length+1/\∀(k p:Nat),ptrs[k]?=some p->StC w (okR X Y g gr) p m (ch.take k)
structure AC (w:World) (X Y:Nat->Prop) (g gr cap:Nat) (m:MZ) (s:RS) (ptrs:List Nat):Prop where
 blk:zl w g 202 #[.slice (some ⟨gr,0,none⟩) ptrs.length cap,.bool s.done,.int .i64 s.steps]
 xg:X g
 xr:X gr
 ne:g≠gr
 yg:¬ Y g
 yr:¬ Y gr
 row:RtRow w X Y g gr cap m s.ch ptrs
structure zC (X:Nat->Prop) (w w':World):Prop where
 os:w'.os=w.os
 tape:w'.tape=w.tape
 output:w'.output=w.output
 size:w.heap.size<=w'.heap.size
 block:∀b,b<w.heap.size->¬ X b->w'.heap[b]?=w.heap[b]?
theorem zC.refl (X:Nat->Prop) (w:World):zC X w w:=⟨rfl,rfl,rfl,DY _,fun _ _ _=>rfl⟩
theorem zC.of_ext {X:Nat->Prop} {w w':World} (h:za w w'):zC X w w':=⟨h.os,h.tape,h.output,h.size,fun b d _=>h.block b d⟩
theorem zC.trans {X X':Nat->Prop} {a b c:World} (h:zC X a b) (d:zC X' b c) (G:∀k,k<a.heap.size->X' k->X k):zC X a c:=
 ⟨d.os.trans h.os,d.tape.trans h.tape,d.output.trans h.output,Ea h.size d.size,fun k o E=>(d.block k (EA o h.size) (fun D=>E (G k o D))).trans (h.block k o E)⟩
theorem zC.same {X ok:Nat->Prop} {w w':World} (h:zC X w w') (D:∀b,ok b->¬ X b):Ar ok w w':=fun b o d=>h.block b d (D b o)
theorem zC.below {X:Nat->Prop} {w w':World} (h:zC X w w') (D:B<=w.heap.size) (d:∀b,X b->B<=b):Below B w w':=
 ⟨h.os,h.tape,h.output,h.size,fun b E=>h.block b (by omega) (fun o=>by have:=d b o;omega)⟩
section
variable {w w':World} {X Y X' Y':Nat->Prop} {g gr cap:Nat} {m:MZ} {s:RS} {ptrs:List Nat} {ch:List Int}
theorem row_keep {n:Nat} {e:TypeId} (h:w.ownsRow B e size (.slice (some ⟨gr,0,none⟩) n c) n xs) (o:w'.heap[gr]?=w.heap[gr]?):w'.ownsRow B e size (.slice (some ⟨gr,0,none⟩) n c) n xs:=by
 obtain ⟨E,⟨h0,_⟩ | ⟨g',cap',cur,d,h1,h2,h3⟩⟩:=h
 ·cases h0
 ·have D:g'=gr:=by injection d with d;injection d with d;injection d with d;exact d.symm
  subst D;exact ⟨E,.inr ⟨g',cap',cur,d,h1,o.trans h2,h3⟩⟩
theorem row_shrink {n:Nat} {e:TypeId} (h:w.ownsRow B e 1 (.slice (some ⟨gr,0,none⟩) n c) n xs) (J:k<=n):w.ownsRow B e 1 (.slice (some ⟨gr,0,none⟩) k c) k (xs.take k):=by
 obtain ⟨I,⟨h0,_⟩ | ⟨g',cap',cur,d,h1,h2,h3,o,D,E⟩⟩:=h
 ·cases h0
 ·injection d with d K G;injection d with d;injection d with d;subst d G;refine ⟨by rw [EQ,I];omega,.inr ⟨gr,c,cur,rfl,h1,h2,by omega,o,D,?_⟩⟩;rw [<-E,List.take_take];congr 1;omega
theorem RtRow.keep (h:RtRow w X Y g gr cap m ch ptrs) (G:∀b,b<w.heap.size->(X b/\b≠g)\/Y b->w'.heap[b]?=w.heap[b]?) (o:X gr) (E:g≠gr):RtRow w' X Y g gr cap m ch ptrs:=by
 obtain ⟨h1,h2,h3⟩:=h;have d:gr<w.heap.size:=(h1.lt gr rfl).2;refine ⟨row_keep h1 (G gr d (.inl ⟨o,Ne.symm E⟩)),h2,fun k p hp=>(h3 k p hp).keep fun b hb D=>G b D ?_⟩;rcases hb with hb | hb
 ·exact .inl ⟨hb.1,hb.2.1⟩
 ·exact .inr hb
theorem RtRow.last (h:RtRow w X Y g gr cap m ch ptrs):∃p,ptrs[ch.length]?=some p/\StC w (okR X Y g gr) p m ch/\w.cell? ⟨gr,ch.length,none⟩=some (ptrV p):=by
 obtain ⟨h1,h2,h3⟩:=h;have d:ch.length<ptrs.length:=by omega
 refine ⟨ptrs[ch.length],DW d,by have:=h3 _ _ (DW d);rwa [Ej] at this,?_⟩;rw [World.ownsRow.cellAt h1 _ (by omega),EH,DW d];rfl
theorem AC.same (h:AC w X Y g gr cap m s ptrs) (d:∀b,b<w.heap.size->X b\/Y b->w'.heap[b]?=w.heap[b]?):AC w' X Y g gr cap m s ptrs:=
 ⟨(d g (zc h.blk) (.inl h.xg)).trans h.blk,h.xg,h.xr,h.ne,h.yg,h.yr,h.row.keep (fun b o hx=>d b o (by rcases hx with hx | hx;exact .inl hx.1;exact .inr hx)) h.xr h.ne⟩
theorem AC.ext (h:AC w X Y g gr cap m s ptrs) (d:za w w'):AC w' X Y g gr cap m s ptrs:=h.same fun b o _=>d.block b o
end
end
section
open Go.RowKit Go.Shelf
attribute [local go_sem ↓] Go.wp_at_zero Go.wp_at_succ
abbrev DS (B:Nat) (bs:List Value) (w:World):Prop:=Lib.IsBuilderF 134 5 B B bs w
abbrev BuiU (B:Nat) (bs:List Value) (w:World):Prop:=Lib.BuilderAtF 134 5 B B (.pointer (some ⟨B,0,none⟩)) bs w
theorem DS.old {w w':World} (h:DS B bs w) (d:za w w'):DS B bs w':=by
 have f:∀p,Lib.BuilderAtF 134 5 B B p bs w->Lib.BuilderAtF 134 5 B B p bs w':=fun p h=>by
  have D:=h.lt;obtain ⟨G,v,I,o,E⟩:=h;exact ⟨G,v,(d.block B D).trans I,o.kept (row:=none) ⟨d.os,d.tape,d.output,d.size,fun k J _=>d.block k J⟩ (by cases h:v.ownBlock <;> simp),E⟩
 exact h.imp (f _) (f _)
theorem DS.new (w:World):DS w.heap.size [] (w.alloc (.cells #[.pointer none,.slice none 0 0] 134)):=Lib.IsBuilderF.of (Lib.fresh_isBuilder _ _ w)
theorem ptrInfo:∃j,Tryz.prog.info? 134=some j/\j.size=2:=Option.map_eq_some_iff.1 sExt.sizeBuilder
theorem ccUsed (B:Nat) (w:World) (h0:w.cell? ⟨B,0,none⟩=some (.pointer (some ⟨B,0,none⟩))):Calls Tryz.prog 152 #[.pointer (some ⟨B,0,none⟩)] w fun e w'=>e=.returned (.tuple #[])/\w=w':=by
 obtain ⟨j,d,-⟩:=ptrInfo;have o:=Lib.run_neq_ptr_same w ⟨B,0,none⟩ Tryz.underlying132 d
 go_enter Tryz.func152,Tryz.ntmps152
 go_wp2;exact bodyPost_end (results_none rfl _ _ _) rfl ⟨rfl,rfl⟩
theorem ccNew (B:Nat) (w:World) (h0:w.cell? ⟨B,0,none⟩=some (.pointer none)) (D:w.shape? B=some (134,2)) (hf:w.frozen? ⟨B,0,none⟩=false):Calls Tryz.prog 152 #[.pointer (some ⟨B,0,none⟩)] w fun e w'=>e=.returned (.tuple #[])/\w'=w.setCell ⟨B,0,none⟩ (.pointer (some ⟨B,0,none⟩)):=by
 obtain ⟨j,o,d⟩:=ptrInfo;have c1:=Lib.run_to_unsafe w ⟨B,0,none⟩ Tryz.underlying132 Tryz.underlying239 o (by rw [d];decide) D (Nat.zero_lt_succ 1);have c2:=run_callFunc_extern Tryz.func208 (by kernel_rfl) (by kernel_rfl) (by kernel_rfl) (e:=Extern.AbiNoEscape.same) (by kernel_rfl) (args:=#[.pointer (some ⟨B,0,none⟩)]) (w:=w);have c3:=Lib.run_from_unsafe w ⟨B,0,none⟩ Tryz.underlying239 Tryz.underlying132 o D sExt.liesBuilder;rw [Lib.run_noEscape] at c2
 go_enter Tryz.func152,Tryz.ntmps152
 go_wp2;exact bodyPost_end (results_none rfl _ _ _) rfl ⟨rfl,rfl⟩
theorem cc_calls {w:World} (h:DS B bs w):Calls Tryz.prog 152 #[.pointer (some ⟨B,0,none⟩)] w fun e w'=>e=.returned (.tuple #[])/\BuiU B bs w'/\Below B w w':=by
 rcases h with h | h
 ·refine (ccNew B w h.cell0 h.shape h.frozen0).mono ?_;rintro e w' ⟨rfl,rfl⟩;exact ⟨rfl,h.used _,(Below.refl B w).setCell (p:=⟨B,0,none⟩) (DY _) _⟩
 ·refine (ccUsed B w h.cell0).mono ?_;rintro e w' ⟨rfl,rfl⟩;exact ⟨rfl,h,Below.refl B w⟩
theorem CL {w:World} {o:Obj} (h:w.heap[b]?=some o):b<w.heap.size:=(ET.1 h).1
theorem Dg {w:World} (c:Int) (h:DS B bs w) (hl:bs.length+1<=140737488355328):
  Calls Tryz.prog 169 #[.pointer (some ⟨B,0,none⟩),.int .u8 c] w fun e w'=>e=.returned .nilIface/\BuiU B (bs++[.int .u8 c]) w'/\Below B w w':=by
 obtain ⟨i0,hi,O,Q,U⟩:=info_parts sExt.infoByte;have H:=zh h;clear h
 go_enter Tryz.func169,Tryz.ntmps169
 go_wp2_with fail
 refine (cc_calls H.out).mono ?_;rintro e w1 ⟨rfl,⟨V,v,E,o,K⟩,I⟩;have c1:w1.cell? ⟨B,1,none⟩=some v:=by rw [Lib.cell_of_heap E];rfl
 have J:=CL E
 go_wp2_with (at_builtin;refine wpList_append_ownF _ rfl _ _ 76 rfl B 5 i0 (.int .u8 0) 1 1 Tryz.underlying76 hi O Q U rfl (by decide) _ _ _ rfl (o.alloc _) ⟨w1.heap.size,0,none⟩ 1 1 [.int .u8 c] rfl rfl ?c1 ?c2 ?c3 ?c4 ?c5 ?_)
 case c1=>
  intro j u G
  match j,G with
  | 0,G=>simp at G;subst G;simp [Addr.add]
 case c2=>intro u hu;simp at hu;subst hu;rfl
 case c3=>unfold maxLen;omega
 case c4=>omega
 case c5=>simp;omega
 intro v' w2 d hg _
 have D:w2.heap[B]?=some (.cells #[.pointer (some ⟨B,0,none⟩),v] 134 (0,0)):=by
  rw [hg.block B (by simp;omega) (fun e=>K e.symm),Lib.alloc_old w1 _ B J];exact E
 have d1:w2.cell? ⟨B,1,none⟩=some v:=by rw [Lib.cell_of_heap D];rfl
 have f1:w2.frozen? ⟨B,1,none⟩=false:=Lib.frozen_of_heap D 1
 obtain ⟨ao,n',cap,rfl⟩:∃ao n' cap,v'=.slice ao n' cap:=by
  rcases d.2 with ⟨M,_⟩ | ⟨g,cap,cur,fz,M,_⟩
  ·exact ⟨_,_,_,M⟩
  ·exact ⟨_,_,_,M⟩
 go_wp2;go_ret;refine ⟨rfl,Lib.BuilderAtF.put (T:=134) (e:=5) V D (bs':=bs++[.int .u8 c]) (by simpa using d) (by decide),?_⟩;exact ((I.alloc (by omega) _).grown hg (by simp;omega) (fun k hk=>(o.lt k hk).1)).setCell (p:=⟨B,1,none⟩) V _
theorem wString_calls {w:World} (s:ByteArray) (h:DS B bs w) (hl:bs.length+s.size<=140737488355328):
  Calls Tryz.prog 81 #[.pointer (some ⟨B,0,none⟩),.string s] w fun e w'=>e=.returned (.tuple #[.int .i64 s.size,.nilIface])/\BuiU B (bs++Lib.strCells s) w'/\Below B w w':=by
 obtain ⟨i0,hi,M,O,Q⟩:=info_parts sExt.infoByte;have H:=zh h;clear h
 go_enter Tryz.func81,Tryz.ntmps81
 go_wp2_with fail
 refine (cc_calls H.out).mono ?_;rintro e w1 ⟨rfl,⟨U,v,E,o,J⟩,G⟩;have c1:w1.cell? ⟨B,1,none⟩=some v:=by rw [Lib.cell_of_heap E];rfl
 have I:=CL E
 go_wp2_with (at_builtin;refine Lib.wpList_append_own_stringF _ rfl _ _ 76 9 rfl B 5 i0 Tryz.underlying76 Tryz.underlying9 hi M O Q _ _ _ rfl o s rfl ?c3 ?c4 ?c5 ?_)
 case c3=>unfold maxLen;omega
 case c4=>omega
 case c5=>omega
 intro v' w2 d V _
 have D:w2.heap[B]?=some (.cells #[.pointer (some ⟨B,0,none⟩),v] 134 (0,0)):=by
  rw [V.block B I (fun e=>J e.symm)];exact E
 have d1:w2.cell? ⟨B,1,none⟩=some v:=by rw [Lib.cell_of_heap D];rfl
 have f1:w2.frozen? ⟨B,1,none⟩=false:=Lib.frozen_of_heap D 1
 obtain ⟨ao,n',cap,rfl⟩:∃ao n' cap,v'=.slice ao n' cap:=by
  rcases d.2 with ⟨K,_⟩ | ⟨g,cap,cur,fz,K,_⟩
  ·exact ⟨_,_,_,K⟩
  ·exact ⟨_,_,_,K⟩
 go_wp2
 go_ret2
 refine ⟨rfl,Lib.BuilderAtF.put (T:=134) (e:=5) U D (bs':=bs++Lib.strCells s) (by simpa [Lib.strCells_length] using d) (by decide),?_⟩;exact (G.grown V (by omega) (fun k hk=>(o.lt k hk).1)).setCell (p:=⟨B,1,none⟩) U _
theorem Dq {l:List UInt8} {w:World} (h:DS B (Lib.byteCells l) w) (d:B<=w.heap.size):Calls Tryz.prog 86 #[.pointer (some ⟨B,0,none⟩)] w fun e w'=>e=.returned (.string ⟨l.toArray⟩)/\Below B w w':=
 (Any.Builder_String_any_k sStr sExt B B l w h d).mono fun e w' h=>⟨h.1,h.2.2.1⟩
structure zq (w:World):Prop where
 tab : Lib.TabIs Tryz.prog w "internal/strconv.uint64pow10" .u64 Lib.pow10Tab
 syn : ∃ tp p, w.var? Tryz.prog "strconv.ErrSyntax" = some #[.iface tp p]
 rng : ∃ tp p, w.var? Tryz.prog "strconv.ErrRange" = some #[.iface tp p]
theorem var_ext {w w':World} (D:za w w') {n:String} {cs:Array Value} (h:w.var? Tryz.prog n=some cs):w'.var? Tryz.prog n=some cs:=by
 unfold World.var? at h⊢
 cases o:Tryz.prog.globalNamed n with
 | none=>rw [o] at h;cases h
 | some g=>
  rw [o] at h;simp only [Option.bind_some] at h⊢
  split at h
  ·rename_i d
   rw [D.block g (CL d),d];exact h
  ·cases h
theorem zq.ext {w w':World} (h:zq w) (d:za w w'):zq w':=
 ⟨var_ext d h.tab,h.syn.imp fun _ ⟨p,h⟩=>⟨p,var_ext d h⟩,h.rng.imp fun _ ⟨p,h⟩=>⟨p,var_ext d h⟩⟩
theorem BL {a b:List UInt8} (h:a=b):Ending.returned (.string ⟨a.toArray⟩)=.returned (.string ⟨b.toArray⟩):=by rw [h]
def BI (n:Int):Prop:=-9223372036854775808<=n/\n<=9223372036854775807
theorem grow_ext (w:World) (os:Array Obj):za w (Sort.grow w os):=⟨rfl,rfl,rfl,by simp [Sort.grow],fun k d=>by simp [Sort.grow,Array.getElem?_append,d]⟩
theorem itoa_calls (w:World) (o:zq w) (d:BI n):Calls Tryz.prog 107 #[.int .i64 n] w fun e w'=>e=.returned (.string ⟨(Lib.itoa n).toArray⟩)/\za w w':=by
 refine (Any.strconv_Itoa sItoa n d.1 d.2 w o.tab).mono ?_;rintro e w' ⟨rfl,k,os,rfl⟩;exact ⟨rfl,((za.refl w).drewN k).trans (grow_ext _ os)⟩
def wI (n:Int):List UInt8:=Lib.itoa n++[59]
def wT (s:List UInt8):List UInt8:=Lib.itoa s.length++58 :: s
def wL (l:List Int):List UInt8:=91 :: (l.flatMap wI++[93])
theorem Bx (d:BI n):(Lib.itoa n).length<=21:=Lib.itoa_length_le n d.1 d.2
theorem Bl (d:BI n):(wI n).length<=22:=by have:=Bx d;simp [wI];omega
theorem wIs_len:∀{l:List Int},(∀x∈l,BI x)->(l.flatMap wI).length<=22*l.length
 | [],_=>by simp
 | x :: l,h=>by
  have h1:=Bl (h x (EK ..));have h2:=wIs_len fun y d=>h y (Et x d)
  rw [List.flatMap_cons,Eg,Fb];omega
theorem zx {x y:List UInt8} {w:World} (h:x.length+y.length<=9223372036854775807):(Op.stringOp .add ⟨x.toArray⟩ ⟨y.toArray⟩).run Tryz.prog w=.ok (.string ⟨(x++y).toArray⟩) w:=by
 rw [run_string_add_sum w _ _ (by simpa [ByteArray.size] using h),ByteArray.mk_append_mk]
theorem DD (w:World) (I:zq w) (D:BI n):Calls Tryz.prog 51 #[.int .i64 n] w fun e w'=>e=.returned (.string ⟨(wI n).toArray⟩)/\za w w':=by
 have E:=zh (itoa_calls w I D);have G:=Bx D;obtain ⟨d,o⟩:=Fd (Lib.itoa n);have J:Hid (wI n=d++[59]):=by rw [o];rfl
 rw [<-o] at G E;have M:∀w,(Op.stringOp .add ⟨d.toArray⟩ ⟨#[59]⟩).run Tryz.prog w=.ok (.string ⟨(d++[59]).toArray⟩) w:=fun w=>zx (y:=[59]) (by simp;omega)
 clear o G I D
 go_enter Tryz.func51,Tryz.ntmps51
 go_wp2_with fail
 refine E.out.mono ?_;rintro e w1 ⟨rfl,K⟩
 go_wp2_with fail
 go_ret;exact ⟨BL J.out.symm,K⟩
theorem BZ {s:List UInt8} (w:World) (I:zq w) (O:s.length<=9223372036854775000):Calls Tryz.prog 139 #[.string ⟨s.toArray⟩] w fun e w'=>e=.returned (.string ⟨(wT s).toArray⟩)/\za w w':=by
 have E:BI (s.length:Int):=⟨by omega,by omega⟩;have G:=zh (itoa_calls w I E);have o:=Bx E;obtain ⟨d,D⟩:=Fd (Lib.itoa (s.length:Int));have J:Hid (wT s=d++58 :: s):=by (show wT s=_);rw [D];rfl
 rw [<-D] at o G;have Q:∀w,(Op.stringOp .add ⟨d.toArray⟩ ⟨#[58]⟩).run Tryz.prog w=.ok (.string ⟨(d++[58]).toArray⟩) w:=fun w=>zx (y:=[58]) (by simp;omega)
 have M:∀w,(Op.stringOp .add ⟨(d++[58]).toArray⟩ ⟨s.toArray⟩).run Tryz.prog w=.ok (.string ⟨(d++58 :: s).toArray⟩) w:=fun w=>by have:=zx (w:=w) (x:=d++[58]) (y:=s) (by simp;omega);rwa [List.append_assoc] at this
 clear D o O I E
 go_enter Tryz.func139,Tryz.ntmps139
 go_wp2_with fail
 refine G.out.mono ?_;rintro e w1 ⟨rfl,K⟩
 go_wp2_with fail
 go_ret;exact ⟨BL J.out.symm,K⟩
theorem bui_bytes (l:List UInt8) (c:UInt8):Lib.byteCells l++[Value.int .u8 c.toNat]=Lib.byteCells (l++[c]):=by simp [Lib.byteCells]
theorem bui_str (l s:List UInt8):Lib.byteCells l++Lib.strCells ⟨s.toArray⟩=Lib.byteCells (l++s):=by simp [Lib.byteCells,Lib.strCells]
theorem bui_len (l:List UInt8):(Lib.byteCells l).length=l.length:=by simp [Lib.byteCells]
theorem wInts_calls {ok:Nat->Prop} {v:Value} (w:World) (hv:zq w) (hl:zk w ok v l) (hn:∀x∈l,BI x) (b4:l.length<=1000000000000):Calls Tryz.prog 108 #[v,.func (.func 51) #[] #[]] w fun e w'=>e=.returned (.string ⟨(wL l).toArray⟩)/\za w w':=by
 have HL:=zh hl;have HV:=zh hv;have HN:=zh hn;obtain ⟨A,c,rfl,hc,hr⟩:=hl;clear hn hv hr
 go_enter Tryz.func108,Tryz.ntmps108
 go_wp2_with fail
 have a1:=DS.new w;refine (Dg 91 a1 (by simp)).mono ?_;rintro e w1 ⟨rfl,a2,a3⟩;have U:Hid (DS w.heap.size (Lib.byteCells [91]) w1):=.inr a2;have V:Hid (za w w1):=((Below.refl _ _).alloc (DY _) _).trans a3;clear a1 a2 a3
 go_wp2_with fail
 go_loopw [11] (fun i wr=>∃k:Nat,k<=l.length/\i=.int .i64 k/\Hid (DS w.heap.size (Lib.byteCells (91 :: (l.take k).flatMap wI)) wr)/\Hid (za w wr)) (fun i _=>l.length - (intOf i).toNat)
 case atStart=>exact ⟨0,Em _,rfl,U,V⟩
 clear U V
 case round=>
  obtain ⟨k,hk,rfl,HB,HE⟩:=hrel
  have d:(91 :: (l.take k).flatMap wI).length<=1+22*l.length:=by
   have h1:=wIs_len (l:=l.take k) fun x Q=>HN.out x (List.mem_of_mem_take Q)
   simp at h1⊢;omega
  by_cases M:k<l.length
  ·have hR:=HL.out.below HE.out;obtain ⟨A',c',e',-,hr⟩:=hR;injection e' with e1 e2 e3;subst e1;obtain ⟨b,off,rfl,-,D⟩:=AH hr M M;obtain ⟨x,Q⟩:=Fd (l[k]);rw [<-Q] at D;have O:BI x:=by rw [Q];exact HN.out _ (DZ _)
   have hs:(l.take (k+1)).flatMap wI=(l.take k).flatMap wI++wI x:=by rw [Ef M,List.flatMap_append,Q];simp
   have HS:=zh hs;have HX:=zh (Bl O);have HC:=zh (DD wr (HV.out.ext HE.out) O);have HR:=zh d;clear Q O hs hr e2 e3 d
   go_wp2_with fail
   refine HC.out.mono ?_;rintro e w2 ⟨rfl,K⟩;have o:=HB.out.old K;have E:(Lib.byteCells (91 :: (l.take k).flatMap wI)).length+(wI x).toArray.size<=140737488355328:=by have:=HX.out;have:=HR.out;rw [bui_len];simp at this⊢;omega
   go_wp2_with fail
   refine (wString_calls ⟨(wI x).toArray⟩ o E).mono ?_;rintro e w3 ⟨rfl,J,G⟩;rw [bui_str] at J;have a9:Hid (DS w.heap.size (Lib.byteCells (91 :: (l.take (k+1)).flatMap wI)) w3):=by rw [HS.out];exact .inr J
   have b0:Hid (za w w3):=Below.trans (HE.out.trans K) G;clear o E J G K D
   go_wp2_with fail
   go_roundw
   case rel=>exact ⟨k+1,by omega,by go_num,a9,b0⟩
   case measure=>simp [intOf];omega
  ·obtain rfl:k=l.length:=by omega
   rw [Ej] at HB d;have E:(Lib.byteCells (91 :: l.flatMap wI)).length+1<=140737488355328:=by rw [bui_len];omega
   have b1:=zh E;clear d E
   go_wp2_with fail
   refine (Dg 93 HB.out b1.out).mono ?_;rintro e w2 ⟨rfl,o,a4⟩
   have I:DS w.heap.size (Lib.byteCells (wL l)) w2:=by
    have:=o;rw [show Value.int .u8 93=Value.int .u8 (93:UInt8).toNat from rfl,bui_bytes] at this;exact .inr this
   have a8:=zh I;have a0:Hid (za w w2):=Below.trans HE.out a4;clear o I a4
   go_wp2_with fail
   refine (Dq a8.out a0.out.size).mono ?_;rintro e w3 ⟨rfl,G⟩
   go_wp2_with fail
   go_ret;exact ⟨rfl,Below.trans a0.out G⟩
theorem Dc {ok:Nat->Prop} {v:Value} (w:World) (E:zq w) (o:zk w ok v l) (D:∀x∈l,BI x) (d:l.length<=1000000000000):Calls Tryz.prog 52 #[v] w fun e w'=>e=.returned (.string ⟨(wL l).toArray⟩)/\za w w':=by
 have G:=zh (wInts_calls w E o D d);obtain ⟨A,c,rfl,-,-⟩:=o;clear E D
 go_enter Tryz.func52,Tryz.ntmps52
 go_wp2_with fail
 refine G.out.mono ?_;rintro e w1 ⟨rfl,I⟩
 go_wp2_with fail
 go_ret;exact ⟨rfl,I⟩
end
end Go.Proofs.YtjomnbdjajjgfaaGreatDoor
