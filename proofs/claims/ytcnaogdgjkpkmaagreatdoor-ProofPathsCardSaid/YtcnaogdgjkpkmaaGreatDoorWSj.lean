import Derived.Test.YtcnaogdgjkpkmaaGreatDoorWSi
import Derived.KernelRfl
set_option linter.unusedVariables false
set_option linter.unusedSimpArgs false
set_option maxRecDepth 100000
set_option maxHeartbeats 16000000
namespace Go.Proofs.YtcnaogdgjkpkmaaGreatDoor
variable {n z:Int} {S acc ch:List Int} {gb gs k:Nat} {ok:Nat->Prop} {ts u vc vp:Value}
section
open Go.RowKit Go.Shelf
attribute [local go_sem] Oper.semAt_some
attribute [local go_sem ↓] Go.wp_at_zero Go.wp_at_succ
noncomputable def openT (m:MZ) (ps:List (List Int)) (us:List Int) (t:Nat):Bool:=((m.tasks.getD t ([],[])).2).any fun x=>decide (x∈Bn m t (Bb m ps us t) us)
def tasksN (m:MZ) (ps:List (List Int)):Nat:=if cmpB m ps=true then 0 else m.tasks.length+1 - ps.length
noncomputable def openB (m:MZ) (ps:List (List Int)) (us:List Int):Bool:=(List.range (tasksN m ps)).all fun k=>openT m ps us (ps.length - 1+k)
theorem left_calls (g:Nat) (w:World):Calls Tryz.prog 131 #[.pointer (some ⟨g,0,none⟩)] w fun e w'=>e=.returned (.func (.func 143) #[] #[.pointer (some ⟨w.heap.size,0,none⟩)])/\w'=w.alloc (.cells #[.pointer (some ⟨g,0,none⟩)] 92):=by
 go_enter Tryz.func131,Tryz.ntmps131
 go_wp2;go_ret;exact ⟨rfl,rfl⟩
theorem left1_none {m:MZ} {us:List Int} {ps:List (List Int)} {g gu:Nat} {f:Value} {G:Nat->Int×Value->World->Prop} (w:World) (h:AQ w ok g m ch ps us f u ts vc vp gu) (so:SOk m ch ps) (E:w.cell? ⟨gb,0,none⟩=some (.pointer (some ⟨g,0,none⟩))) (hp:cmpB m ps=true) (n:Nat) (Q:1<=n):
  GivesB n Tryz.prog 143 #[.pointer (some ⟨gb,0,none⟩)] (fun x:Int×Value=>#[.int .i64 x.1,x.2]) G 0 w:=by
 intro l J Jx W hW M O D r L h0;have K:=zh h;clear h;have I:=zh D;clear D r;have o:=zh h0;clear h0;have rb:=zc.rule E;have SO:=zh so;clear so E L;refine callsIn_of_wp Tryz.func143 rfl trivial ?_ rfl;simp only [Tryz.ntmps143,List.size_toArray,EF,EG,Nat.reduceAdd,Nat.reduceSub,Array.replicate_succ,Array.replicate_zero,List.push_toArray,List.append_toArray,List.nil_append,List.cons_append]
 gi_wp2_with (refine ⟨trivial,?_⟩;gi_at_call 54;refine (callsIn_wide.2 (BE _ (K.out.ext hW) SO.out)).mono ?_;rintro e wA ⟨rfl,B⟩;rw [hp];have d:zc W wA:=B.below _;have hA:zc w wA:=hW.trans d)
 refine Eu (results_none rfl _ _ _) rfl ?_;exact ⟨⟨_,rfl⟩,.inl (I.out _ _ _ o.out d)⟩
theorem left1_gives' {m:MZ} {us:List Int} {ps:List (List Int)} {g gu:Nat} {f:Value} (w:World) (h:AQ w ok g m ch ps us f u ts vc vp gu) (so:SOk m ch ps) (d:w.cell? ⟨gb,0,none⟩=some (.pointer (some ⟨g,0,none⟩))) (n:Nat) (o:1<=n):
  GivesB n Tryz.prog 143 #[.pointer (some ⟨gb,0,none⟩)] (fun x:Int×Value=>#[.int .i64 x.1,x.2]) (fun k x W=>x.1=((ps.length - 1+k:Nat):Int)/\zn W (fun _=>True) x.2 (Bb m ps us (ps.length - 1+k))) (tasksN m ps) w:=by
 unfold tasksN;by_cases hp:cmpB m ps=true
 ·rw [if_pos hp];exact left1_none w h so d hp n o
 ·rw [if_neg hp];exact left1_gives w h so d (by simpa using hp) n o
theorem AG.apart {w:World} {size n b:Nat} {A:Option Addr} {xs:List Value} {r:Loop} (h:AG w ok size A n xs) (E:0<size) (B:w.heap[b]?=some (.loop r)):AG w (fun k=>ok k/\k≠b) size A n xs:=by
 refine ⟨h.1,fun o=>?_⟩;obtain ⟨k,off,e,D,d⟩:=h.2 o;have h0:0<xs.length:=by rw [h.1];exact Nat.mul_pos o E
 refine ⟨k,off,e,⟨D,?_⟩,d⟩;rintro rfl;have h1:=d 0 _ (DA h0);unfold World.cell? at h1;simp only [B] at h1;cases h1
theorem zn.apart {w:World} {ok:Nat->Prop} {v:Value} {l:List Int} {b:Nat} {r:Loop} (h:zn w ok v l) (d:w.heap[b]?=some (.loop r)):zn w (fun k=>ok k/\k≠b) v l:=by
 obtain ⟨A,c,e,o,B⟩:=h;exact ⟨A,c,e,o,B.apart (by decide) d⟩
theorem zN:Tryz.prog.follows .mixedOrders=true:=by kernel_rfl
theorem results_bool {fn:Func} {p w2:Nat} {b:Bool} (h:fn.results=#[.cell p 4]) (tmps:Array Value) (w:World) (hp:tmps.getD p undef=.pointer (some ⟨w2,0,none⟩)) (o:w.cell? ⟨w2,0,none⟩=some (.bool b)):(results fn tmps).run Tryz.prog w=.ok (.bool b) w:=by
 have d:tmps[p]?.getD undef=.pointer (some ⟨w2,0,none⟩):=by simpa using hp
 simp [results,h,d,asAddr,go_sem,o]
theorem tasksN_lt {m:MZ} {ps:List (List Int)} {t:Nat} (so:SOk m ch ps) (d:k<tasksN m ps) (ht:t=ps.length - 1+k):t<m.tasks.length:=by
 unfold tasksN at d
 split at d
 ·omega
 ·rename_i h
  have h0:0<m.tasks.length:=by
   rcases Em m.tasks.length with h0 | h0
   ·exfalso;apply h;unfold cmpB;rw [DF h0];rfl
   ·exact h0
  have:=so.pn h0;have:=so.pl;omega
theorem fromL_len {m:MZ} {us:List Int} {ps:List (List Int)} {t:Nat} (so:SOk m ch ps) (ht:t<m.tasks.length):(Bb m ps us t).length<=20000000000000:=by
 unfold Bb
 split
 ·simp
 ·refine DE (Ef _ _) ?_;rw [DB,DA ht,Eh];have:=(so.lens.tl _ (DD ht)).1;omega
structure JO (W0:World) (g gu:Nat) (m:MZ) (frm us:List Int) (t:Nat) (x2 MV:Value) (e:Nat->Bool) (v:Nat->Value) (W:World):Prop where
 ext:zc W0 W
 v0:e 0=true->v 0=.pointer (some ⟨g,0,none⟩)
 v1:e 1=true->v 1=.pointer (some ⟨g,0,none⟩)
 v2:e 2=true->v 2=.pointer (some ⟨g,0,none⟩)
 v3:e 3=true->v 3=MV
 v4:e 4=true->v 4=.int .i64 (t:Int)
 v5:e 5=true->v 5=x2
 v6:e 6=true->v 6=.pointer (some ⟨g,0,none⟩)
 v7:e 7=true->v 7=.pointer (some ⟨g,0,none⟩)
 v8:e 8=true->v 8=.pointer (some ⟨g,8,none⟩)
 v9:e 9=true->v 9=.map (some gu)
 call:e 10=true->∃gs s,v 10=.map (some gs)/\W0.heap.size<=gs/\zB W gs s/\∀x,x∈s↔RP m t frm us x
 al:e 11=true->∃g5,v 11=.pointer (some ⟨g5,0,none⟩)/\W0.heap.size<=g5/\(e 12=false->zj W g5 95 #[.map none])/\(e 12=true->W.cell? ⟨g5,0,none⟩=some (v 10))
 d12:e 12=true->e 10=true/\e 11=true
section
variable {W0 W W':World} {g gu:Nat} {m:MZ} {frm us:List Int} {t:Nat} {x2 MV:Value} {e:Nat->Bool} {v:Nat->Value}
theorem JO.n12 (h:JO W0 g gu m frm us t x2 MV e v W) (d:e 10=false):e 12=false:=notT (fun a=>(h.d12 a).1) d
theorem JO.n12' (h:JO W0 g gu m frm us t x2 MV e v W) (d:e 11=false):e 12=false:=notT (fun a=>(h.d12 a).2) d
theorem JO.init (he:∀j∈[0,1,2,3,4,5,6,7,8,9,10,11,12],e j=false):JO W0 g gu m frm us t x2 MV e v { W0 with drawn:=W0.drawn+1 }:=
 ⟨Cv,fun a=>ff (he 0 (by simp)) a,fun a=>ff (he 1 (by simp)) a,fun a=>ff (he 2 (by simp)) a,fun a=>ff (he 3 (by simp)) a,fun a=>ff (he 4 (by simp)) a,fun a=>ff (he 5 (by simp)) a,fun a=>ff (he 6 (by simp)) a,fun a=>ff (he 7 (by simp)) a,fun a=>ff (he 8 (by simp)) a,fun a=>ff (he 9 (by simp)) a,fun a=>ff (he 10 (by simp)) a,fun a=>ff (he 11 (by simp)) a,fun a=>ff (he 12 (by simp)) a⟩
theorem JO.s0 (h:JO W0 g gu m frm us t x2 MV e v W):JO W0 g gu m frm us t x2 MV (zV e 0 true) (zV v 0 (.pointer (some ⟨g,0,none⟩))) W:=
 ⟨h.ext,fun _=>rfl,h.v1,h.v2,h.v3,h.v4,h.v5,h.v6,h.v7,h.v8,h.v9,h.call,h.al,h.d12⟩
theorem JO.s1 (h:JO W0 g gu m frm us t x2 MV e v W):JO W0 g gu m frm us t x2 MV (zV e 1 true) (zV v 1 (.pointer (some ⟨g,0,none⟩))) W:=
 ⟨h.ext,h.v0,fun _=>rfl,h.v2,h.v3,h.v4,h.v5,h.v6,h.v7,h.v8,h.v9,h.call,h.al,h.d12⟩
theorem JO.s2 (h:JO W0 g gu m frm us t x2 MV e v W):JO W0 g gu m frm us t x2 MV (zV e 2 true) (zV v 2 (.pointer (some ⟨g,0,none⟩))) W:=
 ⟨h.ext,h.v0,h.v1,fun _=>rfl,h.v3,h.v4,h.v5,h.v6,h.v7,h.v8,h.v9,h.call,h.al,h.d12⟩
theorem JO.s3 (h:JO W0 g gu m frm us t x2 MV e v W):JO W0 g gu m frm us t x2 MV (zV e 3 true) (zV v 3 (MV)) W:=
 ⟨h.ext,h.v0,h.v1,h.v2,fun _=>rfl,h.v4,h.v5,h.v6,h.v7,h.v8,h.v9,h.call,h.al,h.d12⟩
theorem JO.s4 (h:JO W0 g gu m frm us t x2 MV e v W):JO W0 g gu m frm us t x2 MV (zV e 4 true) (zV v 4 (.int .i64 (t:Int))) W:=
 ⟨h.ext,h.v0,h.v1,h.v2,h.v3,fun _=>rfl,h.v5,h.v6,h.v7,h.v8,h.v9,h.call,h.al,h.d12⟩
theorem JO.s5 (h:JO W0 g gu m frm us t x2 MV e v W):JO W0 g gu m frm us t x2 MV (zV e 5 true) (zV v 5 (x2)) W:=
 ⟨h.ext,h.v0,h.v1,h.v2,h.v3,h.v4,fun _=>rfl,h.v6,h.v7,h.v8,h.v9,h.call,h.al,h.d12⟩
theorem JO.s6 (h:JO W0 g gu m frm us t x2 MV e v W):JO W0 g gu m frm us t x2 MV (zV e 6 true) (zV v 6 (.pointer (some ⟨g,0,none⟩))) W:=
 ⟨h.ext,h.v0,h.v1,h.v2,h.v3,h.v4,h.v5,fun _=>rfl,h.v7,h.v8,h.v9,h.call,h.al,h.d12⟩
theorem JO.s7 (h:JO W0 g gu m frm us t x2 MV e v W):JO W0 g gu m frm us t x2 MV (zV e 7 true) (zV v 7 (.pointer (some ⟨g,0,none⟩))) W:=
 ⟨h.ext,h.v0,h.v1,h.v2,h.v3,h.v4,h.v5,h.v6,fun _=>rfl,h.v8,h.v9,h.call,h.al,h.d12⟩
theorem JO.s8 (h:JO W0 g gu m frm us t x2 MV e v W):JO W0 g gu m frm us t x2 MV (zV e 8 true) (zV v 8 (.pointer (some ⟨g,8,none⟩))) W:=
 ⟨h.ext,h.v0,h.v1,h.v2,h.v3,h.v4,h.v5,h.v6,h.v7,fun _=>rfl,h.v9,h.call,h.al,h.d12⟩
theorem JO.s9 (h:JO W0 g gu m frm us t x2 MV e v W):JO W0 g gu m frm us t x2 MV (zV e 9 true) (zV v 9 (.map (some gu))) W:=
 ⟨h.ext,h.v0,h.v1,h.v2,h.v3,h.v4,h.v5,h.v6,h.v7,h.v8,fun _=>rfl,h.call,h.al,h.d12⟩
theorem JO.s10 {s:List Int} (h:JO W0 g gu m frm us t x2 MV e v W) (d:e 12=false) (r:zc W W') (D:W0.heap.size<=gs) (E:zB W' gs s) (o:∀x,x∈s↔RP m t frm us x):
  JO W0 g gu m frm us t x2 MV (zV e 10 true) (zV v 10 (.map (some gs))) W':=
 ⟨h.ext.trans r,h.v0,h.v1,h.v2,h.v3,h.v4,h.v5,h.v6,h.v7,h.v8,h.v9,fun _=>⟨gs,s,rfl,D,E,o⟩,fun a=>(by
  obtain ⟨g5,h1,h2,B,_⟩:=h.al a;exact ⟨g5,h1,h2,fun _=>(B d).ext r,fun b=>ff (b:=e 12) d b⟩),fun a=>ff (b:=e 12) d a⟩
theorem JO.s11 (h:JO W0 g gu m frm us t x2 MV e v W) (d:e 12=false):
  JO W0 g gu m frm us t x2 MV (zV e 11 true) (zV v 11 (.pointer (some ⟨W.heap.size,0,none⟩))) (W.alloc (.cells #[.map none] 95)):=
 ⟨h.ext.alloc _,h.v0,h.v1,h.v2,h.v3,h.v4,h.v5,h.v6,h.v7,h.v8,h.v9,fun a=>(by
  obtain ⟨gs,s,h1,h2,o,r⟩:=h.call a;exact ⟨gs,s,h1,h2,o.below ((zc.refl _).alloc _),r⟩),fun _=>⟨_,rfl,h.ext.size,fun _=>zj.new _ _ _ rfl,fun b=>ff (b:=e 12) d b⟩,fun a=>ff (b:=e 12) d a⟩
theorem JO.s12 {g5:Nat} {x:Value} (h:JO W0 g gu m frm us t x2 MV e v W) (o:v 11=.pointer (some ⟨g5,0,none⟩)) (d:v 10=.map (some gs)) (I:W0.heap.size<=g5) (G:zj W g5 95 #[.map none]) (r:e 10=true) (B:e 11=true):
  JO W0 g gu m frm us t x2 MV (zV e 12 true) (zV v 12 x) (W.setCell ⟨g5,0,none⟩ (.map (some gs))):=
 ⟨h.ext.setCell (p:=⟨g5,0,none⟩) I _,h.v0,h.v1,h.v2,h.v3,h.v4,h.v5,h.v6,h.v7,h.v8,h.v9,fun a=>(by
  obtain ⟨gs',s,h1,h2,E,J⟩:=h.call a;refine ⟨gs',s,h1,h2,?_,J⟩;have D:g5≠gs':=blk_set_ne G E
  exact (DL W ⟨g5,0,none⟩ _ gs' (fun e=>D e.symm)).trans E),fun _=>⟨g5,o,I,fun a=>(by cases a),fun _=>by
   show _=some (v 10);rw [d];exact (G.set (k:=0) _).cell (k:=0) rfl⟩,fun _=>⟨r,B⟩⟩
end
theorem open_calls {m:MZ} {us:List Int} {ps:List (List Int)} {g gu:Nat} {f:Value} (w:World) (h:AQ w ok g m ch ps us f u ts vc vp gu) (so:SOk m ch ps):
  Calls Tryz.prog 93 #[.pointer (some ⟨g,0,none⟩)] w fun e w'=>e=.returned (.bool (openB m ps us))/\zc w w':=by
 refine (callsIn_wide (n:=6)).1 ?_;have HS:=zh h;have SO:=zh so;obtain ⟨r0,r1,r2,r3,r4,r5,r6,r7,r8⟩:=h.rules;clear h;refine callsIn_of_wp_marks Tryz.func93 rfl trivial ?_ rfl;simp only [Tryz.ntmps93,List.size_toArray,EF,EG,Nat.reduceAdd,Nat.reduceSub,Array.replicate_succ,Array.replicate_zero,List.push_toArray,List.append_toArray,List.nil_append,List.cons_append]
 gi_wp2_with (refine ⟨trivial,?_⟩;gi_at_call 131;refine (callsIn_wide.2 (left_calls _ _)).mono ?_;rintro e w1 ⟨rfl,rfl⟩)
 obtain ⟨w1,a1⟩:=EH (((w.alloc (.cells #[.pointer (some ⟨g,0,none⟩)] 92)).alloc (.cells #[.bool false] 4)).alloc (.cells #[.pointer (some ⟨g,0,none⟩)] 92));rw [<-a1];have a4:zc w w1:=by rw [a1];exact (((zc.refl w).alloc _).alloc _).alloc _
 have j4:w1.heap.size=w.heap.size+3:=by rw [a1];simp
 have g1:w1.cell? ⟨w.heap.size,0,none⟩=some (.pointer (some ⟨g,0,none⟩)):=by
  rw [a1];exact zc.cell (zQ w _ _ rfl) (((zc.refl _).alloc _).alloc _)
 have c6:w1.cell? ⟨w.heap.size+1,0,none⟩=some (.bool false)/\w1.frozen? ⟨w.heap.size+1,0,none⟩=false:=by
  rw [a1];constructor
  ·exact zc.cell (zQ _ _ _ (by simp)) ((zc.refl _).alloc _)
  ·rw [World.frozen?_alloc_past _ _ _ (by simp)];exact World.frozen?_alloc_at _ _ _ _ (by simp)
 have b7:w1.cell? ⟨w.heap.size+1+1,0,none⟩=some (.pointer (some ⟨g,0,none⟩)):=by
  rw [a1];exact zQ _ _ _ (by simp)
 clear a1;have rb:=zc.rule g1;obtain ⟨tn0,i2⟩:=EH (ps.length - 1);obtain ⟨w2,b4⟩:=EH (w.heap.size+1);rw [<-b4] at c6⊢;have U:w2<w1.heap.size:=by omega
 have e1:=zh b4;rw [<-b4] at b7;clear b4
 refine wpIn_loopB (gf:=143) (lb:=#[.pointer (some ⟨w2+1,0,none⟩)]) rfl (enters_of Tryz.func143 (by kernel_rfl) rfl) (left1_gives' w1 (HS.out.ext a4) SO.out b7 _ (by omega)) (zc.refl w1) (fun _=>rfl)
  (fun k W=>zc w1 W/\(∀j,j<k->openT m ps us (ps.length - 1+j)=true)/\W.frozen? ⟨w2,0,none⟩=false/\∃b,W.cell? ⟨w2,0,none⟩=some (.bool b))
  (fun c W=>c=.ret/\zc w W/\W.cell? ⟨w2,0,none⟩=some (.bool false)/\openB m ps us=false)
  ?hI ?hIx ?hG ⟨zc.refl w1,fun _ h=>absurd h (by omega),c6.2,_,c6.1⟩ (fun x=>{ tmps:=#[Value.pointer (some ⟨g,0,none⟩),Value.pointer (some ⟨w.heap.size,0,none⟩),Value.pointer (some ⟨w2,0,none⟩),.int .i64 x.1,x.2,undef,Value.pointer (some ⟨g,0,none⟩),
    Value.func (Fn.func 143) #[] #[Value.pointer (some ⟨w2+1,0,none⟩)],.int .i64 x.1,x.2,undef,undef,undef,undef,undef,undef,undef,undef,undef,undef,undef,undef,undef,undef,undef,undef,undef,undef,undef,undef,undef,undef,undef],defers:=[] }) ?assign ?body ?done ?stop
 case hI=>
  rintro k A B ⟨h1,h2,h3,b,h4⟩ a3;have Q:=U;exact ⟨Below.trans h1 a3,h2,(a3.frozen (p:=⟨w2,0,none⟩) Q).trans h3,b,(a3.cell (p:=⟨w2,0,none⟩) Q).trans h4⟩
 case hIx=>
  rintro c A B ⟨h1,h2,h3,h4⟩ a3;have Q:=U;exact ⟨h1,Below.trans h2 (a3.mono a4.size),(a3.cell (p:=⟨w2,0,none⟩) Q).trans h3,h4⟩
 case hG=>
  rintro k x A l ⟨h1,h2⟩ i8 i9 ⟨r,hr⟩ o;exact ⟨h1,((h2.apart hr).keep fun b hb Q=>World.putObj_heap_other hb.2).weaken fun _ h=>h.1⟩
 case assign=>
  intro l x W K E
  gi_wp2
  exact E
 case body=>
  rintro l k ⟨x1,x2⟩ W0 hk ⟨O,a2,hfz,b,a6⟩ ⟨d6,b5⟩ j1;dsimp only at d6 b5⊢;obtain ⟨t,ht⟩:=EH (ps.length - 1+k);rw [<-ht] at d6 b5;subst d6;have L:zc w W0:=a4.trans O;have HX:=zh b5;clear b5;obtain ⟨frm,b0⟩:=EH (Bb m ps us t);rw [<-b0] at HX;have b6:=zh b0;clear b0;have b2:t<m.tasks.length:=tasksN_lt SO.out hk ht;have h5:t<m.free.length:=by rw [SO.out.good.fl];exact b2
  have i7:frm.length<=20000000000000:=by rw [b6.out];exact fromL_len SO.out b2
  have g7:=HS.out.maze;obtain ⟨fr',up',ts',a7,_,_,f1⟩:=g7;injection a7 with a7;injection a7 with a7;simp only [List.cons.injEq,and_true,true_and] at a7;obtain ⟨rfl,rfl,rfl⟩:=a7;have f7:=zh f1;obtain ⟨vst,⟨At,ct,rfl,i6,_⟩,_⟩:=f1;obtain ⟨bt,offt,sn,u1,u2,rfl,_,e8,g6,f0,g4,c8⟩:=BK f7.out b2;have b8:=(SO.out.lens.tl _ (DD b2)).2;obtain ⟨tl2,d5⟩:=EH ((m.tasks[t]).2);rw [<-d5] at c8 b8;have f6:=zh d5;clear d5 g4 e8 g6;have f4:=zh c8;obtain ⟨A5,c5,rfl,a5,_⟩:=c8;have q2:=zc.rule f0;clear f0;have j3:(t:Int)<(m.tasks.length:Int):=by omega
  have i1:(0:Int)<=(t:Int):=by omega
  have j2:=SO.out.good.tk;obtain ⟨MV,e5⟩:=EH (Value.agg #[.int .i64 m.w,.int .i64 m.h,.int .i64 m.l,f,u,.slice (some ⟨bt,offt,none⟩) m.tasks.length ct]);have HT:=zh ht;clear ht;have d8:=zh a2;clear a2;have e0:=zh hfz;clear hfz;have d9:=zh a6;clear a6
  gi_wp2
  refine wpIn_region_any zN ?_;simp only [List.size_toArray,EF,EG,Nat.reduceAdd,Array.replicate_succ,Array.replicate_zero,List.push_toArray,List.nil_append,List.cons_append];refine wpAnyIn_by_invF _ _ (by kernel_rfl) [0,1,2,3,4,5,6,7,8,9,10,11,12] (fun e v W=>JO W0 g gu m frm us t x2 MV e v W) (F:=?F1) (by kernel_rfl) (by kernel_rfl) (by decide) (fun v=>?hF1) ?init1 (by kernel_rfl) ?steps1 ?fin1
  case hF1=>(simp only [zE,Bt,List.getElem?_toArray,List.getElem?_cons_succ,List.getElem?_cons_zero,Option.bind,Act.put,List.setIfInBounds_toArray,List.set_cons_succ,List.set_cons_zero];rfl)
  case init1=>
   intro e v he;exact JO.init he
  case steps1=>
   refine zi.cons rfl (fun e v W K d hW he I E=>?_) ?_
   ·simp only [za] at I E⊢;have J:zc w W:=L.trans d.ext;have G:zc w1 W:=O.trans d.ext;go_simp;exact E.out _ _ _ (by rfl) trivial d.s0
   refine zi.cons rfl (fun e v W K d hW he I E=>?_) ?_
   ·simp only [za] at I E⊢;have J:zc w W:=L.trans d.ext;have G:zc w1 W:=O.trans d.ext;have v0:=d.v0 (zo I [0] (by kernel_rfl) 0 (by simp));go_simp;exact E.out _ _ _ (by simp [Act.put,v0]) trivial d.s1
   refine zi.cons rfl (fun e v W K d hW he I E=>?_) ?_
   ·simp only [za] at I E⊢;have J:zc w W:=L.trans d.ext;have G:zc w1 W:=O.trans d.ext;have v1:=d.v1 (zo I [1] (by kernel_rfl) 1 (by simp));go_simp;exact E.out _ _ _ (by simp [Act.put,v1]) trivial d.s2
   refine zi.cons rfl (fun e v W K d hW he I E=>?_) ?_
   ·simp only [za] at I E⊢;have J:zc w W:=L.trans d.ext;have G:zc w1 W:=O.trans d.ext;have v2:=d.v2 (zo I [2] (by kernel_rfl) 2 (by simp));go_simp;exact E.out _ _ _ (by simp [Act.put,v2,e5]) trivial d.s3
   refine zi.cons rfl (fun e v W K d hW he I E=>?_) ?_
   ·simp only [za] at I E⊢;have J:zc w W:=L.trans d.ext;have G:zc w1 W:=O.trans d.ext;go_simp;exact E.out _ _ _ (by rfl) trivial d.s4
   refine zi.cons rfl (fun e v W K d hW he I E=>?_) ?_
   ·simp only [za] at I E⊢;have J:zc w W:=L.trans d.ext;have G:zc w1 W:=O.trans d.ext;go_simp;exact E.out _ _ _ (by rfl) trivial d.s5
   refine zi.cons rfl (fun e v W K d hW he I E=>?_) ?_
   ·simp only [za] at I E⊢;have J:zc w W:=L.trans d.ext;have G:zc w1 W:=O.trans d.ext;go_simp;exact E.out _ _ _ (by rfl) trivial d.s6
   refine zi.cons rfl (fun e v W K d hW he I E=>?_) ?_
   ·simp only [za] at I E⊢;have J:zc w W:=L.trans d.ext;have G:zc w1 W:=O.trans d.ext;have v6:=d.v6 (zo I [6] (by kernel_rfl) 6 (by simp));go_simp;exact E.out _ _ _ (by simp [Act.put,v6]) trivial d.s7
   refine zi.cons rfl (fun e v W K d hW he I E=>?_) ?_
   ·simp only [za] at I E⊢;have J:zc w W:=L.trans d.ext;have G:zc w1 W:=O.trans d.ext;have v7:=d.v7 (zo I [7] (by kernel_rfl) 7 (by simp));go_simp;exact E.out _ _ _ (by simp [Act.put,v7]) trivial d.s8
   refine zi.cons rfl (fun e v W K d hW he I E=>?_) ?_
   ·simp only [za] at I E⊢;have J:zc w W:=L.trans d.ext;have G:zc w1 W:=O.trans d.ext;have v8:=d.v8 (zo I [8] (by kernel_rfl) 8 (by simp));go_simp;exact E.out _ _ _ (by simp [Act.put,v8]) trivial d.s9
   refine zi.cons rfl (fun e v W K d hW he I E=>?_) ?_
   ·simp only [za] at I E⊢;have J:zc w W:=L.trans d.ext;have G:zc w1 W:=O.trans d.ext;have v3:=d.v3 (zo I [3,4,5,9] (by kernel_rfl) 3 (by simp));have v4:=d.v4 (zo I [3,4,5,9] (by kernel_rfl) 4 (by simp));have v5:=d.v5 (zo I [3,4,5,9] (by kernel_rfl) 5 (by simp));have v9:=d.v9 (zo I [3,4,5,9] (by kernel_rfl) 9 (by simp));have c0:e 12=false:=d.n12 he;go_simp;go_at_call 124;refine (reach_calls t W (HS.out.maze.below J) SO.out.good.dim h5 SO.out.good.fn (HX.out.below d.ext) (by omega) (HS.out.us.below J)).mono ?_;rintro e9 w9 ⟨s,rfl,g0,g9,b1⟩;go_simp;exact E.out _ _ _ (by simp [Act.put,v3,v4,v5,v9,e5]) trivial (d.s10 c0 g0 (by have:=d.ext.size;omega) g9 b1)
   refine zi.cons rfl (fun e v W K d hW he I E=>?_) ?_
   ·simp only [za] at I E⊢;have J:zc w W:=L.trans d.ext;have G:zc w1 W:=O.trans d.ext;have c0:e 12=false:=d.n12' he;go_simp;exact E.out _ _ _ (by rfl) trivial (d.s11 c0)
   refine zi.cons rfl (fun e v W K d hW he I E=>?_) ?_
   ·simp only [za] at I E⊢;have J:zc w W:=L.trans d.ext;have G:zc w1 W:=O.trans d.ext;have e2:e 10=true:=zo I [10,11] (by kernel_rfl) 10 (by simp);have e3:e 11=true:=zo I [10,11] (by kernel_rfl) 11 (by simp);obtain ⟨g5,a0,e7,a8,_⟩:=d.al e3;have a8:=a8 he;have hf:=fun k=>a8.frozen k
    have i5:=a8.cell (k:=0) rfl;obtain ⟨gs,s,V,g3,d4,b1⟩:=d.call e2;go_simp;exact E.out _ undef _ (by simp [Act.put,V,a0]) trivial (d.s12 a0 V e7 a8 e2 e3)
   exact zi.nil
  case fin1=>
   intro v W5 d;have v10e:=d.call rfl;obtain ⟨gs,s,V,g3,d4,b1⟩:=v10e;obtain ⟨g5,a0,e7,_,a5⟩:=d.al rfl;have a5:=a5 rfl;rw [V] at a5;have b3:zc W0 W5:=d.ext;have J:zc w W5:=L.trans b3;have G:zc w1 W5:=O.trans b3;have HJ:=zh d;clear d;have f5:=zh b1;clear b1;rw [a0];clear V a0
   have HC:=zh (AM (l:=tl2) 132 #[.pointer (some ⟨g5,0,none⟩)] (fun x=>decide (x∈s)) W5 (f4.out.below J) (by omega) (Ah (P:=Tryz.prog) Tryz.func132 (by kernel_rfl) (by kernel_rfl))
    (fun x _ wa I=>by
     have e4:zc W5 wa:=I.below _;refine (open1_calls x wa (d4.below e4) (zc.cell a5 e4)).mono ?_;rintro e wb ⟨rfl,rfl⟩;exact ⟨rfl,zG.refl _⟩))
   have b9:Hid (openT m ps us t=tl2.any fun x=>decide (x∈s)):=by
    show openT m ps us t=_;unfold openT;rw [f6.out,DB,DA b2,Eh,<-b6.out];congr 1;funext x;rw [decide_eq_decide,BT SO.out.good.dim];exact (f5.out x).symm
   generalize (tl2.any fun x=>decide (x∈s))=bb at HC b9;clear d4 a5
   cases bb with
   | true=>
    gi_wp2_with fail
    refine ⟨trivial,?_⟩;refine (CallsIn.inRound l (callsIn_wide.2 HC.out)).mono ?_;rintro e w6 ⟨rfl,a9⟩;have d7:zc W5 w6:=a9.below _;clear a9;have M:zc W0 w6:=b3.trans d7
    gi_wp2_with fail
    have Q:=Ee U O.size;refine ⟨M,O.trans M,fun j hj=>?_,(Below.frozen M (p:=⟨w2,0,none⟩) Q).trans e0.out,b,(Below.cell M (p:=⟨w2,0,none⟩) Q).trans d9.out⟩;rcases DZ j k with h | h
    ·exact d8.out j h
    ·rw [show j=k from by omega,<-HT.out];exact b9.out
   | false=>
    gi_wp2_with fail
    refine ⟨trivial,?_⟩;refine (CallsIn.inRound l (callsIn_wide.2 HC.out)).mono ?_;rintro e w6 ⟨rfl,a9⟩;have d7:zc W5 w6:=a9.below _;clear a9;have M:zc W0 w6:=b3.trans d7;have Q:=Ee U O.size;have e6:w6.cell? ⟨w2,0,none⟩=some (.bool b):=(Below.cell M (p:=⟨w2,0,none⟩) Q).trans d9.out;have h8:w6.frozen? ⟨w2,0,none⟩=false:=(Below.frozen M (p:=⟨w2,0,none⟩) Q).trans e0.out;have c7:w.heap.size<=w2:=by have:=e1.out;omega
    gi_wp2_with fail
    refine ⟨fun k' h1 h2=>(DL w6 ⟨w2,0,none⟩ _ k' (by show k'≠w2;omega)).trans (M.block k' h2),rfl,(L.trans M).setCell (p:=⟨w2,0,none⟩) c7 _,World.cell?_setCell_same' _ _ _ (by rw [e6];rfl),?_⟩;unfold openB;rw [List.all_eq_false];exact ⟨k,Ez.2 hk,by rw [<-HT.out,b9.out];simp⟩
 case done=>
  rintro D W hD ⟨O,a2,hfz,b,a6⟩ E;have b8:w2<W.heap.size:=Ee U O.size
  gi_wp2
  refine ⟨by simp,.inl ⟨_,_,rfl,run_takeDeferred ((DL W ⟨w2,0,none⟩ _ D (by show D≠w2;omega)).trans E),?_⟩⟩;have c9:w2≠D:=by omega
  refine ⟨_,results_bool (w2:=w2) (b:=true) rfl _ _ rfl ?_,zk ?_,?_⟩
  ·exact (DS (World.putObj_heap_other c9)).trans (World.cell?_setCell_same' _ _ _ (by rw [a6];rfl))
  ·unfold openB;symm;rw [ED];exact fun j hj=>a2 j (Ez.1 hj)
  ·have c7:w.heap.size<=w2:=by have:=e1.out;omega
   exact ((a4.trans O).setCell (p:=⟨w2,0,none⟩) c7 _).trans (belowK_b (w:=w) (DC _) _ D _ _ (by have:=a4.size;omega) ((DL W ⟨w2,0,none⟩ _ D (by show D≠w2;omega)).trans E) rfl rfl)
 case stop=>
  rintro D c W hD ⟨rfl,O,a6,g8⟩ E
  gi_wp2
  refine ⟨by simp,.inl ⟨_,_,rfl,run_takeDeferred E,?_⟩⟩;have c9:w2≠D:=by omega
  refine ⟨_,results_bool (w2:=w2) (b:=false) rfl _ _ rfl ?_,zk g8.symm,?_⟩
  ·exact (DS (World.putObj_heap_other c9)).trans a6
  ·exact Below.trans O (belowK_b (w:=w) (DC _) _ D _ _ (by have:=a4.size;omega) E rfl rfl)
end
section
open Go.RowKit
def Ad (m:MZ) (ch:List Int):List (List Int):=ch.foldl (AY m) (ps0 m)
def Bc (m:MZ) (ch:List Int):List Int:=BZ m (Ad m ch) ch
def AR (m:MZ) (ch:List Int):Bool:=cmpB m (Ad m ch)
noncomputable def Bu (m:MZ) (ch:List Int):Bool:=openB m (Ad m ch) ch
theorem psOf_nil (m:MZ):Ad m []=ps0 m:=rfl
theorem CR (m:MZ) (ch:List Int) (n:Int):Ad m (ch++[n])=AY m (Ad m ch) n:=by simp [Ad,List.foldl_append]
section
variable {m:MZ} {ps:List (List Int)} {us us':List Int}
theorem dec_congr (h:∀x,x∈us↔x∈us') (n:Int):decide (n∈us)=decide (n∈us'):=by rw [decide_eq_decide];exact h n
theorem candL_congr (h:∀x,x∈us↔x∈us'):BZ m ps us=BZ m ps us':=by
 unfold BZ;simp only [zL,dec_congr h]
 have:(fun n=>zL m us (ps.length - 1) (ps.getD (ps.length - 1) []).dropLast (m.tasks.getD (ps.length - 1) ([],[])).1 n)=(fun n=>zL m us' (ps.length - 1) (ps.getD (ps.length - 1) []).dropLast (m.tasks.getD (ps.length - 1) ([],[])).1 n):=by
  funext n;simp only [zL,dec_congr h]
 have h2:zL m us (ps.length - 1) (ps.getD (ps.length - 1) []).dropLast (m.tasks.getD (ps.length - 1) ([],[])).1=zL m us' (ps.length - 1) (ps.getD (ps.length - 1) []).dropLast (m.tasks.getD (ps.length - 1) ([],[])).1:=this;rw [h2]
theorem fromL_congr (h:∀x,x∈us↔x∈us') (t:Nat):Bb m ps us t=Bb m ps us' t:=by
 unfold Bb;simp only [dec_congr h]
theorem reachL_congr (h:∀x,x∈us↔x∈us') (t:Nat) (f:List Int):Bn m t f us=Bn m t f us':=by
 unfold Bn;apply List.filter_congr;intro x _;rw [decide_eq_decide];exact ⟨fun d=>d.congr (fun _=>Iff.rfl) h,fun d=>d.congr (fun _=>Iff.rfl) (fun x=>(h x).symm)⟩
theorem openB_congr (h:∀x,x∈us↔x∈us'):openB m ps us=openB m ps us':=by
 unfold openB openT;simp only [fromL_congr h,reachL_congr h]
end
inductive zw (m:MZ):List Int->Prop
 | nil:zw m []
 | snoc {ch:List Int} {n:Int}:zw m ch->n∈Bc m ch->zw m (ch++[n])
theorem Ck {m:MZ} (h:n∈Bc m ch):AR m ch=false:=by
 unfold Bc BZ at h;unfold AR
 cases d:cmpB m (Ad m ch)
 ·rfl
 ·rw [if_pos d] at h;cases h
theorem BU {m:MZ} {ps:List (List Int)} (h:cmpB m ps=false):0<m.tasks.length:=by
 rcases Em m.tasks.length with h0 | h0
 ·unfold cmpB at h;rw [DF h0] at h;cases h
 ·exact h0
structure PsOk (m:MZ) (ch:List Int) (ps:List (List Int)):Prop where
 pl:ps.length<=m.tasks.length
 pn:0<m.tasks.length->0<ps.length
 fl:ps.flatten=ch
theorem getD_mem {α:Type} {l:List (List α)} (h:k<l.length):l.getD k []∈l:=by
 rw [DB,DA h];exact DD h
theorem addN_eq {ps:List (List Int)} (hp:0<ps.length) (n:Int):∃qs p,ps=qs++[p]/\Bv ps n=qs++[p++[n]]:=by
 rcases List.eq_nil_or_concat ps with rfl | ⟨qs,p,rfl⟩
 ·simp at hp
 ·refine ⟨qs,p,by simp,?_⟩;unfold Bv;rw [List.concat_eq_append,DK,Ec,Nat.add_sub_cancel,List.set_append_right _ _ (DC _)];simp
theorem Cr {ps:List (List Int)}:(Bv ps n).length=ps.length:=by unfold Bv;simp
theorem addN_flat {ps:List (List Int)} (hp:0<ps.length) (n:Int):(Bv ps n).flatten=ps.flatten++[n]:=by
 obtain ⟨qs,p,rfl,h⟩:=addN_eq hp n;rw [h];simp
theorem withPs_flat {m:MZ} {ps:List (List Int)} (hp:0<ps.length) (n:Int):(AY m ps n).flatten=ps.flatten++[n]:=by
 unfold AY
 split
 ·rw [List.flatten_append,addN_flat hp];simp
 ·exact addN_flat hp n
theorem PsOk.step {m:MZ} {ps:List (List Int)} (h:PsOk m ch ps) (ht:0<m.tasks.length) (n:Int):PsOk m (ch++[n]) (AY m ps n):=by
 have hp:=h.pn ht;refine ⟨?_,fun _=>?_,?_⟩
 ·unfold AY
  split
  ·rename_i h1
   simp only [DK,Cr,Ec];omega
  ·rw [Cr];exact h.pl
 ·unfold AY
  split <;> simp [Cr] <;> omega
 ·rw [withPs_flat hp,h.fl]
theorem psOk_nil (m:MZ):PsOk m [] (Ad m []):=by
 rw [psOf_nil];unfold ps0
 split
 ·rename_i h;exact ⟨by simp,fun d=>by omega,rfl⟩
 ·rename_i h;exact ⟨by simp;omega,fun _=>by simp,rfl⟩
theorem zw.psOk {m:MZ} (h:zw m ch):PsOk m ch (Ad m ch):=by
 induction h with
 | nil=>exact psOk_nil m
 | snoc h d ih=>rw [CR];exact ih.step (BU (Ck d)) _
theorem mem_flat_last {ps:List (List Int)} {x:Int} (o:(ps.getD k []).getLast?=some x):x∈ps.flatten:=by
 have h1:x∈ps.getD k []:=List.mem_of_getLast? o;by_cases d:k<ps.length
 ·exact List.mem_flatten.2 ⟨_,getD_mem d,h1⟩
 ·rw [DB,DW (by omega)] at h1;cases h1
theorem cand_range {m:MZ} (g:Am m) (E:∀x∈ch,0<=x/\x<m.n) (hf:(Ad m ch).flatten=ch) (h:n∈Bc m ch):0<=n/\n<m.n/\n∉ch:=by
 have ht:=BU (Ck h);have o:=Ck h;unfold AR at o;unfold Bc BZ at h;rw [if_neg (by rw [o];simp)] at h
 split at h
 ·obtain ⟨h1,h2⟩:=Ex.1 h;have d:=mem_sortL.1 (Dp h1);simp only [DO,Bool.not_eq_true',Ea] at h2;by_cases D:(Ad m ch).length - 1<m.tasks.length
  ·rw [DB,DA D] at d;have:=g.tn _ (DD D) n (.inl d);exact ⟨this.1,this.2,h2.2⟩
  ·rw [DB,DW (by omega)] at d;cases d
 ·rename_i x G
  obtain ⟨h1,h2⟩:=Ex.1 h;have B:x∈ch:=by rw [<-hf];exact mem_flat_last G
  have r:=E x B;have d:=Bx g.dim r.1 r.2 h1;unfold zL at h2;simp only [DO,Bool.not_eq_true',Ea] at h2;exact ⟨d.1,d.2,h2.1.1.2⟩
theorem zw.range {m:MZ} (g:Am m) (h:zw m ch):(∀x∈ch,0<=x/\x<m.n)/\ch.Nodup:=by
 induction h with
 | nil=>exact ⟨fun x hx=>absurd hx Ew,List.nodup_nil⟩
 | snoc h B ih=>
  have d:=cand_range g ih.1 h.psOk.fl B;refine ⟨fun x hx=>?_,?_⟩
  ·rcases Er.1 hx with hx | hx
   ·exact ih.1 x hx
   ·rw [Ej] at hx;subst hx;exact ⟨d.1,d.2.1⟩
  ·rw [List.nodup_append];refine ⟨ih.2,by simp,fun a r b o=>?_⟩;rw [Ej] at o;subst o;rintro rfl;exact d.2.2 r
theorem zw.len {m:MZ} (g:Am m) (h:zw m ch):ch.length<=m.n.toNat:=Cn (h.range g).2 m.n (h.range g).1
theorem flat_le {ps:List (List Int)} {p:List Int} (h:p∈ps):p.length<=ps.flatten.length:=by
 induction ps with
 | nil=>cases h
 | cons q qs ih=>
  rw [List.flatten_cons,DK];rcases Ep.1 h with rfl | h
  ·omega
  ·have:=ih h;omega
theorem sok_of {m:MZ} (g:Am m) (o:Lens m) {ps:List (List Int)} (h:PsOk m ch ps) (r:∀x∈ch,0<=x/\x<m.n) (d:ch.length<=1000):SOk m ch ps:=
 ⟨g,o,h.pl,h.pn,fun p hp=>by have:=flat_le hp;rw [h.fl] at this;omega,fun p hp x B=>r x (by rw [<-h.fl];exact List.mem_flatten.2 ⟨p,hp,B⟩),d⟩
theorem zw.len300 {m:MZ} (g:Am m) (h:zw m ch):ch.length<=300:=by
 have h1:=h.len g;have h2:=g.dim.n1;have d:m.n=m.w*m.h*m.l:=rfl;omega
theorem zw.sok {m:MZ} (g:Am m) (d:Lens m) (h:zw m ch):SOk m ch (Ad m ch):=
 sok_of g d h.psOk (h.range g).1 (by have:=h.len300 g;omega)
theorem zw.sok1 {m:MZ} (g:Am m) (o:Lens m) (h:zw m ch) (d:n∈Bc m ch):SOk m (ch++[n]) (Bv (Ad m ch) n):=by
 have h1:=h.psOk;have ht:=BU (Ck d);have h2:=zw.snoc h d;refine sok_of g o ⟨by rw [Cr];exact h1.pl,fun h=>by rw [Cr];exact h1.pn h,by rw [addN_flat (h1.pn ht),h1.fl]⟩ (h2.range g).1 (by have:=h2.len300 g;omega)
theorem CM {m:MZ} (o:Lens m) (ch:List Int):(Bc m ch).length<=400000000000:=by
 unfold Bc BZ
 split
 ·simp
 ·split
  ·refine DE (Ef _ _) (DE (compact_len _) ?_);unfold Cd;rw [List.length_mergeSort];by_cases d:(Ad m ch).length - 1<m.tasks.length
   ·rw [DB,DA d];exact (o.tl _ (DD d)).1
   ·rw [DB,DW (by omega)];simp
  ·refine DE (Ef _ _) ?_;have:=BV m;exact DE (this _) (by omega)
noncomputable def aft (m:MZ) (ch:List Int) (last:Int):Option Int:=(Bc m ch).find? fun n=>decide (last<n) && Bu m (ch++[n])
noncomputable def backN (m:MZ) (ch:List Int):Nat->Option (List Int)
 | 0=>none
 | k+1=>match aft m (ch.take k) (ch.getD k 0) with
  | some n=>some (ch.take k++[n])
  | none=>backN m ch k
noncomputable def stepC (m:MZ) (ch:List Int):Option (List Int):=
 match aft m ch (-1) with
 | some n=>some (ch++[n])
 | none=>backN m ch ch.length
structure RS where
 ch:List Int
 done:Bool
 steps:Int
noncomputable def RS.one (m:MZ) (s:RS):RS:=match stepC m s.ch with
 | some c=>⟨c,AR m c,s.steps+1⟩
 | none=>⟨[],true,s.steps+1⟩
noncomputable def RS.run (m:MZ):Nat->RS->RS
 | 0,s=>s
 | n+1,s=>if s.done=true then s else RS.run m n (s.one m)
theorem RS.run_done {m:MZ} {s:RS} (h:s.done=true):∀n,RS.run m n s=s
 | 0=>rfl
 | n+1=>by simp [RS.run,h]
theorem zw.take {m:MZ} {ch:List Int} (h:zw m ch) (k:Nat):zw m (ch.take k):=by
 induction h with
 | nil=>simpa using zw.nil
 | @snoc ch n h d ih=>
  rcases DZ ch.length k with hk | hk
  ·rw [List.take_of_length_le (by simp;omega)];exact .snoc h d
  ·rw [List.take_append_of_le_length hk];exact ih
theorem zw.at {m:MZ} {ch:List Int} (h:zw m ch) {k:Nat} (d:k<ch.length):ch[k]∈Bc m (ch.take k):=by
 induction h with
 | nil=>simp at d
 | @snoc ch n h o ih=>
  rcases DZ k ch.length with h1 | h1
  ·rw [List.getElem_append_left h1,List.take_append_of_le_length (by omega)];exact ih h1
  ·have h2:k=ch.length:=by simp at d;omega
   subst h2;rw [List.getElem_append_right (DC _),List.take_append_of_le_length (DC _),DN];simpa using o
theorem aft_some {m:MZ} {last:Int} (h:aft m ch last=some n):n∈Bc m ch/\last<n/\Bu m (ch++[n])=true:=by
 unfold aft at h;have h1:=List.find?_some h;simp only [DO,DM] at h1;exact ⟨List.mem_of_find?_eq_some h,h1.1,h1.2⟩
theorem backN_some {m:MZ} {ch:List Int} (h:zw m ch):∀{k:Nat} {c:List Int},backN m ch k=some c->zw m c/\0<c.length/\Bu m c=true
 | 0,c,d=>by cases d
 | k+1,c,d=>by
  unfold backN at d
  split at d
  ·rename_i n o
   injection d with d;subst d;obtain ⟨h1,_,h2⟩:=aft_some o;exact ⟨.snoc (h.take k) h1,by simp,h2⟩
  ·exact backN_some h d
theorem stepC_some {m:MZ} {c:List Int} (h:zw m ch) (d:stepC m ch=some c):zw m c/\0<c.length/\Bu m c=true:=by
 unfold stepC at d
 split at d
 ·rename_i n o
  injection d with d;subst d;obtain ⟨h1,_,h2⟩:=aft_some o;exact ⟨.snoc h h1,by simp,h2⟩
 ·exact backN_some h d
def Bp (m:MZ) (t:Nat) (us acc:List Int) (z:Int):List Int:=if (zl m t z && !decide (z∈us) && !decide (z∈acc))=true then acc++[z] else acc
def growX (m:MZ) (t:Nat) (us S:List Int):List Int:=(S.flatMap (zu m)).foldl (Bp m t us) S
def growN (m:MZ) (t:Nat) (us:List Int):Nat->List Int->List Int
 | 0,S=>S
 | k+1,S=>growN m t us k (growX m t us S)
def start (m:MZ) (f:List Int):List Int:=f.foldl (fun acc x=>if (decide (0<=x) && decide (x<m.n) && !decide (x∈acc))=true then acc++[x] else acc) []
def reachX (m:MZ) (t:Nat) (f us:List Int):List Int:=growN m t us (m.n.toNat+1) (start m f)
section
variable {m:MZ} {t:Nat} {us f:List Int}
structure GK (m:MZ) (t:Nat) (f us S:List Int):Prop where
 nd:S.Nodup
 rg:∀x∈S,0<=x/\x<m.n
 rp:∀x∈S,RP m t f us x
theorem addIf_sub (acc:List Int) (z:Int):∀x∈acc,x∈Bp m t us acc z:=by
 intro x d;unfold Bp
 split
 ·exact List.mem_append_left _ d
 ·exact d
theorem addIf_len (acc:List Int) (z:Int):acc.length<=(Bp m t us acc z).length:=by
 unfold Bp
 split <;> simp
theorem addIf_gk (h:GK m t f us acc) (h0:0<=z/\z<m.n) (h1:zl m t z=true->z∉us->RP m t f us z):GK m t f us (Bp m t us acc z):=by
 unfold Bp
 split
 ·rename_i d
  simp only [DO,Bool.not_eq_true',Ea] at d;refine ⟨?_,fun x hx=>?_,fun x hx=>?_⟩
  ·rw [List.nodup_append];refine ⟨h.nd,by simp,fun a r b o=>?_⟩;rw [Ej] at o;rintro rfl;subst o;exact d.2 r
  ·rcases Er.1 hx with hx | hx
   ·exact h.rg x hx
   ·rw [Ej] at hx;subst hx;exact h0
  ·rcases Er.1 hx with hx | hx
   ·exact h.rp x hx
   ·rw [Ej] at hx;subst hx;exact h1 d.1.1 d.1.2
 ·exact h
theorem fold_sub:∀(l acc:List Int),∀x∈acc,x∈l.foldl (Bp m t us) acc
 | [],acc,x,d=>d
 | z :: l,acc,x,d=>fold_sub l (Bp m t us acc z) x (addIf_sub acc z x d)
theorem fold_len:∀(l acc:List Int),acc.length<=(l.foldl (Bp m t us) acc).length
 | [],acc=>DC _
 | z :: l,acc=>DE (addIf_len acc z) (fold_len l _)
theorem fold_gk:∀(l acc:List Int),GK m t f us acc->(∀z∈l,(0<=z/\z<m.n)/\(zl m t z=true->z∉us->RP m t f us z))->GK m t f us (l.foldl (Bp m t us) acc)
 | [],acc,h,_=>h
 | z :: l,acc,h,d=>fold_gk l _ (addIf_gk h (d z (En ..)).1 (d z (En ..)).2) (fun x o=>d x (DX _ o))
theorem grow_gk (d:Dim m) (h:GK m t f us S):GK m t f us (growX m t us S):=by
 refine fold_gk _ _ h fun z D=>?_
 obtain ⟨y,B,r⟩:=List.mem_flatMap.1 D;have o:=h.rg y B;exact ⟨Bx d o.1 o.2 r,fun h1 h2=>(h.rp y B).step r h1 h2⟩
def Closed (m:MZ) (t:Nat) (us S:List Int):Prop:=∀y∈S,∀z∈zu m y,zl m t z=true->z∉us->z∈S
theorem addIf_eq (h:zl m t z=true->z∉us->z∈acc):Bp m t us acc z=acc:=by
 unfold Bp;rw [if_neg];intro d;simp only [DO,Bool.not_eq_true',Ea] at d;exact d.2 (h d.1.1 d.1.2)
theorem fold_eq:∀(l acc:List Int),(∀z∈l,zl m t z=true->z∉us->z∈acc)->l.foldl (Bp m t us) acc=acc
 | [],acc,_=>rfl
 | z :: l,acc,h=>by
  rw [List.foldl_cons,addIf_eq (h z (En ..))];exact fold_eq l acc (fun x d=>h x (DX _ d))
theorem grow_closed (h:Closed m t us S):growX m t us S=S:=
 fold_eq _ _ fun z r=>by
  obtain ⟨y,o,d⟩:=List.mem_flatMap.1 r;exact h y o z d
theorem fold_more:∀(l acc:List Int),(∃z∈l,zl m t z=true/\z∉us/\z∉acc)->acc.length<(l.foldl (Bp m t us) acc).length
 | z :: l,acc,⟨x,hx,h1,h2,o⟩=>by
  rw [List.foldl_cons];rcases Ep.1 hx with rfl | hx
  ·have:(Bp m t us acc x).length=acc.length+1:=by
    unfold Bp;rw [if_pos (by simp [h1,h2,o])];simp
   have:=fold_len (m:=m) (t:=t) (us:=us) l (Bp m t us acc x);omega
  ·by_cases d:x∈Bp m t us acc z
   ·have r:acc.length<(Bp m t us acc z).length:=by
     unfold Bp at d⊢
     split
     ·simp
     ·rename_i B;rw [if_neg B] at d;exact absurd d o
    exact Ee r (fold_len l _)
   ·exact Nat.lt_of_le_of_lt (addIf_len acc z) (fold_more l _ ⟨x,hx,h1,h2,d⟩)
theorem growN_gk (d:Dim m):∀(k:Nat) {S:List Int},GK m t f us S->GK m t f us (growN m t us k S)
 | 0,S,h=>h
 | k+1,S,h=>growN_gk d k (grow_gk d h)
theorem growN_sub:∀(k:Nat) (S:List Int),∀x∈S,x∈growN m t us k S
 | 0,S,x,d=>d
 | k+1,S,x,d=>growN_sub k _ x (fold_sub _ _ x d)
theorem growN_closed {S:List Int} (h:Closed m t us S):∀k,growN m t us k S=S
 | 0=>rfl
 | k+1=>by unfold growN;rw [grow_closed h];exact growN_closed h k
theorem growN_or:∀(k:Nat) (S:List Int),Closed m t us (growN m t us k S)\/S.length+k<=(growN m t us k S).length
 | 0,S=>.inr (DC _)
 | k+1,S=>by
  by_cases h:Closed m t us S
  ·left
   rw [growN_closed h];exact h
  ·have h1:S.length<(growX m t us S).length:=by
    refine fold_more _ _ ?_;unfold Closed at h;simp only [Classical.not_forall] at h;obtain ⟨y,o,z,r,h1,h2,d⟩:=h;exact ⟨z,List.mem_flatMap.2 ⟨y,o,r⟩,h1,h2,d⟩
   rcases growN_or k (growX m t us S) with h2 | h2
   ·exact .inl h2
   ·right
    unfold growN;omega
theorem start_gk (m:MZ) (t:Nat) (us f:List Int):GK m t f us (start m f)/\∀x∈f,0<=x->x<m.n->x∈start m f:=by
 have key:∀(l acc:List Int),(∀x∈l,x∈f)->GK m t f us acc->GK m t f us (l.foldl (fun acc x=>if (decide (0<=x) && decide (x<m.n) && !decide (x∈acc))=true then acc++[x] else acc) acc)/\
   (∀x∈acc,x∈l.foldl (fun acc x=>if (decide (0<=x) && decide (x<m.n) && !decide (x∈acc))=true then acc++[x] else acc) acc)/\∀x∈l,0<=x->x<m.n->x∈l.foldl (fun acc x=>if (decide (0<=x) && decide (x<m.n) && !decide (x∈acc))=true then acc++[x] else acc) acc:=by
  intro l
  induction l with
  | nil=>intro acc _ h;exact ⟨h,fun x hx=>hx,fun x hx=>by cases hx⟩
  | cons z l ih=>
   intro acc r h;rw [List.foldl_cons];by_cases d:(decide (0<=z) && decide (z<m.n) && !decide (z∈acc))=true
   ·rw [if_pos d];simp only [DO,Bool.not_eq_true',Ea,DM] at d
    obtain ⟨h1,h2,o⟩:=ih (acc++[z]) (fun x hx=>r x (DX _ hx)) ⟨by
     rw [List.nodup_append];refine ⟨h.nd,by simp,fun a D b B=>?_⟩;rw [Ej] at B;rintro rfl;subst B;exact d.2 D,fun x hx=>by
     rcases Er.1 hx with hx | hx
     ·exact h.rg x hx
     ·rw [Ej] at hx;subst hx;exact d.1,fun x hx=>by
     rcases Er.1 hx with hx | hx
     ·exact h.rp x hx
     ·rw [Ej] at hx;subst hx;exact RP.base (r x (En ..)) d.1.1 d.1.2⟩
    refine ⟨h1,fun x hx=>h2 x (List.mem_append_left _ hx),fun x hx a b=>?_⟩;rcases Ep.1 hx with rfl | hx
    ·exact h2 x (by simp)
    ·exact o x hx a b
   ·rw [if_neg d];obtain ⟨h1,h2,o⟩:=ih acc (fun x hx=>r x (DX _ hx)) h;refine ⟨h1,h2,fun x hx a b=>?_⟩;rcases Ep.1 hx with rfl | hx
    ·refine h2 x ?_;simp only [DO,Bool.not_eq_true',Ea,DM] at d;by_cases hm:x∈acc
     ·exact hm
     ·exact absurd ⟨⟨a,b⟩,hm⟩ d
    ·exact o x hx a b
 have h:=key f [] (fun _ h=>h) ⟨List.nodup_nil,fun x hx=>absurd hx Ew,fun x hx=>absurd hx Ew⟩;exact ⟨h.1,h.2.2⟩
theorem mem_reachX (d:Dim m) (x:Int):x∈reachX m t f us↔RP m t f us x:=by
 have B:=start_gk m t us f;have o:=growN_gk (t:=t) (f:=f) (us:=us) d (m.n.toNat+1) B.1
 have D:Closed m t us (reachX m t f us):=by
  rcases growN_or (m:=m) (t:=t) (us:=us) (m.n.toNat+1) (start m f) with h | h
  ·exact h
  ·have:=Cn o.nd m.n o.rg;omega
 constructor
 ·exact fun h=>o.rp x h
 ·intro h;exact h (fun x=>x∈reachX m t f us) (fun y r h0 h1=>growN_sub _ _ y (B.2 y r h0 h1)) (fun y z r E h1 h2=>D y r z E h1 h2)
end
theorem reachL_x {m:MZ} (d:Dim m) (t:Nat) (f us:List Int):Bn m t f us=((List.range m.n.toNat).map Int.ofNat).filter fun x=>decide (x∈reachX m t f us):=by
 rw [reachL_of (fun x=>mem_reachX d x)]
end
end Go.Proofs.YtcnaogdgjkpkmaaGreatDoor
