import Derived.Test.YthbjngbhbbkkgaaGreatHRc
import Derived.Deep.AppendSrc
import Derived.Deep.AppendLies
import Derived.Deep.DeepCutAuto
import Derived.Deep.OwnRows
import Derived.BigQuiet
import Derived.Deep.RegionHeld3
import Derived.Deep.DrawnRows
set_option linter.unusedVariables false
set_option linter.unusedSimpArgs false
set_option maxRecDepth 100000
set_option maxHeartbeats 16000000
namespace Go.Proofs.YthbjngbhbbkkgaaGreat
variable {K:Act->World->Prop} {p:Addr} {ops:Array Oper} {c:Bool} {Q:Exit->Act->World->Prop} {x:Int} {from_ l l' used:List Int} {m:MZ} {B g k t:Nat} {ok:Nat->Prop} {o:Oper} {a0 a1 a2 a3 a4 a5:Value} {W a b w w2 wk:World}
section
open Go.RowKit
theorem setCells_nil (w:World) (b off:Nat):w.setCells b off []=w:=by
 unfold World.setCells;rfl
theorem Eu (w:World) (base:Nat) (t ty e:TypeId) (i:TypeInfo) (z:Value) (bytes:Nat) (O:Tryz.prog.underlying t=some (.slice e)) (U:Tryz.prog.info? e=some i) (hz:i.zero=some z)
  (D:i.size=1) (M:i.bytes=bytes) (T:z.cells.size=1)
  (v:Value) (n:Nat) (xs:List Value) (I:w.ownsRow base e 1 v n xs) (u:Value) (m:Nat) (news:List Value) (hu:AI w ok 1 u m news) (h1:∀u∈news,u.oneCell'=true)
  (L:n+m<=maxLen) (E:(n+m)*bytes<=140737488355328) (J:base<=w.heap.size):
  ∃v' w',(Builtin.append_ #[t,t] ty #[v,u]).run Tryz.prog w=.ok v' w'/\w'.ownsRow base e 1 v' (n+m) (xs++news)/\w.grownBy w' v.ownBlock/\(v'.ownBlock=v.ownBlock\/v'.ownBlock=some w.heap.size):=by
 obtain ⟨A,c,rfl,hc,hl,G⟩:=hu;rcases A with _ | a
 ·have hm:m=0:=by
   rcases Fs m with h | h
   ·exact h
   ·obtain ⟨b,off,e,_⟩:=G h;cases e
  subst hm;have hn:news=[]:=EX (by simpa using hl);subst hn;refine ⟨v,w,?_,by simpa using I,⟨rfl,rfl,rfl,EG _,fun _ _ _=>rfl⟩,.inl rfl⟩;rcases I.2 with ⟨rfl,rfl⟩ | ⟨g,cap,cur,rfl,b2,hg,b6,b3,b4,a9⟩
  ·simp [Builtin.append_,run_underlying O,sizeOf,typeInfo,U,D,Builtin.lenOf,Builtin.firstCells,loadCells,loadCellsFrom]
  ·have h:=run_append_room_src (P:=Tryz.prog) w t t ty e i O U g 0 n cap (.slice none 0 c) 0 [] (by rw [D];exact Src.ofNil w O c) (by omega) (by simp) (by simp);rw [setCells_nil] at h;simpa using h
 ·rcases Fs m with h0 | hpos
  ·subst h0;have hn:news=[]:=EX (by simpa using hl);subst hn;obtain ⟨v',w',h1,h2,h3,h4,V⟩:=run_append_own_at (P:=Tryz.prog) w base t ty e i z 1 bytes O U hz D M T (by decide) v n xs I a 0 c [] (by simp) (by simp) (by simp) L E J;exact ⟨v',w',h1,h2,h3,V⟩
  ·obtain ⟨b,off,he,_,a6⟩:=G hpos;injection he with he;subst he;obtain ⟨v',w',h1,h2,h3,h4,V⟩:=run_append_own_at (P:=Tryz.prog) w base t ty e i z 1 bytes O U hz D M T (by decide) v n xs I ⟨b,off,none⟩ m c news (by simpa using hl) (fun j u hj=>by rw [Addr.add_lit];exact a6 j u hj) h1 L E J;exact ⟨v',w',h1,h2,h3,V⟩
theorem CD {a:Act} (W:World) (s x:Operand)
  (O:o.op=.call { callee:=.builtin .append,args:=#[s,x],argTypes:=#[23,23] }) (base:Nat) (l l2:List Int) (v u:Value) (U:a.eval s=v) (V:a.eval x=u)
  (D:zD W base v l) (E:zj W ok u l2) (z:base<=W.heap.size) (hl:l.length+l2.length<=1000000000000)
  (h:∀v' w',zD w' base v' (l++l2)->Hid (W.grownBy w' v.ownBlock)->Hid (v'.ownBlock=v.ownBlock\/v'.ownBlock=some W.heap.size)->K (a.put o.dst v') w'):Oper.wp Tryz.prog o a W K Q:=by
 obtain ⟨i0,M,G,I,J⟩:=info_parts Tryz.infoInt
 obtain ⟨v',w',T,h2,h3,L⟩:=Eu (ok:=ok) W base 23 o.type 3 i0 (.int .i64 0) 8 Tryz.underlying23 M G I J rfl v _ _ D u _ _ E (by
  intro u E;obtain ⟨_,_,rfl⟩:=FH.1 E;rfl) (by unfold maxLen;omega) (by omega) z
 unfold Oper.wp execOp;simp only [O,resolve,invoke,builtin,Sem.run_bind,Sem.run_pure,Result.andThen_ok,List.map_toArray,List.map_cons,List.map_nil,U,V,T];refine h v' w' ?_ h3 L;unfold zD;rw [Fz,EO];exact h2
theorem Be {a:Act} {E:Prop} (G:o.guard=none) (W:World) (s x:Operand)
  (J:o.op=.call { callee:=.builtin .append,args:=#[s,x],argTypes:=#[23,23] }) (base:Nat) (l l2:List Int) (v u:Value) (L:a.eval s=v) (T:a.eval x=u)
  (D:zD W base v l) (M:zj W ok u l2) (z:base<=W.heap.size) (I:l.length+l2.length<=1000000000000)
  (h:∀v' w',zD w' base v' (l++l2)->Hid (W.grownBy w' v.ownBlock)->Hid (v'.ownBlock=v.ownBlock\/v'.ownBlock=some W.heap.size)->K (a.put o.dst v') w'):
  if Region.wanted o (yielded ops a.tmps)=true then Oper.wp Tryz.prog o a W K Q else E:=by
 have O:Region.wanted o (yielded ops a.tmps)=true:=by simp [Region.wanted,G]
 rw [if_pos O];exact CD W s x J base l l2 v u L T D M z I h
theorem BP {rest:List Oper} {a:Act} (E:o.guard=none) (W:World) (s x:Operand)
  (J:o.op=.call { callee:=.builtin .append,args:=#[s,x],argTypes:=#[23,23] }) (base:Nat) (l l2:List Int) (v u:Value) (L:a.eval s=v) (O:a.eval x=u)
  (D:zD W base v l) (M:zj W ok u l2) (z:base<=W.heap.size) (I:l.length+l2.length<=1000000000000)
  (h:∀v' w',zD w' base v' (l++l2)->Hid (W.grownBy w' v.ownBlock)->Hid (v'.ownBlock=v.ownBlock\/v'.ownBlock=some W.heap.size)->wpList Tryz.prog ops Q rest (a.put o.dst v') w'):wpList Tryz.prog ops Q (o :: rest) a W:=by
 refine wpList_plain E fun K G=>?_
 exact CD W s x J base l l2 v u L O D M z I fun v' w' h1 h2 h3=>G _ _ (h v' w' h1 h2 h3)
theorem Bg {v:Value} (h:zD W B v l) (z:v.ownBlock=some k):B<=k:=by
 rcases h.2 with ⟨rfl,_⟩ | ⟨g,cap,cur,rfl,D,_⟩
 ·cases z
 ·have z:some g=some k:=z;injection z with z;omega
theorem Dg (W:World) (B:Nat) (z:B<=W.heap.size):zD (W.alloc (.cells #[] 3)) B (.slice (some ⟨W.heap.size,0,none⟩) 0 0) []:=
 ⟨rfl,.inr ⟨W.heap.size,0,#[],rfl,z,Fu W _,EG _,by decide,rfl,rfl⟩⟩
theorem Ad {w':World} {v:Value} (h:Below B a W) (D:Hid (W.grownBy w' v.ownBlock)) (z:B<=W.heap.size) (E:∀k,v.ownBlock=some k->B<=k):Below B a w':=h.grown D.out z E
def zb (w w':World):Prop:=Below w.heap.size w w'
theorem zb.refl (w:World):zb w w:=Below.refl _ _
theorem zb.trans {c:World} (h:zb a b) (z:zb b c):zb a c:=BC h z (EG _)
theorem zb.alloc {a b:World} (h:zb a b) (o:Obj):zb a (b.alloc o):=Below.alloc h h.size o
theorem zb.drew {a b:World} (h:zb a b):zb a b.drew:=Below.drew h
theorem zb.drewN {a b:World} (h:zb a b) (n:Nat):zb a (b.drewN n):=CS h n
theorem zb.cell {w W:World} {p:Addr} {v:Value} (h:w.cell? p=some v) (hW:zb w W):W.cell? p=some v:=(Below.cell hW (zo h)).trans h
theorem zb.rule {v:Value} (h:w.cell? p=some v):∀W,zb w W->W.cell? p=some v:=fun _ hW=>hW.cell h
theorem zb.lt (h:zb w W) (z:g<w.heap.size):g<W.heap.size:=Fh z h.size
theorem zS (w:World):∀W o,zb w W->zb w (W.alloc o):=fun _ o h=>h.alloc o
structure Mk (w1 w:World) (v:Value) (l:List Int):Prop where
 own:zD w w1.heap.size v l
 ext:zb w1 w
theorem Mk.nil (w1:World):Mk w1 w1 (.slice none 0 0) []:=⟨World.ownsRow_nil _ _ _ _,zb.refl _⟩
theorem Mk.nil' {w1:World} (h:zb w1 w):Mk w1 w (.slice none 0 0) []:=⟨World.ownsRow_nil _ _ _ _,h⟩
theorem Mk.app {w1 w':World} {v v':Value} (h:Mk w1 w v l) (E:zD w' w1.heap.size v' l') (z:Hid (w.grownBy w' v.ownBlock)):Mk w1 w' v' l':=
 ⟨E,Ad h.ext z h.ext.size (fun k D=>Bg h.own D)⟩
theorem Mk.more {w1 w':World} {v:Value} (h:Mk w1 w v l) (z:zb w w'):Mk w1 w' v l:=
 ⟨h.own.kept (row:=none) ⟨z.os,z.tape,z.output,z.size,fun i D _=>z.block i D⟩ (by cases h:v.ownBlock <;> simp),h.ext.trans z⟩
theorem Mk.alloc {w1 w:World} {v:Value} {l:List Int} (h:Mk w1 w v l) (o:Obj):Mk w1 (w.alloc o) v l:=h.more ((zb.refl _).alloc o)
theorem Mk.drew {w1 w:World} {v:Value} {l:List Int} (h:Mk w1 w v l):Mk w1 w.drew v l:=⟨h.own,h.ext.drew⟩
theorem Mk.drewN {w1 w:World} {v:Value} {l:List Int} (h:Mk w1 w v l) (n:Nat):Mk w1 (w.drewN n) v l:=⟨h.own,h.ext.drewN n⟩
theorem Mk.cast {w1:World} {v:Value} (h:Mk w1 w v l) (e:l'=l):Mk w1 w v l':=e ▸ h
theorem Mk.ints {w1:World} {v:Value} (h:Mk w1 w v l):zj w (fun b=>w1.heap.size<=b) v l:=AI.of_own h.own
theorem Mk.slice {w1 w:World} {v:Value} {l:List Int} (h:Mk w1 w v l):∃A c,v=.slice A l.length c/\l.length<=c:=by
 obtain ⟨A,c,e,z,_⟩:=h.ints;exact ⟨A,c,e,z⟩
theorem zb.mono_mk {w1 w':World} {v:Value} (h:zb w w1) (hm:Mk w1 w' v l):Mk w w' v l:=⟨hm.own.mono h.size,h.trans hm.ext⟩
theorem held_ext {w1:World} (h:zb w1 a/\zb wk a) (z:Below a.heap.size a b):zb w1 b/\zb wk b:=⟨h.1.trans z,h.2.trans z⟩
theorem DJ {w1:World} (h:zb w1 wk):zb w1 wk.drew/\zb wk wk.drew:=⟨h.drew,(zb.refl wk).drew⟩
theorem Bd {v:Value} (h:zD w B v l):∃A c,v=.slice A l.length c/\l.length<=c:=by
 obtain ⟨A,c,e,z,_⟩:=AI.of_own h;exact ⟨A,c,e,z⟩
theorem own_at {n c:Nat} {A:Option Addr} (h:zD w B (.slice A n c) l) (D:k<l.length):∃b,A=some ⟨b,0,none⟩/\B<=b/\w.cell? ⟨b,k,none⟩=some (.int .i64 l[k]):=by
 obtain ⟨g,cap,G,z,E⟩:=World.ownsRow.form h (by omega);injection G with h1 h2 h3;subst h1 h2 h3;refine ⟨g,rfl,z,?_⟩;rw [World.ownsRow.cellAt h k (by omega)];simp [D]
theorem zr (W:World) (v:Value) (t:TypeId) (h:g=W.heap.size):(W.alloc (.cells #[v] t)).cell? ⟨g,0,none⟩=some v:=by
 subst h;unfold World.cell?;simp only [Fu];rfl
theorem ap_t (h:c=true) (x:Int) (l:List Int):ap c x l=l++[x]:=by rw [h];rfl
theorem ap_f (h:c=false) (x:Int) (l:List Int):ap c x l=l:=by rw [h];rfl
theorem Es {v:Value} (m:MZ) (node:Int) (w:World) (hm:zw w ok v m) (d:Ex m) (h0:0<=node) (h1:node<m.w*m.h*m.l):
  Calls Tryz.prog 81 #[v,.int .i64 node] w fun e w'=>∃v',e=.returned v'/\Below w.heap.size w w'/\w'.ownsRow w.heap.size 3 1 v' (zl m node).length ((zl m node).map (Value.int .i64)):=by
 obtain ⟨f,u,t,rfl,_,hu,_⟩:=hm;obtain ⟨A,c,rfl,c8,c4⟩:=hu;have hl:=d.layer;obtain ⟨a9,b0⟩:=hl;obtain ⟨dw1,dw2,c9,d4,ll1,ll2,n1,c0⟩:=d;obtain ⟨W,H,L,fr,up,ts⟩:=m;simp only at*;have HU:=zh c4;clear c4;have b4:=zh c0;clear c0
 go_enter Tryz.func81,Tryz.ntmps81
 have d7:0<=node / W:=Int.ediv_nonneg h0 (by omega);have d8:node / W<=node:=Int.ediv_le_self _ h0
 go_wp2_with fail
 go_quiet (fail)
 have d9:0<=node / W % H:=Int.emod_nonneg _ (by omega);have e0:node / W % H<H:=Int.emod_lt_of_pos _ (by omega);have e3:0<=node % W:=Int.emod_nonneg _ (by omega);have e4:node % W<W:=Int.emod_lt_of_pos _ (by omega);generalize b1:((w.alloc (.cells #[.int .i64 W,.int .i64 H,.int .i64 L,f,.slice A up.length c,t] 32)).drewN nq)=w1;have a8:zb w w1:=by rw [<-b1];exact ((zb.refl w).alloc _).drewN _
 have b6:zk w1 w.heap.size 32 #[.int .i64 W,.int .i64 H,.int .i64 L,f,.slice A up.length c,t]:=by rw [<-b1];exact Fu _ _
 have b3:=zh (HU.out.keep (zW.of_below a8):Ae w1 ok 1 A up.length (up.map Value.bool));clear b1 HU;have b2:=zh a8;clear a8;obtain ⟨m0,m1,m2,m3,m4,m5⟩:=zA b6;have r0:=zb.rule m0;have r1:=zb.rule m1;have r2:=zb.rule m2;have r3:=zb.rule m3;have r4:=zb.rule m4;have r5:=zb.rule m5;clear m0 m1 m2 m3 m4 m5 b6;have ra:=zS w1;have U:zb w1 w1:=zb.refl w1;have z:=zh (Mk.nil w1);obtain ⟨c1,J⟩:∃b,b=(decide (W*H<=node) && up.getD (node - W*H).toNat false):=⟨_,rfl⟩;obtain ⟨c2,b5⟩:∃b,b=(decide (node+W*H<W*H*L) && up.getD node.toNat false):=⟨_,rfl⟩;have V:=zh J;clear J;have a6:=zh b5;clear b5;go_upto_region 5 with fail;go_cut [36] (fun s wx=>s=.bool c1/\w1=wx)
 case first=>
  by_cases hp:W*H<=node
  ·have T:(node - W*H).toNat<up.length:=by have:=b4.out;omega
   obtain ⟨b,off,rfl,_,J⟩:=Cj b3.out T T;have I:up[(node - W*H).toNat]=c1:=(V.out.trans (by simp [hp,T])).symm;rw [I] at J;have rc:=zb.rule J;clear J I
   go_wp2_with fail
   go_meet
   case rel=>exact ⟨rfl,rfl⟩
  ·have I:c1=false:=V.out.trans (by simp [hp]);have a7:=zh I;clear I
   go_wp2_with fail
   go_meet
   case rel=>exact ⟨by rw [a7.out],rfl⟩
 case rest=>
 obtain ⟨rfl,rfl⟩:=hcut
 go_upto_if 36 with fail
 go_cut [5] (fun s wx=>Hid (Mk w1 wx s (ap c1 (node - W*H) [])))
 case first=>
  obtain rfl | rfl:c1=true\/c1=false:=by cases c1 <;> simp
  ·skip
   have hz:w1.heap.size<=w1.heap.size:=U.size
   go_wp2_with (at_builtin;refine AQ rfl _ _ rfl _ [] (node - W*H) w1.heap.size w1.heap.size 1 _ rfl rfl (z.out.own.alloc _) ?d1 ?d2 ?d3 ?_)
   (try case d1=>simp)
   case d2=>(first | (simp;done) | (simp;omega) | omega)
   case d3=>exact EI (show [].length<=0 from EG _) (by omega)
   intro v' wb E D _;have G:=zh ((z.out.alloc _).app E D);clear E D
   go_wp2_with fail
   go_meet
   case rel=>exact G.out.cast (ap_t (by rfl) _ _)
  ·skip
   go_wp2_with fail
   go_meet
   case rel=>exact z.out.cast (ap_f (by rfl) _ _)
 case rest=>
 have z:=hcut;clear hcut;have U:zb w1 wc:=z.out.ext;have a9:(ap c1 (node - W*H) []).length<=1:=EI (ap_len _ _ _) (Nat.succ_le_succ (EU _));obtain ⟨wp,rfl⟩:∃wp:World,wp=wc:=⟨_,rfl⟩
 go_upto_if 44 with fail
 go_cut [5] (fun s wx=>Hid (Mk w1 wx s (ap (decide (0<node / W % H)) (node - W) (ap c1 (node - W*H) []))))
 case first=>
  by_cases hp:0<node / W % H
  ·have M:=zh hp;have hz:w1.heap.size<=wp.heap.size:=U.size
   go_wp2_with (at_builtin;refine AQ rfl _ _ rfl _ (ap c1 (node - W*H) []) (node - W) w1.heap.size wp.heap.size 1 _ rfl rfl (z.out.own.alloc _) ?d1 ?d2 ?d3 ?_)
   (try case d1=>simp)
   case d2=>(first | (simp;done) | (simp;omega) | omega)
   case d3=>exact EI (show (ap c1 (node - W*H) []).length<=1 from a9) (by omega)
   intro v' wb E D _;have G:=zh ((z.out.alloc _).app E D);clear E D
   go_wp2_with fail
   go_meet
   case rel=>exact G.out.cast (ap_t (by exact EJ M.out) _ _)
  ·have M:=zh hp
   go_wp2_with fail
   go_meet
   case rel=>exact z.out.cast (ap_f (by exact EK (by have:=M.out;omega)) _ _)
 case rest=>
 have z:=hcut;clear hcut;have U:zb w1 wc:=z.out.ext;have b0:(ap (decide (0<node / W % H)) (node - W) (ap c1 (node - W*H) [])).length<=2:=EI (ap_len _ _ _) (Nat.succ_le_succ a9);obtain ⟨wp,rfl⟩:∃wp:World,wp=wc:=⟨_,rfl⟩
 go_upto_if 53 with fail
 go_cut [5] (fun s wx=>Hid (Mk w1 wx s (ap (decide (0<node % W)) (node - 1) (ap (decide (0<node / W % H)) (node - W) (ap c1 (node - W*H) [])))))
 case first=>
  by_cases hp:0<node % W
  ·have M:=zh hp;have hz:w1.heap.size<=wp.heap.size:=U.size
   go_wp2_with (at_builtin;refine AQ rfl _ _ rfl _ (ap (decide (0<node / W % H)) (node - W) (ap c1 (node - W*H) [])) (node - 1) w1.heap.size wp.heap.size 1 _ rfl rfl (z.out.own.alloc _) ?d1 ?d2 ?d3 ?_)
   (try case d1=>simp)
   case d2=>(first | (simp;done) | (simp;omega) | omega)
   case d3=>exact EI (show (ap (decide (0<node / W % H)) (node - W) (ap c1 (node - W*H) [])).length<=2 from b0) (by omega)
   intro v' wb E D _;have G:=zh ((z.out.alloc _).app E D);clear E D
   go_wp2_with fail
   go_meet
   case rel=>exact G.out.cast (ap_t (by exact EJ M.out) _ _)
  ·have M:=zh hp
   go_wp2_with fail
   go_meet
   case rel=>exact z.out.cast (ap_f (by exact EK (by have:=M.out;omega)) _ _)
 case rest=>
 have z:=hcut;clear hcut;have U:zb w1 wc:=z.out.ext;have b7:(ap (decide (0<node % W)) (node - 1) (ap (decide (0<node / W % H)) (node - W) (ap c1 (node - W*H) []))).length<=3:=EI (ap_len _ _ _) (Nat.succ_le_succ b0);obtain ⟨wp,rfl⟩:∃wp:World,wp=wc:=⟨_,rfl⟩
 go_upto_if 63 with fail
 go_cut [5] (fun s wx=>Hid (Mk w1 wx s (ap (decide (node % W+1<W)) (node+1) (ap (decide (0<node % W)) (node - 1) (ap (decide (0<node / W % H)) (node - W) (ap c1 (node - W*H) []))))))
 case first=>
  by_cases hp:node % W+1<W
  ·have M:=zh hp;have hz:w1.heap.size<=wp.heap.size:=U.size
   go_wp2_with (at_builtin;refine AQ rfl _ _ rfl _ (ap (decide (0<node % W)) (node - 1) (ap (decide (0<node / W % H)) (node - W) (ap c1 (node - W*H) []))) (node+1) w1.heap.size wp.heap.size 1 _ rfl rfl (z.out.own.alloc _) ?d1 ?d2 ?d3 ?_)
   (try case d1=>simp)
   case d2=>(first | (simp;done) | (simp;omega) | omega)
   case d3=>exact EI (show (ap (decide (0<node % W)) (node - 1) (ap (decide (0<node / W % H)) (node - W) (ap c1 (node - W*H) []))).length<=3 from b7) (by omega)
   intro v' wb E D _;have G:=zh ((z.out.alloc _).app E D);clear E D
   go_wp2_with fail
   go_meet
   case rel=>exact G.out.cast (ap_t (by exact EJ M.out) _ _)
  ·have M:=zh hp
   go_wp2_with fail
   go_meet
   case rel=>exact z.out.cast (ap_f (by exact EK (by have:=M.out;omega)) _ _)
 case rest=>
 have z:=hcut;clear hcut;have U:zb w1 wc:=z.out.ext;have b8:(ap (decide (node % W+1<W)) (node+1) (ap (decide (0<node % W)) (node - 1) (ap (decide (0<node / W % H)) (node - W) (ap c1 (node - W*H) [])))).length<=4:=EI (ap_len _ _ _) (Nat.succ_le_succ b7);obtain ⟨wp,rfl⟩:∃wp:World,wp=wc:=⟨_,rfl⟩
 go_upto_if 73 with fail
 go_cut [5] (fun s wx=>Hid (Mk w1 wx s (ap (decide (node / W % H+1<H)) (node+W) (ap (decide (node % W+1<W)) (node+1) (ap (decide (0<node % W)) (node - 1) (ap (decide (0<node / W % H)) (node - W) (ap c1 (node - W*H) [])))))))
 case first=>
  by_cases hp:node / W % H+1<H
  ·have M:=zh hp;have hz:w1.heap.size<=wp.heap.size:=U.size
   go_wp2_with (at_builtin;refine AQ rfl _ _ rfl _ (ap (decide (node % W+1<W)) (node+1) (ap (decide (0<node % W)) (node - 1) (ap (decide (0<node / W % H)) (node - W) (ap c1 (node - W*H) [])))) (node+W) w1.heap.size wp.heap.size 1 _ rfl rfl (z.out.own.alloc _) ?d1 ?d2 ?d3 ?_)
   (try case d1=>simp)
   case d2=>(first | (simp;done) | (simp;omega) | omega)
   case d3=>exact EI (show (ap (decide (node % W+1<W)) (node+1) (ap (decide (0<node % W)) (node - 1) (ap (decide (0<node / W % H)) (node - W) (ap c1 (node - W*H) [])))).length<=4 from b8) (by omega)
   intro v' wb E D _;have G:=zh ((z.out.alloc _).app E D);clear E D
   go_wp2_with fail
   go_meet
   case rel=>exact G.out.cast (ap_t (by exact EJ M.out) _ _)
  ·have M:=zh hp
   go_wp2_with fail
   go_meet
   case rel=>exact z.out.cast (ap_f (by exact EK (by have:=M.out;omega)) _ _)
 case rest=>
 have z:=hcut;clear hcut;have U:zb w1 wc:=z.out.ext;have b9:(ap (decide (node / W % H+1<H)) (node+W) (ap (decide (node % W+1<W)) (node+1) (ap (decide (0<node % W)) (node - 1) (ap (decide (0<node / W % H)) (node - W) (ap c1 (node - W*H) []))))).length<=5:=EI (ap_len _ _ _) (Nat.succ_le_succ b8);obtain ⟨wp,rfl⟩:∃wp:World,wp=wc:=⟨_,rfl⟩;go_upto_region 15 with fail;go_cut [93] (fun s wx=>s=.bool c2/\Hid (zb wp wx))
 case first=>
  by_cases hp:node+W*H<W*H*L
  ·have T:node.toNat<up.length:=by have:=b4.out;omega
   obtain ⟨b,off,rfl,_,J⟩:=Cj b3.out T T;have I:up[node.toNat]=c2:=(a6.out.trans (by simp [hp,T])).symm;rw [I] at J;have rc:=zb.rule J;clear J I
   go_wp2_with fail
   refine (AP W H L _ _ _ _ (by omega) (by omega)).mono ?_;rintro e kn ⟨rfl,O⟩;have c6:zb w1 kn:=U.trans O
   go_wp2_with fail
   go_meet
   case rel=>exact ⟨rfl,O⟩
  ·have I:c2=false:=a6.out.trans (by simp [hp]);have a7:=zh I;clear I
   go_wp2_with fail
   refine (AP W H L _ _ _ _ (by omega) (by omega)).mono ?_;rintro e kn ⟨rfl,O⟩;have c6:zb w1 kn:=U.trans O
   go_wp2_with fail
   go_meet
   case rel=>exact ⟨by rw [a7.out],O⟩
 case rest=>
 obtain ⟨rfl,O⟩:=hcut;have z:=zh (z.out.more O.out);have U:zb w1 wc:=z.out.ext;obtain ⟨wp,rfl⟩:∃wp:World,wp=wc:=⟨_,rfl⟩
 go_upto_if 93 with fail
 go_cut [5] (fun s wx=>Hid (Mk w1 wx s (ap c2 (node+W*H) (ap (decide (node / W % H+1<H)) (node+W) (ap (decide (node % W+1<W)) (node+1) (ap (decide (0<node % W)) (node - 1) (ap (decide (0<node / W % H)) (node - W) (ap c1 (node - W*H) []))))))))
 case first=>
  obtain rfl | rfl:c2=true\/c2=false:=by cases c2 <;> simp
  ·skip
   have hz:w1.heap.size<=wp.heap.size:=U.size
   go_wp2_with (at_builtin;refine AQ rfl _ _ rfl _ (ap (decide (node / W % H+1<H)) (node+W) (ap (decide (node % W+1<W)) (node+1) (ap (decide (0<node % W)) (node - 1) (ap (decide (0<node / W % H)) (node - W) (ap c1 (node - W*H) []))))) (node+W*H) w1.heap.size wp.heap.size 1 _ rfl rfl (z.out.own.alloc _) ?d1 ?d2 ?d3 ?_)
   (try case d1=>simp)
   case d2=>(first | (simp;done) | (simp;omega) | omega)
   case d3=>exact EI (show (ap (decide (node / W % H+1<H)) (node+W) (ap (decide (node % W+1<W)) (node+1) (ap (decide (0<node % W)) (node - 1) (ap (decide (0<node / W % H)) (node - W) (ap c1 (node - W*H) []))))).length<=5 from b9) (by omega)
   intro v' wb E D _;have G:=zh ((z.out.alloc _).app E D);clear E D
   go_wp2_with fail
   go_meet
   case rel=>exact G.out.cast (ap_t (by rfl) _ _)
  ·skip
   go_wp2_with fail
   go_meet
   case rel=>exact z.out.cast (ap_f (by rfl) _ _)
 case rest=>
 have z:=hcut;clear hcut;have U:zb w1 wc:=z.out.ext;have d6:(ap c2 (node+W*H) (ap (decide (node / W % H+1<H)) (node+W) (ap (decide (node % W+1<W)) (node+1) (ap (decide (0<node % W)) (node - 1) (ap (decide (0<node / W % H)) (node - W) (ap c1 (node - W*H) [])))))).length<=6:=EI (ap_len _ _ _) (Nat.succ_le_succ b9);obtain ⟨wp,rfl⟩:∃wp:World,wp=wc:=⟨_,rfl⟩
 go_wp2_with fail
 go_ret;refine ⟨_,rfl,BC b2.out z.out.ext (EG _),?_⟩;exact next_fin (z.out.own.mono b2.out.size) (next_eq ⟨W,H,L,fr,up,ts⟩ node c1 c2 V.out a6.out)
end
section
open Go.RowKit
attribute [local go_sem ↓] Go.wp_at_zero Go.wp_at_succ
theorem Tryz.infoBool:(Tryz.prog.info? 4).map (fun i=>(i.zero,i.size,i.bytes))=some (some (.bool false),1,1):=by kernel_rfl
def memF (s:List Int) (i:Nat):Value:=.bool (decide ((i:Int)∈s))
open Classical in
noncomputable def Cg (m:MZ) (t:Nat) (from_ used:List Int):List Int:=((List.range m.n.toNat).map Int.ofNat).filter (fun x=>decide (RP m t from_ used x))
theorem reachL_of {s:List Int} (h:∀x,x∈s↔RP m t from_ used x):((List.range m.n.toNat).map Int.ofNat).filter (fun x=>decide (x∈s))=Cg m t from_ used:=by
 unfold Cg;apply List.filter_congr;intro x _;rw [decide_eq_decide];exact h x
theorem BY (d:Ex m):x∈Cg m t from_ used↔RP m t from_ used x:=by
 unfold Cg;simp only [FG,FH,FI,EQ];constructor
 ·rintro ⟨_,h⟩;exact h
 ·intro h;have z:=h.range d;exact ⟨⟨x.toNat,by omega,by simp;omega⟩,h⟩
section
variable {w1 wr w':World} {gi gt n:Nat} {s tk todo:List Int} {v:Value}
theorem memF_more {s:List Int} {n:Nat} (h:¬ (0<=x/\x<n)) {j:Nat} (z:j<n):memF s j=memF (s++[x]) j:=by
 unfold memF;congr 1;rw [decide_eq_decide,Fx,Fo];constructor
 ·exact .inl
 ·rintro (h1 | h1)
  ·exact h1
  ·omega
theorem memF_set {s:List Int} (h:0<=x) (j:Nat):(if j=x.toNat then Value.bool true else memF s j)=memF (s++[x]) j:=by
 unfold memF;by_cases z:j=x.toNat
 ·rw [if_pos z];congr 1;symm;rw [EQ,Fx,Fo]
  right;omega
 ·rw [if_neg z];congr 1;rw [decide_eq_decide,Fx,Fo];constructor
  ·exact .inl
  ·rintro (h1 | h1)
   ·exact h1
   ·omega
end
theorem Co {w1:World} (D:g<w1.heap.size) (m0:w1.cell? ⟨g,0,none⟩=some a0) (m1:w1.cell? ⟨g,1,none⟩=some a1) (m2:w1.cell? ⟨g,2,none⟩=some a2) (m3:w1.cell? ⟨g,3,none⟩=some a3) (m4:w1.cell? ⟨g,4,none⟩=some a4) (m5:w1.cell? ⟨g,5,none⟩=some a5) (z:Hid (Below w.heap.size w w1)):
  w1.drew.cell? ⟨g,0,none⟩=some a0/\w1.drew.cell? ⟨g,1,none⟩=some a1/\w1.drew.cell? ⟨g,2,none⟩=some a2/\w1.drew.cell? ⟨g,3,none⟩=some a3/\w1.drew.cell? ⟨g,4,none⟩=some a4/\w1.drew.cell? ⟨g,5,none⟩=some a5/\Hid (Below w.heap.size w w1.drew):=
 ⟨m0,m1,m2,m3,m4,m5,Below.drew z.out⟩
theorem held6 {w1:World} (D:g<w1.heap.size)
  (h:w1.drew.cell? ⟨g,0,none⟩=some a0/\w1.drew.cell? ⟨g,1,none⟩=some a1/\w1.drew.cell? ⟨g,2,none⟩=some a2/\w1.drew.cell? ⟨g,3,none⟩=some a3/\w1.drew.cell? ⟨g,4,none⟩=some a4/\w1.drew.cell? ⟨g,5,none⟩=some a5/\Hid (Below w.heap.size w w1.drew)) (z:Below w1.drew.heap.size w1.drew w2):
  w2.cell? ⟨g,0,none⟩=some a0/\w2.cell? ⟨g,1,none⟩=some a1/\w2.cell? ⟨g,2,none⟩=some a2/\w2.cell? ⟨g,3,none⟩=some a3/\w2.cell? ⟨g,4,none⟩=some a4/\w2.cell? ⟨g,5,none⟩=some a5/\Hid (Below w.heap.size w w2):=by
 obtain ⟨m0,m1,m2,m3,m4,m5,h⟩:=h;exact ⟨(z.cell D).trans m0,(z.cell D).trans m1,(z.cell D).trans m2,(z.cell D).trans m3,(z.cell D).trans m4,(z.cell D).trans m5,BC h.out z (EG _)⟩
theorem Cv {w1:World} {v:Value} (h:w1.cell? p=some v) (z:Below w1.heap.size w1 w2):w2.cell? p=some v:=(z.cell (zo h)).trans h
theorem held_and {A B A' B':Prop} (h:A/\B) (f:A->A') (g:B->B'):A'/\B':=⟨f h.1,g h.2⟩
theorem drewn_below {w':World} (h:Below a.drew.heap.size a.drew w'):Below a.heap.size a w':=((Below.refl a.heap.size a).drew).trans h
structure CQ (w wr:World) (a0 a1 a2 a3 a4 a5:Value):Prop where
 below:Below w.heap.size w wr
 m0:wr.cell? ⟨w.heap.size,0,none⟩=some a0
 m1:wr.cell? ⟨w.heap.size,1,none⟩=some a1
 m2:wr.cell? ⟨w.heap.size,2,none⟩=some a2
 m3:wr.cell? ⟨w.heap.size,3,none⟩=some a3
 m4:wr.cell? ⟨w.heap.size,4,none⟩=some a4
 m5:wr.cell? ⟨w.heap.size,5,none⟩=some a5
theorem Db {v:Value} (w:World) (hm:zw w ok v m) (hl:Lens m):
  Calls Tryz.prog 50 #[v] w fun e w'=>e=.returned (.int .i64 (AO m))/\Below w.heap.size w w':=by
 have j5:=hm;obtain ⟨vfr,vup,vts,rfl,j2,j9,j8⟩:=hm;obtain ⟨vsf,⟨Af,cf,rfl,i4,f7⟩,f0⟩:=j2;obtain ⟨Au,cu,rfl,k9,j6⟩:=j9;obtain ⟨vst,⟨At,ct,rfl,i5,f8⟩,f1⟩:=j8;obtain ⟨l1,l2,l3,l4⟩:=hl;have d9:=zh f7;clear f7;have d6:=zh f0;clear f0;have h7:=zh f8;clear f8;have g5:=zh f1;clear f1;have g8:=zh l4;clear l4;clear j6 j5
 go_enter Tryz.func50,Tryz.ntmps50
 by_cases hs:[m.w,m.h,m.l].any side=true
 ·have HC:=zh (chk_side hs)
  have h6:(m.w<1)\/(¬ m.w<1/\m.h<1)\/(¬ m.w<1/\¬ m.h<1/\m.l<1)\/(¬ m.w<1/\¬ m.h<1/\¬ m.l<1/\300<m.w)\/(¬ m.w<1/\¬ m.h<1/\¬ m.l<1/\¬ 300<m.w/\300<m.h)\/(¬ m.w<1/\¬ m.h<1/\¬ m.l<1/\¬ 300<m.w/\¬ 300<m.h/\300<m.l):=by
   simp [side] at hs;omega
  clear hs;rcases h6 with h | ⟨h1,h⟩ | ⟨h1,h2,h⟩ | ⟨h1,h2,h3,h⟩ | ⟨h1,h2,h3,h4,h⟩ | ⟨h1,h2,h3,h4,h5,h⟩
  all_goals go_wp2
  all_goals go_ret
  all_goals exact ⟨AW HC.out.symm,(Below.refl _ _).alloc (EG _) _⟩
 have b4:[m.w,m.h,m.l].any side=false:=by simpa using hs
 clear hs;obtain ⟨⟨p1,p2⟩,p3,p4⟩:=sides_mul b4;obtain ⟨⟨a1,a2⟩,⟨b1,b2⟩,c1,c2⟩:=sides b4;have HN:=zh b4;clear b4
 have a8:300<m.n\/6<m.tasks.length->AO m=2:=by
  intro h;unfold AO;rw [if_neg (by rw [HN.out];simp),if_pos h]
 have d8:=zh a8;clear a8
 go_wp2_with fail
 refine (AP _ _ _ _ _ _ _ (by omega) (by omega)).mono ?_;rintro e w' ⟨rfl,hb⟩;have b9:zk (w.alloc (.cells #[.int .i64 m.w,.int .i64 m.h,.int .i64 m.l,.slice Af m.free.length cf,.slice Au m.up.length cu,.slice At m.tasks.length ct] 32)) w.heap.size 32 _:=Fu _ _;have c0:zk w' w.heap.size 32 _:=b9.below hb (zd b9);have e7:Below w.heap.size w w':=BC ((Below.refl _ _).alloc (EG _) _) hb (by simp);clear b9 hb;obtain ⟨m0,m1,m2,m3,m4,m5⟩:=zA c0;have g4:=zh c0;clear c0;have Hb1:=zh e7;clear e7;by_cases hn:300<m.w*m.h*m.l
 ·go_wp2;go_ret;exact ⟨AW (d8.out (.inl hn)).symm,Hb1.out⟩
 by_cases ht:6<m.tasks.length
 ·go_wp2;go_ret;exact ⟨AW (d8.out (.inr ht)).symm,Hb1.out⟩
 have a7:(m.free.length≠m.tasks.length\/(m.up.length:Int)≠m.n\/m.free.any (fun f=>(f.length:Int) != m.n)=true)->AO m=1:=by
  intro h;unfold AO;rw [if_neg (by rw [HN.out];simp),if_neg (by unfold MZ.n;omega),if_pos h]
 have b7:=zh a7;clear a7;by_cases hf:m.free.length=m.tasks.length
 case neg=>
  have i7:decide ((m.free.length:Int)=(m.tasks.length:Int))=false:=by simp;omega
  have i8:((m.free.length:Int) != (m.tasks.length:Int))=true:=by simp;omega
  have i9:decide (m.free.length=m.tasks.length)=false:=by simp;omega
  have j0:(m.free.length != m.tasks.length)=true:=by simp;omega
  go_wp2_with fail
  go_quiet (fail)
  go_wp2;go_ret;exact ⟨AW (b7.out (.inl hf)).symm,CS Hb1.out _⟩
 have i7:decide ((m.free.length:Int)=(m.tasks.length:Int))=true:=by simp;omega
 have i8:((m.free.length:Int) != (m.tasks.length:Int))=false:=by simp;omega
 have i9:decide (m.free.length=m.tasks.length)=true:=by simp;omega
 have j0:(m.free.length != m.tasks.length)=false:=by simp;omega
 have HF:=zh hf;clear hf;have z:w.heap.size<w'.heap.size:=zd g4.out
 go_wp2_with fail
 go_region_held3 (fun w'=>w'.cell? ⟨w.heap.size,0,none⟩=some (.int .i64 m.w)/\w'.cell? ⟨w.heap.size,1,none⟩=some (.int .i64 m.h)/\w'.cell? ⟨w.heap.size,2,none⟩=some (.int .i64 m.l)/\w'.cell? ⟨w.heap.size,3,none⟩=some (.slice Af m.free.length cf)/\w'.cell? ⟨w.heap.size,4,none⟩=some (.slice Au m.up.length cu)/\w'.cell? ⟨w.heap.size,5,none⟩=some (.slice At m.tasks.length ct)/\Hid (Below w.heap.size w w'))
  (first | exact Co z m0 m1 m2 m3 m4 m5 Hb1 | exact held6 z (by assumption) D)
  ((go_at_call 47;refine (AP _ _ _ _ _ _ _ (by omega) (by omega)).mono ?_;rintro e w9 ⟨rfl,D⟩))
 rename_i hS
 obtain ⟨m0,m1,m2,m3,m4,m5,O⟩:=hS;have hI:=zh (CQ.mk O.out m0 m1 m2 m3 m4 m5);by_cases hu:(m.up.length:Int)=m.w*m.h*m.l
 case neg=>
  go_wp2;go_ret;exact ⟨AW (b7.out (.inr (.inl hu))).symm,O.out⟩
 clear m0 m1 m2 m3 m4 m5 D O z;have HU:=zh hu
 go_wp2_with fail
 rename ((m.up.length:Int) != m.w*m.h*m.l)=false=>hq
 clear hu hq;have e3:Bj w ok (.slice Af m.free.length cf) m.free:=⟨vsf,⟨Af,cf,rfl,i4,d9.out⟩,d6.out⟩;have k5:=zh e3;clear e3;go_loopw [3] (fun i wr=>∃k:Nat,k<=m.free.length/\i=.int .i64 k/\Hid ((m.free.take k).any (fun f=>(f.length:Int) != m.n)=false)/\Hid (CQ w wr (.int .i64 m.w) (.int .i64 m.h) (.int .i64 m.l) (.slice Af m.free.length cf) (.slice Au m.up.length cu) (.slice At m.tasks.length ct))) (fun i _=>m.free.length - (intOf i).toNat)
 case atStart=>exact ⟨0,by omega,rfl,by simp [Hid],hI⟩
 clear hI
 case round=>
  obtain ⟨k,hk,rfl,hn,hI⟩:=hrel;obtain ⟨Hb1,m0,m1,m2,m3,m4,m5⟩:=hI;have Hb1:=zh Hb1;have z:=zo m0;by_cases J:k<m.free.length
  ·obtain ⟨b,off,u,rfl,_,G,hu⟩:=Ai (d9.out.keep (zW.of_below Hb1.out)) d6.out J J;obtain ⟨x,L⟩:=zad (m.free[k]);rw [<-L] at hu;obtain ⟨Ax,cx,rfl,l5,_⟩:=hu;have E:=zh (AZ (fun f=>(f.length:Int) != m.n) J);rw [<-L] at E;have HM:=zh (show x∈m.free by rw [L];exact EH _);clear L
   go_wp2_with fail
   go_region_held3 (fun w'=>(w'.cell? ⟨w.heap.size,0,none⟩=some (.int .i64 m.w)/\w'.cell? ⟨w.heap.size,1,none⟩=some (.int .i64 m.h)/\w'.cell? ⟨w.heap.size,2,none⟩=some (.int .i64 m.l)/\w'.cell? ⟨w.heap.size,3,none⟩=some (.slice (some ⟨b,off,none⟩) m.free.length cf)/\w'.cell? ⟨w.heap.size,4,none⟩=some (.slice Au m.up.length cu)/\w'.cell? ⟨w.heap.size,5,none⟩=some (.slice At m.tasks.length ct)/\Hid (Below w.heap.size w w'))/\w'.cell? ⟨b,off+k,none⟩=some (.slice Ax x.length cx))
    (first | exact ⟨Co z m0 m1 m2 m3 m4 m5 Hb1,G⟩ | exact held_and (by assumption) (fun h=>held6 z h D) (fun h=>Cv h D))
    ((go_at_call 47;refine (AP _ _ _ _ _ _ _ (by omega) (by omega)).mono ?_;rintro e w9 ⟨rfl,D⟩))
   rename_i hS
   obtain ⟨⟨m0,m1,m2,m3,m4,m5,O⟩,_⟩:=hS;have hI:=zh (CQ.mk O.out m0 m1 m2 m3 m4 m5);clear D O;by_cases L:(x.length:Int)=m.w*m.h*m.l
   ·have HX:=zh L;go_wp2;clear L;go_roundw
    case rel=>exact ⟨k+1,by omega,by go_num,by
     show _=false;rw [E.out,hn.out];show (false || ((x.length:Int) != m.w*m.h*m.l))=false;rw [HX.out];simp,hI⟩
    case measure=>simp [intOf];omega
   ·have HX:=zh L;go_wp2;go_ret
    exact ⟨AW (b7.out (.inr (.inr (FM.2 ⟨x,HM.out,by
     show ((x.length:Int) != m.w*m.h*m.l)=true;simpa using HX.out⟩)))).symm,hI.out.below⟩
  ·obtain rfl:k=m.free.length:=by omega
   have ha:m.free.any (fun f=>(f.length:Int) != m.n)=false:=by have h:=hn.out;rwa [ER] at h
   have HA:=zh ha;clear ha hn;have hI:=zh (CQ.mk Hb1.out m0 m1 m2 m3 m4 m5);have e4:BU w ok (.slice At m.tasks.length ct) m.tasks:=⟨vst,⟨At,ct,rfl,i5,h7.out⟩,g5.out⟩;have h9:=zh e4;clear e4
   go_wp2_with fail
   clear m0 m1 m2 m3 m4 m5 Hb1 z;go_loopw [4] (fun i wr=>∃k:Nat,k<=m.tasks.length/\i=.int .i64 k/\Hid ((m.tasks.take k).any (fun t=>t.1.any (zY m.n) || t.2.any (zY m.n))=false)/\Hid (CQ w wr (.int .i64 m.w) (.int .i64 m.h) (.int .i64 m.l) (.slice Af m.free.length cf) (.slice Au m.up.length cu) (.slice At m.tasks.length ct))) (fun i _=>m.tasks.length - (intOf i).toNat)
   case atStart=>exact ⟨0,by omega,rfl,by simp [Hid],hI⟩
   clear hI
   case round=>
    obtain ⟨k,hk,rfl,hn,hI⟩:=hrel;obtain ⟨Hb1,m0,m1,m2,m3,m4,m5⟩:=hI;have Hb1:=zh Hb1;have z:=zo m0;by_cases J:k<m.tasks.length
    ·obtain ⟨b,off,sn,u1,u2,rfl,_,i3,U,V,c5,c6⟩:=AJ (h9.out.below Hb1.out) J;obtain ⟨t,b0⟩:=zad (m.tasks[k]);rw [<-b0] at c5 c6;obtain ⟨j3,j4⟩:=g8.out _ (EH J);rw [<-b0] at j3 j4;have g6:=zh c5;clear c5;have g7:=zh c6;clear c6;have E:=zh (AZ (fun t=>t.1.any (zY m.n) || t.2.any (zY m.n)) J);rw [<-b0] at E;have HM:=zh (show t∈m.tasks by rw [b0];exact EH _);clear b0
     have b6:∀x,x∈[]++t.1++t.2->zY m.n x=true->AO m=50:=by
      intro x L h
      have ht:(t.1.any (zY m.n) || t.2.any (zY m.n))=true:=by
       rw [<-List.any_append];exact FM.2 ⟨x,by simpa using L,h⟩
      unfold AO;rw [if_neg (by rw [HN.out];simp),if_neg (by unfold MZ.n;omega),if_neg (by rw [HA.out,HF.out,HU.out];simp [MZ.n]),if_pos (FM.2 ⟨t,HM.out,ht⟩)]
     have T:=zh b6;clear b6
     go_wp2_with fail
     have i1:w.heap.size<=wr.heap.size:=Hb1.out.size
     go_region_held3 (fun w'=>(w'.cell? ⟨w.heap.size,0,none⟩=some (.int .i64 m.w)/\w'.cell? ⟨w.heap.size,1,none⟩=some (.int .i64 m.h)/\w'.cell? ⟨w.heap.size,2,none⟩=some (.int .i64 m.l)/\w'.cell? ⟨w.heap.size,3,none⟩=some (.slice Af m.free.length cf)/\w'.cell? ⟨w.heap.size,4,none⟩=some (.slice Au m.up.length cu)/\w'.cell? ⟨w.heap.size,5,none⟩=some (.slice (some ⟨b,off,none⟩) m.tasks.length ct)/\Hid (Below w.heap.size w w'))/\w'.cell? ⟨b,off+k*3+1,none⟩=some u1/\w'.cell? ⟨b,off+k*3+2,none⟩=some u2)
      (first | (exact ⟨Co z m0 m1 m2 m3 m4 m5 Hb1,U,V⟩) | (exact ⟨held6 z (Co z m0 m1 m2 m3 m4 m5 Hb1) b3,Cv (w1:=wr.drew) U b3,Cv (w1:=wr.drew) V b3⟩) | (exact ⟨held6 z (Co z m0 m1 m2 m3 m4 m5 Hb1) I,Cv (w1:=wr.drew) U I,Cv (w1:=wr.drew) V I⟩) | (exact ⟨held6 z (Co z m0 m1 m2 m3 m4 m5 Hb1) ((Below.refl _ _).alloc (EG _) _),Cv (w1:=wr.drew) U ((Below.refl _ _).alloc (EG _) _),Cv (w1:=wr.drew) V ((Below.refl _ _).alloc (EG _) _)⟩))
      (first | (refine Be (ok:=ok) (by rfl) _ _ _ (by rfl) wr.heap.size [] t.1 _ _ (by rfl) (by rfl) (Dg wr.drew wr.heap.size (EG _)) (g6.out.keep (zW.of_below (w:=wr) ((Below.drew (Below.refl _ _)).alloc (EG _) _))) (by simp) (by simp;omega) ?_;intro v1 w1 c8 f2 e5;have I:Below wr.drew.heap.size wr.drew w1:=(Ad ((Below.refl _ _).alloc (EG _) _) f2 (by simp) (fun k hk=>Bg (Dg wr.drew wr.heap.size (EG _)) hk))) | (refine Be (ok:=ok) (by rfl) _ _ _ (by rfl) wr.heap.size ([]++t.1) t.2 _ _ (by rfl) (by rfl) c8 (g7.out.keep (zW.of_below (w:=wr.drew) I)) I.size (by simp;omega) ?_;intro v2 w2 f6 f3 e6;have b3:Below wr.drew.heap.size wr.drew w2:=(Ad I f3 I.size (fun k hk=>Bg c8 hk))))
     rename_i hS
     obtain ⟨⟨m0,m1,m2,m3,m4,m5,O⟩,_,_⟩:=hS;have hI:=zh (CQ.mk O.out m0 m1 m2 m3 m4 m5);have d7:=zh (f6.mono i1:zD w2 w.heap.size v2 ([]++t.1++t.2));clear I b3 f2 e5 c8 f6 f3 e6 i3 U V m0 m1 m2 m3 m4 m5 O z Hb1;obtain ⟨all,M⟩:=zad ([]++t.1++t.2);rw [<-M] at d7 T;have l7:all.length<=800000000000:=by rw [M];simp;omega
     have d5:=zh M;clear M;obtain ⟨Av,cv,rfl,l0,f9⟩:=AI.of_own d7.out;have h8:=zh f9;clear f9
     go_wp2_with fail
     go_loopw [6] (fun i wi=>∃j:Nat,j<=all.length/\i=.int .i64 j/\Hid ((all.take j).any (zY m.n)=false)/\Hid (Below w2.heap.size w2 wi)/\Hid (CQ w wi (.int .i64 m.w) (.int .i64 m.h) (.int .i64 m.l) (.slice Af m.free.length cf) (.slice Au m.up.length cu) (.slice (some ⟨b,off,none⟩) m.tasks.length ct))) (fun i _=>all.length - (intOf i).toNat)
     case atStart=>exact ⟨0,by omega,rfl,by simp [Hid],Below.refl _ _,hI⟩
     clear hI
     case round=>
      obtain ⟨j,hj,rfl,f5,e8,hI⟩:=hrel;obtain ⟨wi,rfl⟩:∃wi:World,wi=wr:=⟨_,rfl⟩;obtain ⟨Hb1,m0,m1,m2,m3,m4,m5⟩:=hI;have Hb1:=zh Hb1;have z:=zo m0;by_cases c7:j<all.length
      ·obtain ⟨bv,ov,rfl,_,G⟩:=zy (h8.out.keep (zW.of_below e8.out)) c7 c7;obtain ⟨x,L⟩:=zad (all[j]);rw [<-L] at G;have a9:=zh (AZ (zY m.n) c7);rw [<-L] at a9;have e0:=zh (show x∈all by rw [L];exact EH _);clear L;by_cases b5:x<0
       ·have hd:decide (x<0)=true:=by simpa using b5
        go_wp2_with fail
        go_quiet (fail)
        go_wp2;go_ret;exact ⟨AW (T.out x e0.out (by unfold zY;rw [hd];rfl)).symm,CS Hb1.out _⟩
       ·have hd:decide (x<0)=false:=by simpa using b5
        go_wp2_with fail
        go_region_held3 (fun w'=>(w'.cell? ⟨w.heap.size,0,none⟩=some (.int .i64 m.w)/\w'.cell? ⟨w.heap.size,1,none⟩=some (.int .i64 m.h)/\w'.cell? ⟨w.heap.size,2,none⟩=some (.int .i64 m.l)/\w'.cell? ⟨w.heap.size,3,none⟩=some (.slice Af m.free.length cf)/\w'.cell? ⟨w.heap.size,4,none⟩=some (.slice Au m.up.length cu)/\w'.cell? ⟨w.heap.size,5,none⟩=some (.slice (some ⟨b,off,none⟩) m.tasks.length ct)/\Hid (Below w.heap.size w w'))/\w'.cell? ⟨bv,ov+j,none⟩=some (.int .i64 x))
         (first | exact ⟨Co z m0 m1 m2 m3 m4 m5 Hb1,G⟩ | exact held_and (by assumption) (fun h=>held6 z h D) (fun h=>Cv h D))
         ((go_at_call 47;refine (AP _ _ _ _ _ _ _ (by omega) (by omega)).mono ?_;rintro e w9 ⟨rfl,D⟩))
        rename_i hS
        obtain ⟨⟨m0,m1,m2,m3,m4,m5,O⟩,_⟩:=hS;have hI:=zh (CQ.mk O.out m0 m1 m2 m3 m4 m5);have e9:Hid (Below w2.heap.size w2 w9):=BC e8.out (drewn_below D) (EG _);clear D O;by_cases c9:x<m.w*m.h*m.l
        ·have HX:=zh c9;have i0:=zh b5;go_wp2;clear c9 b5 hd;go_roundw
         case rel=>exact ⟨j+1,by omega,by go_num,by
          show _=false;rw [a9.out,f5.out];have h1:¬ m.w*m.h*m.l<=x:=by have:=HX.out;omega
          have h2:¬ x<0:=by have:=i0.out;omega
          show (false || (decide (x<0) || decide (m.w*m.h*m.l<=x)))=false;rw [EK h1,EK h2];rfl,e9,hI⟩
         case measure=>simp [intOf];omega
        ·have HX:=zh c9;go_wp2;go_ret
         exact ⟨AW (T.out x e0.out (by
          have h1:m.w*m.h*m.l<=x:=by have:=HX.out;omega
          show (decide (x<0) || decide (m.w*m.h*m.l<=x))=true;rw [EJ h1,Bool.or_true])).symm,hI.out.below⟩
      ·obtain rfl:j=all.length:=by omega
       go_wp2;go_roundw
       case rel=>exact ⟨k+1,by omega,by go_num,by
        show _=false;have h:=f5.out;rw [ER,d5.out,List.nil_append,List.any_append] at h;rw [E.out,hn.out];exact h,⟨Hb1.out,m0,m1,m2,m3,m4,m5⟩⟩
       case measure=>simp [intOf];omega
    ·obtain rfl:k=m.tasks.length:=by omega
     go_wp2;go_ret;refine ⟨AW ?_,Hb1.out⟩;have hn:=hn.out;rw [ER] at hn;unfold AO;rw [if_neg (by rw [HN.out];simp),if_neg (by unfold MZ.n;omega),if_neg (by rw [HA.out,HF.out,HU.out];simp [MZ.n]),if_neg (by rw [hn];simp)]
end
end Go.Proofs.YthbjngbhbbkkgaaGreat
