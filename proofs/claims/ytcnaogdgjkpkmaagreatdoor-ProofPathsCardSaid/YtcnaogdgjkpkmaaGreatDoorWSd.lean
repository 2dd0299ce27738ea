import Derived.Test.YtcnaogdgjkpkmaaGreatDoorWSc
import Derived.Deep.AppendSrc
import Derived.Deep.AppendLies
import Derived.Deep.OwnRows
import Derived.BigQuiet
import Derived.Deep.RegionHeld3
import Derived.Deep.DrawnRows
import Derived.Lib.SliceRun
set_option linter.unusedVariables false
set_option linter.unusedSimpArgs false
set_option maxRecDepth 100000
set_option maxHeartbeats 16000000
namespace Go.Proofs.YtcnaogdgjkpkmaaGreatDoor
variable {a:Act} {K:Act->World->Prop} {ops:Array Oper} {cs:Array Value} {Q:Exit->Act->World->Prop} {from_ l l' used:List Int} {rest:List Oper} {B c k n:Nat} {o:Oper} {W b w1 wk:World}
section
open Go.RowKit
theorem De (w:World) (b off:Nat):w.setCells b off []=w:=by
 unfold World.setCells;rfl
theorem Dt {ok:Nat->Prop} (w:World) (base:Nat) (t ty e:TypeId) (i:TypeInfo) (z:Value) (bytes:Nat) (ht:Tryz.prog.underlying t=some (.slice e)) (M:Tryz.prog.info? e=some i) (hz:i.zero=some z)
  (d:i.size=1) (J:i.bytes=bytes) (L:z.cells.size=1)
  (v:Value) (n:Nat) (xs:List Value) (E:w.ownsRow base e 1 v n xs) (u:Value) (m:Nat) (news:List Value) (hu:An w ok 1 u m news) (h1:∀u∈news,u.oneCell'=true)
  (I:n+m<=maxLen) (r:(n+m)*bytes<=140737488355328) (G:base<=w.heap.size):
  ∃v' w',(Builtin.append_ #[t,t] ty #[v,u]).run Tryz.prog w=.ok v' w'/\w'.ownsRow base e 1 v' (n+m) (xs++news)/\w.grownBy w' v.ownBlock/\(v'.ownBlock=v.ownBlock\/v'.ownBlock=some w.heap.size):=by
 obtain ⟨A,c,rfl,hc,hl,D⟩:=hu;rcases A with _ | a
 ·have hm:m=0:=by
   rcases Em m with h | h
   ·exact h
   ·obtain ⟨b,off,e,_⟩:=D h;cases e
  subst hm;have hn:news=[]:=DU (by simpa using hl);subst hn;refine ⟨v,w,?_,by simpa using E,⟨rfl,rfl,rfl,DC _,fun _ _ _=>rfl⟩,.inl rfl⟩;rcases E.2 with ⟨rfl,rfl⟩ | ⟨g,cap,cur,rfl,a5,hg,a9,a6,a7,a2⟩
  ·simp [Builtin.append_,run_underlying ht,sizeOf,typeInfo,M,d,Builtin.lenOf,Builtin.firstCells,loadCells,loadCellsFrom]
  ·have h:=run_append_room_src (P:=Tryz.prog) w t t ty e i ht M g 0 n cap (.slice none 0 c) 0 [] (by rw [d];exact Src.ofNil w ht c) (by omega) (by simp) (by simp);rw [De] at h;simpa using h
 ·rcases Em m with h0 | hpos
  ·subst h0;have hn:news=[]:=DU (by simpa using hl);subst hn;obtain ⟨v',w',h1,h2,O,h4,U⟩:=run_append_own_at (P:=Tryz.prog) w base t ty e i z 1 bytes ht M hz d J L (by decide) v n xs E a 0 c [] (by simp) (by simp) (by simp) I r G;exact ⟨v',w',h1,h2,O,U⟩
  ·obtain ⟨b,off,he,_,V⟩:=D hpos;injection he with he;subst he;obtain ⟨v',w',h1,h2,O,h4,U⟩:=run_append_own_at (P:=Tryz.prog) w base t ty e i z 1 bytes ht M hz d J L (by decide) v n xs E ⟨b,off,none⟩ m c news (by simpa using hl) (fun j u hj=>by rw [Addr.add_lit];exact V j u hj) h1 I r G;exact ⟨v',w',h1,h2,O,U⟩
theorem BM {ok:Nat->Prop} (W:World) (s x:Operand)
  (O:o.op=.call { callee:=.builtin .append,args:=#[s,x],argTypes:=#[24,24] }) (base:Nat) (l l2:List Int) (v u:Value) (V:a.eval s=v) (hx:a.eval x=u)
  (r:zF W base v l) (D:zn W ok u l2) (d:base<=W.heap.size) (hl:l.length+l2.length<=1000000000000)
  (h:∀v' w',zF w' base v' (l++l2)->Hid (W.grownBy w' v.ownBlock)->Hid (v'.ownBlock=v.ownBlock\/v'.ownBlock=some W.heap.size)->K (a.put o.dst v') w'):Oper.wp Tryz.prog o a W K Q:=by
 obtain ⟨i0,M,E,G,I⟩:=info_parts Tryz.infoInt
 obtain ⟨v',w',U,h2,J,L⟩:=Dt (ok:=ok) W base 24 o.type 3 i0 (.int .i64 0) 8 Tryz.underlying24 M E G I rfl v _ _ r u _ _ D (by
  intro u D;obtain ⟨_,_,rfl⟩:=Ey.1 D;rfl) (by unfold maxLen;omega) (by omega) d
 unfold Oper.wp execOp;simp only [O,resolve,invoke,builtin,Sem.run_bind,Sem.run_pure,Result.andThen_ok,List.map_toArray,List.map_cons,List.map_nil,V,hx,U];refine h v' w' ?_ J L;unfold zF;rw [Es,DK];exact h2
theorem CS {ok:Nat->Prop} {E:Prop} (D:o.guard=none) (W:World) (s x:Operand)
  (I:o.op=.call { callee:=.builtin .append,args:=#[s,x],argTypes:=#[24,24] }) (base:Nat) (l l2:List Int) (v u:Value) (J:a.eval s=v) (O:a.eval x=u)
  (r:zF W base v l) (L:zn W ok u l2) (d:base<=W.heap.size) (G:l.length+l2.length<=1000000000000)
  (h:∀v' w',zF w' base v' (l++l2)->Hid (W.grownBy w' v.ownBlock)->Hid (v'.ownBlock=v.ownBlock\/v'.ownBlock=some W.heap.size)->K (a.put o.dst v') w'):
  if Region.wanted o (yielded ops a.tmps)=true then Oper.wp Tryz.prog o a W K Q else E:=by
 have M:Region.wanted o (yielded ops a.tmps)=true:=by simp [Region.wanted,D]
 rw [if_pos M];exact BM W s x I base l l2 v u J O r L d G h
theorem Cz {ok:Nat->Prop} (D:o.guard=none) (W:World) (s x:Operand)
  (J:o.op=.call { callee:=.builtin .append,args:=#[s,x],argTypes:=#[24,24] }) (base:Nat) (l l2:List Int) (v u:Value) (L:a.eval s=v) (O:a.eval x=u)
  (r:zF W base v l) (M:zn W ok u l2) (d:base<=W.heap.size) (I:l.length+l2.length<=1000000000000)
  (h:∀v' w',zF w' base v' (l++l2)->Hid (W.grownBy w' v.ownBlock)->Hid (v'.ownBlock=v.ownBlock\/v'.ownBlock=some W.heap.size)->wpList Tryz.prog ops Q rest (a.put o.dst v') w'):wpList Tryz.prog ops Q (o :: rest) a W:=by
 refine wpList_plain D fun K G=>?_
 exact BM W s x J base l l2 v u L O r M d I fun v' w' h1 h2 E=>G _ _ (h v' w' h1 h2 E)
theorem CQ {v:Value} (h:zF W B v l) (d:v.ownBlock=some k):B<=k:=by
 rcases h.2 with ⟨rfl,_⟩ | ⟨g,cap,cur,rfl,r,_⟩
 ·cases d
 ·have d:some g=some k:=d;injection d with d;omega
theorem own_empty (W:World) (B:Nat) (d:B<=W.heap.size):zF (W.alloc (.cells #[] 3)) B (.slice (some ⟨W.heap.size,0,none⟩) 0 0) []:=
 ⟨rfl,.inr ⟨W.heap.size,0,#[],rfl,d,Eo W _,DC _,by decide,rfl,rfl⟩⟩
theorem AX {a w':World} {v:Value} (h:Below B a W) (r:Hid (W.grownBy w' v.ownBlock)) (d:B<=W.heap.size) (D:∀k,v.ownBlock=some k->B<=k):Below B a w':=h.grown r.out d D
def zc (w w':World):Prop:=Below w.heap.size w w'
theorem zc.refl (w:World):zc w w:=Below.refl _ _
theorem zc.trans {a c:World} (h:zc a b) (d:zc b c):zc a c:=BB h d (DC _)
theorem zc.alloc {a b:World} (h:zc a b) (o:Obj):zc a (b.alloc o):=Below.alloc h h.size o
theorem zc.drew {a b:World} (h:zc a b):zc a b.drew:=Below.drew h
theorem zc.drewN {a b:World} (h:zc a b) (n:Nat):zc a (b.drewN n):=Dl h n
theorem zc.cell {w W:World} {p:Addr} {v:Value} (h:w.cell? p=some v) (hW:zc w W):W.cell? p=some v:=(Below.cell hW (zp h)).trans h
theorem zc.rule {w:World} {p:Addr} {v:Value} (h:w.cell? p=some v):∀W,zc w W->W.cell? p=some v:=fun _ hW=>hW.cell h
theorem zc.lt {w:World} (h:zc w W) {g:Nat} (d:g<w.heap.size):g<W.heap.size:=Ee d h.size
theorem Ct (w:World):∀W o,zc w W->zc w (W.alloc o):=fun _ o h=>h.alloc o
structure Mk (w1 w:World) (v:Value) (l:List Int):Prop where
 own:zF w w1.heap.size v l
 ext:zc w1 w
theorem Mk.nil (w1:World):Mk w1 w1 (.slice none 0 0) []:=⟨World.ownsRow_nil _ _ _ _,zc.refl _⟩
theorem Mk.nil' {w:World} (h:zc w1 w):Mk w1 w (.slice none 0 0) []:=⟨World.ownsRow_nil _ _ _ _,h⟩
theorem Mk.app {w w':World} {v v':Value} (h:Mk w1 w v l) (D:zF w' w1.heap.size v' l') (d:Hid (w.grownBy w' v.ownBlock)):Mk w1 w' v' l':=
 ⟨D,AX h.ext d h.ext.size (fun k r=>CQ h.own r)⟩
theorem Mk.more {w w':World} {v:Value} (h:Mk w1 w v l) (d:zc w w'):Mk w1 w' v l:=
 ⟨h.own.kept (row:=none) ⟨d.os,d.tape,d.output,d.size,fun i r _=>d.block i r⟩ (by cases h:v.ownBlock <;> simp),h.ext.trans d⟩
theorem Mk.alloc {w1 w:World} {v:Value} {l:List Int} (h:Mk w1 w v l) (o:Obj):Mk w1 (w.alloc o) v l:=h.more ((zc.refl _).alloc o)
theorem Mk.drew {w1 w:World} {v:Value} {l:List Int} (h:Mk w1 w v l):Mk w1 w.drew v l:=⟨h.own,h.ext.drew⟩
theorem Mk.drewN {w1 w:World} {v:Value} {l:List Int} (h:Mk w1 w v l) (n:Nat):Mk w1 (w.drewN n) v l:=⟨h.own,h.ext.drewN n⟩
theorem Mk.cast {w:World} {v:Value} (h:Mk w1 w v l) (e:l'=l):Mk w1 w v l':=e ▸ h
theorem Mk.ints {w:World} {v:Value} (h:Mk w1 w v l):zn w (fun b=>w1.heap.size<=b) v l:=An.of_own h.own
theorem Mk.slice {w1 w:World} {v:Value} {l:List Int} (h:Mk w1 w v l):∃A c,v=.slice A l.length c/\l.length<=c:=by
 obtain ⟨A,c,e,d,_⟩:=h.ints;exact ⟨A,c,e,d⟩
theorem zc.mono_mk {w w':World} {v:Value} (h:zc w w1) (hm:Mk w1 w' v l):Mk w w' v l:=⟨hm.own.mono h.size,h.trans hm.ext⟩
theorem held_ext {a:World} (h:zc w1 a/\zc wk a) (d:Below a.heap.size a b):zc w1 b/\zc wk b:=⟨h.1.trans d,h.2.trans d⟩
theorem held_drew (h:zc w1 wk):zc w1 wk.drew/\zc wk wk.drew:=⟨h.drew,(zc.refl wk).drew⟩
theorem AC {w:World} {v:Value} (h:zF w B v l):∃A c,v=.slice A l.length c/\l.length<=c:=by
 obtain ⟨A,c,e,d,_⟩:=An.of_own h;exact ⟨A,c,e,d⟩
theorem own_at {w:World} {A:Option Addr} (h:zF w B (.slice A n c) l) (D:k<l.length):∃b,A=some ⟨b,0,none⟩/\B<=b/\w.cell? ⟨b,k,none⟩=some (.int .i64 l[k]):=by
 obtain ⟨g,cap,G,r,E⟩:=World.ownsRow.form h (by omega);injection G with h1 h2 d;subst h1 h2 d;refine ⟨g,rfl,r,?_⟩;rw [World.ownsRow.cellAt h k (by omega)];simp [D]
theorem zQ (W:World) (v:Value) (t:TypeId) {g:Nat} (h:g=W.heap.size):(W.alloc (.cells #[v] t)).cell? ⟨g,0,none⟩=some v:=by
 subst h;unfold World.cell?;simp only [Eo];rfl
end
section
open Go.RowKit
attribute [local go_sem ↓] Go.wp_at_zero Go.wp_at_succ
theorem Tryz.infoBool:(Tryz.prog.info? 4).map (fun i=>(i.zero,i.size,i.bytes))=some (some (.bool false),1,1):=by kernel_rfl
open Classical in
noncomputable def Bn (m:MZ) (t:Nat) (from_ used:List Int):List Int:=((List.range m.n.toNat).map Int.ofNat).filter (fun x=>decide (RP m t from_ used x))
theorem reachL_of {m:MZ} {t:Nat} {s:List Int} (h:∀x,x∈s↔RP m t from_ used x):((List.range m.n.toNat).map Int.ofNat).filter (fun x=>decide (x∈s))=Bn m t from_ used:=by
 unfold Bn;apply List.filter_congr;intro x _;rw [decide_eq_decide];exact h x
theorem BT {m:MZ} (d:Dim m) {t:Nat} {x:Int}:x∈Bn m t from_ used↔RP m t from_ used x:=by
 unfold Bn;simp only [Ex,Ey,Ez,DM];constructor
 ·rintro ⟨_,h⟩;exact h
 ·intro h;have r:=h.range d;exact ⟨⟨x.toNat,by omega,by simp;omega⟩,h⟩
structure Am (m:MZ):Prop where
 dim:Dim m
 fl:m.free.length=m.tasks.length
 fn:∀f∈m.free,(f.length:Int)=m.n
 tk:m.tasks.length<=6
 tn:∀t∈m.tasks,∀x,x∈t.1\/x∈t.2->0<=x/\x<m.n
theorem Am.of {m:MZ} (h:Br m=0):Am m:=by
 unfold Br at h
 split at h
 ·cases h
 ·rename_i h1
  have r:[m.w,m.h,m.l].any side=false:=by simpa using h1
  obtain ⟨⟨a1,a2⟩,⟨b1,b2⟩,c1,c2⟩:=sides r
  split at h
  ·cases h
  ·rename_i h2
   split at h
   ·cases h
   ·rename_i D
    split at h
    ·cases h
    ·rename_i L
     have d:m.n<=300/\m.tasks.length<=6:=by omega
     have E:m.free.length=m.tasks.length:=by
      by_cases h:m.free.length=m.tasks.length
      ·exact h
      ·exact absurd (.inl h) D
     have G:(m.up.length:Int)=m.n:=by
      by_cases h:(m.up.length:Int)=m.n
      ·exact h
      ·exact absurd (.inr (.inl h)) D
     have I:∀f∈m.free,(f.length:Int)=m.n:=by
      intro f hf;by_cases h:(f.length:Int)=m.n
      ·exact h
      ·exact absurd (.inr (.inr (EC.2 ⟨f,hf,by simpa using h⟩))) D
     refine ⟨⟨a1,a2,b1,b2,c1,c2,d.1,G⟩,E,I,d.2,fun t ht x hx=>?_⟩;by_cases J:Ao m.n x=true
     ·exfalso
      apply L;refine EC.2 ⟨t,ht,?_⟩;rw [EB];rcases hx with hx | hx
      ·exact .inl (EC.2 ⟨x,hx,J⟩)
      ·exact .inr (EC.2 ⟨x,hx,J⟩)
     ·simp [Ao] at J;omega
theorem Am.n1 {m:MZ} (g:Am m):1<=m.w*m.h*m.l:=by have:=g.dim.layer;omega
def BN (m:MZ) (node:Int):List Int:=if Br m=0/\0<=node/\node<m.n then zu m node else []
open Classical in
noncomputable def reachO (m:MZ) (t:Int) (from_ used:List Int):List Int:=if Br m=0/\0<=t/\t<m.tasks.length then Bn m t.toNat from_ used else []
theorem rNext_calls {ok:Nat->Prop} {v:Value} {m:MZ} (node:Int) (w:World) (hm:zM w ok v m) (hl:Lens m):
  Calls Tryz.prog 111 #[v,.int .i64 node] w fun e w'=>∃v',e=.returned v'/\Mk w w' v' (BN m node):=by
 have O:=hm;obtain ⟨vfr,vup,vts,rfl,a2,_,a3⟩:=hm;obtain ⟨vst,⟨At,ct,rfl,a7,_⟩,_⟩:=a3;have J:=zh O;clear O;have HL:=zh hl;obtain ⟨l1,l2,l3,l4⟩:=hl;clear l4 a2
 go_enter Tryz.func111,Tryz.ntmps111
 go_wp2_with fail
 generalize E:w.alloc (.cells #[.int .i64 m.w,.int .i64 m.h,.int .i64 m.l,vfr,vup,.slice At m.tasks.length ct] 35)=w1;have d:zc w w1:=by rw [<-E];exact (zc.refl w).alloc _
 have M:zj w1 w.heap.size 35 #[.int .i64 m.w,.int .i64 m.h,.int .i64 m.l,vfr,vup,.slice At m.tasks.length ct]:=by rw [<-E];exact Eo _ _
 clear E;obtain ⟨m0,m1,m2,m3,m4,m5⟩:=zA M;have r0:=zc.rule m0;have r1:=zc.rule m1;have r2:=zc.rule m2;have r3:=zc.rule m3;have r4:=zc.rule m4;have r5:=zc.rule m5;clear m0 m1 m2 m3 m4 m5 M;have ra:=Ct w1;have hx:zc w1 w1:=zc.refl w1
 go_wp2_with fail
 refine (Be w1 (J.out.below d) HL.out).mono ?_;rintro e wA ⟨rfl,a0⟩;have I:zc w1 wA:=a0;clear hx;by_cases D:Br m=0
 case neg=>
  have hd:(Br m != 0)=true:=by simpa using D
  have V:=zh D;clear D;go_wp2;go_ret;exact ⟨_,rfl,(d.trans I).mono_mk (Mk.cast (Mk.nil _) (by unfold BN;rw [if_neg (fun h=>V.out h.1)]))⟩
 have hd:(Br m != 0)=false:=by simpa using D
 have G:=zh (Am.of D);have V:=zh D;clear D;obtain ⟨a9,b0⟩:=G.out.dim.layer;have b1:=G.out.dim.n1;by_cases h0:0<=node
 case neg=>
  go_wp2;go_ret;exact ⟨_,rfl,(d.trans I).mono_mk (Mk.cast (Mk.nil _) (by unfold BN;rw [if_neg (fun h=>by have:=h.2.1;omega)]))⟩
 go_wp2_with fail
 refine (zX _ _ _ _ _ _ _ (by omega) (by omega)).mono ?_;rintro e wB ⟨rfl,a1⟩;have r:zc w1 wB:=I.trans a1;by_cases h1:node<m.w*m.h*m.l
 case neg=>
  go_wp2;go_ret;exact ⟨_,rfl,(d.trans r).mono_mk (Mk.cast (Mk.nil _) (by unfold BN;rw [if_neg (fun h=>by have:=h.2.2;unfold MZ.n at this;omega)]))⟩
 go_wp2_with fail
 refine (Cx m node _ (J.out.below (d.trans r)) G.out.dim h0 h1).mono ?_;rintro e wC ⟨v',rfl,L,U⟩;have HM:Hid (Mk wB wC v' (zu m node)):=⟨U,L⟩;clear U;have b3:zc w1 wC:=r.trans L
 go_wp2_with fail
 go_ret;exact ⟨_,rfl,(d.trans r).mono_mk (HM.out.cast (by unfold BN;rw [if_pos ⟨V.out,h0,h1⟩]))⟩
theorem rReach_calls {ok ok1 ok2:Nat->Prop} {v vf vu:Value} {m:MZ} (t:Int) (w:World) (hm:zM w ok v m) (hl:Lens m) (hf:zn w ok1 vf from_) (d4:from_.length<=20000000000000) (hu:zn w ok2 vu used) (d6:used.length<=20000000000000):
  Calls Tryz.prog 87 #[v,.int .i64 t,vf,vu] w fun e w'=>∃v',e=.returned v'/\Mk w w' v' (reachO m t from_ used):=by
 have b1:=hm;obtain ⟨vfr,vup,vts,rfl,c8,_,d8⟩:=hm;obtain ⟨vst,⟨At,ct,rfl,f3,_⟩,_⟩:=d8;have a3:=zh b1;clear b1;have HL:=zh hl;obtain ⟨l1,l2,l3,l4⟩:=hl;clear l4 c8;have HF:=zh hf;clear hf;have HU:=zh hu;clear hu
 go_enter Tryz.func87,Tryz.ntmps87
 go_wp2_with fail
 generalize a2:w.alloc (.cells #[.int .i64 m.w,.int .i64 m.h,.int .i64 m.l,vfr,vup,.slice At m.tasks.length ct] 35)=w1;have r:zc w w1:=by rw [<-a2];exact (zc.refl w).alloc _
 have a7:zj w1 w.heap.size 35 #[.int .i64 m.w,.int .i64 m.h,.int .i64 m.l,vfr,vup,.slice At m.tasks.length ct]:=by rw [<-a2];exact Eo _ _
 clear a2;obtain ⟨m0,m1,m2,m3,m4,m5⟩:=zA a7;have r0:=zc.rule m0;have r1:=zc.rule m1;have r2:=zc.rule m2;have r3:=zc.rule m3;have r4:=zc.rule m4;have r5:=zc.rule m5;clear m0 m1 m2 m3 m4 m5 a7;have ra:=Ct w1;have hx:zc w1 w1:=zc.refl w1
 go_wp2_with fail
 refine (Be w1 (a3.out.below r) HL.out).mono ?_;rintro e wA ⟨rfl,c6⟩;have d:zc w1 wA:=c6;clear hx;by_cases hc:Br m=0
 case neg=>
  have hd:(Br m != 0)=true:=by simpa using hc
  have HC:=zh hc;clear hc;go_wp2;go_ret;exact ⟨_,rfl,(r.trans d).mono_mk (Mk.cast (Mk.nil _) (by unfold reachO;rw [if_neg (fun h=>HC.out h.1)]))⟩
 have hd:(Br m != 0)=false:=by simpa using hc
 have G:=zh (Am.of hc);have HC:=zh hc;clear hc;obtain ⟨f6,f7⟩:=G.out.dim.layer;have f8:=G.out.dim.n1;by_cases h0:0<=t
 case neg=>
  go_wp2;go_ret;exact ⟨_,rfl,(r.trans d).mono_mk (Mk.cast (Mk.nil _) (by unfold reachO;rw [if_neg (fun h=>by have:=h.2.1;omega)]))⟩
 by_cases h1:t<m.tasks.length
 case neg=>
  have f0:(m.tasks.length:Int)<=t:=by omega
  go_wp2;go_ret;exact ⟨_,rfl,(r.trans d).mono_mk (Mk.cast (Mk.nil _) (by unfold reachO;rw [if_neg (fun h=>by have:=h.2.2;omega)]))⟩
 obtain ⟨tn,rfl⟩:∃tn:Nat,t=tn:=⟨t.toNat,by omega⟩;have d7:tn<m.free.length:=by have:=G.out.fl;omega
 have e4:tn<m.tasks.length:=by omega
 go_wp2_with fail
 have g0:=zh d
 go_region_held3 (fun w'=>zc w1 w'/\zc wA w')
  (first | (exact held_drew d) | (exact held_ext (held_drew d) E) | (exact held_ext (held_ext (held_drew d) E) a5))
  (first | ((go_at_call 125;refine (setOf_calls _ (HU.out.keep (zW.of_below (r.trans d.drew))) d6).mono ?_;rintro e w8 ⟨s8,rfl,E,b3,J⟩)) | ((go_at_call 124;refine (reach_calls tn _ (a3.out.keep (zW.of_below (r.trans (d.drew.trans E)))) G.out.dim d7 G.out.fn (HF.out.keep (zW.of_below (r.trans (d.drew.trans E)))) d4 b3).mono ?_;rintro e w9 ⟨s9,rfl,a5,b4,O⟩)))
 rename_i hS
 have d9:=hS.1;have M:=zh b4;clear b4;have hE:=zh (reachL_of (used:=used) (fun x=>(O x).trans ⟨fun h=>h.congr (fun _=>Iff.rfl) J,fun h=>h.congr (fun _=>Iff.rfl) (fun y=>(J y).symm)⟩));clear O;have a8:w8.heap.size+1<w9.heap.size:=zb M.out;obtain ⟨gs,I⟩:∃gs,gs=w8.heap.size+1:=⟨_,rfl⟩;rw [<-I] at M a8;have HG:=zh I;clear E b3 J hS
 go_wp2_with fail
 rw [<-HG.out];clear I a5;refine (zX _ _ _ _ _ _ _ (by omega) (by omega)).mono ?_;rintro e wB ⟨rfl,a0⟩;have e0:zc w1 wB:=d9.trans a0;have b8:=zh (M.out.below a0);clear M a8 a0;obtain ⟨N,hN⟩:∃N:Nat,m.w*m.h*m.l=(N:Int):=⟨(m.w*m.h*m.l).toNat,by omega⟩;have HN:=zh hN;clear hN;have f2:N<=300:=by have h:=HN.out;have:=G.out.dim.n1;omega
 have a4:=zh (Mk.nil wB);rw [HN.out]
 go_wp2_with fail
 go_loopw [9,34] (fun v i wr=>∃k:Nat,k<=N/\i=.int .i64 (k:Nat)/\Hid (Mk wB wr v (((List.range k).map Int.ofNat).filter (fun x=>decide (x∈s9))))) (fun _ i _=>N - (intOf i).toNat)
 case atStart=>exact ⟨0,by omega,rfl,a4⟩
 clear a4
 case round=>
  obtain ⟨j,hj,rfl,V⟩:=hrel;by_cases f5:j<N
  ·have L:((List.range (j+1)).map Int.ofNat).filter (fun x=>decide (x∈s9))=((List.range j).map Int.ofNat).filter (fun x=>decide (x∈s9))++[(j:Int)].filter (fun x=>decide (x∈s9)):=by
    rw [List.range_succ,Es,List.filter_append];rfl
   have HS:=zh L;clear L;have AT:=b8.out.below V.out.ext;by_cases D:(j:Int)∈s9
   ·have d5:=look_t AT D;have U:=zh D;clear D;have a9:(((List.range j).map Int.ofNat).filter (fun x=>decide (x∈s9))).length<=j:=DE (Ef _ _) (by simp);obtain ⟨lj,b0⟩:=EH (((List.range j).map Int.ofNat).filter (fun x=>decide (x∈s9)));rw [<-b0] at V a9 HS;clear b0;have g1:=V.out.ext.size
    go_wp2_with (at_builtin;refine Dg rfl _ _ rfl _ lj (j:Int) wB.heap.size wr.heap.size 1 _ rfl rfl (V.out.own.alloc _) ?d1 ?d2 ?d3 ?_)
    (try case d1=>exact zQ _ _ _ (by simp))
    case d2=>(first | (simp;done) | (simp;omega) | omega)
    case d3=>omega
    intro v' wb b2 a6 c7;have b9:=zh ((V.out.alloc _).app b2 a6);clear b2 a6 c7;go_wp2;go_roundw
    case rel=>exact ⟨j+1,by omega,by go_num,by rw [HS.out,List.filter_cons_of_pos (by simpa using U.out)];exact b9⟩
    case measure=>simp [intOf];omega
   ·have d5:=look_f AT D;have U:=zh D;clear D;go_wp2;go_roundw
    case rel=>exact ⟨j+1,by omega,by go_num,by rw [HS.out,List.filter_cons_of_neg (by simpa using U.out),List.filter_nil,List.append_nil];exact V⟩
    case measure=>simp [intOf];omega
  ·have c9:j=N:=by omega
   subst c9
   go_wp2_with fail
   go_ret;refine ⟨_,rfl,(r.trans e0).mono_mk (V.out.cast ?_)⟩;have c0:m.n.toNat=j:=by have:m.n=(j:Int):=HN.out;omega
   unfold reachO;rw [if_pos ⟨HC.out,by omega,by omega⟩,Int.toNat_natCast,<-hE.out,c0]
def stCells (m:MZ) (f u t vc vp:Value) (gu:Nat):Array Value:=#[.int .i64 m.w,.int .i64 m.h,.int .i64 m.l,f,u,t,vc,vp,.map (some gu)]
structure AQ (w:World) (ok:Nat->Prop) (g:Nat) (m:MZ) (ch:List Int) (ps:List (List Int)) (us:List Int) (f u t vc vp:Value) (gu:Nat):Prop where
 blk:zj w g 97 (stCells m f u t vc vp gu)
 okg:ok g
 maze:zM w ok (.agg #[.int .i64 m.w,.int .i64 m.h,.int .i64 m.l,f,u,t]) m
 ch:zn w ok vc ch
 ps:Ai w ok vp ps
 oku:ok gu
 us:zB w gu us
def Cq (w:World) (ok:Nat->Prop) (v:Value) (m:MZ) (ch:List Int) (ps:List (List Int)) (us:List Int):Prop:=
 ∃g f u t vc vp gu,v=.pointer (some ⟨g,0,none⟩)/\AQ w ok g m ch ps us f u t vc vp gu
section
variable {w w':World} {ok ok':Nat->Prop} {v f u t vc vp:Value} {m:MZ} {ch us:List Int} {ps:List (List Int)} {g gu:Nat}
theorem AQ.keep (h:AQ w ok g m ch ps us f u t vc vp gu) (d:zW ok w w'):AQ w' ok g m ch ps us f u t vc vp gu:=
 ⟨(d g h.okg (zb h.blk)).trans h.blk,h.okg,h.maze.keep d,h.ch.keep d,h.ps.keep d,h.oku,h.us.keep d h.oku⟩
theorem AQ.weaken (h:AQ w ok g m ch ps us f u t vc vp gu) (d:∀b,ok b->ok' b):AQ w ok' g m ch ps us f u t vc vp gu:=
 ⟨h.blk,d _ h.okg,h.maze.weaken d,h.ch.weaken d,h.ps.weaken d,d _ h.oku,h.us⟩
theorem Cq.keep (h:Cq w ok v m ch ps us) (d:zW ok w w'):Cq w' ok v m ch ps us:=by
 obtain ⟨g,f,u,t,vc,vp,gu,e,h⟩:=h;exact ⟨g,f,u,t,vc,vp,gu,e,h.keep d⟩
theorem Cq.weaken (h:Cq w ok v m ch ps us) (d:∀b,ok b->ok' b):Cq w ok' v m ch ps us:=by
 obtain ⟨g,f,u,t,vc,vp,gu,e,h⟩:=h;exact ⟨g,f,u,t,vc,vp,gu,e,h.weaken d⟩
theorem Cq.below (h:Cq w ok v m ch ps us) (d:Below w.heap.size w w'):Cq w' ok v m ch ps us:=h.keep (zW.of_below d)
theorem AQ.ext (h:AQ w ok g m ch ps us f u t vc vp gu) (d:zc w w'):AQ w' ok g m ch ps us f u t vc vp gu:=h.keep (zW.of_below d)
theorem AQ.rules (h:AQ w ok g m ch ps us f u t vc vp gu):
  (∀W,zc w W->W.cell? ⟨g,0,none⟩=some (.int .i64 m.w))/\(∀W,zc w W->W.cell? ⟨g,1,none⟩=some (.int .i64 m.h))/\(∀W,zc w W->W.cell? ⟨g,2,none⟩=some (.int .i64 m.l))/\
  (∀W,zc w W->W.cell? ⟨g,3,none⟩=some f)/\(∀W,zc w W->W.cell? ⟨g,4,none⟩=some u)/\(∀W,zc w W->W.cell? ⟨g,5,none⟩=some t)/\
  (∀W,zc w W->W.cell? ⟨g,6,none⟩=some vc)/\(∀W,zc w W->W.cell? ⟨g,7,none⟩=some vp)/\(∀W,zc w W->W.cell? ⟨g,8,none⟩=some (.map (some gu))):=by
 have r:=h.blk;unfold zj stCells at r
 have d:∀k x,(#[Value.int .i64 m.w,.int .i64 m.h,.int .i64 m.l,f,u,t,vc,vp,.map (some gu)]:Array Value)[k]?=some x->w.cell? ⟨g,k,none⟩=some x:=by
  intro k x D;unfold World.cell?;simp only [r];exact D
 exact ⟨zc.rule (d 0 _ rfl),zc.rule (d 1 _ rfl),zc.rule (d 2 _ rfl),zc.rule (d 3 _ rfl),zc.rule (d 4 _ rfl),zc.rule (d 5 _ rfl),zc.rule (d 6 _ rfl),zc.rule (d 7 _ rfl),zc.rule (d 8 _ rfl)⟩
end
structure SOk (m:MZ) (ch:List Int) (ps:List (List Int)):Prop where
 good:Am m
 lens:Lens m
 pl:ps.length<=m.tasks.length
 pn:0<m.tasks.length->0<ps.length
 pp:∀p∈ps,p.length<=1000
 pr:∀p∈ps,∀x∈p,0<=x/\x<m.n
 cl:ch.length<=1000
def finB (m:MZ) (ps:List (List Int)):Bool:=
 match (ps.getD (ps.length - 1) []).getLast? with
 | none=>false
 | some x=>decide (x∈(m.tasks.getD (ps.length - 1) ([],[])).2)
def cmpB (m:MZ) (ps:List (List Int)):Bool:=decide (m.tasks.length=0) || (decide (ps.length=m.tasks.length) && finB m ps)
theorem Cv {w:World}:zc w w.drew:=(zc.refl w).drew
theorem AE {ok:Nat->Prop} {m:MZ} {ch us:List Int} {ps:List (List Int)} {g gu:Nat} {f u t vc vp:Value} (w:World) (h:AQ w ok g m ch ps us f u t vc vp gu) (r:ps.length<=20000000000000):
  Calls Tryz.prog 126 #[.pointer (some ⟨g,0,none⟩)] w fun e w'=>e=.returned (.int .i64 ((ps.length:Int) - 1))/\w=w':=by
 obtain ⟨r0,r1,r2,r3,r4,r5,r6,r7,r8⟩:=h.rules;obtain ⟨vs,⟨Ap,cp,rfl,d,_⟩,_⟩:=h.ps;clear h;have D:=zc.refl w
 go_enter Tryz.func126,Tryz.ntmps126
 go_wp2;go_ret;exact ⟨rfl,rfl⟩
theorem Do {ok:Nat->Prop} {m:MZ} {ch us:List Int} {ps:List (List Int)} {g gu:Nat} {f u t vc vp:Value} (w:World) (h:AQ w ok g m ch ps us f u t vc vp gu) (so:SOk m ch ps) (hp:0<ps.length):
  Calls Tryz.prog 94 #[.pointer (some ⟨g,0,none⟩)] w fun e w'=>e=.returned (.bool (finB m ps))/\zG w w':=by
 obtain ⟨r0,r1,r2,r3,r4,r5,r6,r7,r8⟩:=h.rules;have c9:=h.ps;have c8:=h.maze;have HS:=zh h;clear h;obtain ⟨vs,⟨Ap,cp,rfl,d9,b3⟩,a5⟩:=c9;obtain ⟨fr',up',ts',he,_,_,a2⟩:=c8;injection he with he;injection he with he;simp only [List.cons.injEq,and_true,true_and] at he;obtain ⟨rfl,rfl,rfl⟩:=he;have d5:=a2;obtain ⟨vst,⟨At,ct,rfl,e0,_⟩,_⟩:=d5;have hk:ps.length - 1<ps.length:=by omega
 obtain ⟨b,off,up,rfl,_,D,b5⟩:=BG b3 a5 hk hk;have E:ps.length - 1<m.tasks.length:=by have:=so.pl;omega
 obtain ⟨bt,offt,sn,u1,u2,rfl,_,c6,a3,V,a6,a0⟩:=BK a2 E;have b4:=so.lens;have e3:=so.pl;have e9:=so.good.tk;have L:=so.pp _ (DD hk);have b0:=(b4.tl _ (DD E)).2;clear b4 b3 a5 a2
 have r:finB m ps=match (ps[ps.length - 1]).getLast? with | none=>false | some x=>decide (x∈(m.tasks[ps.length - 1]).2):=by
  unfold finB;simp [hk,E]
 obtain ⟨p,b1⟩:=EH (ps[ps.length - 1]);obtain ⟨tk,O⟩:=EH (m.tasks[ps.length - 1]);rw [<-b1] at b5 L r;rw [<-O] at a6 a0 b0 r;clear b1 O a6;have b9:=zh a0;clear a0;have HF:=zh r;clear r;obtain ⟨Aq,cq,rfl,I,a1⟩:=b5;obtain ⟨k,a9⟩:∃k,ps.length - 1=k:=⟨_,rfl⟩;rw [a9] at D a3 V E;have a8:(ps.length:Int) - 1=(k:Int):=by omega
 have U:=zh a8;clear a8;have e2:(k:Int)<(ps.length:Int):=by omega
 have e1:(0:Int)<=(k:Int):=by omega
 have d7:(k:Int)<(m.tasks.length:Int):=by omega
 have rp:=zc.rule D;have rt:=zc.rule V;clear D c6 a3 V a9 hk E;have hx:=zc.refl w;rcases List.eq_nil_or_concat p with rfl | ⟨q,x,rfl⟩
 ·have hz:([]:List Int).length=0:=rfl;rw [hz] at I
  go_enter Tryz.func94,Tryz.ntmps94
  go_wp2_with fail
  go_quiet ((go_at_call 126;refine (AE _ (HS.out.ext ((zc.refl w).drewN _)) (by omega)).mono ?_;rintro e w9 ⟨d,rfl⟩;rw [U.out] at d;exact ⟨d,⟨_,rfl⟩⟩))
  go_wp2_with fail
  go_quiet (fail)
  go_wp2;go_ret;exact ⟨zk (by rw [HF.out];rfl),(zG.refl w).more _ |>.more _⟩
 ·rw [List.concat_eq_append] at a1 L I HF;have b2:(q++[x]).length=q.length+1:=by simp
  rw [b2] at I L
  have J:∃bq offq,Aq=some ⟨bq,offq,none⟩/\w.cell? ⟨bq,offq+q.length,none⟩=some (.int .i64 x):=by
   obtain ⟨bq,offq,e,_,hc⟩:=Ae a1 (k:=q.length) (by omega) (by omega);exact ⟨bq,offq,e,by rw [hc];simp⟩
  obtain ⟨bq,offq,rfl,J⟩:=J;have rx:=zc.rule J;clear J a1;have G:(q++[x]).getLast?=some x:=by simp
  rw [G] at HF;have M:(q.concat x).length=q.length+1:=by simp
  rw [M] at rp;clear G b2 M;generalize q.length=n at*;obtain ⟨N,hN⟩:=EH (n+1);rw [<-hN] at rp I L;have e4:(0:Int)<=(n:Int):=by omega
  have e5:(n:Int)<(N:Int):=by omega
  have d4:(N:Int) - 1=(n:Int):=by omega
  have e6:(0:Int)<(N:Int):=by omega
  have e7:0<N:=by omega
  have e8:IntKind.i64.wrap ((N:Int) - 1)=(n:Int):=by rw [DY];omega
  clear hN d4
  go_enter Tryz.func94,Tryz.ntmps94
  go_wp2_with fail
  go_quiet ((go_at_call 126;refine (AE _ (HS.out.ext ((zc.refl w).drewN _)) (by omega)).mono ?_;rintro e w9 ⟨d,rfl⟩;rw [U.out] at d;exact ⟨d,⟨_,rfl⟩⟩))
  generalize b6:w.drewN nq=w1;have a4:zG w w1:=⟨nq,b6.symm⟩;have b7:zc w w1:=a4.below _;clear b6
  go_wp2_with fail
  go_quiet (first | ((go_at_call 126;refine (AE _ (HS.out.ext (b7.drewN _)) (by omega)).mono ?_;rintro e w9 ⟨d,rfl⟩;rw [U.out] at d;exact ⟨d,⟨_,rfl⟩⟩)) | ((go_at_call 56;refine (zt x _ (b9.out.below (b7.drewN _)) (by omega)).mono ?_;rintro e w8 ⟨c7,rfl⟩;exact ⟨c7,⟨_,rfl⟩⟩)))
  go_wp2;go_ret;exact ⟨zk (by rw [HF.out]),a4.more _⟩
theorem BE {ok:Nat->Prop} {m:MZ} {ch us:List Int} {ps:List (List Int)} {g gu:Nat} {f u t vc vp:Value} (w:World) (h:AQ w ok g m ch ps us f u t vc vp gu) (so:SOk m ch ps):
  Calls Tryz.prog 54 #[.pointer (some ⟨g,0,none⟩)] w fun e w'=>e=.returned (.bool (cmpB m ps))/\zG w w':=by
 obtain ⟨r0,r1,r2,r3,r4,r5,r6,r7,r8⟩:=h.rules;have a4:=h.ps;have a3:=h.maze;have HS:=zh h;clear h;obtain ⟨vs,⟨Ap,cp,rfl,M,a5⟩,a2⟩:=a4;obtain ⟨fr',up',ts',he,_,_,a7⟩:=a3;injection he with he;injection he with he;simp only [List.cons.injEq,and_true,true_and] at he;obtain ⟨rfl,rfl,rfl⟩:=he;obtain ⟨vst,⟨At,ct,rfl,O,_⟩,_⟩:=a7;have G:=so.pl;have D:=so.pn;have a6:=so.good.tk;have SO:=zh so;clear so;clear a5 a2;have hx:=zc.refl w;obtain ⟨cb,r⟩:=EH (cmpB m ps);have d:=zh r;rw [<-r];clear r;unfold cmpB at d;obtain ⟨T,L⟩:=EH m.tasks.length;obtain ⟨Pn,J⟩:=EH ps.length;rw [<-L] at r5 O d G D a6;rw [<-J] at r7 M d G D;have HT:=zh L;clear L;have HP:=zh J;clear J;by_cases h0:T=0
 ·have E:Hid (cb=true):=by have:=d.out;rw [DF h0] at this;simpa [Hid] using this
  have U:decide ((T:Int)=0)=true:=DF (by omega);have V:((T:Int)==0)=true:=by rw [beq_iff_eq];omega
  clear h0 D
  go_enter Tryz.func54,Tryz.ntmps54
  go_wp2_with fail
  go_quiet (fail)
  go_wp2;go_ret;exact ⟨zk E.out.symm,(zG.refl w).more _⟩
 ·have U:decide ((T:Int)=0)=false:=DG (by omega);have V:((T:Int)==0)=false:=by rw [DP];omega
  by_cases h1:Pn=T
  ·have E:Hid (cb=finB m ps):=by have:=d.out;rw [DG h0,DF h1] at this;simpa [Hid] using this
   have I:Hid (0<ps.length):=(by have:=HP.out;omega:0<ps.length);subst h1;have a0:((Pn:Int)==(Pn:Int))=true:=by rw [beq_iff_eq]
   clear h0
   go_enter Tryz.func54,Tryz.ntmps54
   go_wp2_with fail
   go_quiet ((go_at_call 94;refine (Do _ (HS.out.ext ((zc.refl w).drewN _)) SO.out I.out).mono ?_;rintro e w9 ⟨a1,nd,rfl⟩;exact ⟨a1,⟨_,World.drewN_drewN _ _ _⟩⟩))
   go_wp2;go_ret;exact ⟨zk E.out.symm,(zG.refl w).more _⟩
  ·have E:Hid (cb=false):=by have:=d.out;rw [DG h0,DG h1] at this;simpa [Hid] using this
   have b0:decide ((Pn:Int)=(T:Int))=false:=DG (by omega);have a0:((Pn:Int)==(T:Int))=false:=by rw [DP];omega
   clear h1 h0
   go_enter Tryz.func54,Tryz.ntmps54
   go_wp2_with fail
   go_quiet (fail)
   go_wp2;go_ret;exact ⟨zk E.out.symm,(zG.refl w).more _⟩
theorem Tryz.infoInts:(Tryz.prog.info? 24).map (fun i=>(i.zero,i.size,i.bytes))=some (some (.slice none 0 0),1,24):=by kernel_rfl
def OwnL (w:World) (B:Nat) (v:Value) (vs:List Value):Prop:=w.ownsRow B 24 1 v vs.length vs
theorem ints_oneCell {w:World} {ok:Nat->Prop} {v:Value} (h:zn w ok v l):v.oneCell'=true:=by
 obtain ⟨A,c,rfl,_⟩:=h;rfl
theorem Cg {ok:Nat->Prop} (D:o.guard=none) (W:World) (s x:Operand)
  (U:o.op=.call { callee:=.builtin .append,args:=#[s,x],argTypes:=#[22,22] }) (base:Nat) (l l2:List Value) (v u:Value) (hs:a.eval s=v) (hx:a.eval x=u)
  (r:OwnL W base v l) (hu:An W ok 1 u l2.length l2) (h1:∀u∈l2,u.oneCell'=true) (d:base<=W.heap.size) (hl:l.length+l2.length<=1000000000000)
  (h:∀v' w',OwnL w' base v' (l++l2)->Hid (W.grownBy w' v.ownBlock)->Hid (v'.ownBlock=v.ownBlock\/v'.ownBlock=some W.heap.size)->wpList Tryz.prog ops Q rest (a.put o.dst v') w'):wpList Tryz.prog ops Q (o :: rest) a W:=by
 refine wpList_plain D fun K M=>?_
 obtain ⟨i0,O,E,G,I⟩:=info_parts Tryz.infoInts;obtain ⟨v',w',V,h2,J,L⟩:=Dt (ok:=ok) W base 22 o.type 24 i0 (.slice none 0 0) 24 Tryz.underlying22 O E G I rfl v _ _ r u _ _ hu h1 (by unfold maxLen;omega) (by omega) d;unfold Oper.wp execOp;simp only [U,resolve,invoke,builtin,Sem.run_bind,Sem.run_pure,Result.andThen_ok,List.map_toArray,List.map_cons,List.map_nil,hs,hx,V];refine M _ _ (h v' w' ?_ J L);unfold OwnL;rw [DK];exact h2
theorem slice_own {g:Nat} (h:(Value.slice (some ⟨g,0,none⟩) n c).ownBlock=some k):g<=k:=by
 have h:some g=some k:=h;injection h with h;omega
theorem own_emptyL (W:World) (B:Nat) (d:B<=W.heap.size):OwnL (W.alloc (.cells #[] 24)) B (.slice (some ⟨W.heap.size,0,none⟩) 0 0) []:=
 ⟨rfl,.inr ⟨W.heap.size,0,#[],rfl,d,Eo W _,DC _,by decide,rfl,rfl⟩⟩
theorem nilEq (t e:TypeId) (ht:Tryz.prog.underlying t=some (.slice e)):∀(w:World) (a:Option Addr) (n c n' c':Nat),(binOp .eql t (.slice a n c) (.slice none n' c')).run Tryz.prog w=.ok (.bool a.isNone) w:=fun w a n c n' c'=>Lib.run_eql_slice_nil w _ _ a n c n' c' ht
theorem cloneI_calls {ok:Nat->Prop} {v:Value} (w:World) (h:zn w ok v l) (M:l.length<=100000000000):
  Calls Tryz.prog 55 #[v] w fun e w'=>∃v',e=.returned v'/\Mk w w' v' l:=by
 have H:=zh h;have E:=nilEq 24 3 Tryz.underlying24;obtain ⟨A,c,rfl,L,r⟩:=h;rcases A with _ | a
 ·have d:l=[]:=by
   rcases Em l.length with h | h
   ·exact DU h
   ·obtain ⟨b,off,e,_⟩:=r.2 h;cases e
  subst d;clear r
  go_enter Tryz.func55,Tryz.ntmps55
  go_wp2_with fail
  go_ret;exact ⟨_,rfl,Mk.nil _⟩
 ·clear r;have O:=zc.refl w
  go_enter Tryz.func55,Tryz.ntmps55
  go_wp2_with (at_builtin;refine Cz (ok:=ok) rfl _ _ _ rfl w.heap.size [] l _ _ rfl rfl (own_empty w w.heap.size (DC _)) (H.out.below ((zc.refl w).alloc _)) ?d1 ?d2 ?_)
  case d1=>simp
  case d2=>simp;omega
  intro v' w1 G D _;have I:Hid (Mk w w1 v' l):=⟨G,AX ((zc.refl w).alloc _) D (by simp) (fun k J=>slice_own J)⟩;clear G D
  go_wp2_with fail
  go_ret;exact ⟨_,rfl,I.out⟩
theorem cloneL_calls {ok:Nat->Prop} {v:Value} {vs:List Value} (w:World) (h:An w ok 1 v vs.length vs) (h1:∀u∈vs,u.oneCell'=true) (U:vs.length<=100000000000):
  Calls Tryz.prog 107 #[v] w fun e w'=>∃v',e=.returned v'/\zc w w'/\OwnL w' w.heap.size v' vs:=by
 have H:=zh h;have I:=zh h1;clear h1;have E:=nilEq 22 24 Tryz.underlying22;obtain ⟨A,c,rfl,O,r⟩:=h;rcases A with _ | a
 ·have d:vs=[]:=by
   rcases Em vs.length with h | h
   ·exact DU h
   ·obtain ⟨b,off,e,_⟩:=r.2 h;cases e
  subst d;clear r
  go_enter Tryz.func107,Tryz.ntmps107
  go_wp2_with fail
  go_ret;exact ⟨_,rfl,zc.refl _,World.ownsRow_nil _ _ _ _⟩
 ·clear r;have V:=zc.refl w
  go_enter Tryz.func107,Tryz.ntmps107
  go_wp2_with (at_builtin;refine Cg (ok:=ok) rfl _ _ _ rfl w.heap.size [] vs _ _ rfl rfl (own_emptyL w w.heap.size (DC _)) (H.out.below ((zc.refl w).alloc _)) I.out ?d1 ?d2 ?_)
  case d1=>simp
  case d2=>simp;omega
  intro v' w1 G D _;have L:zc w w1:=AX ((zc.refl w).alloc _) D (by simp) (fun k M=>slice_own M);have J:=zh G;clear G D
  go_wp2_with fail
  go_ret;exact ⟨_,rfl,L,J.out⟩
def ps0 (m:MZ):List (List Int):=if m.tasks.length=0 then [] else [[]]
theorem zj.set {w:World} {g:Nat} {t:TypeId} (h:zj w g t cs) (v:Value):zj (w.setCell ⟨g,k,none⟩ v) g t (cs.setIfInBounds k v):=by
 unfold zj at h⊢;simp [World.setCell,Array.getElem?_modify,h]
theorem zj.setOther {w:World} {g:Nat} {t:TypeId} (h:zj w g t cs) {a:Addr} (d:g≠a.block) (v:Value):zj (w.setCell a v) g t cs:=
 (DL w a v g d).trans h
theorem zj.ext {w w':World} {g:Nat} {t:TypeId} (h:zj w g t cs) (d:zc w w'):zj w' g t cs:=(d.block g (zb h)).trans h
theorem zj.cell {w:World} {g k:Nat} {t:TypeId} {cs:Array Value} {v:Value} (h:zj w g t cs) (d:cs[k]?=some v):w.cell? ⟨g,k,none⟩=some v:=by
 unfold zj at h;unfold World.cell?;simp only [h];exact d
theorem zj.frozen {w:World} {g:Nat} {t:TypeId} {cs:Array Value} (h:zj w g t cs) (k:Nat):w.frozen? ⟨g,k,none⟩=false:=by
 unfold zj at h;unfold World.frozen?;simp [h]
theorem zj.new (w:World) (cs:Array Value) (t:TypeId) {g:Nat} (d:g=w.heap.size):zj (w.alloc (.cells cs t)) g t cs:=by
 subst d;exact Eo _ _
theorem AQ.make {ok ok':Nat->Prop} {w:World} {g gu:Nat} {m:MZ} {ch us:List Int} {ps:List (List Int)} {f u t vc vp:Value} (G:zc w W) (hm:zM w ok (.agg #[.int .i64 m.w,.int .i64 m.h,.int .i64 m.l,f,u,t]) m)
  (L:∀b,ok b->ok' b) (I:zj W g 97 (stCells m f u t vc vp gu)) (J:ok' g) (d:zn W ok' vc ch) (D:Ai W ok' vp ps) (r:ok' gu) (E:zB W gu us):AQ W ok' g m ch ps us f u t vc vp gu:=
 ⟨I,J,(hm.below G).weaken L,d,D,r,E⟩
theorem Ai.nil (w:World) (ok:Nat->Prop):Ai w ok (.slice none 0 0) []:=⟨[],⟨none,0,rfl,DC _,AG.nil _ _ _ _⟩,by simp⟩
theorem AG.block {w:World} {ok:Nat->Prop} {g:Nat} {t:TypeId} (h:zj w g t cs) (d:ok g) (r:cs.size=n):AG w ok 1 (some ⟨g,0,none⟩) n cs.toList:=
 ⟨by simp [r],fun _=>⟨g,0,rfl,d,fun j u D=>by rw [Nat.zero_add];exact h.cell (by simpa using D)⟩⟩
theorem begin_calls {ok:Nat->Prop} {v:Value} {m:MZ} (w:World) (hm:zM w ok v m) (hl:m.tasks.length<=100000):
  Calls Tryz.prog 90 #[v] w fun e w'=>∃v',e=.returned v'/\zc w w'/\Cq w' (fun b=>ok b\/w.heap.size<=b) v' m [] (ps0 m) []:=by
 have r:=hm;obtain ⟨vfr,vup,vts,rfl,_,_,a3⟩:=hm;obtain ⟨vst,⟨At,ct,rfl,a7,_⟩,_⟩:=a3;have a8:=@run_makeMap Tryz.prog;by_cases h0:m.tasks.length=0
 ·have d:ps0 m=[]:=by unfold ps0;rw [if_pos h0]
  rw [h0] at r;have E:=zh r;clear r;have O:=zh d;clear d
  go_enter Tryz.func90,Tryz.ntmps90
  go_wp2_with fail
  go_ret;rw [O.out];have D:zc w (w.alloc (.cells #[.int .i64 m.w,.int .i64 m.h,.int .i64 m.l,vfr,vup,.slice At 0 ct] 35)):=(zc.refl w).alloc _;refine ⟨_,rfl,(D.alloc _).alloc _,w.heap.size+2,_,_,_,_,_,w.heap.size+1,rfl,AQ.make ((D.alloc _).alloc _) E.out (fun _ h=>.inl h) (zj.new _ _ _ (by simp)) (.inr (by omega)) (zn.nil _ _) (Ai.nil _ _) (.inr (by omega)) ?_⟩
  have h1:zB ((w.alloc (.cells #[.int .i64 m.w,.int .i64 m.h,.int .i64 m.l,vfr,vup,.slice At 0 ct] 35)).alloc (.map #[] 0)) (w.heap.size+1) []:=by
   have:=zB.new (w.alloc (.cells #[.int .i64 m.w,.int .i64 m.h,.int .i64 m.l,vfr,vup,.slice At 0 ct] 35));simpa using this
  exact h1.below ((zc.refl _).alloc _)
 ·have d:ps0 m=[[]]:=by unfold ps0;rw [if_neg h0]
  have E:=zh r;clear r;have O:=zh d;clear d
  go_enter Tryz.func90,Tryz.ntmps90
  go_wp2_with fail
  go_ret;rw [O.out];generalize L:w.alloc (.cells #[.int .i64 m.w,.int .i64 m.h,.int .i64 m.l,vfr,vup,.slice At m.tasks.length ct] 35)=w1;have D:zc w w1:=by rw [<-L];exact (zc.refl w).alloc _
  have M:w1.heap.size=w.heap.size+1:=by rw [<-L];simp
  have h1:zB (w1.alloc (.map #[] 0)) (w.heap.size+1) []:=by rw [<-M];exact zB.new w1
  have V:zc w (w1.alloc (.map #[] 0)):=D.alloc _;generalize a4:w1.alloc (.map #[] 0)=w2 at*;have a6:w2.heap.size=w.heap.size+2:=by rw [<-a4];simp [M]
  generalize G:w2.alloc (.cells #[.int .i64 m.w,.int .i64 m.h,.int .i64 m.l,vfr,vup,.slice At m.tasks.length ct,.slice none 0 0,.slice (some ⟨w.heap.size+1+1+1,0,none⟩) 1 1,.map (some (w.heap.size+1))] 97)=w3;have a0:zj w3 (w.heap.size+2) 97 (stCells m vfr vup (.slice At m.tasks.length ct) (.slice none 0 0) (.slice (some ⟨w.heap.size+3,0,none⟩) 1 1) (w.heap.size+1)):=by rw [<-G];exact zj.new _ _ _ (by omega)
  have a9:w3.heap.size=w.heap.size+3:=by rw [<-G];simp [a6]
  have U:zc w2 w3:=by rw [<-G];exact (zc.refl _).alloc _
  have I:=U.alloc (.cells #[.slice none 0 0] 24);have J:=V.trans I;have a1:=a0.alloc (.cells #[.slice none 0 0] 24);have a2:zj (w3.alloc (.cells #[.slice none 0 0] 24)) (w.heap.size+3) 24 #[.slice none 0 0]:=zj.new _ _ _ (by omega);refine ⟨_,rfl,J,w.heap.size+2,_,_,_,_,_,w.heap.size+1,rfl,AQ.make J E.out (fun _ h=>.inl h) a1 (.inr (by omega)) (zn.nil _ _) ?_ (.inr (by omega)) (h1.below I)⟩
  ·exact ⟨[.slice none 0 0],⟨some ⟨w.heap.size+3,0,none⟩,1,rfl,DC _,AG.block a2 (.inr (by omega)) rfl⟩,fun i x hx=>by
    match i,hx with
    | 0,hx=>
     have:x=[]:=by simpa using hx.symm
     subst this;exact ⟨_,rfl,zn.nil _ _⟩⟩
end
end Go.Proofs.YtcnaogdgjkpkmaaGreatDoor
