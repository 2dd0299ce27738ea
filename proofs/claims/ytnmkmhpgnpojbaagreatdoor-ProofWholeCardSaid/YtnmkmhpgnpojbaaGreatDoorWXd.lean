import Derived.Test.YtnmkmhpgnpojbaaGreatDoorWXc
import Derived.Lib.SliceRun
import Derived.RangeFuncNested
import Derived.RangeFuncBound
import Derived.RangeFuncCalls
import Derived.RangeFuncLeaves
import Derived.RangeFuncBox
import Derived.Shelf.Abstract
import Derived.Maps.AppendAt
import Derived.RangeFuncWrites
import Derived.Shelf.RegionOpen
import Derived.OwnWalkIn
import Derived.TacticsInMore
import Derived.LoopNIn
import Derived.LoopIn
import Derived.Deep.RegionHeld
import Derived.CallsIn
import Derived.OrdersIn
set_option linter.unusedVariables false
set_option linter.unusedSimpArgs false
set_option maxRecDepth 100000
set_option maxHeartbeats 16000000
namespace Go.Proofs.YtnmkmhpgnpojbaaGreatDoor
variable {a a0:Act} {K:Act->World->Prop} {listed:Array Bool} {cs:Array Value} {l:List Int} {js:List Nat} {m:MZ} {fuel g k n:Nat} {ok:Nat->Prop} {o:Oper} {v:Value} {W w:World}
section
open Go.RowKit
attribute [local go_sem ↓] Go.wp_at_zero Go.wp_at_succ
theorem Tryz.infoInts:(Tryz.prog.info? 23).map (fun i=>(i.zero,i.size,i.bytes))=some (some (.slice none 0 0),1,24):=by kernel_rfl
def Bz (w:World) (B:Nat) (v:Value) (vs:List Value):Prop:=w.ownsRow B 23 1 v vs.length vs
theorem ints_oneCell (h:zk w ok v l):v.oneCell'=true:=by
 obtain ⟨A,c,rfl,_⟩:=h;rfl
theorem BV {ops:Array Oper} {rest:List Oper} {Q:Exit->Act->World->Prop} (B:o.guard=none) (W:World) (s x:Operand)
  (V:o.op=.call { callee:=.builtin .append,args:=#[s,x],argTypes:=#[22,22] }) (base:Nat) (l l2:List Value) (v u:Value) (hs:a.eval s=v) (hx:a.eval x=u)
  (z:Bz W base v l) (hu:Aw W ok 1 u l2.length l2) (I:∀u∈l2,u.oneCell'=true) (d:base<=W.heap.size) (hl:l.length+l2.length<=1000000000000)
  (h:∀v' w',Bz w' base v' (l++l2)->Hid (W.grownBy w' v.ownBlock)->Hid (v'.ownBlock=v.ownBlock\/v'.ownBlock=some W.heap.size)->wpList Tryz.prog ops Q rest (a.put o.dst v') w'):wpList Tryz.prog ops Q (o :: rest) a W:=by
 refine wpList_plain B fun K O=>?_
 obtain ⟨i0,U,D,E,G⟩:=info_parts Tryz.infoInts;obtain ⟨v',w',hr,J,L,M⟩:=De (ok:=ok) W base 22 o.type 23 i0 (.slice none 0 0) 24 Tryz.underlying22 U D E G rfl v _ _ z u _ _ hu I (by unfold maxLen;omega) (by omega) d;unfold Oper.wp execOp;simp only [V,resolve,invoke,builtin,Sem.run_bind,Sem.run_pure,Result.andThen_ok,List.map_toArray,List.map_cons,List.map_nil,hs,hx,hr];refine O _ _ (h v' w' ?_ L M);unfold Bz;rw [Dz];exact J
theorem slice_own {c:Nat} (h:(Value.slice (some ⟨g,0,none⟩) n c).ownBlock=some k):g<=k:=by
 have h:some g=some k:=h;injection h with h;omega
theorem own_emptyL (W:World) (B:Nat) (d:B<=W.heap.size):Bz (W.alloc (.cells #[] 23)) B (.slice (some ⟨W.heap.size,0,none⟩) 0 0) []:=
 ⟨rfl,.inr ⟨W.heap.size,0,#[],rfl,d,Ee W _,Dq _,by decide,rfl,rfl⟩⟩
theorem nilEq (t e:TypeId) (ht:Tryz.prog.underlying t=some (.slice e)):∀(w:World) (a:Option Addr) (n c n' c':Nat),(binOp .eql t (.slice a n c) (.slice none n' c')).run Tryz.prog w=.ok (.bool a.isNone) w:=fun w a n c n' c'=>Lib.run_eql_slice_nil w _ _ a n c n' c' ht
theorem cloneI_calls (w:World) (h:zk w ok v l) (L:l.length<=100000000000):
  Calls Tryz.prog 97 #[v] w fun e w'=>∃v',e=.returned v'/\Mk w w' v' l:=by
 have H:=zh h;have D:=nilEq 23 3 Tryz.underlying23;obtain ⟨A,c,rfl,J,z⟩:=h;rcases A with _ | a
 ·have d:l=[]:=by
   rcases Ec l.length with h | h
   ·exact DJ h
   ·obtain ⟨b,off,e,_⟩:=z.2 h;cases e
  subst d;clear z
  go_enter Tryz.func97,Tryz.ntmps97
  go_wp2_with fail
  go_ret;exact ⟨_,rfl,Mk.nil _⟩
 ·clear z;have M:=zb.refl w
  go_enter Tryz.func97,Tryz.ntmps97
  go_wp2_with (at_builtin;refine Cn (ok:=ok) rfl _ _ _ rfl w.heap.size [] l _ _ rfl rfl (own_empty w w.heap.size (Dq _)) (H.out.below ((zb.refl w).alloc _)) ?d1 ?d2 ?_)
  case d1=>simp
  case d2=>simp;omega
  intro v' w1 E B _;have G:Hid (Mk w w1 v' l):=⟨E,Ab ((zb.refl w).alloc _) B (by simp) (fun k I=>slice_own I)⟩;clear E B
  go_wp2_with fail
  go_ret;exact ⟨_,rfl,G.out⟩
theorem cloneL_calls {vs:List Value} (w:World) (h:Aw w ok 1 v vs.length vs) (B:∀u∈vs,u.oneCell'=true) (U:vs.length<=100000000000):
  Calls Tryz.prog 198 #[v] w fun e w'=>∃v',e=.returned v'/\zb w w'/\Bz w' w.heap.size v' vs:=by
 have H:=zh h;have I:=zh B;clear B;have E:=nilEq 22 23 Tryz.underlying22;obtain ⟨A,c,rfl,O,z⟩:=h;rcases A with _ | a
 ·have d:vs=[]:=by
   rcases Ec vs.length with h | h
   ·exact DJ h
   ·obtain ⟨b,off,e,_⟩:=z.2 h;cases e
  subst d;clear z
  go_enter Tryz.func198,Tryz.ntmps198
  go_wp2_with fail
  go_ret;exact ⟨_,rfl,zb.refl _,World.ownsRow_nil _ _ _ _⟩
 ·clear z;have V:=zb.refl w
  go_enter Tryz.func198,Tryz.ntmps198
  go_wp2_with (at_builtin;refine BV (ok:=ok) rfl _ _ _ rfl w.heap.size [] vs _ _ rfl rfl (own_emptyL w w.heap.size (Dq _)) (H.out.below ((zb.refl w).alloc _)) I.out ?d1 ?d2 ?_)
  case d1=>simp
  case d2=>simp;omega
  intro v' w1 G D _;have L:zb w w1:=Ab ((zb.refl w).alloc _) D (by simp) (fun k M=>slice_own M);have J:=zh G;clear G D
  go_wp2_with fail
  go_ret;exact ⟨_,rfl,L,J.out⟩
def ps0 (m:MZ):List (List Int):=if m.tasks.length=0 then [] else [[]]
theorem ze.set {t:TypeId} (h:ze w g t cs) (v:Value):ze (w.setCell ⟨g,k,none⟩ v) g t (cs.setIfInBounds k v):=by
 unfold ze at h⊢;simp [World.setCell,Array.getElem?_modify,h]
theorem ze.setOther {t:TypeId} (h:ze w g t cs) {a:Addr} (d:g≠a.block) (v:Value):ze (w.setCell a v) g t cs:=
 (DA w a v g d).trans h
theorem ze.ext {w':World} {t:TypeId} (h:ze w g t cs) (d:zb w w'):ze w' g t cs:=(d.block g (za h)).trans h
theorem ze.cell {w:World} {g k:Nat} {t:TypeId} {cs:Array Value} {v:Value} (h:ze w g t cs) (d:cs[k]?=some v):w.cell? ⟨g,k,none⟩=some v:=by
 unfold ze at h;unfold World.cell?;simp only [h];exact d
theorem ze.frozen {w:World} {g:Nat} {t:TypeId} {cs:Array Value} (h:ze w g t cs) (k:Nat):w.frozen? ⟨g,k,none⟩=false:=by
 unfold ze at h;unfold World.frozen?;simp [h]
theorem ze.new (w:World) (cs:Array Value) (t:TypeId) (d:g=w.heap.size):ze (w.alloc (.cells cs t)) g t cs:=by
 subst d;exact Ee _ _
theorem AJ.make {ok':Nat->Prop} {gu:Nat} {ch us:List Int} {ps:List (List Int)} {f u t vc vp:Value} (E:zb w W) (hm:zF w ok (.agg #[.int .i64 m.w,.int .i64 m.h,.int .i64 m.l,f,u,t]) m)
  (J:∀b,ok b->ok' b) (G:ze W g 154 (stCells m f u t vc vp gu)) (I:ok' g) (d:zk W ok' vc ch) (B:zU W ok' vp ps) (z:ok' gu) (D:zu W gu us):AJ W ok' g m ch ps us f u t vc vp gu:=
 ⟨G,I,(hm.below E).weaken J,d,B,z,D⟩
theorem zU.nil (w:World) (ok:Nat->Prop):zU w ok (.slice none 0 0) []:=⟨[],⟨none,0,rfl,Dq _,AI.nil _ _ _ _⟩,by simp⟩
theorem AI.block {t:TypeId} (h:ze w g t cs) (d:ok g) (z:cs.size=n):AI w ok 1 (some ⟨g,0,none⟩) n cs.toList:=
 ⟨by simp [z],fun _=>⟨g,0,rfl,d,fun j u B=>by rw [Nat.zero_add];exact h.cell (by simpa using B)⟩⟩
theorem begin_calls (w:World) (hm:zF w ok v m) (hl:m.tasks.length<=100000):
  Calls Tryz.prog 160 #[v] w fun e w'=>∃v',e=.returned v'/\zb w w'/\Cb w' (fun b=>ok b\/w.heap.size<=b) v' m [] (ps0 m) []:=by
 have z:=hm;obtain ⟨vfr,vup,vts,rfl,_,_,a4⟩:=hm;obtain ⟨vst,⟨At,ct,rfl,a8,_⟩,_⟩:=a4;have a9:=@run_makeMap Tryz.prog;by_cases h0:m.tasks.length=0
 ·have d:ps0 m=[]:=by unfold ps0;rw [if_pos h0]
  rw [h0] at z;have D:=zh z;clear z;have M:=zh d;clear d
  go_enter Tryz.func160,Tryz.ntmps160
  go_wp2_with fail
  go_ret;rw [M.out];have B:zb w (w.alloc (.cells #[.int .i64 m.w,.int .i64 m.h,.int .i64 m.l,vfr,vup,.slice At 0 ct] 32)):=(zb.refl w).alloc _;refine ⟨_,rfl,(B.alloc _).alloc _,w.heap.size+2,_,_,_,_,_,w.heap.size+1,rfl,AJ.make ((B.alloc _).alloc _) D.out (fun _ h=>.inl h) (ze.new _ _ _ (by simp)) (.inr (by omega)) (zk.nil _ _) (zU.nil _ _) (.inr (by omega)) ?_⟩
  have O:zu ((w.alloc (.cells #[.int .i64 m.w,.int .i64 m.h,.int .i64 m.l,vfr,vup,.slice At 0 ct] 32)).alloc (.map #[] 0)) (w.heap.size+1) []:=by
   have:=zu.new (w.alloc (.cells #[.int .i64 m.w,.int .i64 m.h,.int .i64 m.l,vfr,vup,.slice At 0 ct] 32));simpa using this
  exact O.below ((zb.refl _).alloc _)
 ·have d:ps0 m=[[]]:=by unfold ps0;rw [if_neg h0]
  have D:=zh z;clear z;have M:=zh d;clear d
  go_enter Tryz.func160,Tryz.ntmps160
  go_wp2_with fail
  go_ret;rw [M.out];generalize J:w.alloc (.cells #[.int .i64 m.w,.int .i64 m.h,.int .i64 m.l,vfr,vup,.slice At m.tasks.length ct] 32)=w1;have B:zb w w1:=by rw [<-J];exact (zb.refl w).alloc _
  have L:w1.heap.size=w.heap.size+1:=by rw [<-J];simp
  have O:zu (w1.alloc (.map #[] 0)) (w.heap.size+1) []:=by rw [<-L];exact zu.new w1
  have V:zb w (w1.alloc (.map #[] 0)):=B.alloc _;generalize a5:w1.alloc (.map #[] 0)=w2 at*;have a7:w2.heap.size=w.heap.size+2:=by rw [<-a5];simp [L]
  generalize E:w2.alloc (.cells #[.int .i64 m.w,.int .i64 m.h,.int .i64 m.l,vfr,vup,.slice At m.tasks.length ct,.slice none 0 0,.slice (some ⟨w.heap.size+1+1+1,0,none⟩) 1 1,.map (some (w.heap.size+1))] 154)=w3;have a1:ze w3 (w.heap.size+2) 154 (stCells m vfr vup (.slice At m.tasks.length ct) (.slice none 0 0) (.slice (some ⟨w.heap.size+3,0,none⟩) 1 1) (w.heap.size+1)):=by rw [<-E];exact ze.new _ _ _ (by omega)
  have b0:w3.heap.size=w.heap.size+3:=by rw [<-E];simp [a7]
  have U:zb w2 w3:=by rw [<-E];exact (zb.refl _).alloc _
  have G:=U.alloc (.cells #[.slice none 0 0] 23);have I:=V.trans G;have a2:=a1.alloc (.cells #[.slice none 0 0] 23);have a3:ze (w3.alloc (.cells #[.slice none 0 0] 23)) (w.heap.size+3) 23 #[.slice none 0 0]:=ze.new _ _ _ (by omega);refine ⟨_,rfl,I,w.heap.size+2,_,_,_,_,_,w.heap.size+1,rfl,AJ.make I D.out (fun _ h=>.inl h) a2 (.inr (by omega)) (zk.nil _ _) ?_ (.inr (by omega)) (O.below G)⟩
  ·exact ⟨[.slice none 0 0],⟨some ⟨w.heap.size+3,0,none⟩,1,rfl,Dq _,AI.block a3 (.inr (by omega)) rfl⟩,fun i x hx=>by
    match i,hx with
    | 0,hx=>
     have:x=[]:=by simpa using hx.symm
     subst this;exact ⟨_,rfl,zk.nil _ _⟩⟩
end
section
open Go.RowKit Go.Shelf
attribute [local go_sem] Oper.semAt_some
theorem values1_in (F:Fence) (n:Nat) (h7:F.fn 235) (V:F.round=none) (hn:1<=n) (l Bs n₀:Nat) (A:Option Addr) (cap:Nat) (zs:List Int) (a3:zs.length<=1000000000000) (J Jx:List Int->World->Prop)
  (hY:∀pre x W,J pre W->pre.length<zs.length->YieldAt F (n - 1) Tryz.prog l #[.int .i64 x] W fun e W'=>
   (e=.returned (.bool true)/\J (pre++[x]) W'/\Below n₀ W W')\/(e=.returned (.bool false)/\Jx (pre++[x]) W'))
  (W:World) (a8:W.cell? ⟨Bs,0,none⟩=some (.slice A zs.length cap)) (hc:∀(j:Nat) (hj:j<zs.length),∃b off,A=some ⟨b,off,none⟩/\b<n₀/\W.cell? ⟨b,off+j,none⟩=some (.int .i64 (zs[j]))) (h0:J [] W):
  CallsIn F n Tryz.prog 235 #[.func (.yield l) #[] #[],.pointer (some ⟨Bs,0,none⟩)] W fun e W'=>(∃v,e=.returned v)/\
   ((∃ys,ys=zs/\J ys W')\/(∃pre,pre <+: zs/\Jx pre W')):=by
 have HC:=zh hc;clear hc;refine callsIn_of_wp Tryz.func235 rfl h7 ?_ V;simp only [Tryz.ntmps235,List.size_toArray,Ex,Ey,Nat.reduceAdd,Nat.reduceSub,Array.replicate_succ,Array.replicate_zero,List.push_toArray,List.append_toArray,List.nil_append,List.cons_append]
 gi_wp2
 gi_loopw [7] (fun i wr=>∃k:Nat,k<=zs.length/\i=.int .i64 k/\Hid (J (zs.take k) wr)/\Hid (Below n₀ W wr))
  (fun i _=>zs.length - (intOf i).toNat)
 case atStart=>exact ⟨0,DF _,rfl,h0,Below.refl _ _⟩
 case round=>
  obtain ⟨k,hk,rfl,G,M⟩:=hrel;by_cases L:k<zs.length
  ·obtain ⟨b,off,rfl,hb,z⟩:=HC.out k L;have U:wr.cell? ⟨b,off+k,none⟩=some (.int .i64 (zs[k])):=(M.out.cell (p:=⟨b,off+k,none⟩) hb).trans z;clear z;have D:=zh (Dy L);obtain ⟨x,hx⟩:=Ez (zs[k]);rw [<-hx] at U D;clear hx;obtain ⟨fn,tmps,assign,body,hy,hR⟩:=hY _ x wr G.out (by simp;omega);have HR:=zh hR;clear hR
   gi_wp2
   refine HR.out.mono ?_;rintro e W3 (⟨rfl,E,I⟩ | ⟨rfl,d⟩)
   ·have B:=zh E;clear E;have O:=zh I;clear I
    gi_wp2
    go_roundw
    case rel=>exact ⟨k+1,by omega,by go_num,by rw [D.out];exact B,M.out.trans O.out⟩
    case measure=>simp [intOf];omega
   ·have B:=zh d;clear d
    gi_wp2
    refine El (results_none rfl _ _ _) rfl ?_;exact ⟨⟨_,rfl⟩,.inr ⟨_,List.take_prefix (k+1) zs,by rw [D.out];exact B.out⟩⟩
  ·obtain rfl:k=zs.length:=by omega
   gi_wp2
   go_end0
   exact ⟨⟨_,rfl⟩,.inl ⟨_,rfl,by have:=G.out;rwa [DC] at this⟩⟩
theorem values_stops (Bs n₀ n:Nat) (U:1<=n) (w:World) (D:Bs<w.heap.size) (hn₀:n₀<=w.heap.size) (O:w.cell? ⟨Bs,0,none⟩=some v) (h:zk w ok v l) (E:∀b,ok b->b<w.heap.size->b<n₀) (z:l.length<=1000000000000):
  SeqStopsK Fence.wide n Tryz.prog 235 #[.pointer (some ⟨Bs,0,none⟩)] (fun x:Int=>#[Value.int .i64 x]) (Below n₀) (fun ys=>ys=l) (fun pre=>pre <+: l) l.length w:=fun lb J Jx W hW _ _ L h0=>by
 obtain ⟨A,cap,rfl,G,V⟩:=h;refine values1_in Fence.wide n trivial rfl U lb Bs n₀ A cap l z J Jx L W ((hW.cell (p:=⟨Bs,0,none⟩) D).trans O) (fun j I=>?_) h0;obtain ⟨b,off,e,M,d⟩:=Ao V I I;have B:=zn d;exact ⟨b,off,e,E b M B,(hW.cell (p:=⟨b,off+j,none⟩) B).trans d⟩
theorem zk.bound (h:zk w ok v l):zk w (fun b=>ok b/\b<w.heap.size) v l:=by
 obtain ⟨A,c,e,E,G,d⟩:=h;refine ⟨A,c,e,E,G,fun B=>?_⟩;obtain ⟨b,off,e',D,z⟩:=d B;have h0:0<(l.map (Value.int .i64)).length:=by simpa using B
 exact ⟨b,off,e',⟨D,zn (z 0 _ (Do h0))⟩,z⟩
theorem appendSeq_calls (Bs:Nat) (w:World) (O:w.cell? ⟨Bs,0,none⟩=some v) (h:zk w ok v l) (L:l.length<=1000000000000):
  Calls Tryz.prog 248 #[.slice none 0 0,.func (.func 235) #[] #[.pointer (some ⟨Bs,0,none⟩)]] w fun e w'=>∃v',e=.returned v'/\Mk w w' v' l:=by
 refine (callsIn_wide (n:=6)).1 ?_;obtain ⟨i0,hi,a3,a4,a5⟩:=info_parts Tryz.infoInt;have HI:=zh h;clear h;have a7:=zn O;refine callsIn_of_wp_marks Tryz.func248 rfl trivial ?_ rfl;simp only [Tryz.ntmps248,List.size_toArray,Ex,Ey,Nat.reduceAdd,Nat.reduceSub,Array.replicate_succ,Array.replicate_zero,List.push_toArray,List.append_toArray,List.nil_append,List.cons_append]
 gi_wp2
 have bO:=Boxed.new w 23 (.slice none 0 0);have G:Below w.heap.size w (w.alloc (.cells #[.slice none 0 0] 23)):=(Below.refl _ w).alloc (Dq _) _
 refine wpIn_rangeFunc_ownG (F:=Fence.wide) rfl (by omega) (gf:=235) (lb:=#[.pointer (some ⟨Bs,0,none⟩)]) rfl trivial (enters_of Tryz.func235 (by kernel_rfl) rfl)
  (values_stops (ok:=fun b=>ok b/\b<w.heap.size) Bs w.heap.size _ (by omega) _ (by simp;omega) (by simp) ((zb.refl w).alloc _ |>.cell O) (HI.out.bound.below G) (fun b hb _=>hb.2) L) belowK_t (belowK_b (by simp)) (Below.refl _ _) (fun _=>rfl)
  (fun pre W=>(∃v,Boxed W w.heap.size 23 v/\W.ownsRow w.heap.size 3 1 v pre.length (pre.map (Value.int .i64))/\True)/\Below w.heap.size w W)
  (fun _ _ _=>False)
  (OwnFrom.and (Own.from (holdsRow_own w.heap.size w.heap.size 23 3 1 (fun pre:List Int=>pre.length) (fun pre:List Int=>pre.map (Value.int .i64)) (fun pre v=>True)) _) (ownFrom_below (Dq _) (by simp)))
  (fun _ _ _ _ _ hs _ _=>hs)
  ⟨⟨_,bO,World.ownsRow_nil _ _ _ _,trivial⟩,G⟩
  (fun x=>{ tmps:=#[.slice none 0 0,.func (.func 235) #[] #[.pointer (some ⟨Bs,0,none⟩)],.pointer (some ⟨w.heap.size,0,none⟩),undef,.slice none 0 0,.int .i64 x,.func (.func 235) #[] #[.pointer (some ⟨Bs,0,none⟩)],.int .i64 x,undef,undef,undef,undef,undef],defers:=[] }) ?assign ?body ?done ?stop
 case assign=>
  intro l x W K I
  gi_wp2
  exact I
 case body=>
  rintro lb pre x W ⟨⟨v,U,d,_⟩,E⟩ b3;have O:=U.cell
  gi_wp2_with (gi_at_builtin;refine wpListIn_append_own _ rfl _ _ 23 rfl w.heap.size 3 i0 (.int .i64 0) 1 8 Tryz.underlying23 hi a3 a4 a5 rfl (by decide) _ _ _ rfl (d.alloc _) ⟨W.heap.size,0,none⟩ 1 1 [.int .i64 x] rfl rfl (cell_one_new _ _ _) (by simp [Value.oneCell']) (by unfold maxLen;omega) (by omega) (by have:=E.size;simp;omega) ?_;intro v' w1 z B _;obtain ⟨g',cap',rfl⟩:=ownsRow_succ z;obtain ⟨M,a2,a1,V,J⟩:=U.appended (by decide) d E.size (Dq _) z B;have b0:=M.cell;have b1:=M.frozen)
  exact ⟨V.from _,J,⟨_,a2,by simpa using a1,trivial⟩,E.trans J⟩
 case done=>
  rintro D ys W hD rfl ⟨⟨v,U,d,_⟩,E⟩ I;have O:=U.cell
  gi_wp2
  refine ⟨by simp,.inl ⟨_,_,rfl,run_takeDeferred I,?_⟩⟩;exact ⟨_,results_tmp rfl _ _ _,v,rfl,ownsRow_putObj d _ I rfl,E.trans (belowK_b (w:=w) (Dq _) W D _ _ (by simp at hD;omega) I rfl rfl)⟩
 case stop=>
  rintro D c pre W _ _ h _;exact h.elim
end
section
open Go.RowKit
section
variable {P:Program} {ops:Array Oper} {Q:Exit->Act->World->Prop} {md:Region.Mode} {S:World->Prop}
def Bw (ops:Array Oper) (j:Nat):Option Tmp:=(ops[j]?).bind (·.dst)
def zA (ops:Array Oper) (v:Nat->Value):List Nat->Act->Act
 | [],a=>a
 | j :: js,a=>zA ops v js (a.put (Bw ops j) (v j))
def zT {α:Type} (f:Nat->α) (j:Nat) (x:α):Nat->α:=fun k=>if k=j then x else f k
theorem AH {α:Type} (f:Nat->α) (j:Nat) (x:α):zT f j x j=x:=by simp [zT]
theorem zW {α:Type} (f:Nat->α) {j:Nat} (x:α) (h:k≠j):zT f j x k=f k:=by simp [zT,h]
theorem put_put (a:Act) (d:Option Tmp) (x y:Value):(a.put d x).put d y=a.put d y:=by
 cases d with
 | none=>rfl
 | some d=>simp [Act.put]
theorem put_comm (a:Act) {d d':Option Tmp} (x y:Value) (h:d=d'->d=none):(a.put d x).put d' y=(a.put d' y).put d x:=by
 cases d with
 | none=>rfl
 | some d=>
  cases d' with
  | none=>rfl
  | some d'=>
   have z:d≠d':=fun e=>by subst e;exact absurd (h rfl) (by simp)
   simp only [Act.put];rw [Array.setIfInBounds_comm _ _ z]
theorem putAll_put (v:Nat->Value) (d:Option Tmp) (x:Value):∀(js:List Nat) (a:Act),(∀k∈js,Bw ops k=d->d=none)->(zA ops v js a).put d x=zA ops v js (a.put d x)
 | [],_,_=>rfl
 | k :: js,a,h=>by
  simp only [zA];rw [putAll_put v d x js _ (fun k' z=>h k' (DM _ z)),put_comm a _ _ (fun e=>by rw [e];exact h k (Ed ..) e)]
theorem putAll_upd (v:Nat->Value) (j:Nat) (x:Value):∀(js:List Nat) (a:Act),j∉js->zA ops (zT v j x) js a=zA ops v js a
 | [],_,_=>rfl
 | k :: js,a,h=>by
  simp only [zA];rw [zW v x (fun e=>h (by simp [e])),putAll_upd v j x js _ (fun d=>h (DM _ d))]
def Dist (ops:Array Oper) (js:List Nat):Prop:=∀j∈js,∀k∈js,j≠k->Bw ops j=Bw ops k->Bw ops k=none
theorem putAll_set (v:Nat->Value) (j:Nat) (x:Value):∀(js:List Nat) (a:Act),js.Nodup->Dist ops js->j∈js->(zA ops v js a).put (Bw ops j) x=zA ops (zT v j x) js a
 | [],_,_,_,h=>by cases h
 | k :: js,a,J,B,h=>by
  obtain ⟨D,z⟩:=List.nodup_cons.1 J;simp only [zA];by_cases e:j=k
  ·subst e;rw [AH,putAll_upd v j x js _ D,putAll_put v _ x js _ (fun k' d he=>B k' (DM _ d) j (Ed ..) (fun e=>D (e ▸ d)) he),put_put]
  ·have I:j∈js:=by
    rcases Ef.1 h with h | h
    ·exact absurd h e
    ·exact h
   rw [zW v x (fun h=>e h.symm)];exact putAll_set v j x js _ z (fun a E b G=>B a (DM _ E) b (DM _ G)) I
theorem put_self (a:Act) (d:Option Tmp):∃x,a.put d x=a:=by
 cases d with
 | none=>exact ⟨undef,rfl⟩
 | some d=>
  refine ⟨a.tmps.getD d undef,?_⟩;obtain ⟨t,ds⟩:=a;simp only [Act.put,Act.mk.injEq,and_true];apply Array.ext_getElem?;intro i;rw [Array.getElem?_setIfInBounds]
  split
  ·rename_i h
   subst h
   split
   ·rename_i h;simp [Array.getD,h]
   ·rename_i h;rw [Array.getElem?_eq_none (by omega)]
  ·rfl
theorem Dd (a:Act):∀(js:List Nat),js.Nodup->∃v,zA ops v js a=a
 | [],_=>⟨fun _=>undef,rfl⟩
 | j :: js,h=>by
  obtain ⟨d,z⟩:=List.nodup_cons.1 h;obtain ⟨v,B⟩:=Dd a js z;obtain ⟨x,D⟩:=put_self a (Bw ops j);refine ⟨zT v j x,?_⟩;simp only [zA];rw [AH,putAll_upd v j x js _ d,D,B]
def BQ (md:Region.Mode) (ops:Array Oper) (js:List Nat):Bool:=
 ((List.range ops.size).all fun j=>match ops[j]? with | none=>false | some o=>o.after.toList.all fun e=>!Region.binds md e || decide (e.on<j)) &&
 decide js.Nodup && (js.all fun j=>decide (j<ops.size)) && (js.all fun j=>js.all fun k=>decide (j=k) || !(decide (Bw ops j=Bw ops k)) || decide (Bw ops k=none))
def leftB (ops:Array Oper) (listed:Array Bool) (js:List Nat):Bool:=decide (listed.size=ops.size) && (List.range listed.size).all fun k=>listed.getD k true || decide (k∈js)
def StepTo (ops:Array Oper) (S:World->Prop) (J:(Nat->Bool)->(Nat->Value)->World->Prop) (js:List Nat) (a0:Act) (j:Nat) (e:Nat->Bool) (v:Nat->Value) (K:Act->World->Prop):Prop:=
 ∀a' x w',(zA ops v js a0).put (Bw ops j) x=a'->S w'->J (zT e j true) (zT v j x) w'->K a' w'
theorem wpAnyH_inv {J:(Nat->Bool)->(Nat->Value)->World->Prop} (hB:BQ md ops js=true)
  (step:∀j∈js,∀e v w,J e v w->S w->e j=false->(∀o,ops[j]?=some o->∀d∈o.after,Region.binds md d=true->e d.on=true)->∀o,ops[j]?=some o->∀K:Act->World->Prop,Hid (StepTo ops S J js a0 j e v K)->
   if Region.wanted o (yielded ops (zA ops v js a0).tmps)=true then Oper.wp P o (zA ops v js a0) w K Q else K ((zA ops v js a0).put o.dst undef) w)
  (fin:∀v w,J (fun _=>true) v w->S w->Q .normal (zA ops v js a0) w):
  ∀(fuel:Nat) (listed:Array Bool) (v:Nat->Value) (w:World),listed.size=ops.size->(∀k,listed.getD k true=false->k∈js)->(js.filter fun k=>!listed.getD k true).length<=fuel->S w->J (fun k=>listed.getD k true) v w->
   wpAnyH P md ops Q S fuel listed (zA ops v js a0) w:=by
 unfold BQ at hB;simp only [DD,Ev,DB,Et,Bool.not_eq_true',DP] at hB;obtain ⟨⟨⟨h1,h2⟩,h3⟩,h4⟩:=hB
 have hD:Dist ops js:=fun j hj k I b4 he=>by
  rcases h4 j hj k I with (h | h) | h
  ·exact absurd h b4
  ·exact absurd he h
  ·exact h
 have U:∀listed:Array Bool,(∀k,listed.getD k true=true)->(fun k=>listed.getD k true)=fun _=>true:=fun listed h=>funext h
 have M:∀listed:Array Bool,listed.size=ops.size->(∀k,listed.getD k true=false->k∈js)->Region.ready md ops listed=[]->∀k,listed.getD k true=true:=by
  intro listed O z hr
  have I:∀n k,k<n->listed.getD k true=true:=by
   intro n
   induction n with
   | zero=>intro k h;omega
   | succ n ih=>
    intro k d8
    cases hv:listed.getD k true with
    | true=>rfl
    | false=>
     exfalso
     have E:=h3 k (z k hv)
     have V:k∈Region.ready md ops listed:=mem_ready.2 ⟨hv,ops[k],Array.getElem?_eq_getElem E,fun e he hb=>by
      have:=h1 k (Es.2 E);rw [Array.getElem?_eq_getElem E] at this;have h5:=(Ev.1 this) e (by simpa using he);simp only [Et,Bool.not_eq_true',DB] at h5
      have h6:e.on<k:=by
       rcases h5 with h5 | h5
       ·rw [hb] at h5;cases h5
       ·exact h5
      have h7:=ih e.on (by omega);have h8:e.on<listed.size:=by omega
      simp only [Array.getD,h8,dif_pos] at h7⊢;exact h7⟩
     rw [hr] at V;cases V
  exact fun k=>I (k+1) k (by omega)
 intro fuel
 induction fuel with
 | zero=>
  intro listed v w O z hc hS hJ
  have hf:∀k,listed.getD k true=true:=fun k=>by
   cases hv:listed.getD k true with
   | true=>rfl
   | false=>
    exfalso
    have:k∈js.filter fun k=>!listed.getD k true:=Ep.2 ⟨z k hv,by rw [hv];rfl⟩
    rw [DJ (Nat.le_zero.1 hc)] at this;cases this
  refine ⟨?_,fin v w (by rw [<-U listed hf];exact hJ) hS⟩;apply List.eq_nil_iff_forall_not_mem.2;intro j hj;have:=(mem_ready.1 hj).1;rw [hf j] at this;cases this
 | succ fuel ih=>
  intro listed v w O z hc hS hJ;refine ⟨fun hr=>fin v w (by rw [<-U listed (M listed O z hr)];exact hJ) hS,fun i hi=>?_⟩;obtain ⟨a2,o,ho,a1⟩:=mem_ready.1 hi;have D:=z i a2;refine wpOp_step ho fun K' hK=>?_
  have E:i<listed.size:=by have:=h3 i D;omega
  refine step i D (fun k=>listed.getD k true) v w hJ hS a2 (fun o' L d hd hb=>?_) o ho K' fun a' x w' ha a5 a4=>?_
  ·rw [ho] at L;injection L with L;subst L;have h9:=a1 d hd hb;by_cases a3:d.on<listed.size
   ·simp only [Array.getD,a3,dif_pos] at h9⊢;exact h9
   ·simp only [Array.getD,a3,dif_neg,not_false_eq_true] at h9;cases h9
  ·refine hK _ _ ⟨a5,?_⟩
   have G:zT (fun k=>listed.getD k true) i true=fun k=>(listed.setIfInBounds i true).getD k true:=by
    funext k;by_cases I:k=i
    ·subst I;rw [AH];simp [Array.getD,E]
    ·rw [zW _ _ I];simp only [Array.getD,Array.size_setIfInBounds]
     split
     ·rename_i h
      show listed[k]=(listed.setIfInBounds i true)[k]'(by simpa using h);rw [Array.getElem_setIfInBounds,if_neg (Ne.symm I)]
     ·rfl
   rw [G] at a4;rw [<-ha,putAll_set v i x js a0 h2 hD D];refine ih (listed.setIfInBounds i true) (zT v i x) w' (by simpa using O) (fun k I=>?_) ?_ a5 a4
   ·by_cases B:k=i
    ·rw [B];exact D
    ·have:=congrFun G k;rw [zW _ _ B] at this;exact z k (this.trans I)
   ·have b2:(js.filter fun k=>!(listed.setIfInBounds i true).getD k true)=(js.filter fun k=>!listed.getD k true).erase i:=by
     rw [List.Nodup.erase_eq_filter (h2.filter _),List.filter_filter];apply List.filter_congr;intro k I;have:=congrFun G k;rw [<-this];by_cases B:k=i
     ·subst B;simp [AH]
     ·rw [zW _ _ B];simp [B]
    rw [b2,List.length_erase_of_mem (Ep.2 ⟨D,by show (!listed.getD i true)=true;rw [a2];rfl⟩)];omega
theorem wpAnyH_by_inv (js:List Nat) (J:(Nat->Bool)->(Nat->Value)->World->Prop) (B:BQ md ops js=true) (hL:leftB ops listed js=true) (hf:js.length<=fuel) (G:S w)
  (init:∀e v,(∀j∈js,e j=false)->J e v w)
  (D:(js.all fun j=>!listed.getD j true)=true)
  (step:∀j∈js,∀e v w,J e v w->S w->e j=false->(∀o,ops[j]?=some o->∀d∈o.after,Region.binds md d=true->e d.on=true)->∀o,ops[j]?=some o->∀K:Act->World->Prop,Hid (StepTo ops S J js a0 j e v K)->
   if Region.wanted o (yielded ops (zA ops v js a0).tmps)=true then Oper.wp P o (zA ops v js a0) w K Q else K ((zA ops v js a0).put o.dst undef) w)
  (fin:∀v w,J (fun _=>true) v w->S w->Q .normal (zA ops v js a0) w):wpAnyH P md ops Q S fuel listed a0 w:=by
 unfold leftB at hL;simp only [DD,Ev,DB,Et] at hL
 have L:js.Nodup:=by
  unfold BQ at B;simp only [DD,DB] at B;exact B.1.1.2
 obtain ⟨v,M⟩:=Dd (ops:=ops) a0 js L
 have h:=wpAnyH_inv B step fin fuel listed v w hL.1 (fun k E=>by
  by_cases z:k<listed.size
  ·rcases hL.2 k (Es.2 z) with h | h
   ·rw [E] at h;cases h
   ·exact h
  ·simp [Array.getD,z] at E) (Dt (DU _ _) hf) G (init _ _ (fun j I=>by
   have:=Ev.1 D j I;simpa using this))
 rwa [M] at h
end
def noDeferB (ops:Array Oper):Bool:=ops.toList.all fun o=>match o.op with | .defer _=>false | _=>true
theorem operIn_of {P:Program} {Q:Exit->Act->World->Prop} (l n:Nat) (z:∀c,o.op≠.defer c) (h:o.wp P a w K Q):o.wpIn (Fence.wide.inRound l) n P a w K Q:=by
 have d:(Fence.wide.inRound l).depth.isSome=true->1<=n:=fun h=>absurd h (by simp [Fence.wide])
 refine ⟨fun f _=>trivial,?_⟩;rw [Oper.semAt_eq _ _ _ z];unfold Oper.wp at h;generalize (execOp a.eval o).run P w=r at*
 cases r with
 | ok x w'=>
  cases x with
  | enter f args=>exact ⟨d,(CallsIn.inRound l (callsIn_wide.2 h)).mono (fun e w'' he=>by cases e <;> exact he)⟩
  | row row args=>exact ⟨d,fun c cs _=>let ⟨v,w'',r,s⟩:=h c cs;⟨v,w'',r,stepsIn_wide.2 s⟩⟩
  | _=>first | exact h | exact (h:False).elim
 | halt x w'=>cases x <;> exact h
section
variable {P:Program} {ops:Array Oper} {Q:Exit->Act->World->Prop} {md:Region.Mode} {S:World->Prop}
theorem wpOpIn_step (l n:Nat) (B:noDeferB ops=true) {i:Nat} (D:ops[i]?=some o)
  (h:∀K':Act->World->Prop,(∀a w,K a w->K' a w)->if Region.wanted o (yielded ops a.tmps)=true then Oper.wp P o a w K' Q else K' (a.put o.dst undef) w):wpOpIn (Fence.wide.inRound l) n P ops Q i K a w:=by
 have d:=h K (fun _ _ h=>h);unfold wpOpIn;rw [D]
 have E:∀c,o.op≠.defer c:=by
  intro c e;have:=Ev.1 B o (by simpa using Array.mem_of_getElem? D);rw [e] at this;cases this
 by_cases z:Region.wanted o (yielded ops a.tmps)=true
 ·rw [if_pos z] at d;simp only [z,if_true];exact operIn_of l n E d
 ·rw [if_neg z] at d;simp only [z];exact ⟨fun f _=>trivial,d⟩
theorem wpAnyIn_inv (l n:Nat) (a9:noDeferB ops=true) {J:(Nat->Bool)->(Nat->Value)->World->Prop} (hB:BQ md ops js=true)
  (step:∀j∈js,∀e v w,J e v w->e j=false->(∀o,ops[j]?=some o->∀d∈o.after,Region.binds md d=true->e d.on=true)->∀o,ops[j]?=some o->∀K:Act->World->Prop,Hid (StepTo ops (fun _=>True) J js a0 j e v K)->
   if Region.wanted o (yielded ops (zA ops v js a0).tmps)=true then Oper.wp P o (zA ops v js a0) w K Q else K ((zA ops v js a0).put o.dst undef) w)
  (fin:∀v w,J (fun _=>true) v w->Q .normal (zA ops v js a0) w):
  ∀(fuel:Nat) (listed:Array Bool) (v:Nat->Value) (w:World),listed.size=ops.size->(∀k,listed.getD k true=false->k∈js)->(js.filter fun k=>!listed.getD k true).length<=fuel->J (fun k=>listed.getD k true) v w->
   wpAnyIn (Fence.wide.inRound l) n P md ops Q fuel listed (zA ops v js a0) w:=by
 unfold BQ at hB;simp only [DD,Ev,DB,Et,Bool.not_eq_true',DP] at hB;obtain ⟨⟨⟨h1,h2⟩,h3⟩,h4⟩:=hB
 have hD:Dist ops js:=fun j hj k I b3 he=>by
  rcases h4 j hj k I with (h | h) | h
  ·exact absurd h b3
  ·exact absurd he h
  ·exact h
 have U:∀listed:Array Bool,(∀k,listed.getD k true=true)->(fun k=>listed.getD k true)=fun _=>true:=fun listed h=>funext h
 have M:∀listed:Array Bool,listed.size=ops.size->(∀k,listed.getD k true=false->k∈js)->Region.ready md ops listed=[]->∀k,listed.getD k true=true:=by
  intro listed O z hr
  have I:∀n k,k<n->listed.getD k true=true:=by
   intro n
   induction n with
   | zero=>intro k h;omega
   | succ n ih=>
    intro k d8
    cases hv:listed.getD k true with
    | true=>rfl
    | false=>
     exfalso
     have E:=h3 k (z k hv)
     have V:k∈Region.ready md ops listed:=mem_ready.2 ⟨hv,ops[k],Array.getElem?_eq_getElem E,fun e he hb=>by
      have:=h1 k (Es.2 E);rw [Array.getElem?_eq_getElem E] at this;have h5:=(Ev.1 this) e (by simpa using he);simp only [Et,Bool.not_eq_true',DB] at h5
      have h6:e.on<k:=by
       rcases h5 with h5 | h5
       ·rw [hb] at h5;cases h5
       ·exact h5
      have h7:=ih e.on (by omega);have h8:e.on<listed.size:=by omega
      simp only [Array.getD,h8,dif_pos] at h7⊢;exact h7⟩
     rw [hr] at V;cases V
  exact fun k=>I (k+1) k (by omega)
 intro fuel
 induction fuel with
 | zero=>
  intro listed v w O z hc hJ
  have hf:∀k,listed.getD k true=true:=fun k=>by
   cases hv:listed.getD k true with
   | true=>rfl
   | false=>
    exfalso
    have:k∈js.filter fun k=>!listed.getD k true:=Ep.2 ⟨z k hv,by rw [hv];rfl⟩
    rw [DJ (Nat.le_zero.1 hc)] at this;cases this
  refine ⟨?_,fin v w (by rw [<-U listed hf];exact hJ)⟩;apply List.eq_nil_iff_forall_not_mem.2;intro j hj;have:=(mem_ready.1 hj).1;rw [hf j] at this;cases this
 | succ fuel ih=>
  intro listed v w O z hc hJ;refine ⟨fun hr=>fin v w (by rw [<-U listed (M listed O z hr)];exact hJ),fun i hi=>?_⟩;obtain ⟨a2,o,ho,a1⟩:=mem_ready.1 hi;have D:=z i a2;refine wpOpIn_step l n a9 ho fun K' hK=>?_
  have E:i<listed.size:=by have:=h3 i D;omega
  refine step i D (fun k=>listed.getD k true) v w hJ a2 (fun o' L d hd hb=>?_) o ho K' fun a' x w' ha d4 a4=>?_
  ·rw [ho] at L;injection L with L;subst L;have h9:=a1 d hd hb;by_cases a3:d.on<listed.size
   ·simp only [Array.getD,a3,dif_pos] at h9⊢;exact h9
   ·simp only [Array.getD,a3,dif_neg,not_false_eq_true] at h9;cases h9
  ·refine hK _ _ ?_
   have G:zT (fun k=>listed.getD k true) i true=fun k=>(listed.setIfInBounds i true).getD k true:=by
    funext k;by_cases I:k=i
    ·subst I;rw [AH];simp [Array.getD,E]
    ·rw [zW _ _ I];simp only [Array.getD,Array.size_setIfInBounds]
     split
     ·rename_i h
      show listed[k]=(listed.setIfInBounds i true)[k]'(by simpa using h);rw [Array.getElem_setIfInBounds,if_neg (Ne.symm I)]
     ·rfl
   rw [G] at a4;rw [<-ha,putAll_set v i x js a0 h2 hD D];refine ih (listed.setIfInBounds i true) (zT v i x) w' (by simpa using O) (fun k I=>?_) ?_ a4
   ·by_cases B:k=i
    ·rw [B];exact D
    ·have:=congrFun G k;rw [zW _ _ B] at this;exact z k (this.trans I)
   ·have b1:(js.filter fun k=>!(listed.setIfInBounds i true).getD k true)=(js.filter fun k=>!listed.getD k true).erase i:=by
     rw [List.Nodup.erase_eq_filter (h2.filter _),List.filter_filter];apply List.filter_congr;intro k I;have:=congrFun G k;rw [<-this];by_cases B:k=i
     ·subst B;simp [AH]
     ·rw [zW _ _ B];simp [B]
    rw [b1,List.length_erase_of_mem (Ep.2 ⟨D,by show (!listed.getD i true)=true;rw [a2];rfl⟩)];omega
theorem wpAnyIn_by_inv (l n:Nat) (D:noDeferB ops=true) (js:List Nat) (J:(Nat->Bool)->(Nat->Value)->World->Prop) (B:BQ md ops js=true) (hL:leftB ops listed js=true) (hf:js.length<=fuel)
  (init:∀e v,(∀j∈js,e j=false)->J e v w)
  (E:(js.all fun j=>!listed.getD j true)=true)
  (step:∀j∈js,∀e v w,J e v w->e j=false->(∀o,ops[j]?=some o->∀d∈o.after,Region.binds md d=true->e d.on=true)->∀o,ops[j]?=some o->∀K:Act->World->Prop,Hid (StepTo ops (fun _=>True) J js a0 j e v K)->
   if Region.wanted o (yielded ops (zA ops v js a0).tmps)=true then Oper.wp P o (zA ops v js a0) w K Q else K ((zA ops v js a0).put o.dst undef) w)
  (fin:∀v w,J (fun _=>true) v w->Q .normal (zA ops v js a0) w):wpAnyIn (Fence.wide.inRound l) n P md ops Q fuel listed a0 w:=by
 unfold leftB at hL;simp only [DD,Ev,DB,Et] at hL
 have L:js.Nodup:=by
  unfold BQ at B;simp only [DD,DB] at B;exact B.1.1.2
 obtain ⟨v,M⟩:=Dd (ops:=ops) a0 js L
 have h:=wpAnyIn_inv l n D B step fin fuel listed v w hL.1 (fun k G=>by
  by_cases z:k<listed.size
  ·rcases hL.2 k (Es.2 z) with h | h
   ·rw [G] at h;cases h
   ·exact h
  ·simp [Array.getD,z] at G) (Dt (DU _ _) hf) (init _ _ (fun j I=>by
   have:=Ev.1 E j I;simpa using this))
 rwa [M] at h
end
section
variable {P:Program} {ops:Array Oper} {Q:Exit->Act->World->Prop} {md:Region.Mode} {S:World->Prop}
def StepToF (F:(Nat->Value)->Act) (d:Option Tmp) (S:World->Prop) (J:(Nat->Bool)->(Nat->Value)->World->Prop) (j:Nat) (e:Nat->Bool) (v:Nat->Value) (K:Act->World->Prop):Prop:=
 ∀a' x w',(F v).put d x=a'->S w'->J (zT e j true) (zT v j x) w'->K a' w'
def zj (P:Program) (ops:Array Oper) (Q:Exit->Act->World->Prop) (md:Region.Mode) (F:(Nat->Value)->Act) (S:World->Prop) (J:(Nat->Bool)->(Nat->Value)->World->Prop) (js:List Nat):Prop:=
 ∀j∈js,∀e v w,J e v w->S w->e j=false->∀o,ops[j]?=some o->(∀d∈o.after,Region.binds md d=true->e d.on=true)->∀K:Act->World->Prop,Hid (StepToF F o.dst S J j e v K)->
   if Region.wanted o (yielded ops (F v).tmps)=true then Oper.wp P o (F v) w K Q else K ((F v).put o.dst undef) w
theorem zj.nil {F:(Nat->Value)->Act} {J:(Nat->Bool)->(Nat->Value)->World->Prop}:zj P ops Q md F S J []:=fun _ h=>by cases h
theorem zj.cons {F:(Nat->Value)->Act} {J:(Nat->Bool)->(Nat->Value)->World->Prop} {j:Nat} {js:List Nat} {o:Oper} (I:ops[j]?=some o)
  (h:∀e v w (K:Act->World->Prop),J e v w->S w->e j=false->(∀d∈o.after,Region.binds md d=true->e d.on=true)->Hid (StepToF F o.dst S J j e v K)->
   if Region.wanted o (yielded ops (F v).tmps)=true then Oper.wp P o (F v) w K Q else K ((F v).put o.dst undef) w)
  (L:zj P ops Q md F S J js):zj P ops Q md F S J (j :: js):=by
 intro k hk;rcases Ef.1 hk with rfl | hk
 ·intro e v w B E he o' z G K D;rw [I] at z;injection z with z;subst z;exact h e v w K B E he G D
 ·exact L k hk
theorem BI (js:List Nat) (J:(Nat->Bool)->(Nat->Value)->World->Prop) {F:(Nat->Value)->Act} (L:BQ md ops js=true) (hL:leftB ops listed js=true) (hf:js.length<=fuel) (d:S w)
  (hF:∀v,zA ops v js a0=F v) (init:∀e v,(∀j∈js,e j=false)->J e v w) (I:(js.all fun j=>!listed.getD j true)=true) (step:zj P ops Q md F S J js)
  (fin:∀v w,J (fun _=>true) v w->S w->Q .normal (F v) w):wpAnyH P md ops Q S fuel listed a0 w:=by
 refine wpAnyH_by_inv js J L hL hf d init I (fun j V e v w B d he U o G K M=>?_) (fun v w B d=>by rw [hF v];exact fin v w B d);have z:Bw ops j=o.dst:=by unfold Bw;rw [G];rfl
 have h:=step j V e v w B d he o G (U o G) K (fun a' x w' O E D=>M.out a' x w' (by rw [hF v,z];exact O) E D);rw [hF v];exact h
theorem wpAnyIn_by_invF (l n:Nat) (D:noDeferB ops=true) (js:List Nat) (J:(Nat->Bool)->(Nat->Value)->World->Prop) {F:(Nat->Value)->Act} (L:BQ md ops js=true) (hL:leftB ops listed js=true) (hf:js.length<=fuel)
  (hF:∀v,zA ops v js a0=F v) (init:∀e v,(∀j∈js,e j=false)->J e v w) (I:(js.all fun j=>!listed.getD j true)=true) (step:zj P ops Q md F (fun _=>True) J js)
  (fin:∀v w,J (fun _=>true) v w->Q .normal (F v) w):wpAnyIn (Fence.wide.inRound l) n P md ops Q fuel listed a0 w:=by
 refine wpAnyIn_by_inv l n D js J L hL hf init I (fun j V e v w z he U o G K M=>?_) (fun v w z=>by rw [hF v];exact fin v w z);have d:Bw ops j=o.dst:=by unfold Bw;rw [G];rfl
 have h:=step j V e v w z trivial he o G (U o G) K (fun a' x w' O E B=>M.out a' x w' (by rw [hF v,d];exact O) E B);rw [hF v];exact h
end
def GivesB {α:Type} (n:Nat) (P:Program) (g:Nat) (lb:Array Value) (encs:α->Array Value) (G:Nat->α->World->Prop) (N:Nat) (w:World):Prop:=
 ∀(l:Nat) (J:Nat->World->Prop) (Jx:World->Prop) (W:World),zb w W->w.heap.size<=l->l<W.heap.size->(∀k A B,J k A->Below W.heap.size A B->J k B)->(∀A B,Jx A->Below W.heap.size A B->Jx B)->
  (∀k x W1,k<N->J k W1->G k x W1->YieldAt Fence.wide (n - 1) P l (encs x) W1 fun e W'=>(e=.returned (.bool true)/\J (k+1) W'/\W1.grownBy W' (some l))\/(e=.returned (.bool false)/\Jx W'))->
  J 0 W->
  CallsIn Fence.wide n P g (#[.func (.yield l) #[] #[]]++lb) W fun e W'=>(∃v,e=.returned v)/\(J N W'\/Jx W')
def postB (B k:Nat) (I:Nat->World->Prop) (Ix:Code->World->Prop) (W:World):Exit->Act->World->Prop
 | .normal,_,W'=>zb W W'/\I (k+1) W'
 | .ret,_,W'=>(∀b,B<=b->b<W.heap.size->W'.heap[b]?=W.heap[b]?)/\Ix .ret W'
 | .exit id,_,W'=>(∀b,B<=b->b<W.heap.size->W'.heap[b]?=W.heap[b]?)/\Ix (.exit id) W'
 | .goto t,_,W'=>(∀b,B<=b->b<W.heap.size->W'.heap[b]?=W.heap[b]?)/\Ix (.goto t) W'
 | .panic _,_,_=>False
 | .outgrown,_,_=>False
theorem zy {B l:Nat} (o:Obj) (h:B<=l) (d:l<W.heap.size):Below B W (W.putObj l o):=
 (Below.refl B W).grown (grownBy_putObj' W l o) (by omega) (fun k e=>by cases e;exact h)
theorem wpIn_loopB {P:Program} {α:Type} {g:Operand} {ps:Array Tmp} {assign body:Code} {Q:Exit->Act->World->Prop}
  {gf:Nat} {lb:Array Value} (hg:a.eval g=.func (.func gf) #[] lb) (eg:∀args w,(callFunc gf args).run P w=.ok (.enter gf args) w)
  {encs:α->Array Value} {G:Nat->α->World->Prop} {N:Nat} {w0:World} (b5:GivesB (n - 1) P gf lb encs G N w0) (b4:zb w0 w) (c9:∀x,(encs x).size=ps.size)
  (I:Nat->World->Prop) (Ix:Code->World->Prop) (hI:∀k A B,I k A->Below w.heap.size A B->I k B) (hIx:∀c A B,Ix c A->Below w.heap.size A B->Ix c B)
  (hG:∀k x A l,G k x A->w.heap.size<l->l<A.heap.size->(∃r,A.heap[l]?=some (.loop r))->∀o,G k x (A.putObj l o)) (h0:I 0 w) (a₁:α->Act)
  (a4:∀(l:Nat) (x:α) (W:World) (K:Act->World->Prop),K (a₁ x) W->
   assign.wpIn (Fence.wide.inRound l) (n - 1 - 1) P (Exit.then K (fun _ _ _=>False)) { tmps:=(ps.zip (encs x)).foldl (fun t (p,v)=>t.setIfInBounds p v) a.tmps,defers:=[] } W)
  (a8:∀(l k:Nat) (x:α) (W:World),k<N->I k W->G k x W->w.heap.size<W.heap.size->body.wpIn (Fence.wide.inRound l) (n - 1 - 1) P (postB w.heap.size k I Ix W) (a₁ x) W)
  (a9:∀(D:Nat) (W:World),w.heap.size<=D->I N W->W.heap[D]?=some (.deferred (some []))->Q .normal { a with defers:={ target:=.collected D,args:=#[] } :: a.defers } W)
  (b1:∀(D:Nat) (c:Code) (W:World),w.heap.size<=D->Ix c W->W.heap[D]?=some (.deferred (some []))->c.wpIn Fence.wide n P Q { a with defers:={ target:=.collected D,args:=#[] } :: a.defers } W):
  (Code.rangeFunc g ps assign body).wpIn Fence.wide n P Q a w:=by
 refine wpIn_rangeFunc ?_;intro fn hfn;obtain ⟨rec,z⟩:∃rec:LoopState->Option Code->Loop,rec=fun st pe=>{ state:=st,pending:=pe,fn,tmps:=a.tmps,params:=ps,assign,body,defers:=w.heap.size }:=⟨_,rfl⟩
 obtain ⟨W1,a2⟩:∃W1,(w.alloc (.deferred (some []))).alloc (.loop (rec .ready none))=W1:=⟨_,rfl⟩;have d7:W1.heap.size=w.heap.size+2:=by rw [<-a2];simp
 have c0:W1.heap[w.heap.size+1]?=some (.loop (rec .ready none)):=by
  rw [<-a2];have:=World.alloc_heap_new (w.alloc (.deferred (some []))) (.loop (rec .ready none))
  rwa [World.size_alloc] at this
 have b9:W1.heap[w.heap.size]?=some (.deferred (some [])):=by
  rw [<-a2];exact (DK _ _ _ (by simp)).trans (World.alloc_heap_new w _)
 have b3:zb w W1:=by rw [<-a2];exact ((zb.refl w).alloc _).alloc _
 refine ⟨w.heap.size+1,[{ target:=.collected w.heap.size,args:=#[] }],W1,{ target:=.fn (.func gf) lb,args:=#[.func (.yield (w.heap.size+1)) #[] #[]] },W1,gf,
  #[.func (.yield (w.heap.size+1)) #[] #[]]++lb,W1,?_,?_,fun _ _=>trivial,?_,fun h=>absurd h (by simp [Fence.wide]),?_⟩
 ·rw [<-a2,z];exact run_enterLoop_outer _ _ _ _ _
 ·simp only [resolve,hg];simp [go_sem]
 ·simp [invoke,go_sem,eg]
 ·refine (b5 (w.heap.size+1)
   (fun k W=>I k W/\W.heap[w.heap.size+1]?=some (.loop (rec .ready none))/\W.heap[w.heap.size]?=some (.deferred (some []))/\w.heap.size+1<W.heap.size)
   (fun W=>∃c,Ix c W/\W.heap[w.heap.size+1]?=some (.loop (rec .done (some c)))/\W.heap[w.heap.size]?=some (.deferred (some [])))
   W1 (b4.trans b3) (by have:=b4.size;omega) (by omega) ?_ ?_ ?_ ⟨hI _ _ _ h0 b3,c0,b9,by omega⟩).mono ?_
  ·rintro k A B ⟨h1,h2,h3,h4⟩ J;exact ⟨hI _ _ _ h1 (J.mono (by omega)),(J.block _ (by omega)).trans h2,(J.block _ (by omega)).trans h3,DT h4 J.size⟩
  ·rintro A B ⟨c,h1,h2,h3⟩ J;exact ⟨c,hIx _ _ _ h1 (J.mono (by omega)),(J.block _ (by omega)).trans h2,(J.block _ (by omega)).trans h3⟩
  ·-- one round
   rintro k x W c8 ⟨hi,hl,hD,a1⟩ c7;have hy:=run_yield (P:=P) (args:=encs x) hl (by rw [z];exact c9 x);rw [z] at hy;refine ⟨fn,_,assign,body,hy,roundIn_of_wpIn hfn (a4 _ x W _ ⟨_,run_beginRound hl (by rw [z]),?_⟩)⟩;have a5:(W.putObj (w.heap.size+1) (.loop { rec .ready none with state:=.busy })).heap[w.heap.size+1]?=some (.loop { rec .ready none with state:=.busy }):=World.putObj_heap_same a1;have a6:(W.putObj (w.heap.size+1) (.loop { rec .ready none with state:=.busy })).heap[w.heap.size]?=some (.deferred (some [])):=(World.putObj_heap_other (by omega)).trans hD;have M:w.heap.size+1<(W.putObj (w.heap.size+1) (.loop { rec .ready none with state:=.busy })).heap.size:=(En.1 a5).1;have c6:W.grownBy (W.putObj (w.heap.size+1) (.loop { rec .ready none with state:=.busy })) (some (w.heap.size+1)):=grownBy_putObj' _ _ _;refine wpIn_mono (a8 _ k x _ c8 (hI _ _ _ hi (zy _ (by omega) a1)) (hG _ _ _ _ c7 (by omega) a1 ⟨_,hl⟩ _) (Nat.lt_trans (Nat.lt_succ_self _) M)) ?_;generalize W.putObj (w.heap.size+1) (.loop { rec .ready none with state:=.busy })=W2 at*
   have fin:∀(jump:Option Code) (W3:World),W3.heap[w.heap.size+1]?=some (.loop { rec .ready none with state:=.busy })->
     (Instr.endRound (w.heap.size+1) jump).run P W3=.ok (.bool jump.isNone) (W3.putObj (w.heap.size+1) (.loop (rec (if jump.isNone then .ready else .done) jump))):=fun jump W3 E=>by
    have:=run_endRound (P:=P) jump E;rw [z] at this⊢;exact this
   rintro e a3 W3 hp
   cases e with
   | normal=>
    obtain ⟨U,V⟩:=hp;have E:=(U.block _ M).trans a5;have d:=(En.1 E).1;have O:=(U.block _ (by omega)).trans a6;refine ⟨_,_,fin none W3 E,.inl ⟨rfl,⟨hI _ _ _ V (zy _ (by omega) d),World.putObj_heap_same d,(World.putObj_heap_other (by omega)).trans O,?_⟩,?_⟩⟩
    ·exact (En.1 (World.putObj_heap_same d)).1
    ·exact (c6.trans ⟨U.os,U.tape,U.output,U.size,fun i hi _=>U.block i hi⟩).trans (grownBy_putObj' _ _ _)
   | ret=>
    obtain ⟨L,V⟩:=hp;have E:=(L _ (by omega) M).trans a5;have d:=(En.1 E).1;have O:=(L _ (Dq _) (by omega)).trans a6;exact ⟨_,_,fin (some .ret) W3 E,.inr ⟨rfl,.ret,hIx _ _ _ V (zy _ (by omega) d),World.putObj_heap_same d,(World.putObj_heap_other (by omega)).trans O⟩⟩
   | exit id=>
    obtain ⟨L,V⟩:=hp;have E:=(L _ (by omega) M).trans a5;have d:=(En.1 E).1;have O:=(L _ (Dq _) (by omega)).trans a6;exact ⟨_,_,fin (some (.exit id)) W3 E,.inr ⟨rfl,.exit id,hIx _ _ _ V (zy _ (by omega) d),World.putObj_heap_same d,(World.putObj_heap_other (by omega)).trans O⟩⟩
   | goto t=>
    obtain ⟨L,V⟩:=hp;have E:=(L _ (by omega) M).trans a5;have d:=(En.1 E).1;have O:=(L _ (Dq _) (by omega)).trans a6;exact ⟨_,_,fin (some (.goto t)) W3 E,.inr ⟨rfl,.goto t,hIx _ _ _ V (zy _ (by omega) d),World.putObj_heap_same d,(World.putObj_heap_other (by omega)).trans O⟩⟩
   | panic ch=>exact hp.elim
   | outgrown=>exact hp.elim
  ·-- behind the iterator
   rintro e W2 ⟨⟨v,rfl⟩,(⟨hi,hl,hD,a1⟩ | ⟨c,hi,hl,hD⟩)⟩
   ·exact ⟨none,_,by have:=run_endLoop (P:=P) hl (by rw [z];simp);rw [z] at this;exact this,a9 _ _ (Dq _) (hI _ _ _ hi (zy _ (by omega) a1)) ((World.putObj_heap_other (by omega)).trans hD)⟩
   ·have a1:=(En.1 hl).1;exact ⟨some c,_,by have:=run_endLoop (P:=P) hl (by rw [z];simp);rw [z] at this;exact this,b1 _ c _ (Dq _) (hIx _ _ _ hi (zy _ (by omega) a1)) ((World.putObj_heap_other (by omega)).trans hD)⟩
end
end Go.Proofs.YtnmkmhpgnpojbaaGreatDoor
