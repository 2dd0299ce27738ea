import Derived.Test.YtjomnbdjajjgfaaGreatDoorWIc
import Derived.Lib.SliceRun
import Derived.RangeFuncNested
import Derived.RangeFuncBound
import Derived.RangeFuncCalls
import Derived.RangeFuncLeaves
import Derived.RangeFuncBox
import Derived.Shelf.Abstract
import Derived.Maps.AppendAt
import Derived.RangeFuncWrites
import Derived.Shelf.RegionOpen
import Derived.OwnWalkIn
import Derived.TacticsInMore
import Derived.LoopNIn
import Derived.LoopIn
import Derived.Deep.RegionHeld
import Derived.CallsIn
import Derived.OrdersIn
set_option linter.unusedVariables false
set_option linter.unusedSimpArgs false
set_option maxRecDepth 100000
set_option maxHeartbeats 16000000
namespace Go.Proofs.YtjomnbdjajjgfaaGreatDoor
variable {a a0:Act} {K:Act->World->Prop} {listed:Array Bool} {cs:Array Value} {l:List Int} {js:List Nat} {fuel k n:Nat} {o:Oper} {W:World}
section
open Go.RowKit
attribute [local go_sem ↓] Go.wp_at_zero Go.wp_at_succ
def stCells (m:MZ) (f u t vc vp:Value) (gu:Nat):Array Value:=#[.int .i64 m.w,.int .i64 m.h,.int .i64 m.l,f,u,t,vc,vp,.map (some gu)]
structure Bd (w:World) (ok:Nat->Prop) (g:Nat) (m:MZ) (ch:List Int) (ps:List (List Int)) (us:List Int) (f u t vc vp:Value) (gu:Nat):Prop where
 blk:zl w g 207 (stCells m f u t vc vp gu)
 okg:ok g
 maze:zY w ok (.agg #[.int .i64 m.w,.int .i64 m.h,.int .i64 m.l,f,u,t]) m
 ch:zk w ok vc ch
 ps:Aa w ok vp ps
 oku:ok gu
 us:zF w gu us
def CT (w:World) (ok:Nat->Prop) (v:Value) (m:MZ) (ch:List Int) (ps:List (List Int)) (us:List Int):Prop:=
 ∃g f u t vc vp gu,v=.pointer (some ⟨g,0,none⟩)/\Bd w ok g m ch ps us f u t vc vp gu
section
variable {w w':World} {ok ok':Nat->Prop} {v f u t vc vp:Value} {m:MZ} {ch us:List Int} {ps:List (List Int)} {g gu:Nat}
theorem Bd.keep (h:Bd w ok g m ch ps us f u t vc vp gu) (d:Ar ok w w'):Bd w' ok g m ch ps us f u t vc vp gu:=
 ⟨(d g h.okg (zc h.blk)).trans h.blk,h.okg,h.maze.keep d,h.ch.keep d,h.ps.keep d,h.oku,h.us.keep d h.oku⟩
theorem Bd.weaken (h:Bd w ok g m ch ps us f u t vc vp gu) (d:∀b,ok b->ok' b):Bd w ok' g m ch ps us f u t vc vp gu:=
 ⟨h.blk,d _ h.okg,h.maze.weaken d,h.ch.weaken d,h.ps.weaken d,d _ h.oku,h.us⟩
theorem CT.keep (h:CT w ok v m ch ps us) (d:Ar ok w w'):CT w' ok v m ch ps us:=by
 obtain ⟨g,f,u,t,vc,vp,gu,e,h⟩:=h;exact ⟨g,f,u,t,vc,vp,gu,e,h.keep d⟩
theorem CT.weaken (h:CT w ok v m ch ps us) (d:∀b,ok b->ok' b):CT w ok' v m ch ps us:=by
 obtain ⟨g,f,u,t,vc,vp,gu,e,h⟩:=h;exact ⟨g,f,u,t,vc,vp,gu,e,h.weaken d⟩
theorem CT.below (h:CT w ok v m ch ps us) (d:Below w.heap.size w w'):CT w' ok v m ch ps us:=h.keep (Ar.of_below d)
theorem Bd.ext (h:Bd w ok g m ch ps us f u t vc vp gu) (d:za w w'):Bd w' ok g m ch ps us f u t vc vp gu:=h.keep (Ar.of_below d)
theorem Bd.rules (h:Bd w ok g m ch ps us f u t vc vp gu):
  (∀W,za w W->W.cell? ⟨g,0,none⟩=some (.int .i64 m.w))/\(∀W,za w W->W.cell? ⟨g,1,none⟩=some (.int .i64 m.h))/\(∀W,za w W->W.cell? ⟨g,2,none⟩=some (.int .i64 m.l))/\
  (∀W,za w W->W.cell? ⟨g,3,none⟩=some f)/\(∀W,za w W->W.cell? ⟨g,4,none⟩=some u)/\(∀W,za w W->W.cell? ⟨g,5,none⟩=some t)/\
  (∀W,za w W->W.cell? ⟨g,6,none⟩=some vc)/\(∀W,za w W->W.cell? ⟨g,7,none⟩=some vp)/\(∀W,za w W->W.cell? ⟨g,8,none⟩=some (.map (some gu))):=by
 have B:=h.blk;unfold zl stCells at B
 have d:∀k x,(#[Value.int .i64 m.w,.int .i64 m.h,.int .i64 m.l,f,u,t,vc,vp,.map (some gu)]:Array Value)[k]?=some x->w.cell? ⟨g,k,none⟩=some x:=by
  intro k x D;unfold World.cell?;simp only [B];exact D
 exact ⟨za.rule (d 0 _ rfl),za.rule (d 1 _ rfl),za.rule (d 2 _ rfl),za.rule (d 3 _ rfl),za.rule (d 4 _ rfl),za.rule (d 5 _ rfl),za.rule (d 6 _ rfl),za.rule (d 7 _ rfl),za.rule (d 8 _ rfl)⟩
end
structure SOk (m:MZ) (ch:List Int) (ps:List (List Int)):Prop where
 good:AG m
 lens:Lens m
 pl:ps.length<=m.tasks.length
 pn:0<m.tasks.length->0<ps.length
 pp:∀p∈ps,p.length<=1000
 pr:∀p∈ps,∀x∈p,0<=x/\x<m.n
 cl:ch.length<=1000
def finB (m:MZ) (ps:List (List Int)):Bool:=
 match (ps.getD (ps.length - 1) []).getLast? with
 | none=>false
 | some x=>decide (x∈(m.tasks.getD (ps.length - 1) ([],[])).2)
def cmpB (m:MZ) (ps:List (List Int)):Bool:=decide (m.tasks.length=0) || (decide (ps.length=m.tasks.length) && finB m ps)
theorem CZ {w:World}:za w w.drew:=(za.refl w).drew
theorem AQ {ok:Nat->Prop} {m:MZ} {ch us:List Int} {ps:List (List Int)} {g gu:Nat} {f u t vc vp:Value} (w:World) (h:Bd w ok g m ch ps us f u t vc vp gu) (B:ps.length<=20000000000000):
  Calls Tryz.prog 199 #[.pointer (some ⟨g,0,none⟩)] w fun e w'=>e=.returned (.int .i64 ((ps.length:Int) - 1))/\w=w':=by
 obtain ⟨r0,r1,r2,r3,r4,r5,r6,r7,r8⟩:=h.rules;obtain ⟨vs,⟨Ap,cp,rfl,d,_⟩,_⟩:=h.ps;clear h;have D:=za.refl w
 go_enter Tryz.func199,Tryz.ntmps199
 go_wp2;go_ret;exact ⟨rfl,rfl⟩
theorem DL {ok:Nat->Prop} {m:MZ} {ch us:List Int} {ps:List (List Int)} {g gu:Nat} {f u t vc vp:Value} (w:World) (h:Bd w ok g m ch ps us f u t vc vp gu) (so:SOk m ch ps) (hp:0<ps.length):
  Calls Tryz.prog 204 #[.pointer (some ⟨g,0,none⟩)] w fun e w'=>e=.returned (.bool (finB m ps))/\z8 w w':=by
 obtain ⟨r0,r1,r2,r3,r4,r5,r6,r7,r8⟩:=h.rules;have d5:=h.ps;have d4:=h.maze;have HS:=zh h;clear h;obtain ⟨vs,⟨Ap,cp,rfl,e1,b5⟩,a7⟩:=d5;obtain ⟨fr',up',ts',he,_,_,a4⟩:=d4;injection he with he;injection he with he;simp only [List.cons.injEq,and_true,true_and] at he;obtain ⟨rfl,rfl,rfl⟩:=he;have d7:=a4;obtain ⟨vst,⟨At,ct,rfl,e2,_⟩,_⟩:=d7;have hk:ps.length - 1<ps.length:=by omega
 obtain ⟨b,off,up,rfl,_,D,b7⟩:=AX b5 a7 hk hk;have E:ps.length - 1<m.tasks.length:=by have:=so.pl;omega
 obtain ⟨bt,offt,sn,u1,u2,rfl,_,c8,a5,a1,a8,a2⟩:=Ce a4 E;have b6:=so.lens;have e5:=so.pl;have f1:=so.good.tk;have M:=so.pp _ (DZ hk);have b2:=(b6.tl _ (DZ E)).2;clear b6 b5 a7 a4
 have B:finB m ps=match (ps[ps.length - 1]).getLast? with | none=>false | some x=>decide (x∈(m.tasks[ps.length - 1]).2):=by
  unfold finB;simp [hk,E]
 obtain ⟨p,b3⟩:=Fd (ps[ps.length - 1]);obtain ⟨tk,U⟩:=Fd (m.tasks[ps.length - 1]);rw [<-b3] at b7 M B;rw [<-U] at a8 a2 b2 B;clear b3 U a8;have c6:=zh a2;clear a2;have HF:=zh B;clear B;obtain ⟨Aq,cq,rfl,I,a3⟩:=b7;obtain ⟨k,b1⟩:∃k,ps.length - 1=k:=⟨_,rfl⟩;rw [b1] at D a5 a1 E;have b0:(ps.length:Int) - 1=(k:Int):=by omega
 have V:=zh b0;clear b0;have e4:(k:Int)<(ps.length:Int):=by omega
 have e3:(0:Int)<=(k:Int):=by omega
 have d9:(k:Int)<(m.tasks.length:Int):=by omega
 have rp:=za.rule D;have rt:=za.rule a1;clear D c8 a5 a1 b1 hk E;have hx:=za.refl w;rcases List.eq_nil_or_concat p with rfl | ⟨q,x,rfl⟩
 ·have hz:([]:List Int).length=0:=rfl;rw [hz] at I
  go_enter Tryz.func204,Tryz.ntmps204
  go_wp2_with fail
  go_quiet ((go_at_call 199;refine (AQ _ (HS.out.ext ((za.refl w).drewN _)) (by omega)).mono ?_;rintro e w9 ⟨d,rfl⟩;rw [V.out] at d;exact ⟨d,⟨_,rfl⟩⟩))
  go_wp2_with fail
  go_quiet (fail)
  go_wp2;go_ret;exact ⟨zo (by rw [HF.out];rfl),(z8.refl w).more _ |>.more _⟩
 ·rw [List.concat_eq_append] at a3 M I HF;have b4:(q++[x]).length=q.length+1:=by simp
  rw [b4] at I M
  have J:∃bq offq,Aq=some ⟨bq,offq,none⟩/\w.cell? ⟨bq,offq+q.length,none⟩=some (.int .i64 x):=by
   obtain ⟨bq,offq,e,_,hc⟩:=AH a3 (k:=q.length) (by omega) (by omega);exact ⟨bq,offq,e,by rw [hc];simp⟩
  obtain ⟨bq,offq,rfl,J⟩:=J;have rx:=za.rule J;clear J a3;have G:(q++[x]).getLast?=some x:=by simp
  rw [G] at HF;have O:(q.concat x).length=q.length+1:=by simp
  rw [O] at rp;clear G b4 O;generalize q.length=n at*;obtain ⟨N,hN⟩:=Fd (n+1);rw [<-hN] at rp I M;have e6:(0:Int)<=(n:Int):=by omega
  have e7:(n:Int)<(N:Int):=by omega
  have d6:(N:Int) - 1=(n:Int):=by omega
  have e8:(0:Int)<(N:Int):=by omega
  have e9:0<N:=by omega
  have f0:IntKind.i64.wrap ((N:Int) - 1)=(n:Int):=by rw [Eu];omega
  clear hN d6
  go_enter Tryz.func204,Tryz.ntmps204
  go_wp2_with fail
  go_quiet ((go_at_call 199;refine (AQ _ (HS.out.ext ((za.refl w).drewN _)) (by omega)).mono ?_;rintro e w9 ⟨d,rfl⟩;rw [V.out] at d;exact ⟨d,⟨_,rfl⟩⟩))
  generalize b8:w.drewN nq=w1;have a6:z8 w w1:=⟨nq,b8.symm⟩;have b9:za w w1:=a6.below _;clear b8
  go_wp2_with fail
  go_quiet (first | ((go_at_call 199;refine (AQ _ (HS.out.ext (b9.drewN _)) (by omega)).mono ?_;rintro e w9 ⟨d,rfl⟩;rw [V.out] at d;exact ⟨d,⟨_,rfl⟩⟩)) | ((go_at_call 130;refine (CW x _ (c6.out.below (b9.drewN _)) (by omega)).mono ?_;rintro e w8 ⟨c9,rfl⟩;exact ⟨c9,⟨_,rfl⟩⟩)))
  go_wp2;go_ret;exact ⟨zo (by rw [HF.out]),a6.more _⟩
theorem Cc {ok:Nat->Prop} {m:MZ} {ch us:List Int} {ps:List (List Int)} {g gu:Nat} {f u t vc vp:Value} (w:World) (h:Bd w ok g m ch ps us f u t vc vp gu) (so:SOk m ch ps):
  Calls Tryz.prog 151 #[.pointer (some ⟨g,0,none⟩)] w fun e w'=>e=.returned (.bool (cmpB m ps))/\z8 w w':=by
 obtain ⟨r0,r1,r2,r3,r4,r5,r6,r7,r8⟩:=h.rules;have a6:=h.ps;have a5:=h.maze;have HS:=zh h;clear h;obtain ⟨vs,⟨Ap,cp,rfl,O,a7⟩,a4⟩:=a6;obtain ⟨fr',up',ts',he,_,_,a9⟩:=a5;injection he with he;injection he with he;simp only [List.cons.injEq,and_true,true_and] at he;obtain ⟨rfl,rfl,rfl⟩:=he;obtain ⟨vst,⟨At,ct,rfl,U,_⟩,_⟩:=a9;have G:=so.pl;have D:=so.pn;have a8:=so.good.tk;have SO:=zh so;clear so;clear a7 a4;have hx:=za.refl w;obtain ⟨cb,B⟩:=Fd (cmpB m ps);have d:=zh B;rw [<-B];clear B;unfold cmpB at d;obtain ⟨T,M⟩:=Fd m.tasks.length;obtain ⟨Pn,J⟩:=Fd ps.length;rw [<-M] at r5 U d G D a8;rw [<-J] at r7 O d G D;have HT:=zh M;clear M;have HP:=zh J;clear J;by_cases h0:T=0
 ·have E:Hid (cb=true):=by have:=d.out;rw [Eb h0] at this;simpa [Hid] using this
  have V:decide ((T:Int)=0)=true:=Eb (by omega);have a1:((T:Int)==0)=true:=by rw [beq_iff_eq];omega
  clear h0 D
  go_enter Tryz.func151,Tryz.ntmps151
  go_wp2_with fail
  go_quiet (fail)
  go_wp2;go_ret;exact ⟨zo E.out.symm,(z8.refl w).more _⟩
 ·have V:decide ((T:Int)=0)=false:=Ec (by omega);have a1:((T:Int)==0)=false:=by rw [El];omega
  by_cases h1:Pn=T
  ·have E:Hid (cb=finB m ps):=by have:=d.out;rw [Ec h0,Eb h1] at this;simpa [Hid] using this
   have I:Hid (0<ps.length):=(by have:=HP.out;omega:0<ps.length);subst h1;have a2:((Pn:Int)==(Pn:Int))=true:=by rw [beq_iff_eq]
   clear h0
   go_enter Tryz.func151,Tryz.ntmps151
   go_wp2_with fail
   go_quiet ((go_at_call 204;refine (DL _ (HS.out.ext ((za.refl w).drewN _)) SO.out I.out).mono ?_;rintro e w9 ⟨a3,nd,rfl⟩;exact ⟨a3,⟨_,World.drewN_drewN _ _ _⟩⟩))
   go_wp2;go_ret;exact ⟨zo E.out.symm,(z8.refl w).more _⟩
  ·have E:Hid (cb=false):=by have:=d.out;rw [Ec h0,Ec h1] at this;simpa [Hid] using this
   have b2:decide ((Pn:Int)=(T:Int))=false:=Ec (by omega);have a2:((Pn:Int)==(T:Int))=false:=by rw [El];omega
   clear h1 h0
   go_enter Tryz.func151,Tryz.ntmps151
   go_wp2_with fail
   go_quiet (fail)
   go_wp2;go_ret;exact ⟨zo E.out.symm,(z8.refl w).more _⟩
theorem Tryz.infoInts:(Tryz.prog.info? 23).map (fun i=>(i.zero,i.size,i.bytes))=some (some (.slice none 0 0),1,24):=by kernel_rfl
def OwnL (w:World) (B:Nat) (v:Value) (vs:List Value):Prop:=w.ownsRow B 23 1 v vs.length vs
theorem ints_oneCell {w:World} {ok:Nat->Prop} {v:Value} (h:zk w ok v l):v.oneCell'=true:=by
 obtain ⟨A,c,rfl,_⟩:=h;rfl
theorem AY {ok:Nat->Prop} {ops:Array Oper} {rest:List Oper} {Q:Exit->Act->World->Prop} (D:o.guard=none) (W:World) (s x:Operand)
  (U:o.op=.call { callee:=.builtin .append,args:=#[s,x],argTypes:=#[22,22] }) (base:Nat) (l l2:List Value) (v u:Value) (hs:a.eval s=v) (hx:a.eval x=u)
  (B:OwnL W base v l) (hu:Bv W ok 1 u l2.length l2) (h1:∀u∈l2,u.oneCell'=true) (d:base<=W.heap.size) (hl:l.length+l2.length<=1000000000000)
  (h:∀v' w',OwnL w' base v' (l++l2)->Hid (W.grownBy w' v.ownBlock)->Hid (v'.ownBlock=v.ownBlock\/v'.ownBlock=some W.heap.size)->wpList Tryz.prog ops Q rest (a.put o.dst v') w'):wpList Tryz.prog ops Q (o :: rest) a W:=by
 refine wpList_plain D fun K M=>?_
 obtain ⟨i0,O,E,G,I⟩:=info_parts Tryz.infoInts;obtain ⟨v',w',V,h2,h3,J⟩:=DQ (ok:=ok) W base 22 o.type 23 i0 (.slice none 0 0) 24 Tryz.underlying22 O E G I rfl v _ _ B u _ _ hu h1 (by unfold maxLen;omega) (by omega) d;unfold Oper.wp execOp;simp only [U,resolve,invoke,builtin,Sem.run_bind,Sem.run_pure,Result.andThen_ok,List.map_toArray,List.map_cons,List.map_nil,hs,hx,V];refine M _ _ (h v' w' ?_ h3 J);unfold OwnL;rw [Eg];exact h2
theorem slice_own {g c:Nat} (h:(Value.slice (some ⟨g,0,none⟩) n c).ownBlock=some k):g<=k:=by
 have h:some g=some k:=h;injection h with h;omega
theorem own_emptyL (W:World) (B:Nat) (d:B<=W.heap.size):OwnL (W.alloc (.cells #[] 23)) B (.slice (some ⟨W.heap.size,0,none⟩) 0 0) []:=
 ⟨rfl,.inr ⟨W.heap.size,0,#[],rfl,d,EL W _,DY _,by decide,rfl,rfl⟩⟩
theorem nilEq (t e:TypeId) (ht:Tryz.prog.underlying t=some (.slice e)):∀(w:World) (a:Option Addr) (n c n' c':Nat),(binOp .eql t (.slice a n c) (.slice none n' c')).run Tryz.prog w=.ok (.bool a.isNone) w:=fun w a n c n' c'=>Lib.run_eql_slice_nil w _ _ a n c n' c' ht
theorem cloneI_calls {ok:Nat->Prop} {v:Value} (w:World) (h:zk w ok v l) (O:l.length<=100000000000):
  Calls Tryz.prog 92 #[v] w fun e w'=>∃v',e=.returned v'/\Mk w w' v' l:=by
 have H:=zh h;have E:=nilEq 23 3 Tryz.underlying23;obtain ⟨A,c,rfl,M,B⟩:=h;rcases A with _ | a
 ·have d:l=[]:=by
   rcases EJ l.length with h | h
   ·exact Ep h
   ·obtain ⟨b,off,e,_⟩:=B.2 h;cases e
  subst d;clear B
  go_enter Tryz.func92,Tryz.ntmps92
  go_wp2_with fail
  go_ret;exact ⟨_,rfl,Mk.nil _⟩
 ·clear B;have U:=za.refl w
  go_enter Tryz.func92,Tryz.ntmps92
  go_wp2_with (at_builtin;refine Dd (ok:=ok) rfl _ _ _ rfl w.heap.size [] l _ _ rfl rfl (BX w w.heap.size (DY _)) (H.out.below ((za.refl w).alloc _)) ?d1 ?d2 ?_)
  case d1=>simp
  case d2=>simp;omega
  intro v' w1 G D _;have I:Hid (Mk w w1 v' l):=⟨G,Ao ((za.refl w).alloc _) D (by simp) (fun k J=>slice_own J)⟩;clear G D
  go_wp2_with fail
  go_ret;exact ⟨_,rfl,I.out⟩
theorem cloneL_calls {ok:Nat->Prop} {v:Value} {vs:List Value} (w:World) (h:Bv w ok 1 v vs.length vs) (h1:∀u∈vs,u.oneCell'=true) (V:vs.length<=100000000000):
  Calls Tryz.prog 185 #[v] w fun e w'=>∃v',e=.returned v'/\za w w'/\OwnL w' w.heap.size v' vs:=by
 have H:=zh h;have I:=zh h1;clear h1;have E:=nilEq 22 23 Tryz.underlying22;obtain ⟨A,c,rfl,U,B⟩:=h;rcases A with _ | a
 ·have d:vs=[]:=by
   rcases EJ vs.length with h | h
   ·exact Ep h
   ·obtain ⟨b,off,e,_⟩:=B.2 h;cases e
  subst d;clear B
  go_enter Tryz.func185,Tryz.ntmps185
  go_wp2_with fail
  go_ret;exact ⟨_,rfl,za.refl _,World.ownsRow_nil _ _ _ _⟩
 ·clear B;have hx:=za.refl w
  go_enter Tryz.func185,Tryz.ntmps185
  go_wp2_with (at_builtin;refine AY (ok:=ok) rfl _ _ _ rfl w.heap.size [] vs _ _ rfl rfl (own_emptyL w w.heap.size (DY _)) (H.out.below ((za.refl w).alloc _)) I.out ?d1 ?d2 ?_)
  case d1=>simp
  case d2=>simp;omega
  intro v' w1 G D _;have M:za w w1:=Ao ((za.refl w).alloc _) D (by simp) (fun k O=>slice_own O);have J:=zh G;clear G D
  go_wp2_with fail
  go_ret;exact ⟨_,rfl,M,J.out⟩
def ps0 (m:MZ):List (List Int):=if m.tasks.length=0 then [] else [[]]
theorem zl.set {w:World} {g:Nat} {t:TypeId} (h:zl w g t cs) (v:Value):zl (w.setCell ⟨g,k,none⟩ v) g t (cs.setIfInBounds k v):=by
 unfold zl at h⊢;simp [World.setCell,Array.getElem?_modify,h]
theorem zl.setOther {w:World} {g:Nat} {t:TypeId} (h:zl w g t cs) {a:Addr} (d:g≠a.block) (v:Value):zl (w.setCell a v) g t cs:=
 (Eh w a v g d).trans h
theorem zl.ext {w w':World} {g:Nat} {t:TypeId} (h:zl w g t cs) (d:za w w'):zl w' g t cs:=(d.block g (zc h)).trans h
theorem zl.cell {w:World} {g k:Nat} {t:TypeId} {cs:Array Value} {v:Value} (h:zl w g t cs) (d:cs[k]?=some v):w.cell? ⟨g,k,none⟩=some v:=by
 unfold zl at h;unfold World.cell?;simp only [h];exact d
theorem zl.frozen {w:World} {g:Nat} {t:TypeId} {cs:Array Value} (h:zl w g t cs) (k:Nat):w.frozen? ⟨g,k,none⟩=false:=by
 unfold zl at h;unfold World.frozen?;simp [h]
theorem zl.new (w:World) (cs:Array Value) (t:TypeId) {g:Nat} (d:g=w.heap.size):zl (w.alloc (.cells cs t)) g t cs:=by
 subst d;exact EL _ _
theorem Bd.make {ok ok':Nat->Prop} {w:World} {g gu:Nat} {m:MZ} {ch us:List Int} {ps:List (List Int)} {f u t vc vp:Value} (G:za w W) (hm:zY w ok (.agg #[.int .i64 m.w,.int .i64 m.h,.int .i64 m.l,f,u,t]) m)
  (M:∀b,ok b->ok' b) (I:zl W g 207 (stCells m f u t vc vp gu)) (J:ok' g) (d:zk W ok' vc ch) (D:Aa W ok' vp ps) (B:ok' gu) (E:zF W gu us):Bd W ok' g m ch ps us f u t vc vp gu:=
 ⟨I,J,(hm.below G).weaken M,d,D,B,E⟩
theorem Aa.nil (w:World) (ok:Nat->Prop):Aa w ok (.slice none 0 0) []:=⟨[],⟨none,0,rfl,DY _,AT.nil _ _ _ _⟩,by simp⟩
theorem AT.block {w:World} {ok:Nat->Prop} {g:Nat} {t:TypeId} (h:zl w g t cs) (d:ok g) (B:cs.size=n):AT w ok 1 (some ⟨g,0,none⟩) n cs.toList:=
 ⟨by simp [B],fun _=>⟨g,0,rfl,d,fun j u D=>by rw [Nat.zero_add];exact h.cell (by simpa using D)⟩⟩
theorem begin_calls {ok:Nat->Prop} {v:Value} {m:MZ} (w:World) (hm:zY w ok v m) (hl:m.tasks.length<=100000):
  Calls Tryz.prog 146 #[v] w fun e w'=>∃v',e=.returned v'/\za w w'/\CT w' (fun b=>ok b\/w.heap.size<=b) v' m [] (ps0 m) []:=by
 have B:=hm;obtain ⟨vfr,vup,vts,rfl,_,_,a5⟩:=hm;obtain ⟨vst,⟨At,ct,rfl,a9,_⟩,_⟩:=a5;have b0:=@run_makeMap Tryz.prog;by_cases h0:m.tasks.length=0
 ·have d:ps0 m=[]:=by unfold ps0;rw [if_pos h0]
  rw [h0] at B;have E:=zh B;clear B;have U:=zh d;clear d
  go_enter Tryz.func146,Tryz.ntmps146
  go_wp2_with fail
  go_ret;rw [U.out];have D:za w (w.alloc (.cells #[.int .i64 m.w,.int .i64 m.h,.int .i64 m.l,vfr,vup,.slice At 0 ct] 32)):=(za.refl w).alloc _;refine ⟨_,rfl,(D.alloc _).alloc _,w.heap.size+2,_,_,_,_,_,w.heap.size+1,rfl,Bd.make ((D.alloc _).alloc _) E.out (fun _ h=>.inl h) (zl.new _ _ _ (by simp)) (.inr (by omega)) (zk.nil _ _) (Aa.nil _ _) (.inr (by omega)) ?_⟩
  have h1:zF ((w.alloc (.cells #[.int .i64 m.w,.int .i64 m.h,.int .i64 m.l,vfr,vup,.slice At 0 ct] 32)).alloc (.map #[] 0)) (w.heap.size+1) []:=by
   have:=zF.new (w.alloc (.cells #[.int .i64 m.w,.int .i64 m.h,.int .i64 m.l,vfr,vup,.slice At 0 ct] 32));simpa using this
  exact h1.below ((za.refl _).alloc _)
 ·have d:ps0 m=[[]]:=by unfold ps0;rw [if_neg h0]
  have E:=zh B;clear B;have U:=zh d;clear d
  go_enter Tryz.func146,Tryz.ntmps146
  go_wp2_with fail
  go_ret;rw [U.out];generalize M:w.alloc (.cells #[.int .i64 m.w,.int .i64 m.h,.int .i64 m.l,vfr,vup,.slice At m.tasks.length ct] 32)=w1;have D:za w w1:=by rw [<-M];exact (za.refl w).alloc _
  have O:w1.heap.size=w.heap.size+1:=by rw [<-M];simp
  have h1:zF (w1.alloc (.map #[] 0)) (w.heap.size+1) []:=by rw [<-O];exact zF.new w1
  have a1:za w (w1.alloc (.map #[] 0)):=D.alloc _;generalize a6:w1.alloc (.map #[] 0)=w2 at*;have a8:w2.heap.size=w.heap.size+2:=by rw [<-a6];simp [O]
  generalize G:w2.alloc (.cells #[.int .i64 m.w,.int .i64 m.h,.int .i64 m.l,vfr,vup,.slice At m.tasks.length ct,.slice none 0 0,.slice (some ⟨w.heap.size+1+1+1,0,none⟩) 1 1,.map (some (w.heap.size+1))] 207)=w3;have a2:zl w3 (w.heap.size+2) 207 (stCells m vfr vup (.slice At m.tasks.length ct) (.slice none 0 0) (.slice (some ⟨w.heap.size+3,0,none⟩) 1 1) (w.heap.size+1)):=by rw [<-G];exact zl.new _ _ _ (by omega)
  have b1:w3.heap.size=w.heap.size+3:=by rw [<-G];simp [a8]
  have V:za w2 w3:=by rw [<-G];exact (za.refl _).alloc _
  have I:=V.alloc (.cells #[.slice none 0 0] 23);have J:=a1.trans I;have a3:=a2.alloc (.cells #[.slice none 0 0] 23);have a4:zl (w3.alloc (.cells #[.slice none 0 0] 23)) (w.heap.size+3) 23 #[.slice none 0 0]:=zl.new _ _ _ (by omega);refine ⟨_,rfl,J,w.heap.size+2,_,_,_,_,_,w.heap.size+1,rfl,Bd.make J E.out (fun _ h=>.inl h) a3 (.inr (by omega)) (zk.nil _ _) ?_ (.inr (by omega)) (h1.below I)⟩
  ·exact ⟨[.slice none 0 0],⟨some ⟨w.heap.size+3,0,none⟩,1,rfl,DY _,AT.block a4 (.inr (by omega)) rfl⟩,fun i x hx=>by
    match i,hx with
    | 0,hx=>
     have:x=[]:=by simpa using hx.symm
     subst this;exact ⟨_,rfl,zk.nil _ _⟩⟩
end
section
open Go.RowKit Go.Shelf
attribute [local go_sem] Oper.semAt_some
theorem values1_in (F:Fence) (n:Nat) (h7:F.fn 226) (a2:F.round=none) (hn:1<=n) (l Bs n₀:Nat) (A:Option Addr) (cap:Nat) (zs:List Int) (a5:zs.length<=1000000000000) (J Jx:List Int->World->Prop)
  (hY:∀pre x W,J pre W->pre.length<zs.length->YieldAt F (n - 1) Tryz.prog l #[.int .i64 x] W fun e W'=>
   (e=.returned (.bool true)/\J (pre++[x]) W'/\Below n₀ W W')\/(e=.returned (.bool false)/\Jx (pre++[x]) W'))
  (W:World) (b0:W.cell? ⟨Bs,0,none⟩=some (.slice A zs.length cap)) (hc:∀(j:Nat) (hj:j<zs.length),∃b off,A=some ⟨b,off,none⟩/\b<n₀/\W.cell? ⟨b,off+j,none⟩=some (.int .i64 (zs[j]))) (h0:J [] W):
  CallsIn F n Tryz.prog 226 #[.func (.yield l) #[] #[],.pointer (some ⟨Bs,0,none⟩)] W fun e W'=>(∃v,e=.returned v)/\
   ((∃ys,ys=zs/\J ys W')\/(∃pre,pre <+: zs/\Jx pre W')):=by
 have HC:=zh hc;clear hc;refine callsIn_of_wp Tryz.func226 rfl h7 ?_ a2;simp only [Tryz.ntmps226,List.size_toArray,Fb,Fc,Nat.reduceAdd,Nat.reduceSub,Array.replicate_succ,Array.replicate_zero,List.push_toArray,List.append_toArray,List.nil_append,List.cons_append]
 gi_wp2
 gi_loopw [7] (fun i wr=>∃k:Nat,k<=zs.length/\i=.int .i64 k/\Hid (J (zs.take k) wr)/\Hid (Below n₀ W wr))
  (fun i _=>zs.length - (intOf i).toNat)
 case atStart=>exact ⟨0,Em _,rfl,h0,Below.refl _ _⟩
 case round=>
  obtain ⟨k,hk,rfl,I,U⟩:=hrel;by_cases O:k<zs.length
  ·obtain ⟨b,off,rfl,hb,B⟩:=HC.out k O;have a1:wr.cell? ⟨b,off+k,none⟩=some (.int .i64 (zs[k])):=(U.out.cell (p:=⟨b,off+k,none⟩) hb).trans B;clear B;have E:=zh (Ef O);obtain ⟨x,hx⟩:=Fd (zs[k]);rw [<-hx] at a1 E;clear hx;obtain ⟨fn,tmps,assign,body,hy,hR⟩:=hY _ x wr I.out (by simp;omega);have HR:=zh hR;clear hR
   gi_wp2
   refine HR.out.mono ?_;rintro e W3 (⟨rfl,G,M⟩ | ⟨rfl,d⟩)
   ·have D:=zh G;clear G;have V:=zh M;clear M
    gi_wp2
    go_roundw
    case rel=>exact ⟨k+1,by omega,by go_num,by rw [E.out];exact D,U.out.trans V.out⟩
    case measure=>simp [intOf];omega
   ·have D:=zh d;clear d
    gi_wp2
    refine ER (results_none rfl _ _ _) rfl ?_;exact ⟨⟨_,rfl⟩,.inr ⟨_,List.take_prefix (k+1) zs,by rw [E.out];exact D.out⟩⟩
  ·obtain rfl:k=zs.length:=by omega
   gi_wp2
   go_end0
   exact ⟨⟨_,rfl⟩,.inl ⟨_,rfl,by have:=I.out;rwa [Ej] at this⟩⟩
theorem values_stops {ok:Nat->Prop} {v:Value} (Bs n₀ n:Nat) (hn:1<=n) (w:World) (E:Bs<w.heap.size) (hn₀:n₀<=w.heap.size) (V:w.cell? ⟨Bs,0,none⟩=some v) (h:zk w ok v l) (G:∀b,ok b->b<w.heap.size->b<n₀) (B:l.length<=1000000000000):
  SeqStopsK Fence.wide n Tryz.prog 226 #[.pointer (some ⟨Bs,0,none⟩)] (fun x:Int=>#[Value.int .i64 x]) (Below n₀) (fun ys=>ys=l) (fun pre=>pre <+: l) l.length w:=fun lb J Jx W hW _ _ O h0=>by
 obtain ⟨A,cap,rfl,I,hr⟩:=h;refine values1_in Fence.wide n trivial rfl hn lb Bs n₀ A cap l B J Jx O W ((hW.cell (p:=⟨Bs,0,none⟩) E).trans V) (fun j M=>?_) h0;obtain ⟨b,off,e,U,d⟩:=AH hr M M;have D:=zn d;exact ⟨b,off,e,G b U D,(hW.cell (p:=⟨b,off+j,none⟩) D).trans d⟩
theorem zk.bound {w:World} {ok:Nat->Prop} {v:Value} (h:zk w ok v l):zk w (fun b=>ok b/\b<w.heap.size) v l:=by
 obtain ⟨A,c,e,G,I,d⟩:=h;refine ⟨A,c,e,G,I,fun D=>?_⟩;obtain ⟨b,off,e',E,B⟩:=d D;have h0:0<(l.map (Value.int .i64)).length:=by simpa using D
 exact ⟨b,off,e',⟨E,zn (B 0 _ (DW h0))⟩,B⟩
theorem appendSeq_calls {ok:Nat->Prop} {v:Value} (Bs:Nat) (w:World) (V:w.cell? ⟨Bs,0,none⟩=some v) (h:zk w ok v l) (O:l.length<=1000000000000):
  Calls Tryz.prog 238 #[.slice none 0 0,.func (.func 226) #[] #[.pointer (some ⟨Bs,0,none⟩)]] w fun e w'=>∃v',e=.returned v'/\Mk w w' v' l:=by
 refine (callsIn_wide (n:=6)).1 ?_;obtain ⟨i0,hi,a5,a6,a7⟩:=info_parts Tryz.infoInt;have HI:=zh h;clear h;have a9:=zn V;refine callsIn_of_wp_marks Tryz.func238 rfl trivial ?_ rfl;simp only [Tryz.ntmps238,List.size_toArray,Fb,Fc,Nat.reduceAdd,Nat.reduceSub,Array.replicate_succ,Array.replicate_zero,List.push_toArray,List.append_toArray,List.nil_append,List.cons_append]
 gi_wp2
 have bO:=Boxed.new w 23 (.slice none 0 0);have I:Below w.heap.size w (w.alloc (.cells #[.slice none 0 0] 23)):=(Below.refl _ w).alloc (DY _) _
 refine wpIn_rangeFunc_ownG (F:=Fence.wide) rfl (by omega) (gf:=226) (lb:=#[.pointer (some ⟨Bs,0,none⟩)]) rfl trivial (enters_of Tryz.func226 (by kernel_rfl) rfl)
  (values_stops (ok:=fun b=>ok b/\b<w.heap.size) Bs w.heap.size _ (by omega) _ (by simp;omega) (by simp) ((za.refl w).alloc _ |>.cell V) (HI.out.bound.below I) (fun b hb _=>hb.2) O) belowK_t (belowK_b (by simp)) (Below.refl _ _) (fun _=>rfl)
  (fun pre W=>(∃v,Boxed W w.heap.size 23 v/\W.ownsRow w.heap.size 3 1 v pre.length (pre.map (Value.int .i64))/\True)/\Below w.heap.size w W)
  (fun _ _ _=>False)
  (OwnFrom.and (Own.from (holdsRow_own w.heap.size w.heap.size 23 3 1 (fun pre:List Int=>pre.length) (fun pre:List Int=>pre.map (Value.int .i64)) (fun pre v=>True)) _) (ownFrom_below (DY _) (by simp)))
  (fun _ _ _ _ _ hs _ _=>hs)
  ⟨⟨_,bO,World.ownsRow_nil _ _ _ _,trivial⟩,I⟩
  (fun x=>{ tmps:=#[.slice none 0 0,.func (.func 226) #[] #[.pointer (some ⟨Bs,0,none⟩)],.pointer (some ⟨w.heap.size,0,none⟩),undef,.slice none 0 0,.int .i64 x,.func (.func 226) #[] #[.pointer (some ⟨Bs,0,none⟩)],.int .i64 x,undef,undef,undef,undef,undef],defers:=[] }) ?assign ?body ?done ?stop
 case assign=>
  intro l x W K J
  gi_wp2
  exact J
 case body=>
  rintro lb pre x W ⟨⟨v,hv,d,_⟩,G⟩ b5;have V:=hv.cell
  gi_wp2_with (gi_at_builtin;refine wpListIn_append_own _ rfl _ _ 23 rfl w.heap.size 3 i0 (.int .i64 0) 1 8 Tryz.underlying23 hi a5 a6 a7 rfl (by decide) _ _ _ rfl (d.alloc _) ⟨W.heap.size,0,none⟩ 1 1 [.int .i64 x] rfl rfl (cell_one_new _ _ _) (by simp [Value.oneCell']) (by unfold maxLen;omega) (by omega) (by have:=G.size;simp;omega) ?_;intro v' w1 B E _;obtain ⟨g',cap',rfl⟩:=ownsRow_succ B;obtain ⟨U,a4,a3,a2,M⟩:=hv.appended (by decide) d G.size (DY _) B E;have b2:=U.cell;have b3:=U.frozen)
  exact ⟨a2.from _,M,⟨_,a4,by simpa using a3,trivial⟩,G.trans M⟩
 case done=>
  rintro D ys W hD rfl ⟨⟨v,hv,d,_⟩,G⟩ J;have V:=hv.cell
  gi_wp2
  refine ⟨by simp,.inl ⟨_,_,rfl,run_takeDeferred J,?_⟩⟩;exact ⟨_,results_tmp rfl _ _ _,v,rfl,ownsRow_putObj d _ J rfl,G.trans (belowK_b (w:=w) (DY _) W D _ _ (by simp at hD;omega) J rfl rfl)⟩
 case stop=>
  rintro D c pre W _ _ h _;exact h.elim
end
section
open Go.RowKit
section
variable {P:Program} {ops:Array Oper} {Q:Exit->Act->World->Prop} {md:Region.Mode} {S:World->Prop}
def BU (ops:Array Oper) (j:Nat):Option Tmp:=(ops[j]?).bind (·.dst)
def zE (ops:Array Oper) (v:Nat->Value):List Nat->Act->Act
 | [],a=>a
 | j :: js,a=>zE ops v js (a.put (BU ops j) (v j))
def Aw {α:Type} (f:Nat->α) (j:Nat) (x:α):Nat->α:=fun k=>if k=j then x else f k
theorem Dp {α:Type} (f:Nat->α) (j:Nat) (x:α):Aw f j x j=x:=by simp [Aw]
theorem upd_ne {α:Type} (f:Nat->α) {j:Nat} (x:α) (h:k≠j):Aw f j x k=f k:=by simp [Aw,h]
theorem put_put (a:Act) (d:Option Tmp) (x y:Value):(a.put d x).put d y=a.put d y:=by
 cases d with
 | none=>rfl
 | some d=>simp [Act.put]
theorem put_comm (a:Act) {d d':Option Tmp} (x y:Value) (h:d=d'->d=none):(a.put d x).put d' y=(a.put d' y).put d x:=by
 cases d with
 | none=>rfl
 | some d=>
  cases d' with
  | none=>rfl
  | some d'=>
   have B:d≠d':=fun e=>by subst e;exact absurd (h rfl) (by simp)
   simp only [Act.put];rw [Array.setIfInBounds_comm _ _ B]
theorem putAll_put (v:Nat->Value) (d:Option Tmp) (x:Value):∀(js:List Nat) (a:Act),(∀k∈js,BU ops k=d->d=none)->(zE ops v js a).put d x=zE ops v js (a.put d x)
 | [],_,_=>rfl
 | k :: js,a,h=>by
  simp only [zE];rw [putAll_put v d x js _ (fun k' B=>h k' (Et _ B)),put_comm a _ _ (fun e=>by rw [e];exact h k (EK ..) e)]
theorem putAll_upd (v:Nat->Value) (j:Nat) (x:Value):∀(js:List Nat) (a:Act),j∉js->zE ops (Aw v j x) js a=zE ops v js a
 | [],_,_=>rfl
 | k :: js,a,h=>by
  simp only [zE];rw [upd_ne v x (fun e=>h (by simp [e])),putAll_upd v j x js _ (fun d=>h (Et _ d))]
def Dist (ops:Array Oper) (js:List Nat):Prop:=∀j∈js,∀k∈js,j≠k->BU ops j=BU ops k->BU ops k=none
theorem putAll_set (v:Nat->Value) (j:Nat) (x:Value):∀(js:List Nat) (a:Act),js.Nodup->Dist ops js->j∈js->(zE ops v js a).put (BU ops j) x=zE ops (Aw v j x) js a
 | [],_,_,_,h=>by cases h
 | k :: js,a,M,D,h=>by
  obtain ⟨E,B⟩:=List.nodup_cons.1 M;simp only [zE];by_cases e:j=k
  ·subst e;rw [Dp,putAll_upd v j x js _ E,putAll_put v _ x js _ (fun k' d he=>D k' (Et _ d) j (EK ..) (fun e=>E (e ▸ d)) he),put_put]
  ·have J:j∈js:=by
    rcases EM.1 h with h | h
    ·exact absurd h e
    ·exact h
   rw [upd_ne v x (fun h=>e h.symm)];exact putAll_set v j x js _ B (fun a G b I=>D a (Et _ G) b (Et _ I)) J
theorem put_self (a:Act) (d:Option Tmp):∃x,a.put d x=a:=by
 cases d with
 | none=>exact ⟨undef,rfl⟩
 | some d=>
  refine ⟨a.tmps.getD d undef,?_⟩;obtain ⟨t,ds⟩:=a;simp only [Act.put,Act.mk.injEq,and_true];apply Array.ext_getElem?;intro i;rw [Array.getElem?_setIfInBounds]
  split
  ·rename_i h
   subst h
   split
   ·rename_i h;simp [Array.getD,h]
   ·rename_i h;rw [Array.getElem?_eq_none (by omega)]
  ·rfl
theorem DO (a:Act):∀(js:List Nat),js.Nodup->∃v,zE ops v js a=a
 | [],_=>⟨fun _=>undef,rfl⟩
 | j :: js,h=>by
  obtain ⟨d,B⟩:=List.nodup_cons.1 h;obtain ⟨v,D⟩:=DO a js B;obtain ⟨x,E⟩:=put_self a (BU ops j);refine ⟨Aw v j x,?_⟩;simp only [zE];rw [Dp,putAll_upd v j x js _ d,E,D]
def Cv (md:Region.Mode) (ops:Array Oper) (js:List Nat):Bool:=
 ((List.range ops.size).all fun j=>match ops[j]? with | none=>false | some o=>o.after.toList.all fun e=>!Region.binds md e || decide (e.on<j)) &&
 decide js.Nodup && (js.all fun j=>decide (j<ops.size)) && (js.all fun j=>js.all fun k=>decide (j=k) || !(decide (BU ops j=BU ops k)) || decide (BU ops k=none))
def leftB (ops:Array Oper) (listed:Array Bool) (js:List Nat):Bool:=decide (listed.size=ops.size) && (List.range listed.size).all fun k=>listed.getD k true || decide (k∈js)
def StepTo (ops:Array Oper) (S:World->Prop) (J:(Nat->Bool)->(Nat->Value)->World->Prop) (js:List Nat) (a0:Act) (j:Nat) (e:Nat->Bool) (v:Nat->Value) (K:Act->World->Prop):Prop:=
 ∀a' x w',(zE ops v js a0).put (BU ops j) x=a'->S w'->J (Aw e j true) (Aw v j x) w'->K a' w'
theorem wpAnyH_inv {J:(Nat->Bool)->(Nat->Value)->World->Prop} (hB:Cv md ops js=true)
  (step:∀j∈js,∀e v w,J e v w->S w->e j=false->(∀o,ops[j]?=some o->∀d∈o.after,Region.binds md d=true->e d.on=true)->∀o,ops[j]?=some o->∀K:Act->World->Prop,Hid (StepTo ops S J js a0 j e v K)->
   if Region.wanted o (yielded ops (zE ops v js a0).tmps)=true then Oper.wp P o (zE ops v js a0) w K Q else K ((zE ops v js a0).put o.dst undef) w)
  (fin:∀v w,J (fun _=>true) v w->S w->Q .normal (zE ops v js a0) w):
  ∀(fuel:Nat) (listed:Array Bool) (v:Nat->Value) (w:World),listed.size=ops.size->(∀k,listed.getD k true=false->k∈js)->(js.filter fun k=>!listed.getD k true).length<=fuel->S w->J (fun k=>listed.getD k true) v w->
   wpAnyH P md ops Q S fuel listed (zE ops v js a0) w:=by
 unfold Cv at hB;simp only [Ek,Fa,Ei,EY,Bool.not_eq_true',Ew] at hB;obtain ⟨⟨⟨h1,h2⟩,h3⟩,h4⟩:=hB
 have hD:Dist ops js:=fun j hj k M b6 he=>by
  rcases h4 j hj k M with (h | h) | h
  ·exact absurd h b6
  ·exact absurd he h
  ·exact h
 have a1:∀listed:Array Bool,(∀k,listed.getD k true=true)->(fun k=>listed.getD k true)=fun _=>true:=fun listed h=>funext h
 have U:∀listed:Array Bool,listed.size=ops.size->(∀k,listed.getD k true=false->k∈js)->Region.ready md ops listed=[]->∀k,listed.getD k true=true:=by
  intro listed V B hr
  have M:∀n k,k<n->listed.getD k true=true:=by
   intro n
   induction n with
   | zero=>intro k h;omega
   | succ n ih=>
    intro k d7
    cases hv:listed.getD k true with
    | true=>rfl
    | false=>
     exfalso
     have G:=h3 k (B k hv)
     have a2:k∈Region.ready md ops listed:=mem_ready.2 ⟨hv,ops[k],Array.getElem?_eq_getElem G,fun e he hb=>by
      have:=h1 k (EW.2 G);rw [Array.getElem?_eq_getElem G] at this;have h5:=(Fa.1 this) e (by simpa using he);simp only [EY,Bool.not_eq_true',Ei] at h5
      have h6:e.on<k:=by
       rcases h5 with h5 | h5
       ·rw [hb] at h5;cases h5
       ·exact h5
      have h7:=ih e.on (by omega);have h8:e.on<listed.size:=by omega
      simp only [Array.getD,h8,dif_pos] at h7⊢;exact h7⟩
     rw [hr] at a2;cases a2
  exact fun k=>M (k+1) k (by omega)
 intro fuel
 induction fuel with
 | zero=>
  intro listed v w V B hc hS hJ
  have hf:∀k,listed.getD k true=true:=fun k=>by
   cases hv:listed.getD k true with
   | true=>rfl
   | false=>
    exfalso
    have:k∈js.filter fun k=>!listed.getD k true:=EV.2 ⟨B k hv,by rw [hv];rfl⟩
    rw [Ep (Nat.le_zero.1 hc)] at this;cases this
  refine ⟨?_,fin v w (by rw [<-a1 listed hf];exact hJ) hS⟩;apply List.eq_nil_iff_forall_not_mem.2;intro j hj;have:=(mem_ready.1 hj).1;rw [hf j] at this;cases this
 | succ fuel ih=>
  intro listed v w V B hc hS hJ;refine ⟨fun hr=>fin v w (by rw [<-a1 listed (U listed V B hr)];exact hJ) hS,fun i hi=>?_⟩;obtain ⟨a4,o,ho,a3⟩:=mem_ready.1 hi;have E:=B i a4;refine wpOp_step ho fun K' hK=>?_
  have G:i<listed.size:=by have:=h3 i E;omega
  refine step i E (fun k=>listed.getD k true) v w hJ hS a4 (fun o' O d hd hb=>?_) o ho K' fun a' x w' ha a7 a6=>?_
  ·rw [ho] at O;injection O with O;subst O;have h9:=a3 d hd hb;by_cases a5:d.on<listed.size
   ·simp only [Array.getD,a5,dif_pos] at h9⊢;exact h9
   ·simp only [Array.getD,a5,dif_neg,not_false_eq_true] at h9;cases h9
  ·refine hK _ _ ⟨a7,?_⟩
   have I:Aw (fun k=>listed.getD k true) i true=fun k=>(listed.setIfInBounds i true).getD k true:=by
    funext k;by_cases M:k=i
    ·subst M;rw [Dp];simp [Array.getD,G]
    ·rw [upd_ne _ _ M];simp only [Array.getD,Array.size_setIfInBounds]
     split
     ·rename_i h
      show listed[k]=(listed.setIfInBounds i true)[k]'(by simpa using h);rw [Array.getElem_setIfInBounds,if_neg (Ne.symm M)]
     ·rfl
   rw [I] at a6;rw [<-ha,putAll_set v i x js a0 h2 hD E];refine ih (listed.setIfInBounds i true) (Aw v i x) w' (by simpa using V) (fun k M=>?_) ?_ a7 a6
   ·by_cases D:k=i
    ·rw [D];exact E
    ·have:=congrFun I k;rw [upd_ne _ _ D] at this;exact B k (this.trans M)
   ·have b4:(js.filter fun k=>!(listed.setIfInBounds i true).getD k true)=(js.filter fun k=>!listed.getD k true).erase i:=by
     rw [List.Nodup.erase_eq_filter (h2.filter _),List.filter_filter];apply List.filter_congr;intro k M;have:=congrFun I k;rw [<-this];by_cases D:k=i
     ·subst D;simp [Dp]
     ·rw [upd_ne _ _ D];simp [D]
    rw [b4,List.length_erase_of_mem (EV.2 ⟨E,by show (!listed.getD i true)=true;rw [a4];rfl⟩)];omega
theorem wpAnyH_by_inv (js:List Nat) (J:(Nat->Bool)->(Nat->Value)->World->Prop) {w:World} (D:Cv md ops js=true) (hL:leftB ops listed js=true) (hf:js.length<=fuel) (I:S w)
  (init:∀e v,(∀j∈js,e j=false)->J e v w)
  (E:(js.all fun j=>!listed.getD j true)=true)
  (step:∀j∈js,∀e v w,J e v w->S w->e j=false->(∀o,ops[j]?=some o->∀d∈o.after,Region.binds md d=true->e d.on=true)->∀o,ops[j]?=some o->∀K:Act->World->Prop,Hid (StepTo ops S J js a0 j e v K)->
   if Region.wanted o (yielded ops (zE ops v js a0).tmps)=true then Oper.wp P o (zE ops v js a0) w K Q else K ((zE ops v js a0).put o.dst undef) w)
  (fin:∀v w,J (fun _=>true) v w->S w->Q .normal (zE ops v js a0) w):wpAnyH P md ops Q S fuel listed a0 w:=by
 unfold leftB at hL;simp only [Ek,Fa,Ei,EY] at hL
 have O:js.Nodup:=by
  unfold Cv at D;simp only [Ek,Ei] at D;exact D.1.1.2
 obtain ⟨v,U⟩:=DO (ops:=ops) a0 js O
 have h:=wpAnyH_inv D step fin fuel listed v w hL.1 (fun k G=>by
  by_cases B:k<listed.size
  ·rcases hL.2 k (EW.2 B) with h | h
   ·rw [G] at h;cases h
   ·exact h
  ·simp [Array.getD,B] at G) (Ea (EB _ _) hf) I (init _ _ (fun j M=>by
   have:=Fa.1 E j M;simpa using this))
 rwa [U] at h
end
def noDeferB (ops:Array Oper):Bool:=ops.toList.all fun o=>match o.op with | .defer _=>false | _=>true
theorem operIn_of {P:Program} {w:World} {Q:Exit->Act->World->Prop} (l n:Nat) (B:∀c,o.op≠.defer c) (h:o.wp P a w K Q):o.wpIn (Fence.wide.inRound l) n P a w K Q:=by
 have d:(Fence.wide.inRound l).depth.isSome=true->1<=n:=fun h=>absurd h (by simp [Fence.wide])
 refine ⟨fun f _=>trivial,?_⟩;rw [Oper.semAt_eq _ _ _ B];unfold Oper.wp at h;generalize (execOp a.eval o).run P w=r at*
 cases r with
 | ok x w'=>
  cases x with
  | enter f args=>exact ⟨d,(CallsIn.inRound l (callsIn_wide.2 h)).mono (fun e w'' he=>by cases e <;> exact he)⟩
  | row row args=>exact ⟨d,fun c cs _=>let ⟨v,w'',r,s⟩:=h c cs;⟨v,w'',r,stepsIn_wide.2 s⟩⟩
  | _=>first | exact h | exact (h:False).elim
 | halt x w'=>cases x <;> exact h
section
variable {P:Program} {ops:Array Oper} {Q:Exit->Act->World->Prop} {md:Region.Mode} {S:World->Prop}
theorem wpOpIn_step (l n:Nat) (B:noDeferB ops=true) {i:Nat} {w:World} (D:ops[i]?=some o)
  (h:∀K':Act->World->Prop,(∀a w,K a w->K' a w)->if Region.wanted o (yielded ops a.tmps)=true then Oper.wp P o a w K' Q else K' (a.put o.dst undef) w):wpOpIn (Fence.wide.inRound l) n P ops Q i K a w:=by
 have h1:=h K (fun _ _ h=>h);unfold wpOpIn;rw [D]
 have E:∀c,o.op≠.defer c:=by
  intro c e;have:=Fa.1 B o (by simpa using Array.mem_of_getElem? D);rw [e] at this;cases this
 by_cases d:Region.wanted o (yielded ops a.tmps)=true
 ·rw [if_pos d] at h1;simp only [d,if_true];exact operIn_of l n E h1
 ·rw [if_neg d] at h1;simp only [d];exact ⟨fun f _=>trivial,h1⟩
theorem wpAnyIn_inv (l n:Nat) (b1:noDeferB ops=true) {J:(Nat->Bool)->(Nat->Value)->World->Prop} (hB:Cv md ops js=true)
  (step:∀j∈js,∀e v w,J e v w->e j=false->(∀o,ops[j]?=some o->∀d∈o.after,Region.binds md d=true->e d.on=true)->∀o,ops[j]?=some o->∀K:Act->World->Prop,Hid (StepTo ops (fun _=>True) J js a0 j e v K)->
   if Region.wanted o (yielded ops (zE ops v js a0).tmps)=true then Oper.wp P o (zE ops v js a0) w K Q else K ((zE ops v js a0).put o.dst undef) w)
  (fin:∀v w,J (fun _=>true) v w->Q .normal (zE ops v js a0) w):
  ∀(fuel:Nat) (listed:Array Bool) (v:Nat->Value) (w:World),listed.size=ops.size->(∀k,listed.getD k true=false->k∈js)->(js.filter fun k=>!listed.getD k true).length<=fuel->J (fun k=>listed.getD k true) v w->
   wpAnyIn (Fence.wide.inRound l) n P md ops Q fuel listed (zE ops v js a0) w:=by
 unfold Cv at hB;simp only [Ek,Fa,Ei,EY,Bool.not_eq_true',Ew] at hB;obtain ⟨⟨⟨h1,h2⟩,h3⟩,h4⟩:=hB
 have hD:Dist ops js:=fun j hj k M b5 he=>by
  rcases h4 j hj k M with (h | h) | h
  ·exact absurd h b5
  ·exact absurd he h
  ·exact h
 have a1:∀listed:Array Bool,(∀k,listed.getD k true=true)->(fun k=>listed.getD k true)=fun _=>true:=fun listed h=>funext h
 have U:∀listed:Array Bool,listed.size=ops.size->(∀k,listed.getD k true=false->k∈js)->Region.ready md ops listed=[]->∀k,listed.getD k true=true:=by
  intro listed V B hr
  have M:∀n k,k<n->listed.getD k true=true:=by
   intro n
   induction n with
   | zero=>intro k h;omega
   | succ n ih=>
    intro k d7
    cases hv:listed.getD k true with
    | true=>rfl
    | false=>
     exfalso
     have G:=h3 k (B k hv)
     have a2:k∈Region.ready md ops listed:=mem_ready.2 ⟨hv,ops[k],Array.getElem?_eq_getElem G,fun e he hb=>by
      have:=h1 k (EW.2 G);rw [Array.getElem?_eq_getElem G] at this;have h5:=(Fa.1 this) e (by simpa using he);simp only [EY,Bool.not_eq_true',Ei] at h5
      have h6:e.on<k:=by
       rcases h5 with h5 | h5
       ·rw [hb] at h5;cases h5
       ·exact h5
      have h7:=ih e.on (by omega);have h8:e.on<listed.size:=by omega
      simp only [Array.getD,h8,dif_pos] at h7⊢;exact h7⟩
     rw [hr] at a2;cases a2
  exact fun k=>M (k+1) k (by omega)
 intro fuel
 induction fuel with
 | zero=>
  intro listed v w V B hc hJ
  have hf:∀k,listed.getD k true=true:=fun k=>by
   cases hv:listed.getD k true with
   | true=>rfl
   | false=>
    exfalso
    have:k∈js.filter fun k=>!listed.getD k true:=EV.2 ⟨B k hv,by rw [hv];rfl⟩
    rw [Ep (Nat.le_zero.1 hc)] at this;cases this
  refine ⟨?_,fin v w (by rw [<-a1 listed hf];exact hJ)⟩;apply List.eq_nil_iff_forall_not_mem.2;intro j hj;have:=(mem_ready.1 hj).1;rw [hf j] at this;cases this
 | succ fuel ih=>
  intro listed v w V B hc hJ;refine ⟨fun hr=>fin v w (by rw [<-a1 listed (U listed V B hr)];exact hJ),fun i hi=>?_⟩;obtain ⟨a4,o,ho,a3⟩:=mem_ready.1 hi;have E:=B i a4;refine wpOpIn_step l n b1 ho fun K' hK=>?_
  have G:i<listed.size:=by have:=h3 i E;omega
  refine step i E (fun k=>listed.getD k true) v w hJ a4 (fun o' O d hd hb=>?_) o ho K' fun a' x w' ha c9 a6=>?_
  ·rw [ho] at O;injection O with O;subst O;have h9:=a3 d hd hb;by_cases a5:d.on<listed.size
   ·simp only [Array.getD,a5,dif_pos] at h9⊢;exact h9
   ·simp only [Array.getD,a5,dif_neg,not_false_eq_true] at h9;cases h9
  ·refine hK _ _ ?_
   have I:Aw (fun k=>listed.getD k true) i true=fun k=>(listed.setIfInBounds i true).getD k true:=by
    funext k;by_cases M:k=i
    ·subst M;rw [Dp];simp [Array.getD,G]
    ·rw [upd_ne _ _ M];simp only [Array.getD,Array.size_setIfInBounds]
     split
     ·rename_i h
      show listed[k]=(listed.setIfInBounds i true)[k]'(by simpa using h);rw [Array.getElem_setIfInBounds,if_neg (Ne.symm M)]
     ·rfl
   rw [I] at a6;rw [<-ha,putAll_set v i x js a0 h2 hD E];refine ih (listed.setIfInBounds i true) (Aw v i x) w' (by simpa using V) (fun k M=>?_) ?_ a6
   ·by_cases D:k=i
    ·rw [D];exact E
    ·have:=congrFun I k;rw [upd_ne _ _ D] at this;exact B k (this.trans M)
   ·have b3:(js.filter fun k=>!(listed.setIfInBounds i true).getD k true)=(js.filter fun k=>!listed.getD k true).erase i:=by
     rw [List.Nodup.erase_eq_filter (h2.filter _),List.filter_filter];apply List.filter_congr;intro k M;have:=congrFun I k;rw [<-this];by_cases D:k=i
     ·subst D;simp [Dp]
     ·rw [upd_ne _ _ D];simp [D]
    rw [b3,List.length_erase_of_mem (EV.2 ⟨E,by show (!listed.getD i true)=true;rw [a4];rfl⟩)];omega
theorem wpAnyIn_by_inv (l n:Nat) (E:noDeferB ops=true) (js:List Nat) (J:(Nat->Bool)->(Nat->Value)->World->Prop) {w:World} (D:Cv md ops js=true) (hL:leftB ops listed js=true) (hf:js.length<=fuel)
  (init:∀e v,(∀j∈js,e j=false)->J e v w)
  (G:(js.all fun j=>!listed.getD j true)=true)
  (step:∀j∈js,∀e v w,J e v w->e j=false->(∀o,ops[j]?=some o->∀d∈o.after,Region.binds md d=true->e d.on=true)->∀o,ops[j]?=some o->∀K:Act->World->Prop,Hid (StepTo ops (fun _=>True) J js a0 j e v K)->
   if Region.wanted o (yielded ops (zE ops v js a0).tmps)=true then Oper.wp P o (zE ops v js a0) w K Q else K ((zE ops v js a0).put o.dst undef) w)
  (fin:∀v w,J (fun _=>true) v w->Q .normal (zE ops v js a0) w):wpAnyIn (Fence.wide.inRound l) n P md ops Q fuel listed a0 w:=by
 unfold leftB at hL;simp only [Ek,Fa,Ei,EY] at hL
 have O:js.Nodup:=by
  unfold Cv at D;simp only [Ek,Ei] at D;exact D.1.1.2
 obtain ⟨v,U⟩:=DO (ops:=ops) a0 js O
 have h:=wpAnyIn_inv l n E D step fin fuel listed v w hL.1 (fun k I=>by
  by_cases B:k<listed.size
  ·rcases hL.2 k (EW.2 B) with h | h
   ·rw [I] at h;cases h
   ·exact h
  ·simp [Array.getD,B] at I) (Ea (EB _ _) hf) (init _ _ (fun j M=>by
   have:=Fa.1 G j M;simpa using this))
 rwa [U] at h
end
section
variable {P:Program} {ops:Array Oper} {Q:Exit->Act->World->Prop} {md:Region.Mode} {S:World->Prop}
def StepToF (F:(Nat->Value)->Act) (d:Option Tmp) (S:World->Prop) (J:(Nat->Bool)->(Nat->Value)->World->Prop) (j:Nat) (e:Nat->Bool) (v:Nat->Value) (K:Act->World->Prop):Prop:=
 ∀a' x w',(F v).put d x=a'->S w'->J (Aw e j true) (Aw v j x) w'->K a' w'
def zj (P:Program) (ops:Array Oper) (Q:Exit->Act->World->Prop) (md:Region.Mode) (F:(Nat->Value)->Act) (S:World->Prop) (J:(Nat->Bool)->(Nat->Value)->World->Prop) (js:List Nat):Prop:=
 ∀j∈js,∀e v w,J e v w->S w->e j=false->∀o,ops[j]?=some o->(∀d∈o.after,Region.binds md d=true->e d.on=true)->∀K:Act->World->Prop,Hid (StepToF F o.dst S J j e v K)->
   if Region.wanted o (yielded ops (F v).tmps)=true then Oper.wp P o (F v) w K Q else K ((F v).put o.dst undef) w
theorem zj.nil {F:(Nat->Value)->Act} {J:(Nat->Bool)->(Nat->Value)->World->Prop}:zj P ops Q md F S J []:=fun _ h=>by cases h
theorem zj.cons {F:(Nat->Value)->Act} {J:(Nat->Bool)->(Nat->Value)->World->Prop} {j:Nat} {js:List Nat} {o:Oper} (M:ops[j]?=some o)
  (h:∀e v w (K:Act->World->Prop),J e v w->S w->e j=false->(∀d∈o.after,Region.binds md d=true->e d.on=true)->Hid (StepToF F o.dst S J j e v K)->
   if Region.wanted o (yielded ops (F v).tmps)=true then Oper.wp P o (F v) w K Q else K ((F v).put o.dst undef) w)
  (O:zj P ops Q md F S J js):zj P ops Q md F S J (j :: js):=by
 intro k hk;rcases EM.1 hk with rfl | hk
 ·intro e v w D G he o' B I K E;rw [M] at B;injection B with B;subst B;exact h e v w K D G he I E
 ·exact O k hk
theorem Cg (js:List Nat) (J:(Nat->Bool)->(Nat->Value)->World->Prop) {F:(Nat->Value)->Act} {w:World} (O:Cv md ops js=true) (hL:leftB ops listed js=true) (hf:js.length<=fuel) (d:S w)
  (hF:∀v,zE ops v js a0=F v) (init:∀e v,(∀j∈js,e j=false)->J e v w) (M:(js.all fun j=>!listed.getD j true)=true) (step:zj P ops Q md F S J js)
  (fin:∀v w,J (fun _=>true) v w->S w->Q .normal (F v) w):wpAnyH P md ops Q S fuel listed a0 w:=by
 refine wpAnyH_by_inv js J O hL hf d init M (fun j hj e v w D d he hd o I K U=>?_) (fun v w D d=>by rw [hF v];exact fin v w D d);have B:BU ops j=o.dst:=by unfold BU;rw [I];rfl
 have h:=step j hj e v w D d he o I (hd o I) K (fun a' x w' V G E=>U.out a' x w' (by rw [hF v,B];exact V) G E);rw [hF v];exact h
theorem wpAnyIn_by_invF (l n:Nat) (E:noDeferB ops=true) (js:List Nat) (J:(Nat->Bool)->(Nat->Value)->World->Prop) {F:(Nat->Value)->Act} {w:World} (O:Cv md ops js=true) (hL:leftB ops listed js=true) (hf:js.length<=fuel)
  (hF:∀v,zE ops v js a0=F v) (init:∀e v,(∀j∈js,e j=false)->J e v w) (M:(js.all fun j=>!listed.getD j true)=true) (step:zj P ops Q md F (fun _=>True) J js)
  (fin:∀v w,J (fun _=>true) v w->Q .normal (F v) w):wpAnyIn (Fence.wide.inRound l) n P md ops Q fuel listed a0 w:=by
 refine wpAnyIn_by_inv l n E js J O hL hf init M (fun j hj e v w B he hd o I K U=>?_) (fun v w B=>by rw [hF v];exact fin v w B);have d:BU ops j=o.dst:=by unfold BU;rw [I];rfl
 have h:=step j hj e v w B trivial he o I (hd o I) K (fun a' x w' V G D=>U.out a' x w' (by rw [hF v,d];exact V) G D);rw [hF v];exact h
end
def GivesB {α:Type} (n:Nat) (P:Program) (g:Nat) (lb:Array Value) (encs:α->Array Value) (G:Nat->α->World->Prop) (N:Nat) (w:World):Prop:=
 ∀(l:Nat) (J:Nat->World->Prop) (Jx:World->Prop) (W:World),za w W->w.heap.size<=l->l<W.heap.size->(∀k A B,J k A->Below W.heap.size A B->J k B)->(∀A B,Jx A->Below W.heap.size A B->Jx B)->
  (∀k x W1,k<N->J k W1->G k x W1->YieldAt Fence.wide (n - 1) P l (encs x) W1 fun e W'=>(e=.returned (.bool true)/\J (k+1) W'/\W1.grownBy W' (some l))\/(e=.returned (.bool false)/\Jx W'))->
  J 0 W->
  CallsIn Fence.wide n P g (#[.func (.yield l) #[] #[]]++lb) W fun e W'=>(∃v,e=.returned v)/\(J N W'\/Jx W')
def postB (B k:Nat) (I:Nat->World->Prop) (Ix:Code->World->Prop) (W:World):Exit->Act->World->Prop
 | .normal,_,W'=>za W W'/\I (k+1) W'
 | .ret,_,W'=>(∀b,B<=b->b<W.heap.size->W'.heap[b]?=W.heap[b]?)/\Ix .ret W'
 | .exit id,_,W'=>(∀b,B<=b->b<W.heap.size->W'.heap[b]?=W.heap[b]?)/\Ix (.exit id) W'
 | .goto t,_,W'=>(∀b,B<=b->b<W.heap.size->W'.heap[b]?=W.heap[b]?)/\Ix (.goto t) W'
 | .panic _,_,_=>False
 | .outgrown,_,_=>False
theorem Bh {B l:Nat} (o:Obj) (h:B<=l) (d:l<W.heap.size):Below B W (W.putObj l o):=
 (Below.refl B W).grown (grownBy_putObj' W l o) (by omega) (fun k e=>by cases e;exact h)
theorem wpIn_loopB {P:Program} {α:Type} {g:Operand} {ps:Array Tmp} {assign body:Code} {Q:Exit->Act->World->Prop} {w:World}
  {gf:Nat} {lb:Array Value} (hg:a.eval g=.func (.func gf) #[] lb) (eg:∀args w,(callFunc gf args).run P w=.ok (.enter gf args) w)
  {encs:α->Array Value} {G:Nat->α->World->Prop} {N:Nat} {w0:World} (b4:GivesB (n - 1) P gf lb encs G N w0) (b3:za w0 w) (c0:∀x,(encs x).size=ps.size)
  (I:Nat->World->Prop) (Ix:Code->World->Prop) (hI:∀k A B,I k A->Below w.heap.size A B->I k B) (hIx:∀c A B,Ix c A->Below w.heap.size A B->Ix c B)
  (hG:∀k x A l,G k x A->w.heap.size<l->l<A.heap.size->(∃r,A.heap[l]?=some (.loop r))->∀o,G k x (A.putObj l o)) (h0:I 0 w) (a₁:α->Act)
  (hassign:∀(l:Nat) (x:α) (W:World) (K:Act->World->Prop),K (a₁ x) W->
   assign.wpIn (Fence.wide.inRound l) (n - 1 - 1) P (Exit.then K (fun _ _ _=>False)) { tmps:=(ps.zip (encs x)).foldl (fun t (p,v)=>t.setIfInBounds p v) a.tmps,defers:=[] } W)
  (hbody:∀(l k:Nat) (x:α) (W:World),k<N->I k W->G k x W->w.heap.size<W.heap.size->body.wpIn (Fence.wide.inRound l) (n - 1 - 1) P (postB w.heap.size k I Ix W) (a₁ x) W)
  (hdone:∀(D:Nat) (W:World),w.heap.size<=D->I N W->W.heap[D]?=some (.deferred (some []))->Q .normal { a with defers:={ target:=.collected D,args:=#[] } :: a.defers } W)
  (b0:∀(D:Nat) (c:Code) (W:World),w.heap.size<=D->Ix c W->W.heap[D]?=some (.deferred (some []))->c.wpIn Fence.wide n P Q { a with defers:={ target:=.collected D,args:=#[] } :: a.defers } W):
  (Code.rangeFunc g ps assign body).wpIn Fence.wide n P Q a w:=by
 refine wpIn_rangeFunc ?_;intro fn hfn;obtain ⟨rec,E⟩:∃rec:LoopState->Option Code->Loop,rec=fun st pe=>{ state:=st,pending:=pe,fn,tmps:=a.tmps,params:=ps,assign,body,defers:=w.heap.size }:=⟨_,rfl⟩
 obtain ⟨W1,a5⟩:∃W1,(w.alloc (.deferred (some []))).alloc (.loop (rec .ready none))=W1:=⟨_,rfl⟩;have c9:W1.heap.size=w.heap.size+2:=by rw [<-a5];simp
 have b6:W1.heap[w.heap.size+1]?=some (.loop (rec .ready none)):=by
  rw [<-a5];have:=World.alloc_heap_new (w.alloc (.deferred (some []))) (.loop (rec .ready none))
  rwa [World.size_alloc] at this
 have b5:W1.heap[w.heap.size]?=some (.deferred (some [])):=by
  rw [<-a5];exact (Er _ _ _ (by simp)).trans (World.alloc_heap_new w _)
 have b2:za w W1:=by rw [<-a5];exact ((za.refl w).alloc _).alloc _
 refine ⟨w.heap.size+1,[{ target:=.collected w.heap.size,args:=#[] }],W1,{ target:=.fn (.func gf) lb,args:=#[.func (.yield (w.heap.size+1)) #[] #[]] },W1,gf,
  #[.func (.yield (w.heap.size+1)) #[] #[]]++lb,W1,?_,?_,fun _ _=>trivial,?_,fun h=>absurd h (by simp [Fence.wide]),?_⟩
 ·rw [<-a5,E];exact run_enterLoop_outer _ _ _ _ _
 ·simp only [resolve,hg];simp [go_sem]
 ·simp [invoke,go_sem,eg]
 ·refine (b4 (w.heap.size+1)
   (fun k W=>I k W/\W.heap[w.heap.size+1]?=some (.loop (rec .ready none))/\W.heap[w.heap.size]?=some (.deferred (some []))/\w.heap.size+1<W.heap.size)
   (fun W=>∃c,Ix c W/\W.heap[w.heap.size+1]?=some (.loop (rec .done (some c)))/\W.heap[w.heap.size]?=some (.deferred (some [])))
   W1 (b3.trans b2) (by have:=b3.size;omega) (by omega) ?_ ?_ ?_ ⟨hI _ _ _ h0 b2,b6,b5,by omega⟩).mono ?_
  ·rintro k A B ⟨h1,h2,h3,h4⟩ M;exact ⟨hI _ _ _ h1 (M.mono (by omega)),(M.block _ (by omega)).trans h2,(M.block _ (by omega)).trans h3,EA h4 M.size⟩
  ·rintro A B ⟨c,h1,h2,h3⟩ M;exact ⟨c,hIx _ _ _ h1 (M.mono (by omega)),(M.block _ (by omega)).trans h2,(M.block _ (by omega)).trans h3⟩
  ·-- one round
   rintro k x W b9 ⟨hi,hl,hD,a4⟩ b8;have hy:=run_yield (P:=P) (args:=encs x) hl (by rw [E];exact c0 x);rw [E] at hy;refine ⟨fn,_,assign,body,hy,roundIn_of_wpIn hfn (hassign _ x W _ ⟨_,run_beginRound hl (by rw [E]),?_⟩)⟩;have a6:(W.putObj (w.heap.size+1) (.loop { rec .ready none with state:=.busy })).heap[w.heap.size+1]?=some (.loop { rec .ready none with state:=.busy }):=World.putObj_heap_same a4;have a7:(W.putObj (w.heap.size+1) (.loop { rec .ready none with state:=.busy })).heap[w.heap.size]?=some (.deferred (some [])):=(World.putObj_heap_other (by omega)).trans hD;have U:w.heap.size+1<(W.putObj (w.heap.size+1) (.loop { rec .ready none with state:=.busy })).heap.size:=(ET.1 a6).1;have b7:W.grownBy (W.putObj (w.heap.size+1) (.loop { rec .ready none with state:=.busy })) (some (w.heap.size+1)):=grownBy_putObj' _ _ _;refine wpIn_mono (hbody _ k x _ b9 (hI _ _ _ hi (Bh _ (by omega) a4)) (hG _ _ _ _ b8 (by omega) a4 ⟨_,hl⟩ _) (Nat.lt_trans (Nat.lt_succ_self _) U)) ?_;generalize W.putObj (w.heap.size+1) (.loop { rec .ready none with state:=.busy })=W2 at*
   have fin:∀(jump:Option Code) (W3:World),W3.heap[w.heap.size+1]?=some (.loop { rec .ready none with state:=.busy })->
     (Instr.endRound (w.heap.size+1) jump).run P W3=.ok (.bool jump.isNone) (W3.putObj (w.heap.size+1) (.loop (rec (if jump.isNone then .ready else .done) jump))):=fun jump W3 J=>by
    have:=run_endRound (P:=P) jump J;rw [E] at this⊢;exact this
   rintro e a3 W3 hp
   cases e with
   | normal=>
    obtain ⟨a1,a2⟩:=hp;have J:=(a1.block _ U).trans a6;have d:=(ET.1 J).1;have V:=(a1.block _ (by omega)).trans a7;refine ⟨_,_,fin none W3 J,.inl ⟨rfl,⟨hI _ _ _ a2 (Bh _ (by omega) d),World.putObj_heap_same d,(World.putObj_heap_other (by omega)).trans V,?_⟩,?_⟩⟩
    ·exact (ET.1 (World.putObj_heap_same d)).1
    ·exact (b7.trans ⟨a1.os,a1.tape,a1.output,a1.size,fun i hi _=>a1.block i hi⟩).trans (grownBy_putObj' _ _ _)
   | ret=>
    obtain ⟨O,a2⟩:=hp;have J:=(O _ (by omega) U).trans a6;have d:=(ET.1 J).1;have V:=(O _ (DY _) (by omega)).trans a7;exact ⟨_,_,fin (some .ret) W3 J,.inr ⟨rfl,.ret,hIx _ _ _ a2 (Bh _ (by omega) d),World.putObj_heap_same d,(World.putObj_heap_other (by omega)).trans V⟩⟩
   | exit id=>
    obtain ⟨O,a2⟩:=hp;have J:=(O _ (by omega) U).trans a6;have d:=(ET.1 J).1;have V:=(O _ (DY _) (by omega)).trans a7;exact ⟨_,_,fin (some (.exit id)) W3 J,.inr ⟨rfl,.exit id,hIx _ _ _ a2 (Bh _ (by omega) d),World.putObj_heap_same d,(World.putObj_heap_other (by omega)).trans V⟩⟩
   | goto t=>
    obtain ⟨O,a2⟩:=hp;have J:=(O _ (by omega) U).trans a6;have d:=(ET.1 J).1;have V:=(O _ (DY _) (by omega)).trans a7;exact ⟨_,_,fin (some (.goto t)) W3 J,.inr ⟨rfl,.goto t,hIx _ _ _ a2 (Bh _ (by omega) d),World.putObj_heap_same d,(World.putObj_heap_other (by omega)).trans V⟩⟩
   | panic ch=>exact hp.elim
   | outgrown=>exact hp.elim
  ·-- behind the iterator
   rintro e W2 ⟨⟨v,rfl⟩,(⟨hi,hl,hD,a4⟩ | ⟨c,hi,hl,hD⟩)⟩
   ·exact ⟨none,_,by have:=run_endLoop (P:=P) hl (by rw [E];simp);rw [E] at this;exact this,hdone _ _ (DY _) (hI _ _ _ hi (Bh _ (by omega) a4)) ((World.putObj_heap_other (by omega)).trans hD)⟩
   ·have a4:=(ET.1 hl).1;exact ⟨some c,_,by have:=run_endLoop (P:=P) hl (by rw [E];simp);rw [E] at this;exact this,b0 _ c _ (DY _) (hIx _ _ _ hi (Bh _ (by omega) a4)) ((World.putObj_heap_other (by omega)).trans hD)⟩
end
end Go.Proofs.YtjomnbdjajjgfaaGreatDoor
