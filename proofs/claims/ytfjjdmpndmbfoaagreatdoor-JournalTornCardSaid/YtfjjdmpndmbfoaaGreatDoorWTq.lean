import Derived.Test.YtfjjdmpndmbfoaaGreatDoorWTp
import Derived.ProofKit
import Derived.OpenShut
import Derived.Lib.Strings
import Derived.Lib.Walk
import Derived.Lib.BufferWrite
import Derived.Lib.UnsafeStr
import Derived.Lib.Hide
import Derived.Laws.MakeOwn
import Derived.Laws.IdiomStrings
import Derived.WalkKit
import Derived.ShutString
import Derived.WalkLawsBesides
import Derived.WalkSpells
set_option linter.unusedVariables false
set_option linter.unusedSimpArgs false
set_option maxRecDepth 100000
set_option maxHeartbeats 16000000
namespace Go.Proofs.YtfjjdmpndmbfoaaGreatDoor
variable {n:Int} {m:MZ} {B g:Nat} {ok:Nat->Prop} {p:PT} {a b c v:Value}
section
open Go.RowKit
attribute [local go_sem ↓] Go.wp_at_zero Go.wp_at_succ
attribute [local go_sem] Oper.semAt_some
mutual
def Cz:PT->PT->Bool
 | .node t s ks,.node t' s' ks'=>decide (t=t') && (decide (s=s') && (decide (ks.length=ks'.length) && sameL ks ks'))
def sameL:List PT->List PT->Bool
 | [],_=>true
 | _ :: _,[]=>true
 | k :: ks,k' :: ks'=>Cz k k' && sameL ks ks'
end
theorem sameL_no:∀{ks ks':List PT} {k:Nat} (h:k<ks.length) (d:k<ks'.length),Cz ks[k] ks'[k]=false->sameL ks ks'=false
 | a :: ks,b :: ks',0,_,_,e=>by
  have e':Cz a b=false:=e;unfold sameL;rw [e'];rfl
 | a :: ks,b :: ks',k+1,h,d,e=>by
  have:=sameL_no (ks:=ks) (ks':=ks') (k:=k) (by simpa using h) (by simpa using d) (by simpa using e);unfold sameL;rw [this,Bool.and_false]
theorem sameL_yes:∀{ks ks':List PT},(∀j (h:j<ks.length) (o:j<ks'.length),Cz ks[j] ks'[j]=true)->sameL ks ks'=true
 | [],_,_=>by unfold sameL;rfl
 | _ :: _,[],_=>by unfold sameL;rfl
 | a :: ks,b :: ks',h=>by
  unfold sameL;have h0:Cz a b=true:=h 0 (by simp) (by simp);rw [h0,sameL_yes (ks:=ks) (ks':=ks') fun j h1 d=>h (j+1) (by simpa using h1) (by simpa using d)];rfl
mutual
theorem sameP_refl:∀(p:PT),Cz p p=true
 | .node t s ks=>by unfold Cz;simp [sameL_refl ks]
theorem sameL_refl:∀(ks:List PT),sameL ks ks=true
 | []=>by unfold sameL;rfl
 | k :: ks=>by unfold sameL;rw [sameP_refl k,sameL_refl ks];rfl
end
theorem psame_calls:∀(N:Nat) {ok ok':Nat->Prop} {v v':Value} {p p':PT} (w:World),Ck w ok v p->Ck w ok' v' p'->p.size<=N->p.Lens->p'.Lens->
  Calls Tryz.prog 12 #[v,v'] w fun e w'=>e=.returned (.bool (Cz p p'))/\zc w w'
 | 0,ok,ok',v,v',.node t s ks,p',w,h,_,hN,_,_=>by unfold PT.size at hN;omega
 | N+1,ok,ok',v,v',.node t s ks,.node t' s' ks',w,h,Q,hN,hl,c8=>by
  have IH:Hid (∀(ok ok':Nat->Prop) (v v':Value) (p p':PT) (w:World),Ck w ok v p->Ck w ok' v' p'->p.size<=N->p.Lens->p'.Lens->Calls Tryz.prog 12 #[v,v'] w fun e w'=>e=.returned (.bool (Cz p p'))/\zc w w'):=fun ok ok' v v' p p' w=>psame_calls N w
  cases h with
  | mk hs hk he=>
  rename_i vs vk cs
  cases Q with
  | mk d7 e8 c0=>
  rename_i vs' vk' cs'
  have HS:=zh hs;have e4:=zh d7;obtain ⟨As,c1,rfl,-,-⟩:=hs;obtain ⟨As',c1',rfl,-,-⟩:=d7;obtain ⟨Ak,ck,rfl,g3,d6⟩:=hk;obtain ⟨Ak',ck',rfl,f5,a3⟩:=e8;have e3:=zh d6;have e0:=zh he;have b3:=zh a3;have b0:=zh c0;unfold PT.Lens at hl c8;obtain ⟨e9,g5,d4⟩:=hl;obtain ⟨c9,f8,a2⟩:=c8;have e2:=zh (lensL_mem d4);have b2:=zh (lensL_mem a2);have e5:Hid (∀k∈ks,k.size<=PT.sizeL ks):=size_mem;have b9:=fun (w:World) (W:World) (hW:zc w W) (h:zl w ok (.slice As s.length c1) s) (Q:zl w ok' (.slice As' s'.length c1') s')=>same_calls W (h.below hW) (Q.below hW) e9 c9
  have o:Hid (∀W,zc w W->Calls Tryz.prog 14 #[.slice As s.length c1,.slice As' s'.length c1'] W fun e w'=>e=.returned (.bool (decide (s=s')))/\zB W w'):=fun W hW=>b9 w W hW HS.out e4.out
  unfold PT.size at hN;obtain ⟨R,hR⟩:=EH (Cz (.node t s ks) (.node t' s' ks'));rw [<-hR];unfold Cz at hR;have HR:=zh hR;clear d6 he d4 a3 c0 a2 b9 hR
  go_enter Tryz.func12,Tryz.ntmps12
  go_upto_region 1 with fail;obtain ⟨a8,p0,p1,p2⟩:=box3 w (.int .i64 t) (.slice As s.length c1) (.slice Ak ks.length ck);have a9:(w.alloc (.cells #[.int .i64 t,.slice As s.length c1,.slice Ak ks.length ck] 42)).heap.size=w.heap.size+1:=by simp
  generalize w.alloc _=w1 at a8 p0 p1 p2 a9⊢;obtain ⟨U,q0,q1,q2⟩:=box3 w1 (.int .i64 t') (.slice As' s'.length c1') (.slice Ak' ks'.length ck');generalize w1.alloc _=w2 at U q0 q1 q2⊢;rw [a9] at q0 q1 q2;obtain ⟨gp,c6⟩:=EH w.heap.size;rw [<-c6] at p0 p1 p2 q0 q1 q2⊢;have a5:=zh U;have p0:=fun W h=>p0 W (a5.out.trans h)
  have p1:=fun W h=>p1 W (a5.out.trans h)
  have p2:=fun W h=>p2 W (a5.out.trans h)
  have d:=zh (a8.trans U);have I:zc w2 w2:=zc.refl w2;clear a8 U c6 a9;by_cases ht:t=t'
  ·have d8:(t != t')=false:=by simp [ht]
   by_cases G:s=s'
   ·have E:decide (s=s')=true:=DH G;by_cases D:ks.length=ks'.length
    ·have c7:((ks.length:Int) != (ks'.length:Int))=false:=by simp [D]
     have a1:(ks.length != ks'.length)=false:=by simp [D]
     rw [E] at o;have b4:Hid (R=sameL ks ks'):=by (show _=_);rw [HR.out,DH ht,DH G,DH D];rfl
     clear ht G E HR
     go_wp2_with fail
     refine (o.out w2 d.out).mono ?_;rintro e w3 ⟨rfl,hD⟩;obtain ⟨nd,rfl⟩:=hD;have I:zc w2 (w2.drewN nd):=(zc.refl w2).drewN nd;generalize w2.drewN nd=w3 at I⊢
     go_wp2_with fail
     clear c7 a1 d8 o;go_loopw [5] (fun i wr=>∃k:Nat,k<=ks.length/\i=.int .i64 k/\Hid (∀j,j<k->∀(h:j<ks.length) (Q:j<ks'.length),Cz ks[j] ks'[j]=true)/\Hid (zc w2 wr)) (fun i _=>ks.length - (intOf i).toNat)
     case atStart=>exact ⟨0,DS _,rfl,(fun j hj=>by omega),I⟩
     have e1:=zh D;clear I D
     case round=>
      obtain ⟨k,hk,rfl,V,hE⟩:=hrel;obtain ⟨wk,rfl⟩:∃wk:World,wk=wr:=⟨_,rfl⟩;have I:zc w2 wk:=hE.out;by_cases M:k<ks.length
      ·have d5:(k:Int)<(ks.length:Int):=by omega
       have J:k<ks'.length:=by have:=e1.out;omega
       have f0:(k:Int)<(ks'.length:Int):=by omega
       have kk0:(0:Int)<=(k:Int):=by omega
       obtain ⟨b,off,rfl,h0,h1,h2⟩:=kidsAt e3.out M;obtain ⟨b',off',rfl,b5,b6,b7⟩:=kidsAt b3.out J;have r0:=zc.rule (d.out.cell h0);have r1:=zc.rule (d.out.cell h1);have r2:=zc.rule (d.out.cell h2);have s0:=zc.rule (d.out.cell b5);have s1:=zc.rule (d.out.cell b6);have s2:=zc.rule (d.out.cell b7);have b1:Hid (∀W,zc w2 W->Calls Tryz.prog 12 #[_,_] W fun e w'=>e=.returned (.bool (Cz ks[k] ks'[k]))/\zc W w'):=fun W hW=>IH.out _ _ _ _ _ _ W ((e0.out k M).ext (d.out.trans hW)) ((b0.out k J).ext (d.out.trans hW)) (by have:=e5.out _ (DF M);omega) (e2.out _ (DF M)) (b2.out _ (DF J))
       obtain ⟨z,hz⟩:=EH (Cz ks[k] ks'[k]);rw [<-hz] at b1;have HZ:=zh hz;clear h0 h1 h2 b5 b6 b7 hz;go_upto_region 6 with fail;refine DU (S:=(fun W=>zc w2 W)) AC (I.drew) fun zH=>?_;have a7:zc w2 wk.drew:=zH;generalize wk.drew=wd at zH a7⊢;refine zA 0 zH ?_;refine zA 1 zH ?_;simp only [zd,DB];refine zA 2 zH ?_;refine zA 3 zH ?_;simp only [zd,DB];refine zA 4 zH ?_;refine zA 5 zH ?_;simp only [zd,DB];refine zA 6 zH ?_;refine zA 7 zH ?_;simp only [zd,DB];refine zA 8 zH ?_;refine zA 9 zH ?_;simp only [zd,DB];refine Ae 10 fun K hK=>?_;go_simp;go_at_call 12;refine (b1.out _ zH).mono ?_;rintro e w9 ⟨rfl,e6⟩;go_simp;refine EI hK (zH.trans e6) fun zH=>?_;clear hK K;try simp only [zd,DB]
       refine zA 11 zH ?_;simp only [zd,DB];refine Eh (by kernel_rfl) ?_ _
       cases z with
       | true=>
        have a4:Hid (∀j,j<k+1->∀(h:j<ks.length) (Q:j<ks'.length),Cz ks[j] ks'[j]=true):=fun j hj h Q=>by
         rcases Ea j k with h1 | h1
         ·exact V.out j h1 h Q
         ·have:j=k:=by omega
          subst this;exact HZ.out.symm
        have a6:=zh zH;clear zH I a7 r0 r1 r2 s0 s1 s2
        go_wp2_with fail
        go_roundw
        case rel=>exact ⟨k+1,by omega,by go_num,a4,a6⟩
        case measure=>simp [intOf];omega
       | false=>
        have O:Hid (R=false):=by (show _=_);rw [b4.out];exact sameL_no M J HZ.out.symm
        have a6:=zh (d.out.trans zH);clear zH I a7 r0 r1 r2 s0 s1 s2
        go_wp2_with fail
        go_ret;exact ⟨zp O.out.symm,a6.out⟩
      ·have O:Hid (R=true):=by (show _=_);rw [b4.out];exact sameL_yes fun j h Q=>V.out j (by omega) h Q
       have d5:¬ ((k:Int)<(ks.length:Int)):=by omega
       go_wp2_with fail
       go_ret;exact ⟨zp O.out.symm,d.out.trans I⟩
    ·have c7:((ks.length:Int) != (ks'.length:Int))=true:=by rw [bne_iff_ne];omega
     have a1:(ks.length != ks'.length)=true:=by rw [bne_iff_ne];exact D
     rw [E] at o;have O:Hid (R=false):=by (show _=_);rw [HR.out,DI D];simp
     clear ht G E HR
     go_wp2_with fail
     refine (o.out w2 d.out).mono ?_;rintro e w3 ⟨rfl,hD⟩;obtain ⟨nd,rfl⟩:=hD;have I:zc w2 (w2.drewN nd):=(zc.refl w2).drewN nd;generalize w2.drewN nd=w3 at I⊢
     go_wp2_with fail
     go_ret;exact ⟨zp O.out.symm,d.out.trans I⟩
   ·have E:decide (s=s')=false:=DI G;rw [E] at o;have O:Hid (R=false):=by (show _=_);rw [HR.out,DI G];simp
    clear ht G E HR
    go_wp2_with fail
    refine (o.out w2 d.out).mono ?_;rintro e w3 ⟨rfl,hD⟩;obtain ⟨nd,rfl⟩:=hD;have I:zc w2 (w2.drewN nd):=(zc.refl w2).drewN nd;generalize w2.drewN nd=w3 at I⊢
    go_wp2_with fail
    go_ret;exact ⟨zp O.out.symm,d.out.trans I⟩
  ·have d8:(t != t')=true:=by simp [ht]
   have O:Hid (R=false):=by (show _=_);rw [HR.out,DI ht];rfl
   clear ht HR
   go_wp2_with fail
   go_ret;exact ⟨zp O.out.symm,d.out⟩
end
section
open Go.RowKit
attribute [local go_sem ↓] Go.wp_at_zero Go.wp_at_succ
theorem pref_intss {w:World} {A:Option Addr} {n c N:Nat} {l:List (List Int)} (h:zV w ok (.slice A n c) l) (K:N<=n):zV w ok (.slice A N c) (l.take N):=by
 obtain ⟨vs,⟨A',c',e,M,I,J⟩,he⟩:=h;injection e with e1 e2 e3;subst e1 e2 e3;refine ⟨vs.take N,⟨A,c,by rw [Eu,Nat.min_eq_left (by omega)],by rw [Eu];omega,by simp [I],fun hp=>?_⟩,fun i x D=>?_⟩
 ·rw [Eu] at hp;obtain ⟨b,off,e,E,d⟩:=J (by omega);refine ⟨b,off,e,E,fun j u o=>d j u ?_⟩;rw [List.getElem?_take] at o
  split at o
  ·exact o
  ·cases o
 ·rw [List.getElem?_take] at D⊢
  split at D
  ·rename_i G
   rw [if_pos G];exact he i x D
  ·cases D
end
section
open Go.RowKit
theorem Ck.one {w:World} (t:Int) (d:zg w g 42 #[a,b,c]) (o:ok g) (h:Ck w ok (.agg #[a,b,c]) p):Ck w ok (.agg #[.int .i64 t,.slice none 0 0,.slice (some ⟨g,0,none⟩) 1 1]) (.node t [] [p]):=
 .mk (cs:=[a,b,c]) (zl.nil _ _) ⟨_,_,rfl,DE _,rfl,fun _=>⟨g,0,rfl,o,fun j u E=>by rw [Nat.zero_add];exact zg.cell (cs:=#[a,b,c]) d (by simpa using E)⟩⟩ (fun i D=>by
  match i,D with
  | 0,_=>exact h)
theorem Ck.two {w:World} {d e f:Value} {q:PT} (t:Int) (D:zg w g 42 #[a,b,c,d,e,f]) (E:ok g) (h:Ck w ok (.agg #[a,b,c]) p) (o:Ck w ok (.agg #[d,e,f]) q):Ck w ok (.agg #[.int .i64 t,.slice none 0 0,.slice (some ⟨g,0,none⟩) 2 2]) (.node t [] [p,q]):=
 .mk (cs:=[a,b,c,d,e,f]) (zl.nil _ _) ⟨_,_,rfl,DE _,rfl,fun _=>⟨g,0,rfl,E,fun j u I=>by rw [Nat.zero_add];exact zg.cell (cs:=#[a,b,c,d,e,f]) D (by simpa using I)⟩⟩ (fun i G=>by
  match i,G with
  | 0,_=>exact h
  | 1,_=>exact o)
def GivesZ {α:Type} (n:Nat) (P:Program) (g:Nat) (lb:Array Value) (encs:α->Array Value) (G:Nat->α->World->Prop) (N:Nat) (Z:Nat->Prop) (w:World):Prop:=
 ∀(l:Nat) (J:Nat->World->Prop) (Jx:World->Prop) (W:World),zc w W->w.heap.size<=l->l<W.heap.size->(∀k A B,J k A->Below W.heap.size A B->J k B)->(∀A B,Jx A->Below W.heap.size A B->Jx B)->
  (∀k x W1,k<N->J k W1->G k x W1->YieldAt Fence.wide (n - 1) P l (encs x) W1 fun e W'=>(e=.returned (.bool true)/\J (k+1) W'/\zk (fun b=>b=l\/Z b) W1 W')\/(e=.returned (.bool false)/\Jx W'/\∀b,W.heap.size<=b->b<W1.heap.size->W'.heap[b]?=W1.heap[b]?))->
  J 0 W->
  CallsIn Fence.wide n P g (#[.func (.yield l) #[] #[]]++lb) W fun e W'=>(∃v,e=.returned v)/\(J N W'\/Jx W')
end
section
open Go.RowKit
attribute [local go_sem ↓] Go.wp_at_zero Go.wp_at_succ
attribute [local go_sem] Oper.semAt_some
theorem yield_any {m:Nat} {P:Program} {l:Nat} {args:Array Value} {W:World} {R:Ending->World->Prop} (h:YieldAt Fence.wide m P l args W R):
  ∃fn tmps assign body,(Instr.yield l args).run P W=.ok (.round l fn tmps assign body) W/\∀m',RoundIn Fence.wide m' P l fn tmps assign body W R:=by
 obtain ⟨fn,tmps,assign,body,o,d⟩:=h;exact ⟨fn,tmps,assign,body,o,fun m'=>⟨d.1,fun c cs _=>d.2 c cs (room_wide _)⟩⟩
theorem fold_one (p:Tmp) (v:Value) (T:Array Value):(#[p].zip #[v]).foldl (fun t (p,v)=>t.setIfInBounds p v) T=T.setIfInBounds p v:=by
 simp
theorem Ck.inv {w:World} {t:Int} {vs vk:Value} (h:Ck w ok (.agg #[.int .i64 t,vs,vk]) p):∃side kids cs,p=.node t side kids/\zl w ok vs side/\Bc w ok 3 vk kids.length cs/\
  ∀(i:Nat) (D:i<kids.length),Ck w ok (.agg #[cs.getD (i*3) undef,cs.getD (i*3+1) undef,cs.getD (i*3+2) undef]) kids[i]:=by
 cases h with
 | mk h1 d o=>exact ⟨_,_,_,rfl,h1,d,o⟩
end
section
open Go.ChangeShapes Go.WideShapes Go.ChangeAt Go.RowKit
theorem spot_none {w:World} {a:Addr} (h:w.cell? a=some v):a.spot=none:=by
 unfold World.cell? at h
 split at h
 ·split at h
  ·cases h
  ·rename_i h1
   cases d:a.spot
   ·rfl
   ·rw [d] at h1;simp at h1
 ·cases h
theorem addr_at {a:Addr} (h:a.spot=none) (n:Nat):a.add n=⟨a.block,a.off+n,none⟩:=by
 obtain ⟨b,o,s⟩:=a;simp only at h;subst h;unfold Addr.add
 split
 ·rename_i h0;subst h0;rfl
 ·rfl
theorem chooseList {β:Type} {p:Nat->β->Prop}:∀(n:Nat),(∀i,i<n->∃b,p i b)->∃l:List β,l.length=n/\∀i b,l[i]?=some b->p i b
 | 0,_=>⟨[],rfl,fun i b h=>by simp at h⟩
 | n+1,h=>by
  obtain ⟨l,D,h1⟩:=chooseList n (fun i hi=>h i (by omega));obtain ⟨b,E⟩:=h n (by omega);refine ⟨l++[b],by simp [D],fun i x d=>?_⟩;rcases Ea i l.length with hi | hi
  ·rw [DJ hi] at d;exact h1 i x d
  ·have o:i=l.length:=by
    rcases Ea i (l++[b]).length with h2 | h2
    ·simp at h2;omega
    ·rw [DX h2] at d;cases d
   subst o;rw [DK (DE _),Nat.sub_self] at d;have:b=x:=by simpa using d
   subst this;rw [D];exact E
section
variable {H:Type} {enc:TypeId×Value->H} {w:World} {base:Nat} {held:Bool} {fuel:Nat} {cs:List Value} {x:DataW H×List MemPlace}
theorem sliceOpen {t e:TypeId} {sz:Nat} (ht:Tryz.prog.underlying t=some (.slice e)) (Q:Tryz.prog.cellsOf e=sz) (h0:0<sz) (h:DataW.trod enc Tryz.prog w base (fun _=>true) held fuel t cs=some x):
  ∃A len c,cs=[.slice A len c]/\len<=c/\len<=9223372036854775807/\(0<len->∃b off,A=some ⟨b,off,none⟩/\∀i,i<len->∃(cl:List Value) (n:Nat) (y:DataW H×List MemPlace),cl.length=sz/\(∀j,j<sz->w.cell? ⟨b,off+(i*sz+j),none⟩=cl[j]?)/\DataW.trod enc Tryz.prog w base (fun _=>true) held n e cl=some y):=by
 rcases DataW.trod_slice ht h with ⟨rfl,_⟩ | ⟨a,len,cap,elems,rest,n,_,rfl,_,hb,hl,hm,V,K,_,_⟩
 ·exact ⟨none,0,0,rfl,DE _,by decide,fun h=>by omega⟩
 ·refine ⟨some a,len,cap,rfl,hl,by unfold maxLen at hm;omega,fun E=>?_⟩
  have each:∀i,i<len->∃(cl:List Value) (y:DataW H×List MemPlace),w.cells? base (a.add (i*sz)) sz=some cl/\DataW.trod enc Tryz.prog w base (fun _=>true) held n e cl=some y:=fun i M=>by
   have h1:=K i M;rw [Q,DC (by omega)] at h1;obtain ⟨cl,d,G⟩:=Option.bind_eq_some_iff.1 h1;exact ⟨cl,_,d,G⟩
  have O:a.spot=none:=by
   obtain ⟨cl,y,d,_⟩:=each 0 E;obtain ⟨_,U,I⟩:=World.cells?_some d;have D:=I 0 h0;rw [DC (by omega)] at D;have J:=spot_none D;rw [Nat.zero_mul] at J;unfold Addr.add at J
   rwa [if_pos rfl,if_pos rfl] at J
  refine ⟨a.block,a.off,?_,fun i M=>?_⟩
  ·obtain ⟨b,o,s⟩:=a;simp only at O;subst O;rfl
  ·obtain ⟨cl,y,d,G⟩:=each i M;obtain ⟨_,U,I⟩:=World.cells?_some d;refine ⟨cl,n,y,U,fun j hj=>?_,G⟩;have D:=I j hj;rw [addr_at O,addr_at rfl] at D;rw [<-Nat.add_assoc];exact D
theorem eachOpen {α:Type} {R:Value->α->Prop} {t e:TypeId} (ht:Tryz.prog.underlying t=some (.slice e)) (M:Tryz.prog.cellsOf e=1)
  (V:∀n cl y,DataW.trod enc Tryz.prog w base (fun _=>true) held n e cl=some y->∃v a,cl=[v]/\R v a) (h:DataW.trod enc Tryz.prog w base (fun _=>true) held fuel t cs=some x):
  ∃v l,cs=[v]/\Each R w (fun _=>True) v l/\l.length<=9223372036854775807/\∀a∈l,∃u,R u a:=by
 obtain ⟨A,len,c,rfl,o,K,d⟩:=sliceOpen ht M (by omega) h;rcases En len with rfl | hpos
 ·exact ⟨_,[],rfl,⟨[],⟨A,c,rfl,o,AD.nil _ _ _ _⟩,fun i y D=>by simp at D⟩,by simp,fun a E=>by cases E⟩
 ·obtain ⟨b,off,rfl,G⟩:=d hpos;clear d
  obtain ⟨l,J,hp⟩:=chooseList (β:=Value×α) (p:=fun i va=>w.cell? ⟨b,off+i,none⟩=some va.1/\R va.1 va.2) len (fun i I=>by
   obtain ⟨cl,n,y,h1,Q,U⟩:=G i I;obtain ⟨v,a,rfl,hr⟩:=V n cl y U;have:=Q 0 (by omega);rw [Nat.mul_one,Nat.add_zero] at this;exact ⟨(v,a),this,hr⟩)
  refine ⟨_,l.map (·.2),rfl,⟨l.map (·.1),⟨_,c,by rw [Em,J],by rw [Em,J];exact o,by simp,fun _=>⟨b,off,rfl,trivial,fun j u O=>?_⟩⟩,fun i y D=>?_⟩,by rw [Em,J];exact K,fun a E=>?_⟩
  ·rw [El] at O;obtain ⟨va,h1,rfl⟩:=Option.map_eq_some_iff.1 O;exact (hp j va h1).1
  ·rw [El] at D;obtain ⟨va,h1,rfl⟩:=Option.map_eq_some_iff.1 D;exact ⟨va.1,by rw [El,h1];rfl,(hp i va h1).2⟩
  ·obtain ⟨va,h1,rfl⟩:=EA.1 E;obtain ⟨i,I,rfl⟩:=Ej h1;exact ⟨_,(hp i _ (DC I)).2⟩
theorem row_of_each {α:Type} {f:α->Value} {l:List α} (h:Each (fun u a=>u=f a) w (fun _=>True) v l):Bc w (fun _=>True) 1 v l.length (l.map f):=by
 obtain ⟨vs,o,he⟩:=h
 have:vs=l.map f:=by
  have d:=o;obtain ⟨A,c,_,_,hA⟩:=d;have E:vs.length=l.length:=by have:=hA.1;omega
  refine List.ext_getElem? fun i=>?_
  rcases Ea i l.length with hi | hi
  ·obtain ⟨u,D,o⟩:=he i _ (DC hi);rw [D,El,DC hi,o];rfl
  ·rw [DX (by omega),DX (by simp;omega)]
 rw [<-this];exact o
theorem intsOpen (h:DataW.trod enc Tryz.prog w base (fun _=>true) held fuel 39 cs=some x):∃v l,cs=[v]/\zl w (fun _=>True) v l/\l.length<=9223372036854775807:=by
 obtain ⟨v,l,rfl,he,d,_⟩:=eachOpen (R:=fun u a=>u=Value.int .i64 a) Tryz.underlying39 (by kernel_rfl) (fun n cl y o=>by
  obtain ⟨k,rfl,_,_⟩:=DataW.trod_int Tryz.underlying3 o;exact ⟨_,k,rfl,rfl⟩) h
 exact ⟨v,l,rfl,row_of_each he,d⟩
theorem intssOpen (h:DataW.trod enc Tryz.prog w base (fun _=>true) held fuel 22 cs=some x):∃v l,cs=[v]/\zV w (fun _=>True) v l/\l.length<=9223372036854775807/\∀a∈l,a.length<=9223372036854775807:=by
 obtain ⟨v,l,rfl,he,I,D⟩:=eachOpen (R:=fun u a=>zl w (fun _=>True) u a/\a.length<=9223372036854775807) Tryz.underlying22 (by kernel_rfl) (fun n cl y E=>by
  obtain ⟨v,l,rfl,h1,d⟩:=intsOpen E;exact ⟨v,l,rfl,h1,d⟩) h
 obtain ⟨vs,J,o⟩:=he
 exact ⟨v,l,rfl,⟨vs,J,fun i y E=>by
  obtain ⟨u,h1,d,_⟩:=o i y E;exact ⟨u,h1,d⟩⟩,I,fun a G=>by obtain ⟨u,h⟩:=D a G;exact h.2⟩
end
end
section
open Go.ChangeShapes Go.WideShapes Go.ChangeAt Go.RowKit
attribute [local go_sem ↓] Go.wp_at_zero Go.wp_at_succ
theorem makeP_zero (h:(zW m).1≠0):(zW m).2=.zero:=by
 unfold zW at h⊢
 split
 ·rename_i d
  rw [if_pos d] at h;exact proveP_zero _ _ _ h
 ·rfl
end
section
open Go.RowKit
theorem makeP_size:(zW m).2.size<=3000:=by
 by_cases h:(zW m).1=0
 ·unfold zW at h⊢;by_cases d:BS m=0
  ·rw [if_pos d] at h⊢;obtain ⟨-,h1,o⟩:=Co d _ [] 0 .nil (by omega) h;show (zu m (m.n.toNat+2) [] 0).2.1.size<=3000;omega
  ·rw [if_neg d];show PT.zero.size<=3000;decide
 ·rw [makeP_zero h];decide
def nuB (b:UInt8):Prop:=b.toNat=45\/(48<=b.toNat/\b.toNat<=57)
theorem mem_dec (u:Nat):∀b∈Lib.decDigits u,nuB b:=by
 induction u using Nat.strongRecOn with
 | ind u ih=>
  intro b hb;by_cases d:u<10
  ·rw [dec_small d] at hb;rw [Ek.1 hb];have:=CF d;exact .inr ⟨by omega,by omega⟩
  ·rw [dec_big d] at hb;rcases Es.1 hb with hb | hb
   ·exact ih (u / 10) (by omega) b hb
   ·rw [Ek.1 hb];have:=CF (Nat.mod_lt u (show 0<10 by decide));exact .inr ⟨by omega,by omega⟩
theorem mem_itoa (n:Int):∀b∈Lib.itoa n,nuB b:=by
 intro b hb;by_cases h:n<0
 ·rw [itoa_min h] at hb;rcases Er.1 hb with rfl | hb
  ·exact .inl rfl
  ·exact mem_dec _ b hb
 ·rw [itoa_pos (by omega)] at hb;exact mem_dec _ b hb
theorem itoa_ne (n:Int):Lib.itoa n≠[]:=by
 by_cases h:n<0
 ·rw [itoa_min h];simp
 ·obtain ⟨k,-,l,d⟩:=dec_head n.toNat;rw [itoa_pos (by omega),d];simp
theorem wI_head (n:Int) (rest:List UInt8):∃b t,wI n++rest=b :: t/\nuB b:=by
 cases h:Lib.itoa n with
 | nil=>exact absurd h (itoa_ne n)
 | cons b t=>exact ⟨b,t++[59]++rest,by simp [wI,h],mem_itoa n b (by rw [h];exact Eo ..)⟩
theorem cutAt_app {c:UInt8}:∀{a:List UInt8} (rest:List UInt8),c∉a->Cd c (a++c :: rest)=some (a,rest)
 | [],rest,_=>by simp [Cd]
 | x :: a,rest,h=>by
  have d:(x==c)=false:=by
   rw [DR];exact fun e=>h (by rw [e];exact Eo ..)
  simp only [List.cons_append,Cd,d];rw [cutAt_app rest (fun hm=>h (DY _ hm))];rfl
theorem numP_itoa {c:UInt8} (h:Cp n) (d:¬ nuB c) (rest:List UInt8):numP c (Lib.itoa n++c :: rest)=some (n,rest):=by
 rw [numP_ref,cutAt_app rest (fun hm=>d (mem_itoa n c hm)),Option.bind_some];simp only;rw [refNum_of h];rfl
theorem intF_wI (h:Cp n) (rest:List UInt8):AZ (wI n++rest,false)=(n,(rest,false)):=by
 have e:wI n++rest=Lib.itoa n++59 :: rest:=by simp [wI]
 have d:=numP_itoa (c:=59) h (by unfold nuB;decide) rest;unfold AZ numS;simp only [e,d];rfl
theorem elsF_wI:∀(l:List Int) (rest:List UInt8) (acc:List Int) (f:Nat),(∀x∈l,Cp x)->(l.flatMap wI++93 :: rest).length<=f+1->AY f (l.flatMap wI++93 :: rest,false) acc=(acc++l,(93 :: rest,false))
 | [],rest,acc,0,_,_=>by simp [AY]
 | [],rest,acc,f+1,_,_=>by
  unfold AY;rw [if_pos (.inr rfl)];simp
 | x :: l,rest,acc,f,o,hf=>by
  obtain ⟨b,t,d,E⟩:=wI_head x (l.flatMap wI++93 :: rest);have e:(x :: l).flatMap wI++93 :: rest=wI x++(l.flatMap wI++93 :: rest):=by simp
  have D:2<=(wI x).length:=by
   cases h:Lib.itoa x with
   | nil=>exact absurd h (itoa_ne x)
   | cons b t=>simp [wI,h]
  rw [e] at hf⊢;rw [DM] at hf;obtain ⟨f,rfl⟩:∃f',f=f'+1:=⟨f - 1,by simp at hf;omega⟩;unfold AY
  rw [if_neg (by
   rintro (h | h)
   ·unfold AF at h;rw [d] at h;simp at h
   ·rw [d] at h;simp only [List.head?_cons,Option.some.injEq] at h;subst h
    revert E
    unfold nuB;decide),intF_wI (o x (Eo ..))]
  simp only;rw [elsF_wI l rest (acc++[x]) f (fun y G=>o y (DY _ G)) (by omega)];simp
theorem intsF_wL {l:List Int} (h:∀x∈l,Cp x) (rest:List UInt8):AN (wL l++rest,false)=(l,(rest,false)):=by
 have e:wL l++rest=91 :: (l.flatMap wI++93 :: rest):=by simp [wL]
 unfold AN;rw [e]
 rw [if_neg (by
  rintro (h | h)
  ·simp [AF] at h
  ·simp at h)]
 simp only [List.tail_cons];rw [elsF_wI l rest [] _ h (Nat.le_succ _)];unfold intsE;rw [if_neg (by simp [AF])];simp
end
section
open Go.RowKit
attribute [local go_sem ↓] Go.wp_at_zero Go.wp_at_succ
def dgSX (x:Nat) (c:UInt8):Nat:=(48271*x+c.toNat+1) % 2147483647
def dgSY (y:Nat) (c:UInt8):Nat:=(40692*y+c.toNat+1) % 2147483629
def dgRX (x:Nat) (l:List UInt8):Nat:=l.foldl dgSX x
def dgRY (y:Nat) (l:List UInt8):Nat:=l.foldl dgSY y
def four (n:Nat):List UInt8:=[UInt8.ofNat (n / 16777216),UInt8.ofNat (n / 65536),UInt8.ofNat (n / 256),UInt8.ofNat n]
def Dl (l:List UInt8):List UInt8:=four (dgRX 20 l)++four (dgRY 26 l)
def lenb (l:List UInt8):List UInt8:=four l.length
def BO (a b:List UInt8):List UInt8:=Dl (1 :: (lenb a++(a++b)))
theorem dgSX_lt (x:Nat) (c:UInt8):dgSX x c<2147483647:=Nat.mod_lt _ (by decide)
theorem dgSY_lt (x:Nat) (c:UInt8):dgSY x c<2147483629:=Nat.mod_lt _ (by decide)
theorem dgRX_lt:∀(l:List UInt8) (x:Nat),x<2147483647->dgRX x l<2147483647
 | [],_,h=>h
 | c :: l,x,_=>dgRX_lt l (dgSX x c) (dgSX_lt x c)
theorem dgRY_lt:∀(l:List UInt8) (x:Nat),x<2147483629->dgRY x l<2147483629
 | [],_,h=>h
 | c :: l,x,_=>dgRY_lt l (dgSY x c) (dgSY_lt x c)
theorem Dn (x:Nat) (a b:List UInt8):dgRX x (a++b)=dgRX (dgRX x a) b:=by simp [dgRX]
theorem Do (x:Nat) (a b:List UInt8):dgRY x (a++b)=dgRY (dgRY x a) b:=by simp [dgRY]
theorem Bd (l:List UInt8):(Dl l).length=8:=rfl
theorem Tryz.infoU8:(Tryz.prog.info? 5).map (fun i=>(i.zero,i.size,i.bytes))=some (some (.int .u8 0),1,1):=by kernel_rfl
theorem lclone_calls (s:ByteArray) (w:World) (a3:s.size<=281474976710656):
  Calls Tryz.prog 144 #[.string s] w fun e w'=>e=.returned (.string s)/\Below w.heap.size w w':=by
 by_cases h0:s.size=0
 ·have hs:s=⟨#[]⟩:=by
   apply ByteArray.ext;exact Array.eq_empty_of_size_eq_zero h0
  subst hs
  go_enter Tryz.func144,Tryz.ntmps144
  go_wp2;go_ret;exact ⟨rfl,Below.refl _ _⟩
 ·obtain ⟨i0,V,a1,o,a2⟩:=info_parts Tryz.infoU8;have d:(Tryz.prog.info? 5).map (·.size)=some 1:=by rw [V];simp [o]
  have Q:Tryz.prog.cellsOf 5=1:=by simp [Program.cellsOf,V,o]
  obtain ⟨M,G⟩:=EH (madeCells (Value.int .u8 0).cells (((s.size:Nat):Int).toNat*i0.size));have a4:M.size=s.size:=by rw [G,size_madeCells,o];simp
  have a6:∀W:World,(Instr.makeSlice 51 (.int .i64 (s.size:Int)) (.int .i64 (s.size:Int))).run Tryz.prog W=.ok (.slice (some ⟨W.heap.size,0,none⟩) s.size s.size) (W.alloc (.cells M 5)):=fun W=>by
   have h:=run_make (P:=Tryz.prog) W 51 5 i0 (.int .u8 0) Tryz.underlying51 V a1 .i64 .i64 (s.size:Int) (s.size:Int) (by omega) (by omega) (by rw [a2];omega) (by omega);rw [<-G] at h;simpa using h
  clear G;have U:=Lib.run_copy_row_string (P:=Tryz.prog) (w.alloc (.cells M 5)) 51 9 3 5 w.heap.size 0 s.size s.size s M 5 Tryz.underlying51 d (Ep w _) (DE _) (by omega);obtain ⟨Y,J⟩:=EH ((M.toList.take 0++Lib.byteCells s.data.toList++M.toList.drop (0+s.size)).toArray);rw [<-J] at U
  have D:Y.toList=Lib.byteCells s.data.toList:=by
   rw [J,List.toList_toArray,List.take_zero,List.nil_append,List.drop_of_length_le (by rw [Array.length_toList];omega),List.append_nil]
  have a5:Y.size=s.size:=by rw [<-Array.length_toList,D,Lib.byteCells_length,<-Lib.size_eq]
  have E:((w.alloc (.cells M 5)).setRow w.heap.size Y).heap[w.heap.size]?=some (.cells Y 5 (0,0)):=setRow_heap _ _ M _ 5 (0,0) (Ep w _);have a0:s.data.toList≠[]:=fun e=>h0 (by rw [Lib.size_eq,e];rfl)
  have I:=Lib.run_unsafeString_row (P:=Tryz.prog) ((w.alloc (.cells M 5)).setRow w.heap.size Y) 122 3 9 5 Tryz.underlying122 Q w.heap.size Y.size (by unfold World.shape?;rw [E]) s.data.toList a0 (by rw [<-Lib.size_eq];omega) (by rw [<-Lib.size_eq];omega)
   (fun j x hx=>Lib.cells_of_row E Y.size j _ (by rw [List.take_of_length_le (by rw [Array.length_toList];exact DE _),D];simp [Lib.byteCells,hx]))
  rw [<-Lib.size_eq] at I;clear J
  go_enter Tryz.func144,Tryz.ntmps144
  go_wp2;go_ret;have K:Below w.heap.size w (w.alloc (.cells M 5)):=(Below.refl _ w).alloc (DE _) _;have O:Below w.heap.size (w.alloc (.cells M 5)) ((w.alloc (.cells M 5)).setRow w.heap.size Y):=⟨rfl,rfl,rfl,by simp,fun k hk=>setRow_other _ _ _ _ (by omega)⟩;exact ⟨rfl,Lib.below_freeze (K.trans O) (p:=⟨w.heap.size,0,none⟩) (DE _) _⟩
theorem sclone_calls (s:ByteArray) (w:World) (d:s.size<=281474976710656):
  Calls Tryz.prog 123 #[.string s] w fun e w'=>e=.returned (.string s)/\Below w.heap.size w w':=by
 go_enter Tryz.func123,Tryz.ntmps123
 go_wp2_with (go_at_call 144;refine (lclone_calls _ _ d).mono ?_;rintro e w' ⟨rfl,o⟩)
 go_ret;exact ⟨rfl,‹_›⟩
def dmk (l:List UInt8):ByteArray:=⟨l.toArray⟩
def strI (ns:List Int):ByteArray:=ns.foldl (fun r n=>r.push (UInt8.ofNat n.toNat)) ByteArray.empty
theorem strI_eq (ns:List Int):strI ns=dmk (ns.map fun n=>UInt8.ofNat n.toNat):=by
 have h:∀(ns:List Int) (r:ByteArray),ns.foldl (fun r n=>r.push (UInt8.ofNat n.toNat)) r=⟨r.data++(ns.map fun n=>UInt8.ofNat n.toNat).toArray⟩:=by
  intro ns
  induction ns with
  | nil=>intro r;simp
  | cons n ns ih=>intro r;simp only [List.foldl_cons];rw [ih];simp [ByteArray.push]
 unfold strI dmk;rw [h];simp [ByteArray.empty,ByteArray.emptyWithCapacity];rfl
theorem dconv_raw (w:World) (b:Nat) (ns:List Int) (t:TypeId) (fz:Nat×Nat) (c:Nat) (hh:w.heap[b]?=some (.cells (ns.map (Value.int .u8)).toArray t fz)):
  (convert 51 9 (.slice (some ⟨b,0,none⟩) ns.length c)).run Tryz.prog w=.ok (.string (strI ns)) w:=by
 rw [run_convert_bytes_string w 51 9 5 (some ⟨b,0,none⟩) ns.length c Tryz.underlying51 Tryz.underlying5 Tryz.underlying9]
 have d:=run_loadCells_list (P:=Tryz.prog) w ⟨b,0,none⟩ (ns.map (Value.int .u8)) (fun j v o=>by
  have:(⟨b,0,none⟩:Addr).add j=⟨b,j,none⟩:=by unfold Addr.add;split <;> simp_all
  rw [this];unfold World.cell?;simp only [hh];simpa using o)
 rw [Em] at d;exact run_bytesToString w ⟨b,0,none⟩ ns.length c ns d
theorem dconv4 (w:World) (a0 a1 a2 a3:Int):
  (convert 51 9 (.slice (some ⟨w.heap.size,0,none⟩) 4 4)).run Tryz.prog (w.alloc (.cells #[.int .u8 a0,.int .u8 a1,.int .u8 a2,.int .u8 a3] 5))=
   .ok (.string (strI [a0,a1,a2,a3])) (w.alloc (.cells #[.int .u8 a0,.int .u8 a1,.int .u8 a2,.int .u8 a3] 5)):=
 dconv_raw _ _ [a0,a1,a2,a3] 5 (0,0) 4 (Ep _ _)
theorem dconv8 (w:World) (t:TypeId) (a0 a1 a2 a3 a4 a5 a6 a7:Int):
  (convert 51 9 (.slice (some ⟨w.heap.size,0,none⟩) 8 8)).run Tryz.prog (w.alloc (.cells #[.int .u8 a0,.int .u8 a1,.int .u8 a2,.int .u8 a3,.int .u8 a4,.int .u8 a5,.int .u8 a6,.int .u8 a7] t))=
   .ok (.string (strI [a0,a1,a2,a3,a4,a5,a6,a7])) (w.alloc (.cells #[.int .u8 a0,.int .u8 a1,.int .u8 a2,.int .u8 a3,.int .u8 a4,.int .u8 a5,.int .u8 a6,.int .u8 a7] t)):=
 dconv_raw _ _ [a0,a1,a2,a3,a4,a5,a6,a7] t (0,0) 8 (Ep _ _)
theorem strI_four {a0 a1 a2 a3:Int} (n:Nat) (h0:a0=((n / 16777216 % 256:Nat):Int)) (h1:a1=((n / 65536 % 256:Nat):Int)) (d:a2=((n / 256 % 256:Nat):Int)) (o:a3=((n % 256:Nat):Int)):
  strI [a0,a1,a2,a3]=dmk (four n):=by
 rw [strI_eq]
 have e (k:Nat):UInt8.ofNat ((k % 256:Nat):Int).toNat=UInt8.ofNat k:=by
  rw [Int.toNat_natCast];apply UInt8.toNat_inj.1;simp
 simp only [List.map_cons,List.map_nil,h0,h1,d,o,e];rfl
theorem strI_size (ns:List Int):(strI ns).size=ns.length:=by
 rw [strI_eq];simp [dmk,ByteArray.size]
theorem dret_str {a b:ByteArray} (h:a=b):Ending.returned (.string a)=.returned (.string b):=by rw [h]
theorem dlen_calls (s:ByteArray) (w:World) (d:s.size<=1000000000):
  Calls Tryz.prog 104 #[.string s] w fun e w'=>e=.returned (.string (dmk (lenb s.data.toList)))/\Below w.heap.size w w':=by
 have o:=dconv4 w
 go_enter Tryz.func104,Tryz.ntmps104
 go_wp2;go_ret
 exact ⟨dret_str (by
  have e:lenb s.data.toList=four s.size:=rfl;rw [e];refine strI_four s.size ?_ ?_ ?_ ?_ <;> omega),(Below.refl _ _).alloc (DE _) _⟩
theorem dbytes4_calls (n:Nat) (w:World) (d:n<2147483648):
  Calls Tryz.prog 41 #[.int .i64 n] w fun e w'=>e=.returned (.string (dmk (four n)))/\Below w.heap.size w w':=by
 have o:=dconv4 w
 go_enter Tryz.func41,Tryz.ntmps41
 go_wp2;go_ret;exact ⟨dret_str (by refine strI_four n ?_ ?_ ?_ ?_ <;> omega),(Below.refl _ _).alloc (DE _) _⟩
def digV (l:List UInt8):Value:=.agg (l.map fun c=>Value.int .u8 (c.toNat:Int)).toArray
theorem dtext_calls (a0 a1 a2 a3 a4 a5 a6 a7:Int) (w:World):
  Calls Tryz.prog 83 #[.agg #[.int .u8 a0,.int .u8 a1,.int .u8 a2,.int .u8 a3,.int .u8 a4,.int .u8 a5,.int .u8 a6,.int .u8 a7]] w fun e w'=>e=.returned (.string (strI [a0,a1,a2,a3,a4,a5,a6,a7]))/\Below w.heap.size w w':=by
 have o:=dconv8 w 143
 go_enter Tryz.func83,Tryz.ntmps83
 go_wp2_with (go_at_call 123;refine (sclone_calls _ _ ?_).mono ?_;(rw [strI_size];simp only [EF,EG];omega);rintro e w' ⟨rfl,d⟩)
 go_ret;exact ⟨rfl,Below.trans ((Below.refl _ _).alloc (DE _) _) (Below.mono ‹_› (by simp))⟩
def dcat (ss:List ByteArray):List UInt8:=(ss.map (·.data.toList)).flatten
theorem dcat_snoc (ss:List ByteArray) (k:Nat) (h:k<ss.length):dcat (ss.take (k+1))=dcat (ss.take k)++ss[k].data.toList:=by
 unfold dcat;rw [DL h,Et,List.flatten_append];simp
theorem dtake_snoc (l:List UInt8) (k:Nat) (h:k<l.length):l.take (k+1)=l.take k++[l[k]]:=by
 rw [DL h]
theorem bytesRow_get (s:ByteArray) (c j:Nat) (d:j<s.size):(bytesRow s c)[j]?=some (.int .u8 (s.data.toList[j]'(by simpa using d)).toNat):=by
 unfold bytesRow;rw [Array.getElem?_append_left (by simpa using d)];rw [Array.getElem?_map,Array.getElem?_eq_getElem (by simpa using d)];simp
theorem digV_four (x y:Nat) (d:x<2147483647) (o:y<2147483629):digV (four x++four y)=.agg #[.int .u8 ((x:Int) / 16777216),.int .u8 ((x:Int) / 65536 % 256),.int .u8 ((x:Int) / 256 % 256),.int .u8 ((x:Int) % 256),.int .u8 ((y:Int) / 16777216),.int .u8 ((y:Int) / 65536 % 256),.int .u8 ((y:Int) / 256 % 256),.int .u8 ((y:Int) % 256)]:=by
 have e1:(x / 16777216) % 256=x / 16777216:=by omega
 have e2:(y / 16777216) % 256=y / 16777216:=by omega
 simp [digV,four,e1,e2]
theorem dbelow_row {w0 w:World} (o:Below B w0 w) (d:B<=g) (cs:Array Value):Below B w0 (w.setRow g cs):=
 o.trans ⟨rfl,rfl,rfl,by simp [World.setRow],fun k D=>setRow_other w g k cs (by omega)⟩
theorem dofn_calls (w:World) (b n:Nat) (ss:List ByteArray) (hn:n=ss.length) (b3:b<w.heap.size) (d7:ss.length<=5)
  (hc:∀i (h:i<ss.length),w.cell? ⟨b,i,none⟩=some (.string ss[i])) (a3:∀i (h:i<ss.length),ss[i].size<=1000000000):
  Calls Tryz.prog 82 #[.slice (some ⟨b,0,none⟩) n n] w fun e w'=>e=.returned (digV (Dl (dcat ss)))/\Below w.heap.size w w':=by
 subst hn;have H:=zh hc;clear hc;have H2:=zh a3;clear a3
 go_enter Tryz.func82,Tryz.ntmps82
 go_wp2;go_loopw [3,4,13] (fun x y i wr=>∃k:Nat,k<=ss.length/\i=.int .i64 k/\x=.int .u64 (dgRX 20 (dcat (ss.take k)))/\y=.int .u64 (dgRY 26 (dcat (ss.take k)))/\Hid (wr.heap[w.heap.size]?=some (.cells #[.int .u8 0,.int .u8 0,.int .u8 0,.int .u8 0,.int .u8 0,.int .u8 0,.int .u8 0,.int .u8 0] 143 (0,0)))/\Below w.heap.size w wr) (fun _ _ i _=>ss.length - (intOf i).toNat)
 case atStart=>exact ⟨0,DS _,rfl,rfl,rfl,Ep _ _,(Below.refl _ _).alloc (DE _) _⟩
 case round=>
  obtain ⟨k,hk,rfl,rfl,rfl,hz,hb⟩:=hrel;by_cases G:k<ss.length
  ·have hx:=dcat_snoc ss k G;have O:=(hb.cell (p:=⟨b,k,none⟩) b3).trans (H.out k G);have b5:=H2.out k G;obtain ⟨s,hs⟩:=EH (ss[k]);rw [<-hs] at O hx b5;have HS:=zh hs;clear hs;have HX:=zh hx;clear hx;have I:=dgRX_lt (dcat (ss.take k)) 20 (by decide);have J:=dgRY_lt (dcat (ss.take k)) 26 (by decide);obtain ⟨x0,d⟩:=EH (dgRX 20 (dcat (ss.take k)));obtain ⟨y0,D⟩:=EH (dgRY 26 (dcat (ss.take k)));rw [<-d] at I⊢;rw [<-D] at J⊢;have a9:=zh d;clear d;have b0:=zh D;clear D;have E:=run_bytes_of_string wr 9 51 5 s Tryz.underlying9 Tryz.underlying51 Tryz.underlying5;obtain ⟨c,a2⟩:=EH (grownCap wr s.size 0 5);rw [<-a2] at E;clear a2;obtain ⟨C,hC⟩:=EH (bytesRow s c);rw [<-hC] at E;have HC:=zh hC;clear hC;go_wp2
   have K:Hid (∀j (hj:j<s.size),(wr.alloc (.cells C 5 (C.size,C.size+1))).cell? ⟨wr.heap.size,j,none⟩=some (.int .u8 (s.data.toList[j]'(by simpa using hj)).toNat)):=by
    intro j hj;rw [HC.out];have hh:=Ep wr (.cells (bytesRow s c) 5 ((bytesRow s c).size,(bytesRow s c).size+1));unfold World.cell?;simp only [hh];exact bytesRow_get s c j hj
   go_loop [3,4,20] (fun x y i=>∃j:Nat,j<=s.size/\i=.int .i64 j/\x=.int .u64 (dgRX x0 (s.data.toList.take j))/\y=.int .u64 (dgRY y0 (s.data.toList.take j))) (fun _ _ i=>s.size - (intOf i).toNat)
   case atStart=>exact ⟨0,DS _,rfl,rfl,rfl⟩
   case round=>
    obtain ⟨j,hj,rfl,rfl,rfl⟩:=hrel;by_cases U:j<s.size
    ·have b2:=K.out j U;have M:=dtake_snoc s.data.toList j (by simpa using U);have b7:=dgRX_lt (s.data.toList.take j) x0 I;have b8:=dgRY_lt (s.data.toList.take j) y0 J;obtain ⟨ch,Q⟩:=EH (s.data.toList[j]'(by simpa using U));rw [<-Q] at b2 M;clear Q;have hX:dgRX x0 (s.data.toList.take (j+1))=dgSX (dgRX x0 (s.data.toList.take j)) ch:=by rw [M,Dn];rfl
     have hY:dgRY y0 (s.data.toList.take (j+1))=dgSY (dgRY y0 (s.data.toList.take j)) ch:=by rw [M,Do];rfl
     clear M;have V:=zh hX;clear hX;have a0:=zh hY;clear hY;obtain ⟨x1,a4⟩:=EH (dgRX x0 (s.data.toList.take j));obtain ⟨y1,a5⟩:=EH (dgRY y0 (s.data.toList.take j));rw [<-a4] at b7 V⊢;rw [<-a5] at b8 a0⊢;clear a4 a5;have Q:=ch.toNat_lt;go_wp2
     go_round
     case rel=>exact ⟨j+1,by omega,by go_num,by rw [V.out];unfold dgSX;congr 1,by rw [a0.out];unfold dgSY;congr 1⟩
     case measure=>simp [intOf];omega
    ·have:j=s.size:=by omega
     subst this
     have e1:dgRX x0 (s.data.toList.take s.size)=dgRX 20 (dcat (ss.take (k+1))):=by
      rw [List.take_of_length_le (by simp),HX.out,Dn,<-a9.out]
     have e2:dgRY y0 (s.data.toList.take s.size)=dgRY 26 (dcat (ss.take (k+1))):=by
      rw [List.take_of_length_le (by simp),HX.out,Do,<-b0.out]
     rw [e1,e2];clear e1 e2;go_wp2;go_roundw
     case rel=>exact ⟨k+1,by omega,by go_num,rfl,rfl,(DW _ _ _ (za hz.out)).trans hz,(hb.alloc hb.size _).drew⟩
     case measure=>simp [intOf];omega
  ·obtain rfl:k=ss.length:=by omega
   rw [DP];have I:=dgRX_lt (dcat ss) 20 (by decide);have J:=dgRY_lt (dcat ss) 26 (by decide);obtain ⟨x0,d⟩:=EH (dgRX 20 (dcat ss));obtain ⟨y0,D⟩:=EH (dgRY 26 (dcat ss));have hd:Dl (dcat ss)=four x0++four y0:=by rw [d,D];rfl
   rw [<-d] at I⊢;rw [<-D] at J⊢;clear d D;have HD:=zh hd;clear hd;go_wp2;refine wp_loop_rounds 5 ?_;rw [rounds_succ];go_wp2
   go_region
   go_wp2;rw [rounds_succ];go_wp2
   go_region
   go_wp2;rw [rounds_succ];go_wp2
   go_region
   go_wp2;rw [rounds_succ];go_wp2
   go_region
   go_wp2;rw [rounds_succ];have a6:∀o:Obj,(wr.alloc o).heap[w.heap.size]?=some (.cells #[.int .u8 0,.int .u8 0,.int .u8 0,.int .u8 0,.int .u8 0,.int .u8 0,.int .u8 0,.int .u8 0] 143 (0,0)):=fun o=>(DW _ _ _ (za hz.out)).trans hz.out
   go_wp2_with (refine wpList_store_row rfl 143 (.tmp 2) (.tmp 61) rfl w.heap.size #[.int .u8 (x0 / 16777216),.int .u8 (x0 / 65536 % 256),.int .u8 (x0 / 256 % 256),.int .u8 (x0 % 256),.int .u8 (y0 / 16777216),.int .u8 (y0 / 65536 % 256),.int .u8 (y0 / 256 % 256),.int .u8 (y0 % 256)] rfl rfl 143 #[.int .u8 0,.int .u8 0,.int .u8 0,.int .u8 0,.int .u8 0,.int .u8 0,.int .u8 0,.int .u8 0] ?c1 ?c2 ?c3 ?c4 ?_)
   case c1=>exact a6 _
   case c2=>kernel_rfl
   case c3=>rfl
   case c4=>simp [Value.oneCell']
   refine Ev (v:=.agg #[.int .u8 (x0 / 16777216),.int .u8 (x0 / 65536 % 256),.int .u8 (x0 / 256 % 256),.int .u8 (x0 % 256),.int .u8 (y0 / 16777216),.int .u8 (y0 / 65536 % 256),.int .u8 (y0 / 256 % 256),.int .u8 (y0 % 256)]) ?_ rfl ⟨?_,?_⟩
   ·exact results_cell_row (p:=2) (ty:=143) rfl _ _ w.heap.size 143 _ (0,0) _ rfl (setRow_heap _ _ _ _ 143 (0,0) (a6 _)) Tryz.underlying143 rfl (by kernel_rfl)
   ·rw [HD.out,digV_four x0 y0 I J]
   ·exact dbelow_row (((hb.alloc hb.size _).drew.drew.drew.drew)) (DE _) _
theorem text_dig (l:List UInt8) (h:l.length=8) (w:World):
  Calls Tryz.prog 83 #[digV l] w fun e w'=>e=.returned (.string (dmk l))/\Below w.heap.size w w':=by
 match l,h with
 | [a,b,c,d,e,f,g,i],_=>
  refine (dtext_calls a.toNat b.toNat c.toNat d.toNat e.toNat f.toNat g.toNat i.toNat w).mono ?_;rintro e w' ⟨rfl,o⟩;refine ⟨?_,o⟩;rw [strI_eq];simp
theorem Cm {a w w':World} (h:Below B a w) (d:Below w.heap.size w w') (o:B<=a.heap.size):Below B a w':=h.trans (d.mono (DG o h.size))
theorem dcells_new (w:World) (ss:List ByteArray):∀i (h:i<ss.length),(w.alloc (.cells (ss.map Value.string).toArray 9)).cell? ⟨w.heap.size,i,none⟩=some (.string ss[i]):=by
 intro i h;have hh:=Ep w (.cells (ss.map Value.string).toArray 9);unfold World.cell?;simp only [hh];simp [h]
theorem dofn_list (w:World) (n:Nat) (ss:List ByteArray) (E:n=ss.length) (d:ss.length<=5) (o:∀i (h:i<ss.length),ss[i].size<=1000000000):
  Calls Tryz.prog 82 #[.slice (some ⟨w.heap.size,0,none⟩) n n] (w.alloc (.cells (ss.map Value.string).toArray 9)) fun e w'=>e=.returned (digV (Dl (dcat ss)))/\Below w.heap.size w w':=by
 refine (dofn_calls _ w.heap.size n ss E (by simp) d (dcells_new w ss) o).mono ?_;rintro e w' ⟨rfl,D⟩;exact ⟨rfl,Cm ((Below.refl _ w).alloc (DE _) _) D (DE _)⟩
theorem dofn1 (w:World) (s:ByteArray) (d:s.size<=1000000000):
  Calls Tryz.prog 82 #[.slice (some ⟨w.heap.size,0,none⟩) 1 1] (w.alloc (.cells #[.string s] 9)) fun e w'=>e=.returned (digV (Dl s.data.toList))/\Below w.heap.size w w':=by
 have h:=dofn_list w 1 [s] rfl (by simp) (by intro i h;have:i=0:=(by simpa using h);subst this;exact d);have e:dcat [s]=s.data.toList:=by simp [dcat]
 rw [e] at h;exact h
theorem dofn4 (w:World) (s0 s1 s2 s3:ByteArray) (h0:s0.size<=1000000000) (h1:s1.size<=1000000000) (d:s2.size<=1000000000) (o:s3.size<=1000000000):
  Calls Tryz.prog 82 #[.slice (some ⟨w.heap.size,0,none⟩) 4 4] (w.alloc (.cells #[.string s0,.string s1,.string s2,.string s3] 9)) fun e w'=>e=.returned (digV (Dl (s0.data.toList++(s1.data.toList++(s2.data.toList++s3.data.toList)))))/\Below w.heap.size w w':=by
 have h:=dofn_list w 4 [s0,s1,s2,s3] rfl (by simp) (by
  intro i h
  match i,h with
  | 0,_=>exact h0
  | 1,_=>exact h1
  | 2,_=>exact d
  | 3,_=>exact o)
 have e:dcat [s0,s1,s2,s3]=s0.data.toList++(s1.data.toList++(s2.data.toList++s3.data.toList)):=by simp [dcat]
 rw [e] at h;exact h
theorem dmk_size (l:List UInt8):(dmk l).size=l.length:=by simp [dmk,ByteArray.size]
theorem dmk_data (l:List UInt8):(dmk l).data.toList=l:=by simp [dmk]
theorem Of_calls (s:ByteArray) (w:World) (D:s.size<=1000000000):
  Calls Tryz.prog 52 #[.string s] w fun e w'=>e=.returned (.string (dmk (Dl s.data.toList)))/\Below w.heap.size w w':=by
 go_enter Tryz.func52,Tryz.ntmps52
 go_wp2_with fail
 refine (dofn1 w s D).mono ?_;rintro e w1 ⟨rfl,d⟩
 go_wp2_with fail
 refine (text_dig _ (Bd _) _).mono ?_;rintro e w2 ⟨rfl,o⟩
 go_wp2_with fail
 go_ret;exact ⟨rfl,Cm d o (DE _)⟩
theorem Chain_calls (a b:ByteArray) (w:World) (E:a.size<=1000000000) (G:b.size<=1000000000):
  Calls Tryz.prog 63 #[.string a,.string b] w fun e w'=>e=.returned (.string (dmk (BO a.data.toList b.data.toList)))/\Below w.heap.size w w':=by
 go_enter Tryz.func63,Tryz.ntmps63
 go_wp2_with fail
 refine (dlen_calls a _ E).mono ?_;rintro e w1 ⟨rfl,d⟩
 go_wp2_with fail
 refine (dofn4 w1 ⟨#[1]⟩ _ a b (by decide) (by rw [dmk_size];exact Nat.le_of_ble_eq_true rfl) E G).mono ?_;rintro e w2 ⟨rfl,o⟩;rw [dmk_data]
 go_wp2_with fail
 refine (text_dig _ (Bd _) _).mono ?_;rintro e w3 ⟨rfl,D⟩
 go_wp2_with fail
 go_ret;exact ⟨rfl,Cm (Cm d o (DE _)) D (DE _)⟩
theorem dapp_data1 (c:UInt8) (l:List UInt8) (a b:ByteArray):((⟨#[c]⟩:ByteArray)++dmk l++a++b).data.toList=c :: (l++(a.data.toList++b.data.toList)):=by simp [dmk]
theorem dmk_app (a b:List UInt8):dmk a++dmk b=dmk (a++b):=by
 apply ByteArray.ext;simp [dmk]
theorem rOf_calls (s:ByteArray) (w:World) (hs:s.size<=4000000000):
  Calls Tryz.prog 21 #[.string s] w fun e w'=>e=.returned (.string (dmk (Dl s.data.toList)))/\Below w.heap.size w w':=by
 go_enter Tryz.func21,Tryz.ntmps21
 go_wp2
 go_loop [3,4,5] (fun x y i=>∃j:Nat,j<=s.size/\i=.int .i64 j/\x=.int .i64 (dgRX 20 (s.data.toList.take j))/\y=.int .i64 (dgRY 26 (s.data.toList.take j))) (fun _ _ i=>s.size - (intOf i).toNat)
 case atStart=>exact ⟨0,DS _,rfl,rfl,rfl⟩
 case round=>
  obtain ⟨j,hj,rfl,rfl,rfl⟩:=hrel;have J:=dgRX_lt (s.data.toList.take j) 20 (by decide);have M:=dgRY_lt (s.data.toList.take j) 26 (by decide);by_cases o:j<s.size
  ·have D:=dtake_snoc s.data.toList j (by simpa using o);obtain ⟨ch,d⟩:=EH (s[j]'o);rw [show s.data.toList[j]'(by simpa using o)=ch from d.symm] at D;have E:=zh d;clear d;have Q:dgRX 20 (s.data.toList.take (j+1))=dgSX (dgRX 20 (s.data.toList.take j)) ch:=by rw [D,Dn];rfl
   have U:dgRY 26 (s.data.toList.take (j+1))=dgSY (dgRY 26 (s.data.toList.take j)) ch:=by rw [D,Do];rfl
   clear D;have G:=zh Q;clear Q;have I:=zh U;clear U;obtain ⟨x1,K⟩:=EH (dgRX 20 (s.data.toList.take j));obtain ⟨y1,O⟩:=EH (dgRY 26 (s.data.toList.take j));rw [<-K] at J G⊢;rw [<-O] at M I⊢;clear K O;have d:(s[j]'o).toNat<256:=by rw [<-E.out];exact ch.toNat_lt
   go_wp2
   go_round
   case rel=>exact ⟨j+1,by omega,by go_num,by rw [G.out,E.out];unfold dgSX;congr 1,by rw [I.out,E.out];unfold dgSY;congr 1⟩
   case measure=>simp [intOf];omega
  ·have:j=s.size:=by omega
   subst this;rw [List.take_of_length_le (by simp)] at J M⊢
   go_wp2_with (go_at_call 41;refine (dbytes4_calls _ _ (by omega)).mono ?_;rintro e w' ⟨rfl,V⟩)
   go_ret;exact ⟨dret_str (by rw [dmk_app];rfl),Cm ‹_› ‹_› (DE _)⟩
theorem rChain_calls (a b:ByteArray) (w:World) (G:a.size<=1000000000) (I:b.size<=1000000000):
  Calls Tryz.prog 22 #[.string a,.string b] w fun e w'=>e=.returned (.string (dmk (BO a.data.toList b.data.toList)))/\Below w.heap.size w w':=by
 go_enter Tryz.func22,Tryz.ntmps22
 go_wp2_with fail
 refine (dbytes4_calls a.size _ (by omega)).mono ?_;rintro e w1 ⟨rfl,D⟩;have hf:(dmk (four a.size)).size<=4:=Nat.le_of_eq (by rw [dmk_size];rfl)
 go_wp2_with fail
 have o:((⟨#[1]⟩:ByteArray)++dmk (four a.size)++a++b).size<=4000000000:=by
  simp only [ByteArray.size_append,show (ByteArray.size ⟨#[1]⟩)=1 from rfl];omega
 have d:((⟨#[1]⟩:ByteArray)++dmk (four a.size)++a++b).data.toList=1 :: (lenb a.data.toList++(a.data.toList++b.data.toList)):=by
  exact dapp_data1 1 (four a.size) a b
 refine (rOf_calls _ _ o).mono ?_;rintro e w2 ⟨rfl,E⟩;rw [d];clear o d
 go_wp2_with fail
 go_ret;exact ⟨rfl,Cm D E (DE _)⟩
end
end Go.Proofs.YtfjjdmpndmbfoaaGreatDoor
