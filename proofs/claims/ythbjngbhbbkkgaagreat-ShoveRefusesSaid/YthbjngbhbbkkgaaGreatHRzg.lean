import Derived.Test.YthbjngbhbbkkgaaGreatHRp
import Derived.Test.YthbjngbhbbkkgaaGreatHRq
import Derived.Laws.EntriesVeiled
set_option linter.unusedVariables false
set_option linter.unusedSimpArgs false
set_option maxRecDepth 100000
set_option maxHeartbeats 16000000
namespace Go.Proofs.YthbjngbhbbkkgaaGreat
variable {a:Act} {Q:Exit->Act->World->Prop} {L M all:List (List Int)} {set zs:List Int} {cz gc gl gy i k s:Nat} {Az:Option Addr} {P:Program}
section
open Go.RowKit
def Pref (w:World) (B:Nat) (v:Value) (l:List Int):Prop:=
 (v=.slice none 0 0/\l=[])\/∃g c cur,v=.slice (some ⟨g,0,none⟩) l.length c/\B<=g/\l.length<=c/\c<=maxLen/\zk w g 3 cur/\c<=cur.size/\∀(j:Nat) x,l[j]?=some x->cur[j]?=some (.int .i64 x)
structure RC (lb B j:Nat) (W W':World):Prop where
 os:W'.os=W.os
 tape:W'.tape=W.tape
 output:W'.output=W.output
 size:W.heap.size<=W'.heap.size
 keep:∀b,b<B->b<W.heap.size->b≠lb->W'.heap[b]?=W.heap[b]?
 pre:∀u s,Pref W B u s->s.length<=j->Pref W' B u s
section
variable {lb B j:Nat} {W W' W'' w w':World} {v:Value} {l:List Int} {x:Int}
theorem RC.refl (lb B j:Nat) (W:World):RC lb B j W W:=⟨rfl,rfl,rfl,EG _,fun _ _ _ _=>rfl,fun _ _ h _=>h⟩
theorem RC.trans (h:RC lb B j W W') (o:RC lb B j W' W''):RC lb B j W W'':=
 ⟨o.os.trans h.os,o.tape.trans h.tape,o.output.trans h.output,EI h.size o.size,fun b E z D=>(o.keep b E (Fh z h.size) D).trans (h.keep b E z D),fun u s hp G=>o.pre u s (h.pre u s hp G) G⟩
theorem RC.mono (h:RC lb B j W W') (o:i<=j):RC lb B i W W':=⟨h.os,h.tape,h.output,h.size,h.keep,fun u s hp z=>h.pre u s hp (EI z o)⟩
theorem Pref.blocks (h:Pref w B v l) (E:∀b,B<=b->b<w.heap.size->w'.heap[b]?=w.heap[b]?):Pref w' B v l:=by
 rcases h with h | ⟨g,c,cur,rfl,h1,h2,h3,o,z,D⟩
 ·exact .inl h
 ·exact .inr ⟨g,c,cur,rfl,h1,h2,h3,(E g h1 (zd o)).trans o,z,D⟩
theorem RC.ext (z:zb W W'):RC lb B j W W':=⟨z.os,z.tape,z.output,z.size,fun b _ o _=>z.block b o,fun u s hp _=>hp.blocks fun b _ o=>z.block b o⟩
theorem RC.yield (z:W.grownBy W' (some lb)) (G:lb<B):RC lb B j W W':=
 ⟨z.os,z.tape,z.output,z.size,fun b _ o D=>z.block b o (fun e=>D (by injection e)),fun u s hp _=>hp.blocks fun b E o=>z.block b o (fun e=>by injection e with e;omega)⟩
theorem Pref.nil (w:World) (B:Nat):Pref w B (.slice none 0 0) []:=.inl ⟨rfl,rfl⟩
theorem Pref.ints (h:Pref w B v l):zj w (fun b=>B<=b) v l:=by
 rcases h with ⟨rfl,rfl⟩ | ⟨g,c,cur,rfl,h1,h2,h3,E,G,D⟩
 ·exact zj.nil _ _
 ·refine ⟨_,c,rfl,h2,by simp,fun _=>⟨g,0,rfl,h1,fun j u o=>?_⟩⟩;rw [Fq] at o
  cases z:l[j]? with
  | none=>rw [z] at o;cases o
  | some y=>
   rw [z] at o;rw [Nat.zero_add];have:=E.cell (D j y z);rw [this];exact o
theorem Pref.of_own (h:zD w B v l):Pref w B v l:=by
 obtain ⟨O,⟨rfl,h0⟩ | ⟨g,cap,cur,rfl,E,G,z,o,D,I⟩⟩:=h
 ·exact .inl ⟨rfl,List.length_eq_zero_iff.1 h0⟩
 ·refine .inr ⟨g,cap,cur,rfl,E,z,o,G,by omega,fun j x J=>?_⟩;have h1:(l.map (Value.int .i64))[j]?=some (.int .i64 x):=by rw [Fq,J];rfl
  rw [<-I,List.getElem?_take] at h1
  split at h1
  ·simpa using h1
  ·cases h1
theorem run_pref_app (h:Pref w B v l) (t ty:TypeId) (ht:Tryz.prog.underlying t=some (.slice 3)) {g c:Nat} (hc:w.cell? ⟨g,0,none⟩=some (.int .i64 x)) (hB:B<=w.heap.size) (hl:l.length<=1000000000000) (lb:Nat) (c8:lb<B):
  ∃v' w',(Builtin.append_ #[t,t] ty #[v,.slice (some ⟨g,0,none⟩) 1 c]).run Tryz.prog w=.ok v' w'/\Pref w' B v' (l++[x])/\RC lb B l.length w w'/\Below B w w':=by
 obtain ⟨i0,hi,a6,I,a7⟩:=info_parts Tryz.infoInt
 have z:∀(j:Nat) (u:Value),[Value.int .i64 x][j]?=some u->w.cell? ((⟨g,0,none⟩:Addr).add j)=some u:=fun j u E=>by
  match j,E with
  | 0,E=>
   have:u=.int .i64 x:=by simpa using E.symm
   rw [this];exact hc
 have J:∀u∈[Value.int .i64 x],u.oneCell'=true:=fun u E=>by
  have:u=.int .i64 x:=by simpa using E
  rw [this];rfl
 have grow:∀{w':World},w.grownBy w' none->RC lb B l.length w w'/\Below B w w':=fun U=>
  ⟨⟨U.os,U.tape,U.output,U.size,fun b _ a0 _=>U.block b a0 (by simp),fun u s hp _=>hp.blocks fun b _ a0=>U.block b a0 (by simp)⟩,(Below.refl B w).grown U hB (fun k hk=>by cases hk)⟩
 rcases h with ⟨rfl,rfl⟩ | ⟨gq,cq,cur,rfl,h1,h2,h3,hb,h4,h5⟩
 ·obtain ⟨v',w',o,r1,r2,-⟩:=run_append_own (P:=Tryz.prog) w B t ty 3 i0 (.int .i64 0) 1 8 ht hi a6 I a7 rfl (by decide) (.slice none 0 0) 0 [] (World.ownsRow_nil _ _ _ _) ⟨g,0,none⟩ 1 c [.int .i64 x] rfl z J (by unfold maxLen;omega) (by omega) hB;have hO:zD w' B v' [x]:=r1;exact ⟨v',w',o,Pref.of_own hO,grow r2⟩
 ·have T:∀j,j<cq->∃u,w.cell? ⟨gq,j,none⟩=some u:=fun j hj=>by
   have b5:j<cur.size:=by omega
   exact ⟨cur[j],hb.cell (by simp [b5])⟩
  have b4:∀j,w.frozen? ⟨gq,j,none⟩=false:=fun j=>hb.frozen j
  by_cases G:l.length+1<=cq
  ·have o:=run_append_room_cells (P:=Tryz.prog) w t ty 3 i0 ht hi gq 0 l.length cq ⟨g,0,none⟩ 1 c [.int .i64 x] (by rw [I];rfl) z J G
    (fun j hj=>by
     have:j=0:=by simpa using hj
     subst this;obtain ⟨u,E⟩:=T (0+l.length*i0.size+0) (by rw [I];omega);rw [E];rfl) (fun j hj=>b4 _)
   have e1:w.setCells gq (0+l.length*i0.size) [.int .i64 x]=w.setCell ⟨gq,l.length,none⟩ (.int .i64 x):=by
    rw [I,Nat.mul_one,Nat.zero_add];rfl
   rw [e1] at o;have O:∀b,b≠gq->(w.setCell ⟨gq,l.length,none⟩ (.int .i64 x)).heap[b]?=w.heap[b]?:=fun b b8=>EP w ⟨gq,l.length,none⟩ _ b b8
   have a4:=hb.set (k:=l.length) (.int .i64 x);refine ⟨_,_,o,.inr ⟨gq,cq,_,by rw [EO];rfl,h1,by rw [EO];exact G,h3,a4,by simpa using h4,fun j y hy=>?_⟩,⟨rfl,rfl,rfl,by simp,fun b c5 _ _=>O b (by omega),fun u s hp hj=>?_⟩,(Below.refl B w).setCell (p:=⟨gq,l.length,none⟩) h1 _⟩
   ·rw [Array.getElem?_setIfInBounds];by_cases hj:j<l.length
    ·rw [if_neg (by omega)];exact h5 j y (by rwa [EL hj] at hy)
    ·rw [EM (by omega)] at hy
     have c7:j - l.length=0:=by
      obtain ⟨h,-⟩:=FD.1 hy;simpa using h
     have b6:j=l.length:=by omega
     subst b6;rw [if_pos rfl,if_pos (by omega)];have:x=y:=by simpa using hy
     rw [this]
   ·rcases hp with hp | ⟨gu,cu,cuu,rfl,k1,k2,k3,kb,k4,k5⟩
    ·exact .inl hp
    ·by_cases a5:gu=gq
     ·subst a5
      have b3:cuu=cur:=by
       have b2:w.heap[gu]?=_:=hb;have D:w.heap[gu]?=_:=kb;rw [b2] at D;injection D with D;injection D with D;exact D.symm
      subst b3;refine .inr ⟨gu,cu,_,rfl,k1,k2,k3,a4,by simpa using k4,fun i y hy=>?_⟩;rw [Array.getElem?_setIfInBounds];have hi:i<s.length:=(FD.1 hy).1;rw [if_neg (by omega)];exact k5 i y hy
     ·exact .inr ⟨gu,cu,cuu,rfl,k1,k2,k3,(O gu a5).trans kb,k4,k5⟩
  ·have holds:∀(j:Nat) u,(l.map (Value.int .i64))[j]?=some u->w.cell? ((⟨gq,0,none⟩:Addr).add j)=some u:=fun j u E=>by
    rw [Fq] at E
    cases V:l[j]? with
    | none=>rw [V] at E;cases E
    | some y=>
     rw [V] at E;rw [Addr.add_lit,Nat.zero_add,hb.cell (h5 j y V)];exact E
   obtain ⟨v',w',o,r1,r2⟩:=run_append_arg_grows (P:=Tryz.prog) w t ty 3 i0 (.int .i64 0) 1 8 ht hi a6 I a7 rfl (by decide) ⟨gq,0,none⟩ l.length cq (l.map (Value.int .i64)) (by simp) holds ⟨g,0,none⟩ 1 c [.int .i64 x] rfl z (by omega) (by unfold maxLen;omega) (by omega)
   have hO:zD w' w.heap.size v' (l++[x]):=by
    unfold zD;rw [map_snoc,EO];exact r1
   have b1:zD w' B v' (l++[x]):=hO.mono hB;exact ⟨v',w',o,Pref.of_own b1,grow ⟨r2.os,r2.tape,r2.output,r2.size,fun k hk _=>r2.block k hk (by simp)⟩⟩
theorem Di {o:Oper} {K:Act->World->Prop} (s y:Operand)
  (O:o.op=.call { callee:=.builtin .append,args:=#[s,y],argTypes:=#[23,23] }) (W:World) (l:List Int) (x:Int) (B g c lb:Nat) (v:Value) (U:a.eval s=v)
  (V:a.eval y=.slice (some ⟨g,0,none⟩) 1 c) (z:Pref W B v l) (I:W.cell? ⟨g,0,none⟩=some (.int .i64 x)) (G:B<=W.heap.size) (J:l.length<=1000000000000) (D:lb<B)
  (h:∀v' w',Pref w' B v' (l++[x])->RC lb B l.length W w'->Below B W w'->K (a.put o.dst v') w'):Oper.wp Tryz.prog o a W K Q:=by
 obtain ⟨v',w',T,h2,h3,E⟩:=run_pref_app z 23 o.type Tryz.underlying23 (c:=c) I G J lb D;unfold Oper.wp execOp;simp only [O,resolve,invoke,builtin,Sem.run_bind,Sem.run_pure,Result.andThen_ok,List.map_toArray,List.map_cons,List.map_nil,U,V,T];exact h v' w' h2 h3 E
end
end
section
open Go.RowKit
attribute [local go_sem ↓] Go.wp_at_zero Go.wp_at_succ
attribute [local go_sem] Oper.semAt_some
structure Ctx (lb B gy gl gc:Nat) (Az:Option Addr) (cz:Nat) (zs:List Int) (W:World):Prop where
 y:W.cell? ⟨gy,0,none⟩=some (.func (.yield lb) #[] #[])
 z:W.cell? ⟨gl,0,none⟩=some (.slice Az zs.length cz)
 c:W.cell? ⟨gc,0,none⟩=some (.func (.func 73) #[] #[.pointer (some ⟨gy,0,none⟩),.pointer (some ⟨gl,0,none⟩),.pointer (some ⟨gc,0,none⟩)])
 zc:∀j (hj:j<zs.length),∃b off,Az=some ⟨b,off,none⟩/\b<B/\b≠lb/\W.cell? ⟨b,off+j,none⟩=some (.int .i64 zs[j])
 lt:gy<B/\gl<B/\gc<B/\lb<B
 ne:gy≠lb/\gl≠lb/\gc≠lb
 sz:B<=W.heap.size
theorem rc_cell {lb B j b off:Nat} {W W':World} {u:Value} (z:RC lb B j W W') (D:b<B) (o:b≠lb) (h:W.cell? ⟨b,off,none⟩=some u):W'.cell? ⟨b,off,none⟩=some u:=
 (EV (w:=W) (a:=⟨b,off,none⟩) (z.keep b D (zo h) o)).trans h
theorem Ctx.rc {lb B j:Nat} {W W':World} (h:Ctx lb B gy gl gc Az cz zs W) (o:RC lb B j W W'):Ctx lb B gy gl gc Az cz zs W':=
 ⟨rc_cell o h.lt.1 h.ne.1 h.y,rc_cell o h.lt.2.1 h.ne.2.1 h.z,rc_cell o h.lt.2.2.1 h.ne.2.2 h.c,fun j I=>by
  obtain ⟨b,off,e,E,D,G⟩:=h.zc j I;exact ⟨b,off,e,E,D,rc_cell o E D G⟩,h.lt,h.ne,EI h.sz o.size⟩
theorem DR:∀(k:Nat) (l:List Int),l.length<k->zI k l=[]
 | 0,l,h=>by omega
 | k+1,[],_=>rfl
 | k+1,x :: l,h=>by
  unfold zI;rw [DR k l (by simp at h;omega),DR (k+1) l (by simp at h;omega)];rfl
theorem combos_drop {l:List Int} (o:i<l.length):zI (k+1) (l.drop i)=(zI k (l.drop (i+1))).map (l[i] :: ·)++zI (k+1) (l.drop (i+1)):=by
 rw [List.drop_eq_getElem_cons o]
 conv=>lhs;unfold zI
def OutAt (all:List (List Int)) (k:Nat) (set:List Int) (L:List (List Int)):Prop:=∀(i:Nat) c,L[i]?=some c->all[k+i]?=some (set++c)
theorem OutAt.left {x:Int} (h:OutAt all k set (L.map (x :: ·)++M)):OutAt all k (set++[x]) L:=fun i c o=>by
 have:=h i (x :: c) (by rw [EL (by rw [Fr];exact (FD.1 o).1),Fq,o];rfl);rw [this,List.append_assoc];rfl
theorem OutAt.right (h:OutAt all k set (L++M)):OutAt all (k+L.length) set M:=fun i c o=>by
 have:=h (L.length+i) c (by rw [EM (by omega),Nat.add_sub_cancel_left];exact o);rw [<-this];congr 1;omega
def ChPost (lb B:Nat) (J:Nat->World->Prop) (Jx:World->Prop) (k j:Nat) (W:World) (e:Ending) (W':World):Prop:=
 ∃b,e=.returned (.bool b)/\(b=true->RC lb B j W W'/\J k W')/\(b=false->Jx W')
theorem choose_zero {lb B:Nat} {v:Value} {J:Nat->World->Prop} {Jx:World->Prop} (frm:Nat) (W:World) (G:Ctx lb B gy gl gc Az cz zs W) (hp:Pref W B v set) (hl:set.length<=1000)
  (O:∀W',zb W W'->J k W')
  (U:∀u W1,J k W1->zj W1 (fun b=>W.heap.size<=b) u set->YieldAt Fence.wide 5 Tryz.prog lb #[u] W1 fun e W'=>∃b,e=.returned (.bool b)/\(b=true->J (k+1) W'/\W1.grownBy W' (some lb))/\(b=false->Jx W')):
  Calls Tryz.prog 73 #[v,.int .i64 frm,.int .i64 0,.pointer (some ⟨gy,0,none⟩),.pointer (some ⟨gl,0,none⟩),.pointer (some ⟨gc,0,none⟩)] W (ChPost lb B J Jx (k+1) set.length W):=by
 refine (callsIn_wide (n:=6)).1 ?_;refine callsIn_of_wp Tryz.func73 rfl trivial ?_ rfl;simp only [Tryz.ntmps73,List.size_toArray,zab,zac,Nat.reduceAdd,Nat.reduceSub,Array.replicate_succ,Array.replicate_zero,List.push_toArray,List.append_toArray,List.nil_append,List.cons_append];have HP:=zh hp.ints;have a4:=zh hp;have HY:=zh U;have HJ:=zh O;have HC:=zh G;have ry:=zb.rule G.y;have a7:zb W W.drew:=(zb.refl W).drew;obtain ⟨Av,cv,rfl,-,-⟩:=hp.ints;clear hp U O G;have V:=Ag
 gi_wp2
 gi_region_with_o (first
  | (refine ⟨trivial,?_⟩;refine (callsIn_wide.2 (Bw W.drew (zj.below HP.out (zb.refl W).drew) (by omega))).mono ?_;rintro e w1 ⟨u,rfl,D⟩;have z:zb W w1:=(zb.refl W).drew.trans D.ext;obtain ⟨fn,tmps,assign,body,a8,T⟩:=HY.out u w1 (HJ.out w1 z) (D.ints.weaken (fun b o=>o));obtain ⟨Au,cu,rfl,-,-⟩:=D.ints;have HR:=zh T;have E:=zh z;clear D T)
  | (refine HR.out.mono ?_;rintro e W3 ⟨b,rfl,h1,h2⟩;have I:=zh h1;have H2:=zh h2;clear h1 h2))
 all_goals (gi_wp2;go_ret)
 all_goals exact ⟨b,rfl,fun o=>⟨(RC.ext E.out).trans (RC.yield (I.out o).2 HC.out.lt.2.2.2),(I.out o).1⟩,fun o=>H2.out o⟩
theorem choose_calls {lb B gy gl gc cz N:Nat} {Az:Option Addr} {zs:List Int} {all:List (List Int)} {J:Nat->World->Prop} {Jx:World->Prop} (hz:zs.length<=1000) (hJ:∀k A A',J k A->Below B A A'->J k A')
  (hY:∀k u W1,k<N->J k W1->zj W1 (fun b=>B<=b) u (all.getD k [])->YieldAt Fence.wide 5 Tryz.prog lb #[u] W1 fun e W'=>∃b,e=.returned (.bool b)/\(b=true->J (k+1) W'/\W1.grownBy W' (some lb))/\(b=false->Jx W')):
  ∀(more:Nat) (set:List Int) (frm:Nat) (v:Value) (k:Nat) (W:World),Ctx lb B gy gl gc Az cz zs W->Pref W B v set->set.length+more<=1000->frm<=zs.length->OutAt all k set (zI more (zs.drop frm))->k+(zI more (zs.drop frm)).length<=N->J k W->
  Calls Tryz.prog 73 #[v,.int .i64 frm,.int .i64 more,.pointer (some ⟨gy,0,none⟩),.pointer (some ⟨gl,0,none⟩),.pointer (some ⟨gc,0,none⟩)] W (ChPost lb B J Jx (k+(zI more (zs.drop frm)).length) set.length W)
 | 0,set,frm,v,k,W,hC,hp,hs,hf,hO,hN,hj=>by
  have c8:all.getD k []=set:=by
   have:=hO 0 [] (by simp [zI]);rw [Nat.add_zero,List.append_nil] at this;rw [EF,this];rfl
  have f9:k<N:=by simp [zI] at hN;omega
  have h1:(zI 0 (zs.drop frm)).length=1:=by simp [zI]
  rw [h1];refine choose_zero frm W hC hp (by omega) (fun W' hE=>hJ k W W' hj (Below.mono hE hC.sz)) fun u W1 f8 hu=>?_;refine hY k u W1 f9 f8 ?_;rw [c8];exact hu.weaken fun b hb=>by have:=hC.sz;omega
 | more+1,set,frm,v,k,W,hC,hp,hs,hf,hO,hN,hj=>by
  have IH:=zh (choose_calls (gy:=gy) (gl:=gl) (gc:=gc) (cz:=cz) (Az:=Az) hz hJ hY more);have HJ:=zh hJ;have HC:=zh hC;have HP:=zh hp;have HO:=zh hO;have d8:=zh hj;obtain ⟨K,o⟩:=zad (k+(zI (more+1) (zs.drop frm)).length);rw [<-o];have HN:Hid (K<=N/\k+(zI (more+1) (zs.drop frm)).length=K):=⟨by omega,o.symm⟩;obtain ⟨Av,cv,rfl,-,-⟩:=hp.ints;clear hJ hY hC hp hO hN hj o;have g0:(((more+1:Nat):Int)==0)=false:=by rw [ET];omega
  obtain ⟨mo,b1⟩:∃mo:Int,mo=((more+1:Nat):Int):=⟨_,rfl⟩;rw [<-b1] at g0⊢;have HM:=zh b1;clear b1
  go_enter Tryz.func73,Tryz.ntmps73
  go_wp2_with fail
  go_loopw [10] (fun i wr=>∃j kk:Nat,j<=zs.length/\i=.int .i64 (j:Nat)/\Hid (RC lb B set.length W wr)/\Hid (J kk wr)/\Hid (OutAt all kk set (zI (more+1) (zs.drop j)))/\Hid (kk+(zI (more+1) (zs.drop j)).length=K)) (fun i _=>zs.length - (intOf i).toNat)
  case atStart=>exact ⟨frm,k,hf,rfl,RC.refl _ _ _ _,d8.out,HO.out,HN.out.2⟩
  case round=>
   obtain ⟨j,kk,i5,rfl,hR,c4,c7,c5⟩:=hrel;obtain ⟨wk,rfl⟩:∃wk:World,wk=wr:=⟨_,rfl⟩;have b5:=zh (HC.out.rc hR.out);have i4:=b5.out.z;have b1:=HM.out;have i9:IntKind.i64.wrap ((j:Int)+mo)=(j:Int)+mo:=by rw [Fb];omega
   by_cases i6:j+(more+1)<=zs.length
   ·have c9:(j:Int)+mo<=(zs.length:Int):=by omega
    have b9:j<zs.length:=by omega
    have b3:=zh (combos_drop (k:=more) b9);obtain ⟨bx,offx,rfl,-⟩:=b5.out.zc j b9;obtain ⟨x,hx⟩:=zad (zs[j]);rw [<-hx] at b3
    have kx:∀W',Ctx lb B gy gl gc (some ⟨bx,offx,none⟩) cz zs W'->W'.cell? ⟨bx,offx+j,none⟩=some (.int .i64 x):=fun W' h=>by
     obtain ⟨b,off,e,-,-,hc⟩:=h.zc j b9;injection e with e;injection e with e1 e2;subst e1 e2;rw [hx];exact hc
    have b4:=zh kx;clear kx hx;have j0:IntKind.i64.wrap ((j:Int)+1)=(j:Int)+1:=by rw [Fb];omega
    have j1:IntKind.i64.wrap (mo - 1)=(more:Int):=by rw [Fb];omega
    have h7:(j:Int)<(zs.length:Int):=by omega
    have h6:(0:Int)<=(j:Int):=by omega
    have e7:Hid (OutAt all kk (set++[x]) (zI more (zs.drop (j+1)))):=OutAt.left (by have:=c7.out;rwa [b3.out] at this)
    have e8:Hid (OutAt all (kk+(zI more (zs.drop (j+1))).length) set (zI (more+1) (zs.drop (j+1)))):=by
     have:=c7.out;rw [b3.out] at this;have h2:=this.right
     rwa [Fr] at h2
    have c6:Hid ((kk+(zI more (zs.drop (j+1))).length)+(zI (more+1) (zs.drop (j+1))).length=K):=by
     have:=c5.out;rw [b3.out,EO,Fr] at this;show _=_;omega
    have e6:Hid (kk+(zI more (zs.drop (j+1))).length<=N):=by
     have h1:=c6.out;have h2:=HN.out.1;show _<=_;omega
    have IHC:Hid (∀v' W',Ctx lb B gy gl gc (some ⟨bx,offx,none⟩) cz zs W'->Pref W' B v' (set++[x])->J kk W'->Calls Tryz.prog 73 #[v',.int .i64 ((j:Int)+1),.int .i64 (more:Int),.pointer (some ⟨gy,0,none⟩),.pointer (some ⟨gl,0,none⟩),.pointer (some ⟨gc,0,none⟩)] W' (ChPost lb B J Jx (kk+(zI more (zs.drop (j+1))).length) (set++[x]).length W')):=fun v' W' h1 h2 h3=>by
     have h4:=IH.out (set++[x]) (j+1) v' kk W' h1 h2 (by rw [EO,Ff];omega) (by omega) e7.out e6.out h3;rw [show ((j+1:Nat):Int)=(j:Int)+1 from by omega] at h4;exact h4
    clear b1;go_upto_region 6 with fail;go_cut [39] (fun v wx=>∃b:Bool,v=.bool (!b)/\Hid ((b=true->RC lb B set.length wk wx/\J (kk+(zI more (zs.drop (j+1))).length) wx)/\(b=false->Jx wx)))
    case first=>
     refine EW (S:=(fun _=>True)) Ag (trivial) fun zH=>?_;have b6:zb wk wk.drew:=(zb.refl wk).drew;have I:=b5.out.rc (RC.ext (j:=set.length) b6);have a8:RC lb B set.length wk wk.drew:=RC.ext b6;have b0:=(RC.trans hR.out a8).pre _ _ HP.out (EG _);have a9:=HJ.out _ _ _ c4.out (Below.mono b6 b5.out.sz);generalize wk.drew=wd at zH b6 I a8 b0 a9⊢;refine zf 1 zH ?_;refine zf 3 zH ?_;simp only [za,ED];refine zf 8 zH ?_;refine zf 9 zH ?_;simp only [za,ED];refine zf 10 zH ?_;refine zf 11 zH ?_;simp only [za,ED];refine rdA [0,2] ?_;refine Fg rfl (fun K o=>?_) ?_
     ·have g6:=I.c;go_simp;refine zae o trivial fun zH=>?_;clear o K;try simp only [za,ED]
      refine zE 2 fun K o=>?_;have g8:=I.z;go_simp;refine zae o trivial fun zH=>?_;clear o K;try simp only [za,ED]
      refine zE 4 fun K o=>?_;go_simp;refine zae o trivial fun zH=>?_;clear o K;try simp only [za,ED]
      refine zE 5 fun K o=>?_;have g7:=b4.out _ I;go_simp;refine zae o trivial fun zH=>?_;clear o K;try simp only [za,ED]
      refine zE 6 fun K o=>?_;go_simp;have D:zb wd (wd.alloc (.cells #[.int .i64 x] 3)):=(zb.refl wd).alloc _;have O:=zr wd (.int .i64 x) 3 (g:=wd.heap.size) rfl;generalize wd.alloc _=wa at D O⊢;generalize wd.heap.size=ga at O⊢;have G:=I.rc (RC.ext (j:=set.length) D);have a6:=a8.trans (RC.ext (j:=set.length) D);have a5:=(RC.ext (lb:=lb) (j:=set.length) D).pre _ _ b0 (EG _);have a4:=HJ.out _ _ _ a9 (Below.mono D I.sz);refine zae o trivial fun zH=>?_;clear o K;try simp only [za,ED]
      refine zE 7 fun K o=>?_;rw [if_pos (by simp [Region.wanted])];refine Di (.tmp 27) (.tmp 32) rfl wa set x B ga 1 lb _ rfl rfl a5 O G.sz (by omega) G.lt.2.2.2 ?_;intro v' wb a1 E V;have U:=G.rc E;have a2:=a6.trans E;have a0:=HJ.out _ _ _ a4 V;refine zae o trivial fun zH=>?_;clear o K;try simp only [za,ED]
      refine zE 12 fun K o=>?_;go_simp;go_at_call 73;refine (IHC.out v' wb U a1 a0).mono ?_;rintro e wc ⟨b,rfl,T,a3⟩;refine zae o trivial fun zH=>?_;clear o K;try simp only [za,ED]
      refine zE 13 fun K o=>?_;go_simp;refine zae o trivial fun zH=>?_;clear o K;try simp only [za,ED]
      refine Fk (by kernel_rfl) ?_ _;go_wp2;go_meet;exact ⟨b,rfl,fun hb=>⟨a2.trans ((T hb).1.mono (by rw [EO];omega)),(T hb).2⟩,a3⟩
     refine Fg rfl (fun K o=>?_) .nil;have g9:=I.z;go_simp;refine zae o trivial fun zH=>?_;clear o K;try simp only [za,ED]
     refine rdA [0,4] ?_;refine Fg rfl (fun K o=>?_) ?_
     ·have f0:=I.c;go_simp;refine zae o trivial fun zH=>?_;clear o K;try simp only [za,ED]
      refine zE 4 fun K o=>?_;go_simp;refine zae o trivial fun zH=>?_;clear o K;try simp only [za,ED]
      refine zE 5 fun K o=>?_;have f5:=b4.out _ I;go_simp;refine zae o trivial fun zH=>?_;clear o K;try simp only [za,ED]
      refine zE 6 fun K o=>?_;go_simp;have D:zb wd (wd.alloc (.cells #[.int .i64 x] 3)):=(zb.refl wd).alloc _;have O:=zr wd (.int .i64 x) 3 (g:=wd.heap.size) rfl;generalize wd.alloc _=wa at D O⊢;generalize wd.heap.size=ga at O⊢;have G:=I.rc (RC.ext (j:=set.length) D);have a6:=a8.trans (RC.ext (j:=set.length) D);have a5:=(RC.ext (lb:=lb) (j:=set.length) D).pre _ _ b0 (EG _);have a4:=HJ.out _ _ _ a9 (Below.mono D I.sz);refine zae o trivial fun zH=>?_;clear o K;try simp only [za,ED]
      refine zE 7 fun K o=>?_;rw [if_pos (by simp [Region.wanted])];refine Di (.tmp 27) (.tmp 32) rfl wa set x B ga 1 lb _ rfl rfl a5 O G.sz (by omega) G.lt.2.2.2 ?_;intro v' wb a1 E V;have U:=G.rc E;have a2:=a6.trans E;have a0:=HJ.out _ _ _ a4 V;refine zae o trivial fun zH=>?_;clear o K;try simp only [za,ED]
      refine zE 12 fun K o=>?_;go_simp;go_at_call 73;refine (IHC.out v' wb U a1 a0).mono ?_;rintro e wc ⟨b,rfl,T,a3⟩;refine zae o trivial fun zH=>?_;clear o K;try simp only [za,ED]
      refine zE 13 fun K o=>?_;go_simp;refine zae o trivial fun zH=>?_;clear o K;try simp only [za,ED]
      refine Fk (by kernel_rfl) ?_ _;go_wp2;go_meet;exact ⟨b,rfl,fun hb=>⟨a2.trans ((T hb).1.mono (by rw [EO];omega)),(T hb).2⟩,a3⟩
     refine Fg rfl (fun K o=>?_) .nil;go_simp;refine zae o trivial fun zH=>?_;clear o K;try simp only [za,ED]
     refine rdA [0,5] ?_;refine Fg rfl (fun K o=>?_) ?_
     ·have f1:=I.c;go_simp;refine zae o trivial fun zH=>?_;clear o K;try simp only [za,ED]
      refine zE 5 fun K o=>?_;have f6:=b4.out _ I;go_simp;refine zae o trivial fun zH=>?_;clear o K;try simp only [za,ED]
      refine zE 6 fun K o=>?_;go_simp;have D:zb wd (wd.alloc (.cells #[.int .i64 x] 3)):=(zb.refl wd).alloc _;have O:=zr wd (.int .i64 x) 3 (g:=wd.heap.size) rfl;generalize wd.alloc _=wa at D O⊢;generalize wd.heap.size=ga at O⊢;have G:=I.rc (RC.ext (j:=set.length) D);have a6:=a8.trans (RC.ext (j:=set.length) D);have a5:=(RC.ext (lb:=lb) (j:=set.length) D).pre _ _ b0 (EG _);have a4:=HJ.out _ _ _ a9 (Below.mono D I.sz);refine zae o trivial fun zH=>?_;clear o K;try simp only [za,ED]
      refine zE 7 fun K o=>?_;rw [if_pos (by simp [Region.wanted])];refine Di (.tmp 27) (.tmp 32) rfl wa set x B ga 1 lb _ rfl rfl a5 O G.sz (by omega) G.lt.2.2.2 ?_;intro v' wb a1 E V;have U:=G.rc E;have a2:=a6.trans E;have a0:=HJ.out _ _ _ a4 V;refine zae o trivial fun zH=>?_;clear o K;try simp only [za,ED]
      refine zE 12 fun K o=>?_;go_simp;go_at_call 73;refine (IHC.out v' wb U a1 a0).mono ?_;rintro e wc ⟨b,rfl,T,a3⟩;refine zae o trivial fun zH=>?_;clear o K;try simp only [za,ED]
      refine zE 13 fun K o=>?_;go_simp;refine zae o trivial fun zH=>?_;clear o K;try simp only [za,ED]
      refine Fk (by kernel_rfl) ?_ _;go_wp2;go_meet;exact ⟨b,rfl,fun hb=>⟨a2.trans ((T hb).1.mono (by rw [EO];omega)),(T hb).2⟩,a3⟩
     refine Fg rfl (fun K o=>?_) .nil;have f7:=b4.out _ I;go_simp;refine zae o trivial fun zH=>?_;clear o K;try simp only [za,ED]
     refine rdA [0,6] ?_;refine Fg rfl (fun K o=>?_) ?_
     ·have f2:=I.c;go_simp;refine zae o trivial fun zH=>?_;clear o K;try simp only [za,ED]
      refine zE 6 fun K o=>?_;go_simp;have D:zb wd (wd.alloc (.cells #[.int .i64 x] 3)):=(zb.refl wd).alloc _;have O:=zr wd (.int .i64 x) 3 (g:=wd.heap.size) rfl;generalize wd.alloc _=wa at D O⊢;generalize wd.heap.size=ga at O⊢;have G:=I.rc (RC.ext (j:=set.length) D);have a6:=a8.trans (RC.ext (j:=set.length) D);have a5:=(RC.ext (lb:=lb) (j:=set.length) D).pre _ _ b0 (EG _);have a4:=HJ.out _ _ _ a9 (Below.mono D I.sz);refine zae o trivial fun zH=>?_;clear o K;try simp only [za,ED]
      refine zE 7 fun K o=>?_;rw [if_pos (by simp [Region.wanted])];refine Di (.tmp 27) (.tmp 32) rfl wa set x B ga 1 lb _ rfl rfl a5 O G.sz (by omega) G.lt.2.2.2 ?_;intro v' wb a1 E V;have U:=G.rc E;have a2:=a6.trans E;have a0:=HJ.out _ _ _ a4 V;refine zae o trivial fun zH=>?_;clear o K;try simp only [za,ED]
      refine zE 12 fun K o=>?_;go_simp;go_at_call 73;refine (IHC.out v' wb U a1 a0).mono ?_;rintro e wc ⟨b,rfl,T,a3⟩;refine zae o trivial fun zH=>?_;clear o K;try simp only [za,ED]
      refine zE 13 fun K o=>?_;go_simp;refine zae o trivial fun zH=>?_;clear o K;try simp only [za,ED]
      refine Fk (by kernel_rfl) ?_ _;go_wp2;go_meet;exact ⟨b,rfl,fun hb=>⟨a2.trans ((T hb).1.mono (by rw [EO];omega)),(T hb).2⟩,a3⟩
     refine Fg rfl (fun K o=>?_) .nil;go_simp;have D:zb wd (wd.alloc (.cells #[.int .i64 x] 3)):=(zb.refl wd).alloc _;have O:=zr wd (.int .i64 x) 3 (g:=wd.heap.size) rfl;generalize wd.alloc _=wa at D O⊢;generalize wd.heap.size=ga at O⊢;have G:=I.rc (RC.ext (j:=set.length) D);have a6:=a8.trans (RC.ext (j:=set.length) D);have a5:=(RC.ext (lb:=lb) (j:=set.length) D).pre _ _ b0 (EG _);have a4:=HJ.out _ _ _ a9 (Below.mono D I.sz);refine zae o trivial fun zH=>?_;clear o K;try simp only [za,ED]
     refine rdA [0,7] ?_;refine Fg rfl (fun K o=>?_) ?_
     ·have f3:=G.c;go_simp;refine zae o trivial fun zH=>?_;clear o K;try simp only [za,ED]
      refine zE 7 fun K o=>?_;rw [if_pos (by simp [Region.wanted])];refine Di (.tmp 27) (.tmp 32) rfl wa set x B ga 1 lb _ rfl rfl a5 O G.sz (by omega) G.lt.2.2.2 ?_;intro v' wb a1 E V;have U:=G.rc E;have a2:=a6.trans E;have a0:=HJ.out _ _ _ a4 V;refine zae o trivial fun zH=>?_;clear o K;try simp only [za,ED]
      refine zE 12 fun K o=>?_;go_simp;go_at_call 73;refine (IHC.out v' wb U a1 a0).mono ?_;rintro e wc ⟨b,rfl,T,a3⟩;refine zae o trivial fun zH=>?_;clear o K;try simp only [za,ED]
      refine zE 13 fun K o=>?_;go_simp;refine zae o trivial fun zH=>?_;clear o K;try simp only [za,ED]
      refine Fk (by kernel_rfl) ?_ _;go_wp2;go_meet;exact ⟨b,rfl,fun hb=>⟨a2.trans ((T hb).1.mono (by rw [EO];omega)),(T hb).2⟩,a3⟩
     refine Fg rfl (fun K o=>?_) .nil;rw [if_pos (by simp [Region.wanted])];refine Di (.tmp 27) (.tmp 32) rfl wa set x B ga 1 lb _ rfl rfl a5 O G.sz (by omega) G.lt.2.2.2 ?_;intro v' wb a1 E V;have U:=G.rc E;have a2:=a6.trans E;have a0:=HJ.out _ _ _ a4 V;refine zae o trivial fun zH=>?_;clear o K;try simp only [za,ED]
     refine zE 0 fun K o=>?_;have f4:=U.c;go_simp;refine zae o trivial fun zH=>?_;clear o K;try simp only [za,ED]
     refine zE 12 fun K o=>?_;go_simp;go_at_call 73;refine (IHC.out v' wb U a1 a0).mono ?_;rintro e wc ⟨b,rfl,T,a3⟩;refine zae o trivial fun zH=>?_;clear o K;try simp only [za,ED]
     refine zE 13 fun K o=>?_;go_simp;refine zae o trivial fun zH=>?_;clear o K;try simp only [za,ED]
     refine Fk (by kernel_rfl) ?_ _;go_wp2;go_meet;exact ⟨b,rfl,fun hb=>⟨a2.trans ((T hb).1.mono (by rw [EO];omega)),(T hb).2⟩,a3⟩
    case rest=>
     obtain ⟨b,rfl,b8⟩:=hcut
     cases b with
     | false=>
      have e0:=zh (b8.out.2 rfl);go_wp2;go_ret;exact ⟨false,rfl,fun h=>(by cases h),fun _=>e0.out⟩
     | true=>
      obtain ⟨h1,h2⟩:=b8.out.1 rfl;have e4:=zh (hR.out.trans h1);have d9:=zh h2;clear h1 h2 b8;go_wp2;go_roundw
      case rel=>exact ⟨j+1,kk+(zI more (zs.drop (j+1))).length,by omega,by go_num,e4,d9,e8,c6⟩
      case measure=>simp [intOf];omega
   ·have c9:¬ ((j:Int)+mo<=(zs.length:Int)):=by omega
    have b7:zI (more+1) (zs.drop j)=[]:=DR _ _ (by rw [List.length_drop];omega);have e3:Hid (kk=K):=by show _=_;have:=c5.out;rw [b7] at this;simpa using this
    clear b7 b1;go_wp2;go_ret;exact ⟨true,rfl,fun _=>⟨hR.out,by rw [<-e3.out];exact c4.out⟩,fun h=>(by cases h)⟩
end
section
open Go.RowKit
def GivesX {α:Type} (n:Nat) (P:Program) (g:Nat) (lb:Array Value) (encs:α->Array Value) (G:Nat->α->World->Prop) (N:Nat) (w:World):Prop:=
 ∀(l:Nat) (J:Nat->World->Prop) (Jx:World->Prop) (W:World),zb w W->w.heap.size<=l->l<W.heap.size->(∀k A B,J k A->Below W.heap.size A B->J k B)->
  (∀k x W1,k<N->J k W1->G k x W1->YieldAt Fence.wide (n - 1) P l (encs x) W1 fun e W'=>(e=.returned (.bool true)/\J (k+1) W'/\W1.grownBy W' (some l))\/(e=.returned (.bool false)/\Jx W'))->
  J 0 W->
  CallsIn Fence.wide n P g (#[.func (.yield l) #[] #[]]++lb) W fun e W'=>(∃v,e=.returned v)/\(J N W'\/Jx W')
theorem wpIn_loopX {n:Nat} {α:Type} {g:Operand} {ps:Array Tmp} {assign body:Code} {w:World}
  {gf:Nat} {lb:Array Value} (hg:a.eval g=.func (.func gf) #[] lb) (eg:∀args w,(callFunc gf args).run P w=.ok (.enter gf args) w)
  {encs:α->Array Value} {G:Nat->α->World->Prop} {N:Nat} {w0:World} (b6:GivesX (n - 1) P gf lb encs G N w0) (b5:zb w0 w) (c6:∀x,(encs x).size=ps.size)
  (I:Nat->World->Prop) (Ix:Code->World->Prop) (hI:∀k A B,I k A->Below w.heap.size A B->I k B) (hIx:∀c A B,Ix c A->A.grownBy B (some (w.heap.size+1))->Ix c B)
  (hG:∀k x A l,G k x A->w.heap.size<l->l<A.heap.size->(∃r,A.heap[l]?=some (.loop r))->∀o,G k x (A.putObj l o)) (h0:I 0 w) (a₁:α->Act)
  (a5:∀(l:Nat) (x:α) (W:World) (K:Act->World->Prop),K (a₁ x) W->
   assign.wpIn (Fence.wide.inRound l) (n - 1 - 1) P (Exit.then K (fun _ _ _=>False)) { tmps:=(ps.zip (encs x)).foldl (fun t (p,v)=>t.setIfInBounds p v) a.tmps,defers:=[] } W)
  (a9:∀(l k:Nat) (x:α) (W:World),k<N->I k W->G k x W->w.heap.size<W.heap.size->(∃r,W.heap[w.heap.size+1]?=some (.loop r))->body.wpIn (Fence.wide.inRound l) (n - 1 - 1) P (postB w.heap.size k I Ix W) (a₁ x) W)
  (b0:∀(D:Nat) (W:World),w.heap.size<=D->I N W->W.heap[D]?=some (.deferred (some []))->Q .normal { a with defers:={ target:=.collected D,args:=#[] } :: a.defers } W)
  (b2:∀(D:Nat) (c:Code) (W:World),w.heap.size<=D->Ix c W->W.heap[D]?=some (.deferred (some []))->c.wpIn Fence.wide n P Q { a with defers:={ target:=.collected D,args:=#[] } :: a.defers } W):
  (Code.rangeFunc g ps assign body).wpIn Fence.wide n P Q a w:=by
 refine wpIn_rangeFunc ?_;intro fn b9;obtain ⟨rec,E⟩:∃rec:LoopState->Option Code->Loop,rec=fun st pe=>{ state:=st,pending:=pe,fn,tmps:=a.tmps,params:=ps,assign,body,defers:=w.heap.size }:=⟨_,rfl⟩
 obtain ⟨W1,a4⟩:∃W1,(w.alloc (.deferred (some []))).alloc (.loop (rec .ready none))=W1:=⟨_,rfl⟩;have d4:W1.heap.size=w.heap.size+2:=by rw [<-a4];simp
 have b8:W1.heap[w.heap.size+1]?=some (.loop (rec .ready none)):=by
  rw [<-a4];have:=World.alloc_heap_new (w.alloc (.deferred (some []))) (.loop (rec .ready none))
  rwa [World.size_alloc] at this
 have b7:W1.heap[w.heap.size]?=some (.deferred (some [])):=by
  rw [<-a4];exact (EY _ _ _ (by simp)).trans (World.alloc_heap_new w _)
 have b4:zb w W1:=by rw [<-a4];exact ((zb.refl w).alloc _).alloc _
 refine ⟨w.heap.size+1,[{ target:=.collected w.heap.size,args:=#[] }],W1,{ target:=.fn (.func gf) lb,args:=#[.func (.yield (w.heap.size+1)) #[] #[]] },W1,gf,
  #[.func (.yield (w.heap.size+1)) #[] #[]]++lb,W1,?_,?_,fun _ _=>trivial,?_,fun h=>absurd h (by simp [Fence.wide]),?_⟩
 ·rw [<-a4,E];exact run_enterLoop_outer _ _ _ _ _
 ·simp only [resolve,hg];simp [go_sem]
 ·simp [invoke,go_sem,eg]
 ·refine (b6 (w.heap.size+1)
   (fun k W=>I k W/\W.heap[w.heap.size+1]?=some (.loop (rec .ready none))/\W.heap[w.heap.size]?=some (.deferred (some []))/\w.heap.size+1<W.heap.size)
   (fun W=>∃c,Ix c W/\W.heap[w.heap.size+1]?=some (.loop (rec .done (some c)))/\W.heap[w.heap.size]?=some (.deferred (some [])))
   W1 (b5.trans b4) (by have:=b5.size;omega) (by omega) ?_ ?_ ⟨hI _ _ _ h0 b4,b8,b7,by omega⟩).mono ?_
  ·rintro k A B ⟨h1,h2,h3,h4⟩ a6;exact ⟨hI _ _ _ h1 (a6.mono (by omega)),(a6.block _ (by omega)).trans h2,(a6.block _ (by omega)).trans h3,Fh h4 a6.size⟩
  ·-- one round
   rintro k x W c5 ⟨hi,hl,hD,a2⟩ c4;have hy:=run_yield (P:=P) (args:=encs x) hl (by rw [E];exact c6 x);rw [E] at hy;refine ⟨fn,_,assign,body,hy,roundIn_of_wpIn b9 (a5 _ x W _ ⟨_,run_beginRound hl (by rw [E]),?_⟩)⟩;have a1:(W.putObj (w.heap.size+1) (.loop { rec .ready none with state:=.busy })).heap[w.heap.size+1]?=some (.loop { rec .ready none with state:=.busy }):=World.putObj_heap_same a2;have a7:(W.putObj (w.heap.size+1) (.loop { rec .ready none with state:=.busy })).heap[w.heap.size]?=some (.deferred (some [])):=(World.putObj_heap_other (by omega)).trans hD;have T:w.heap.size+1<(W.putObj (w.heap.size+1) (.loop { rec .ready none with state:=.busy })).heap.size:=(FE.1 a1).1;have c0:W.grownBy (W.putObj (w.heap.size+1) (.loop { rec .ready none with state:=.busy })) (some (w.heap.size+1)):=grownBy_putObj' _ _ _;refine wpIn_mono (a9 _ k x _ c5 (hI _ _ _ hi (zG _ (by omega) a2)) (hG _ _ _ _ c4 (by omega) a2 ⟨_,hl⟩ _) (Nat.lt_trans (Nat.lt_succ_self _) T) ⟨_,a1⟩) ?_;generalize W.putObj (w.heap.size+1) (.loop { rec .ready none with state:=.busy })=W2 at*
   have fin:∀(jump:Option Code) (W3:World),W3.heap[w.heap.size+1]?=some (.loop { rec .ready none with state:=.busy })->
     (Instr.endRound (w.heap.size+1) jump).run P W3=.ok (.bool jump.isNone) (W3.putObj (w.heap.size+1) (.loop (rec (if jump.isNone then .ready else .done) jump))):=fun jump W3 J=>by
    have:=run_endRound (P:=P) jump J;rw [E] at this⊢;exact this
   rintro e a3 W3 hp
   cases e with
   | normal=>
    obtain ⟨V,a0⟩:=hp;have J:=(V.block _ T).trans a1;have z:=(FE.1 J).1;have U:=(V.block _ (by omega)).trans a7;refine ⟨_,_,fin none W3 J,.inl ⟨rfl,⟨hI _ _ _ a0 (zG _ (by omega) z),World.putObj_heap_same z,(World.putObj_heap_other (by omega)).trans U,?_⟩,?_⟩⟩
    ·exact (FE.1 (World.putObj_heap_same z)).1
    ·exact (c0.trans ⟨V.os,V.tape,V.output,V.size,fun i hi _=>V.block i hi⟩).trans (grownBy_putObj' _ _ _)
   | ret=>
    obtain ⟨O,a0⟩:=hp;have J:=(O _ (by omega) T).trans a1;have z:=(FE.1 J).1;have U:=(O _ (EG _) (by omega)).trans a7;exact ⟨_,_,fin (some .ret) W3 J,.inr ⟨rfl,.ret,hIx _ _ _ a0 (grownBy_putObj' _ _ _),World.putObj_heap_same z,(World.putObj_heap_other (by omega)).trans U⟩⟩
   | exit id=>
    obtain ⟨O,a0⟩:=hp;have J:=(O _ (by omega) T).trans a1;have z:=(FE.1 J).1;have U:=(O _ (EG _) (by omega)).trans a7;exact ⟨_,_,fin (some (.exit id)) W3 J,.inr ⟨rfl,.exit id,hIx _ _ _ a0 (grownBy_putObj' _ _ _),World.putObj_heap_same z,(World.putObj_heap_other (by omega)).trans U⟩⟩
   | goto t=>
    obtain ⟨O,a0⟩:=hp;have J:=(O _ (by omega) T).trans a1;have z:=(FE.1 J).1;have U:=(O _ (EG _) (by omega)).trans a7;exact ⟨_,_,fin (some (.goto t)) W3 J,.inr ⟨rfl,.goto t,hIx _ _ _ a0 (grownBy_putObj' _ _ _),World.putObj_heap_same z,(World.putObj_heap_other (by omega)).trans U⟩⟩
   | panic ch=>exact hp.elim
   | outgrown=>exact hp.elim
  ·-- behind the iterator
   rintro e W2 ⟨⟨v,rfl⟩,(⟨hi,hl,hD,a2⟩ | ⟨c,hi,hl,hD⟩)⟩
   ·exact ⟨none,_,by have:=run_endLoop (P:=P) hl (by rw [E];simp);rw [E] at this;exact this,b0 _ _ (EG _) (hI _ _ _ hi (zG _ (by omega) a2)) ((World.putObj_heap_other (by omega)).trans hD)⟩
   ·have a2:=(FE.1 hl).1;exact ⟨some c,_,by have:=run_endLoop (P:=P) hl (by rw [E];simp);rw [E] at this;exact this,b2 _ c _ (EG _) (hIx _ _ _ hi (grownBy_putObj' _ _ _)) ((World.putObj_heap_other (by omega)).trans hD)⟩
end
section
open Go.RowKit
attribute [local go_sem ↓] Go.wp_at_zero Go.wp_at_succ
attribute [local go_sem] Oper.semAt_some
theorem yieldAt_wide {m:Nat} (m':Nat) {l:Nat} {args:Array Value} {W:World} {R:Ending->World->Prop} (h:YieldAt Fence.wide m P l args W R):YieldAt Fence.wide m' P l args W R:=by
 obtain ⟨fn,tmps,assign,body,z,o⟩:=h;exact ⟨fn,tmps,assign,body,z,o.1,fun c cs _=>o.2 c cs (room_wide _)⟩
def offK (zs:List Int) (s:Nat):Nat:=((List.range s).flatMap fun k=>zI k zs).length
theorem offK_succ (zs:List Int) (s:Nat):offK zs (s+1)=offK zs s+(zI s zs).length:=by
 unfold offK;rw [List.range_succ,List.flatMap_append,EO];simp
theorem subs_split (zs:List Int) (o:s<=zs.length):∃R,AV zs=((List.range s).flatMap fun k=>zI k zs)++(zI s zs++R):=by
 refine ⟨((List.range (zs.length - s)).map (s+1+·)).flatMap fun k=>zI k zs,?_⟩;unfold AV
 have h:List.range (zs.length+1)=List.range s++([s]++(List.range (zs.length - s)).map (s+1+·)):=by
  have h1:zs.length+1=(s+1)+(zs.length - s):=by omega
  rw [h1,List.range_add,List.range_succ,List.append_assoc]
 rw [h,List.flatMap_append,List.flatMap_append];simp
theorem subs_out (zs:List Int) (E:s<=zs.length):OutAt (AV zs) (offK zs s) [] (zI s zs):=fun i c o=>by
 obtain ⟨R,z⟩:=subs_split zs E;have D:i<(zI s zs).length:=(FD.1 o).1;rw [z,EM (by unfold offK;omega)];rw [show offK zs s+i - ((List.range s).flatMap fun k=>zI k zs).length=i from by unfold offK;omega,EL D,o];rfl
theorem subs_len (zs:List Int) (z:s<=zs.length):offK zs s+(zI s zs).length<=(AV zs).length:=by
 obtain ⟨R,o⟩:=subs_split zs z;rw [o];simp only [EO];unfold offK;omega
theorem offK_all (zs:List Int):offK zs (zs.length+1)=(AV zs).length:=rfl
theorem subs_gives {v:Value} (w:World) (h:zj w (fun _=>True) v zs) (hl:w.cell? ⟨gl,0,none⟩=some v) (hz:zs.length<=900) (n:Nat):
  GivesX n Tryz.prog 72 #[.pointer (some ⟨gl,0,none⟩)] (fun x:Value=>#[x]) (fun k x W=>zj W (fun b=>w.heap.size<=b) x ((AV zs).getD k [])) (AV zs).length w:=by
 intro l J Jx W hW b5 a6 hJ hY h0;refine callsIn_wide.2 ?_
 have a4:∀(B:Nat),w.heap.size<=B->∀k u W1,k<(AV zs).length->J k W1->zj W1 (fun b=>B<=b) u ((AV zs).getD k [])->YieldAt Fence.wide 5 Tryz.prog l #[u] W1 fun e W'=>∃b,e=.returned (.bool b)/\(b=true->J (k+1) W'/\W1.grownBy W' (some l))/\(b=false->Jx W'):=fun B hB k u W1 hk hj hu=>by
  have h1:=hY k u W1 hk hj (hu.weaken fun b hb=>EI hB hb);refine (yieldAt_wide 5 h1).mono ?_;rintro e W' (⟨rfl,h2,h3⟩ | ⟨rfl,h2⟩)
  ·exact ⟨true,rfl,fun _=>⟨h2,h3⟩,fun h=>(by cases h)⟩
  ·exact ⟨false,rfl,fun h=>(by cases h),fun _=>h2⟩
 have HY:=zh a4;have HJ:=zh hJ;have a0:=zh h0;have HI:=zh (h.bound.keep (zW.of_below hW));have a9:gl<w.heap.size:=zo hl;have HB:Hid (w.heap.size<=l/\l<W.heap.size/\w.heap.size<=W.heap.size/\gl<w.heap.size):=⟨b5,a6,hW.size,a9⟩;have D:=hW.cell hl;obtain ⟨Av,cv,rfl,f0,-⟩:=h;clear hY hJ h0 b5 a6 hW a4 hl a9;have V:=zh D;have rcl:=zb.rule D;clear D
 go_enter Tryz.func72,Tryz.ntmps72
 go_wp2;obtain ⟨B,hB⟩:=zad (W.heap.size+2);obtain ⟨W1,o⟩:∃W1,(W.alloc (.cells #[.func (.yield l) #[] #[]] 114)).alloc (.cells #[.func (.func 73) #[] #[.pointer (some ⟨W.heap.size,0,none⟩),.pointer (some ⟨gl,0,none⟩),.pointer (some ⟨W.heap.size+1,0,none⟩)]] 115)=W1:=⟨_,rfl⟩;rw [o];have E:zb W W1:=by rw [<-o];exact ((zb.refl W).alloc _).alloc _
 have d6:W1.heap.size=B:=by rw [<-o,hB];simp
 have O:Hid (Ctx l B W.heap.size gl (W.heap.size+1) Av cv zs W1):=by
  obtain ⟨b1,b2,b3,b4⟩:=HB.out;refine ⟨?_,E.cell V.out,?_,fun j hj=>?_,⟨by omega,by omega,by omega,by omega⟩,⟨by omega,by omega,by omega⟩,by omega⟩
  ·rw [<-o];exact ((zb.refl _).alloc _).cell (zr W _ _ rfl)
  ·rw [<-o];exact zr _ _ _ (by simp)
  ·obtain ⟨A,c,e,hc,hr⟩:=HI.out;injection e with e1 e2 e3;subst e1;obtain ⟨b,off,e,⟨-,hb⟩,U⟩:=hr.2 (by omega);refine ⟨b,off,e,by omega,by omega,E.cell (U j _ (by rw [Fq,EE hj];rfl))⟩
 have c5:Hid (J 0 W1):=HJ.out _ _ _ a0.out E;have c7:Hid (∀k A A',J k A->Below B A A'->J k A'):=fun k A A' h hb=>HJ.out k A A' h (hb.mono (by omega))
 have c9:W.heap.size+1<B:=by omega
 have b9:Hid (w.heap.size<=B):=by (show _<=_);have:=HB.out;omega
 obtain ⟨gy,a5⟩:∃gy,W.heap.size=gy:=⟨_,rfl⟩;obtain ⟨gc,I⟩:∃gc,gy+1=gc:=⟨_,rfl⟩;rw [a5] at O⊢;rw [I] at O⊢;clear o d6 HJ E hB HB V rcl HI a0 c9 a5 I;go_loopw [4] (fun i wr=>∃s:Nat,s<=zs.length+1/\i=.int .i64 (s:Nat)/\Hid (Ctx l B gy gl gc Av cv zs wr)/\Hid (J (offK zs s) wr)) (fun i _=>zs.length+1 - (intOf i).toNat)
 case atStart=>exact ⟨0,by omega,rfl,O,c5⟩
 case round=>
  obtain ⟨s,hs,rfl,hC,a3⟩:=hrel;have D:=hC.out.z;by_cases a7:s<=zs.length
  ·have a8:(s:Int)<=(zs.length:Int):=by omega
   have f4:IntKind.i64.wrap ((s:Int)+1)=(s:Int)+1:=by rw [Fb];omega
   have HO:Hid (OutAt (AV zs) (offK zs s) [] (zI s (zs.drop 0))):=by rw [List.drop_zero];exact subs_out zs a7
   have HL:Hid (offK zs s+(zI s (zs.drop 0)).length<=(AV zs).length):=by rw [List.drop_zero];exact subs_len zs a7
   have HS:Hid (offK zs s+(zI s (zs.drop 0)).length=offK zs (s+1)):=by rw [List.drop_zero];exact (offK_succ zs s).symm
   have c8:=hC.out.c;have rcc:=zb.rule hC.out.c
   go_wp2_with fail
   refine (choose_calls (by omega) c7.out (HY.out B b9.out) s [] 0 _ (offK zs s) wr hC.out (Pref.nil _ _) (by simp;omega) (by omega) HO.out HL.out a3.out).mono ?_;rintro e wc ⟨b,rfl,G,T⟩;rw [HS.out] at G
   cases b with
   | false=>
    have HX:=zh (T rfl);clear G T;go_wp2;refine FC (results_none rfl _ _ _) rfl ?_;exact ⟨⟨_,rfl⟩,.inr HX.out⟩
   | true=>
    obtain ⟨hR,a2⟩:=G rfl;have c0:=zh (hC.out.rc hR);have c6:=zh a2;clear G T hR a2 rcc c8 D;go_wp2;go_roundw
    case rel=>exact ⟨s+1,by omega,by go_num,c0,c6⟩
    case measure=>simp [intOf];omega
  ·have a8:¬ ((s:Int)<=(zs.length:Int)):=by omega
   have b0:s=zs.length+1:=by omega
   have HF:Hid (J (AV zs).length wr):=by have:=a3.out;rw [b0,offK_all] at this;exact this
   clear b0
   go_wp2_with fail
   refine bodyPost_end (results_none rfl _ _ _) rfl ?_;exact ⟨⟨_,rfl⟩,.inl HF.out⟩
theorem subsets_calls {v:Value} (w:World) (h:zj w (fun _=>True) v zs) (o:zs.length<=900):
  Calls Tryz.prog 38 #[v] w fun e w'=>∃gl,e=.returned (.func (.func 72) #[] #[.pointer (some ⟨gl,0,none⟩)])/\zb w w'/\∀W,zb w' W->∀n,GivesX n Tryz.prog 72 #[.pointer (some ⟨gl,0,none⟩)] (fun x:Value=>#[x]) (fun k x W'=>zj W' (fun b=>W.heap.size<=b) x ((AV zs).getD k [])) (AV zs).length W:=by
 have H:=zh h;obtain ⟨A,c,rfl,z,-⟩:=h
 go_enter Tryz.func38,Tryz.ntmps38
 go_wp2;go_ret;refine ⟨_,rfl,(zb.refl w).alloc _,fun W hW n=>?_⟩;exact subs_gives W ((H.out.below ((zb.refl w).alloc _)).below hW) (hW.cell (zr w _ _ rfl)) o n
end
end Go.Proofs.YthbjngbhbbkkgaaGreat
