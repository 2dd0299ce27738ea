import Derived.Test.YthbjngbhbbkkgaaGreatHRb
import Derived.Maps.AppendAt
import Derived.WalkSmall
import Derived.Deep.LoopGhost
set_option linter.unusedVariables false
set_option linter.unusedSimpArgs false
set_option maxRecDepth 100000
set_option maxHeartbeats 16000000
namespace Go.Proofs.YthbjngbhbbkkgaaGreat
variable {c i:Array Value} {x:Int} {from_ l used:List Int} {m:MZ} {j k n t:Nat} {ok:Nat->Prop}
section
open Go.RowKit
theorem Ba {B:Nat} {a w w':World} {g:Nat} (h:Below B a w) (E:w.grownBy w' (some g)) (z:B<=w.heap.size) (D:B<=g):Below B a w':=
 h.grown E z (fun k o=>by injection o with o;omega)
theorem setOf_calls {v:Value} (w:World) (h:zj w ok v l) (hl:l.length<=20000000000000):
  Calls Tryz.prog 60 #[v] w fun e w'=>∃s,e=.returned (.map (some w.heap.size))/\Below w.heap.size w w'/\zF w' w.heap.size s/\∀x,x∈s↔x∈l:=by
 obtain ⟨A,c,rfl,V,L⟩:=h;have Q:=zh L;clear L;have U:=@run_makeMap Tryz.prog
 go_enter Tryz.func60,Tryz.ntmps60
 go_wp2;go_loopw [9] (fun i wr=>∃k s,k<=l.length/\i=.int .i64 (k:Nat)/\Hid (Below w.heap.size w wr)/\Hid (zF wr w.heap.size s)/\Hid (∀x,x∈s↔x∈l.take k)) (fun i _=>l.length - (intOf i).toNat)
 case atStart=>exact ⟨0,[],EU _,rfl,(Below.refl _ _).alloc (EG _) _,zF.new w,by simp [Hid]⟩
 case round=>
  obtain ⟨k,s,hk,rfl,E,M,O⟩:=hrel;by_cases z:k<l.length
  ·obtain ⟨b,off,rfl,_,o⟩:=zy (Q.out.keep (zW.of_below E.out)) z z;obtain ⟨y,J⟩:=zad (l[k]);rw [<-J] at o;have T:=zh J;clear J
   go_wp2_with (at_mapUpdate;refine CC rfl _ _ _ _ rfl Tryz.underlying79 w.heap.size s y rfl rfl rfl M.out ?_)
   intro w1 D B;have I:=zh D;clear D;have G:=zh B;clear B;go_wp2;go_roundw
   case rel=>exact ⟨k+1,ins s y,by omega,by go_num,Ba E.out G.out E.out.size (EG _),I.out,fun x=>by
    rw [mem_ins,Aa z,O.out,T.out]⟩
   case measure=>simp [intOf];omega
  ·obtain rfl:k=l.length:=by omega
   go_wp2;go_ret;exact ⟨s,rfl,E.out,M.out,fun x=>by have:=O.out x;rwa [ER] at this⟩
def zD (w:World) (B:Nat) (v:Value) (l:List Int):Prop:=w.ownsRow B 3 1 v l.length (l.map (Value.int .i64))
theorem AQ {ops:Array Oper} {rest:List Oper} {o:Oper} {a:Act} {Q:Exit->Act->World->Prop} (E:o.guard=none) (s y:Operand)
  (T:o.op=.call { callee:=.builtin .append,args:=#[s,y],argTypes:=#[23,23] }) (W:World) (l:List Int) (x:Int) (B g c:Nat) (v:Value) (U:a.eval s=v)
  (V:a.eval y=.slice (some ⟨g,0,none⟩) 1 c) (z:W.ownsRow B 3 1 v l.length (l.map (Value.int .i64))) (M:W.cell? ⟨g,0,none⟩=some (.int .i64 x)) (L:B<=W.heap.size) (hl:l.length<=1000000000000)
  (h:∀v' w',zD w' B v' (l++[x])->Hid (W.grownBy w' v.ownBlock)->Hid (v'.ownBlock=v.ownBlock\/v'.ownBlock=some W.heap.size)->wpList Tryz.prog ops Q rest (a.put o.dst v') w'):wpList Tryz.prog ops Q (o :: rest) a W:=by
 obtain ⟨i0,O,G,I,J⟩:=info_parts Tryz.infoInt;refine wpList_append_own_at _ E _ _ 23 T B 3 i0 (.int .i64 0) 1 8 Tryz.underlying23 O G I J rfl (by decide) _ _ _ U z ⟨g,0,none⟩ 1 c [.int .i64 x] V rfl ?_ ?_ ?_ ?_ L ?_
 ·intro j u D
  match j,D with
  | 0,D=>
   have:u=.int .i64 x:=by simpa using D.symm
   rw [this];exact M
 ·intro u D;have:u=.int .i64 x:=by simpa using D
  rw [this];rfl
 ·unfold maxLen;omega
 ·omega
 ·intro v' w' h1 h2 _ h3;refine h v' w' ?_ h2 h3;unfold zD;rw [map_snoc,EO];exact h1
structure RI (w wr:World) (g:Nat) (mv:Array Value) (s todo:List Int) (v:Value):Prop where
 below:Below w.heap.size w wr
 ge:w.heap.size<=g
 box:zk wr g 32 mv
 set:zF wr (g+1) s
 own:wr.ownsRow (g+2) 3 1 v todo.length (todo.map (Value.int .i64))
section
variable {w wr w':World} {g:Nat} {mv:Array Value} {s todo:List Int} {v:Value}
theorem RI.lt (h:RI w wr g mv s todo v):g+1<wr.heap.size:=zd h.set
theorem RI.call (h:RI w wr g mv s todo v) (o:Below wr.heap.size wr w'):RI w w' g mv s todo v:=
 ⟨BC h.below o (EG _),h.ge,h.box.below o (by have:=h.lt;omega),h.set.below o,
  h.own.kept (row:=none) ⟨o.os,o.tape,o.output,o.size,fun i z _=>o.block i z⟩ (by cases h:v.ownBlock <;> simp)⟩
theorem RI.alloc (h:RI w wr g mv s todo v) (o:Obj):RI w (wr.alloc o) g mv s todo v:=h.call ((Below.refl _ _).alloc (EG _) _)
theorem RI.add (h:RI w wr g mv s todo v) (z:zF w' (g+1) (ins s x)) (o:wr.grownBy w' (some (g+1))):RI w w' g mv (ins s x) todo v:=
 ⟨Ba h.below o h.below.size (by have:=h.ge;omega),h.ge,(o.block g (by have:=h.lt;omega) (fun e=>by injection e;omega)).trans h.box,z,
  h.own.kept o (.inr (fun e=>by have:=(h.own.lt _ e).1;omega))⟩
theorem RI.app {v':Value} (h:RI w wr g mv s todo v) (B:w'.ownsRow (g+2) 3 1 v' (todo++[x]).length ((todo++[x]).map (Value.int .i64))) (o:wr.grownBy w' v.ownBlock):RI w w' g mv s (todo++[x]) v':=
 ⟨h.below.grown o h.below.size (fun k z=>by have:=(h.own.lt _ z).1;have:=h.ge;omega),h.ge,
  (o.block g (by have:=h.lt;omega) (fun e=>by have:=(h.own.lt _ e.symm).1;omega)).trans h.box,
  (o.block (g+1) h.lt (fun e=>by have:=(h.own.lt _ e.symm).1;omega)).trans h.set,B⟩
end
theorem look_t {w:World} {g:Nat} (h:zF w g l) (o:x∈l):(Instr.lookup 79 (.map (some g)) (.int .i64 x) false).run Tryz.prog w=.ok (.bool true) w:=by
 have:=run_look h x 79 Tryz.underlying79
 rwa [EJ o] at this
theorem look_f {w:World} {g:Nat} (h:zF w g l) (o:x∉l):(Instr.lookup 79 (.map (some g)) (.int .i64 x) false).run Tryz.prog w=.ok (.bool false) w:=by
 have:=run_look h x 79 Tryz.underlying79
 rwa [EK o] at this
theorem ins_new (h:x∉l):ins l x=l++[x]:=by simp [ins,h]
theorem nodup_snoc (h:l.Nodup) (B:x∉l):(l++[x]).Nodup:=by
 rw [List.nodup_append]
 exact ⟨h,by simp,fun a o b z=>by
  have:b=x:=by simpa using z
  subst this;rintro rfl;exact B o⟩
structure RO (m:MZ) (t:Nat) (from_ used s todo:List Int):Prop where
 nd:s.Nodup
 rp:∀x∈s,RP m t from_ used x
 fr:∀x∈from_,0<=x->x<m.n->x∈s
 sub:∀x∈todo,x∈s
 cl:∀y∈s,y∉todo->∀z∈zl m y,zi m t z=true->z∉used->z∈s
 ln:todo.length<=s.length
structure RJ (m:MZ) (t:Nat) (from_ used s todo:List Int) (x:Int) (j:Nat):Prop where
 nd:s.Nodup
 rp:∀x∈s,RP m t from_ used x
 fr:∀x∈from_,0<=x->x<m.n->x∈s
 sub:∀x∈todo,x∈s
 xs:x∈s
 cl:∀y∈s,y∉todo->y≠x->∀z∈zl m y,zi m t z=true->z∉used->z∈s
 cx:∀z∈(zl m x).take j,zi m t z=true->z∉used->z∈s
 ln:todo.length<=s.length
theorem RO.pop {s todo:List Int} (h:RO m t from_ used s (todo++[x])):RJ m t from_ used s todo x 0:=
 ⟨h.nd,h.rp,h.fr,fun y z=>h.sub y (by simp [z]),h.sub x (by simp),fun y z B o=>h.cl y z (by simp [B,o]),by simp,by have:=h.ln;simp at this;omega⟩
theorem RJ.skip {s todo:List Int} (h:RJ m t from_ used s todo x j) (D:j<(zl m x).length) (E:(zl m x)[j]∈s\/zi m t (zl m x)[j]=false\/(zl m x)[j]∈used):
  RJ m t from_ used s todo x (j+1):=
 ⟨h.nd,h.rp,h.fr,h.sub,h.xs,h.cl,fun z G o B=>by
  rcases (Aa D z).1 G with h1 | h1
  ·exact h.cx z h1 o B
  ·subst h1;rcases E with h2 | h2 | h2
   ·exact h2
   ·rw [o] at h2;cases h2
   ·exact absurd h2 B,h.ln⟩
theorem RJ.push {s todo:List Int} (h:RJ m t from_ used s todo x j) (I:j<(zl m x).length) (M:(zl m x)[j]∉s) (L:zi m t (zl m x)[j]=true) (O:(zl m x)[j]∉used):
  RJ m t from_ used (s++[(zl m x)[j]]) (todo++[(zl m x)[j]]) x (j+1):=
 ⟨nodup_snoc h.nd M,fun y hy=>by
   rw [Fx,Fo] at hy;rcases hy with hy | rfl
   ·exact h.rp y hy
   ·exact (h.rp x h.xs).step (EH I) L O,
  fun y hy h0 h1=>by simp [h.fr y hy h0 h1],
  fun y hy=>by
   rw [Fx,Fo] at hy⊢;rcases hy with hy | hy
   ·exact .inl (h.sub y hy)
   ·exact .inr hy,
  by simp [h.xs],
  fun y hy D E z G o B=>by
   rw [Fx,Fo] at hy D;rcases hy with hy | hy
   ·simp [h.cl y hy (fun J=>D (.inl J)) E z G o B]
   ·exact absurd (.inr hy) D,
  fun z G o B=>by
   rcases (Aa I z).1 G with h1 | h1
   ·simp [h.cx z h1 o B]
   ·simp [h1],by have:=h.ln;simp;omega⟩
theorem RJ.done {s todo:List Int} (h:RJ m t from_ used s todo x j) (E:(zl m x).length<=j):RO m t from_ used s todo:=
 ⟨h.nd,h.rp,h.fr,h.sub,fun y I G z J B D=>by
  by_cases o:y=x
  ·subst o;exact h.cx z (by rwa [List.take_of_length_le E]) B D
  ·exact h.cl y I G o z J B D,h.ln⟩
theorem RO.end_ {s:List Int} (h:RO m t from_ used s []) (x:Int):x∈s↔RP m t from_ used x:=
 ⟨h.rp x,fun B=>B (·∈s) h.fr (fun y z E G o D=>h.cl y E (by simp) z G o D)⟩
theorem Ck {w:World} {base:Nat} {e:TypeId} {size g cap:Nat} {xs:List Value} (h:w.ownsRow base e size (.slice (some ⟨g,0,none⟩) n cap) n xs):n<=cap:=by
 rcases h.2 with ⟨h0,_⟩ | ⟨g',cap',cur,z,_,_,o,_⟩
 ·cases h0
 ·cases z;exact o
theorem Bc (m:MZ) (x:Int):(zl m x).length<=6:=by
 have h (c:Bool) (y:Int) (l:List Int) (k:Nat) (o:l.length<=k):(ap c y l).length<=k+1:=EI (ap_len c y l) (by omega);unfold zl;exact h _ _ _ 5 (h _ _ _ 4 (h _ _ _ 3 (h _ _ _ 2 (h _ _ _ 1 (h _ _ _ 0 (by simp))))))
theorem reach_calls {ok':Nat->Prop} {vm vf:Value} {gu:Nat} (t:Nat) (w:World) (hm:zw w ok vm m) (d:Ex m) (ht:t<m.free.length) (f3:∀f∈m.free,(f.length:Int)=m.n)
  (hf:zj w ok' vf from_) (hl:from_.length<=20000000000000) (hu:zF w gu used):
  Calls Tryz.prog 59 #[vm,.int .i64 t,vf,.map (some gu)] w fun e w'=>∃s,e=.returned (.map (some (w.heap.size+1)))/\Below w.heap.size w w'/\zF w' (w.heap.size+1) s/\∀x,x∈s↔RP m t from_ used x:=by
 have f6:=hm;obtain ⟨vfr,vup,vts,rfl,a2,_,_⟩:=hm;obtain ⟨vsf,⟨Af,cf,rfl,l2,f9⟩,f2⟩:=a2;obtain ⟨A,c,rfl,hc,hr⟩:=hf;obtain ⟨l5,l6⟩:=d.layer;have D:=zh d;obtain ⟨w1,w2,l3,l4,ll1,ll2,n1,j1⟩:=d;have HM:=zh f6;clear f6;have h6:=zh f9;clear f9;have h4:=zh f2;clear f2;have HR:=zh hr;clear hr;have HU:=zh hu;clear hu;have h5:=zh f3;clear f3 j1;have hN:0<=m.w*m.h*m.l:=by omega
 have l8:=@run_makeMap Tryz.prog
 go_enter Tryz.func59,Tryz.ntmps59
 go_wp2
 have e8:RI w ((w.alloc (.cells #[.int .i64 m.w,.int .i64 m.h,.int .i64 m.l,.slice Af m.free.length cf,vup,vts] 32)).alloc (.map #[] 0)) w.heap.size #[.int .i64 m.w,.int .i64 m.h,.int .i64 m.l,.slice Af m.free.length cf,vup,vts] [] [] (.slice none 0 0):=by
  refine ⟨((Below.refl _ _).alloc (EG _) _).alloc (by simp) _,EG _,?_,?_,World.ownsRow_nil _ _ _ _⟩
  ·exact zk.alloc (Fu w _) _
  ·have:=zF.new (w.alloc (.cells #[.int .i64 m.w,.int .i64 m.h,.int .i64 m.l,.slice Af m.free.length cf,vup,vts] 32));simpa using this
 go_loopw [10,19] (fun v i wr=>∃k s,k<=from_.length/\i=.int .i64 (k:Nat)/\Hid (RI w wr w.heap.size #[.int .i64 m.w,.int .i64 m.h,.int .i64 m.l,.slice Af m.free.length cf,vup,vts] s s v)/\Hid (s.Nodup)/\Hid (∀x,x∈s↔x∈from_.take k/\0<=x/\x<m.n)) (fun _ i _=>from_.length - (intOf i).toNat)
 case atStart=>exact ⟨0,[],EU _,rfl,e8,List.nodup_nil,by simp [Hid]⟩
 clear e8
 case round=>
  obtain ⟨k,s,hk,rfl,hI,hnd,hx⟩:=hrel;by_cases o:k<from_.length
  ·obtain ⟨b,off,rfl,_,B⟩:=zy (HR.out.keep (zW.of_below hI.out.below)) o o;obtain ⟨y,U⟩:=zad (from_[k]);rw [<-U] at B;have HY:=zh U;clear U;obtain ⟨m0,m1,m2,m3,m4,m5⟩:=zA hI.out.box;by_cases g5:0<=y
   ·by_cases j4:y<m.w*m.h*m.l
    ·have b9:∀W:World,Calls Tryz.prog 43 #[.agg #[.int .i64 m.w,.int .i64 m.h,.int .i64 m.l,.slice Af m.free.length cf,vup,vts]] W _:=fun W=>AC m.w m.h m.l _ vup vts W (by omega) (by omega)
     have b8:=zh b9;clear b9;by_cases z:y∈s
     ·go_wp2_with fail
      refine (b8.out _).mono ?_;rintro e w' ⟨rfl,hb⟩;have Q:=zh (hI.out.call hb);have a4:=look_t Q.out.set z
      go_wp2_with fail
      go_roundw
      case rel=>exact ⟨k+1,s,by omega,by go_num,Q,hnd,fun x=>by
       rw [Aa o,hx.out,<-HY.out];constructor
       ·rintro ⟨h1,h2⟩;exact ⟨.inl h1,h2⟩
       ·rintro ⟨h1 | rfl,h2⟩
        ·exact ⟨h1,h2⟩
        ·exact (hx.out x).1 z⟩
      case measure=>simp [intOf];omega
     ·go_wp2_with fail
      refine (b8.out _).mono ?_;rintro e w' ⟨rfl,hb⟩;have Q:=zh (hI.out.call hb);have a4:=look_f Q.out.set z
      go_wp2_with (at_mapUpdate;refine CC rfl _ _ _ _ rfl Tryz.underlying79 (w.heap.size+1) s y rfl rfl rfl Q.out.set ?_)
      intro wa a8 L;have I:=zh (Q.out.add a8 L);have T:wa.heap.size=wa.heap.size:=rfl;have i6:w.heap.size+2<=wa.heap.size:=I.out.lt;have c6:=Bo hnd.out m.n (fun x j3=>((hx.out x).1 j3).2);have i7:s.length<=300:=by unfold MZ.n at c6;omega
      clear a8 L a4 c6
      go_wp2_with (at_builtin;refine AQ rfl _ _ rfl _ s y (w.heap.size+2) wa.heap.size 1 _ rfl rfl (I.out.own.alloc _) ?c1 ?c2 ?c3 ?_)
      case c2=>(first | omega | (simp;omega))
      case c3=>omega
      intro v' wb a6 M _;have d6:=zh ((I.out.alloc _).app a6 M.out);clear a6 M;go_wp2;go_roundw
      case rel=>exact ⟨k+1,s++[y],by omega,by go_num,by have:=d6.out;rwa [ins_new z] at this,nodup_snoc hnd.out z,fun x=>by
       rw [Fx,Fo,Aa o,hx.out,<-HY.out];constructor
       ·rintro (⟨h1,h2⟩ | rfl)
        ·exact ⟨.inl h1,h2⟩
        ·exact ⟨.inr rfl,g5,j4⟩
       ·rintro ⟨h1 | rfl,h2⟩
        ·exact .inl ⟨h1,h2⟩
        ·exact .inr rfl⟩
      case measure=>simp [intOf];omega
    ·go_wp2_with (go_at_call 43;refine (AC _ _ _ _ _ _ _ (by omega) (by omega)).mono ?_;rintro e w' ⟨rfl,hb⟩)
     go_roundw
     case rel=>exact ⟨k+1,s,by omega,by go_num,hI.out.call ‹_›,hnd,fun x=>by
      rw [Aa o,hx.out,<-HY.out];constructor
      ·rintro ⟨h1,h2⟩;exact ⟨.inl h1,h2⟩
      ·rintro ⟨h1 | rfl,h2,h3⟩
       ·exact ⟨h1,h2,h3⟩
       ·unfold MZ.n at h3;omega⟩
     case measure=>simp [intOf];omega
   ·go_wp2;go_roundw
    case rel=>exact ⟨k+1,s,by omega,by go_num,hI,hnd,fun x=>by
     rw [Aa o,hx.out,<-HY.out];constructor
     ·rintro ⟨h1,h2⟩;exact ⟨.inl h1,h2⟩
     ·rintro ⟨h1 | rfl,h2,h3⟩
      ·exact ⟨h1,h2,h3⟩
      ·omega⟩
    case measure=>simp [intOf];omega
  ·obtain rfl:k=from_.length:=by omega
   have b0:Hid (∀x,x∈s↔x∈from_/\0<=x/\x<m.n):=fun x=>by have:=hx.out x;rwa [ER] at this
   clear hx;have hO:Hid (RO m t from_ used s s):=⟨hnd.out,fun x h=>RP.base ((b0.out x).1 h).1 ((b0.out x).1 h).2.1 ((b0.out x).1 h).2.2,fun x h h0 h1=>(b0.out x).2 ⟨h,h0,h1⟩,fun x h=>h,fun y h hn=>absurd h hn,EG _⟩;clear b0 hnd o hk;go_wp2
   go_loopg [10] (2*(m.n.toNat - s.length)+s.length) (fun gk v wr=>∃s todo,gk=2*(m.n.toNat - s.length)+todo.length/\Hid (RI w wr w.heap.size #[.int .i64 m.w,.int .i64 m.h,.int .i64 m.l,.slice Af m.free.length cf,vup,vts] s todo v)/\Hid (RO m t from_ used s todo))
   case atStart=>exact ⟨s,s,rfl,hI,hO⟩
   clear hI hO
   case round=>
    obtain ⟨s,todo,rfl,hI,hO⟩:=hrel;obtain ⟨wo,rfl⟩:∃wo:World,wo=wr:=⟨_,rfl⟩;rcases List.eq_nil_or_concat todo with rfl | ⟨td,x,rfl⟩
    ·obtain ⟨A0,c0,hv⟩:∃A0 c0,u10=.slice A0 0 c0:=by
      obtain ⟨A0,c0,hv,_⟩:=AI.of_own hI.out.own;exact ⟨A0,c0,hv⟩
     subst hv;go_wp2;go_ret;exact ⟨s,rfl,hI.out.below,hI.out.set,hO.out.end_⟩
    ·rw [List.concat_eq_append] at hI hO;obtain ⟨gt,ct,hv,j8,f4⟩:=hI.out.own.form (by simp);subst hv;have e4:(td++[x]).length=td.length+1:=by simp
     try rw [e4]
     have i5:wo.cell? ⟨gt,td.length,none⟩=some (.int .i64 x):=by
      have:=hI.out.own.cellAt td.length (by simp);rw [this];simp
     have V:=zh hO.out.pop;have i4:=Ck hI.out.own;rw [e4] at i4;have i9:=(hO.out.rp x (V.out.xs)).range D.out;have j0:=Bo hO.out.nd m.n (fun y U=>(hO.out.rp y U).range D.out);have m7:=V.out.ln;have k2:s.length<=300:=by unfold MZ.n at j0;omega
     obtain ⟨g3,g4⟩:=i9;obtain ⟨m0,m1,m2,m3,m4,m5⟩:=zA hI.out.box
     have d5:Hid (RI w wo w.heap.size #[.int .i64 m.w,.int .i64 m.h,.int .i64 m.l,.slice Af m.free.length cf,vup,vts] s td (.slice (some ⟨gt,0,none⟩) td.length ct)):=by
      have h:=hI.out.own;refine ⟨hI.out.below,hI.out.ge,hI.out.box,hI.out.set,?_⟩;rw [map_snoc,e4] at h;exact ownsRow_pop (by simp) h
     clear hI hO
     go_wp2_with fail
     refine (Du m x wo (HM.out.keep (zW.of_below d5.out.below)) D.out g3 g4).mono ?_;rintro e wk ⟨v',rfl,f0,e3⟩;have e7:=zh (d5.out.call f0);have f7:=zh (AI.of_own e3);have j9:=zh e3;clear e3;obtain ⟨A2,c2,j2,l1,c7⟩:=f7.out;subst j2;clear f7;have m6:=Bc m x;have i8:=HM.out;have e6:=zh c7;clear c7;clear i8 m0 m1 m2 m3 m4 m5 i5;have k6:wo.heap.size<=wk.heap.size:=f0.size;go_wp2;go_loopw [10,62] (fun v i wi=>∃j s' todo',j<=(zl m x).length/\i=.int .i64 (j:Nat)/\Hid (RI w wi w.heap.size #[.int .i64 m.w,.int .i64 m.h,.int .i64 m.l,.slice Af m.free.length cf,vup,vts] s' todo' v)/\Hid (RJ m t from_ used s' todo' x j)/\Hid (zW (fun b=>wo.heap.size<=b/\b<wk.heap.size) wk wi)/\Hid (∀k,v.ownBlock=some k->k<wo.heap.size\/wk.heap.size<=k)/\Hid (wk.heap.size<=wi.heap.size)/\Hid (todo'.length+s.length=td.length+s'.length/\s.length<=s'.length)) (fun _ i _=>(zl m x).length - (intOf i).toNat)
     case atStart=>exact ⟨0,s,td,EU _,rfl,e7,V,zW.refl _ _,fun k hk=>by
      have:k=gt:=by simpa [Value.ownBlock] using hk.symm
      subst this;exact .inl f4,EG _,rfl,EG _⟩
     clear d5 e7 V
     case round=>
      obtain ⟨j,s',todo',hj,rfl,hI,V,hS,a0,T,a5⟩:=hrel;by_cases a3:j<(zl m x).length
      ·obtain ⟨b2,off2,rfl,i1,E⟩:=zy e6.out a3 a3;have a1:=zo E;have B:=(CK (hS.out b2 ⟨i1,a1⟩ a1)).trans E;clear E;have g6:=An D.out g3 g4 (EH a3);have G:=zh (V.out.skip a3);have a7:=zh (V.out.push a3);obtain ⟨y,U⟩:=zad ((zl m x)[j]);rw [<-U] at B g6 G a7;clear U;obtain ⟨g5,m8⟩:=g6;obtain ⟨m0,m1,m2,m3,m4,m5⟩:=zA hI.out.box;obtain ⟨bf,off3,uf,rfl,_,c5,i2⟩:=Ai (h6.out.keep (zW.of_below hI.out.below)) h4.out ht ht;have J:=h5.out _ (EH ht);obtain ⟨A4,c4,rfl,i3,f8⟩:=i2;have b6:y.toNat<(m.free[t]).length:=by omega
       obtain ⟨b4,off4,rfl,_,O⟩:=Cj (f8.keep (zW.of_below hI.out.below)) b6 b6;have a2:(m.free[t])[y.toNat]=zi m t y:=by simp [zi,ht,b6]
       rw [a2] at O;have k7:=zh a2;clear a2;obtain ⟨nf,e0⟩:=zad ((m.free[t]).length);rw [<-e0] at c5 b6 J i3;have k8:=zh e0;clear e0;have j6:=zh J;clear J;clear f8;have a9:=hI.out.set;have d4:=HU.out.below hI.out.below;by_cases z:y∈s'
       ·have a4:=look_t a9 z;go_wp2;go_roundw
        case rel=>exact ⟨j+1,s',todo',by omega,by go_num,hI,G.out (.inl z),hS,a0,T,a5⟩
        case measure=>simp [intOf];omega
       ·have a4:=look_f a9 z;by_cases hf:zi m t y=true
        ·rw [hf] at O;by_cases b7:y∈used
         ·have f5:=look_t d4 b7;have HF:=zh hf;clear hf;go_wp2;go_roundw
          case rel=>exact ⟨j+1,s',todo',by omega,by go_num,hI,G.out (.inr (.inr b7)),hS,a0,T,a5⟩
          case measure=>simp [intOf];omega
         ·have f5:=look_f d4 b7;have HF:=zh hf;clear hf;have h7:=zh (a7.out z HF.out b7);have c8:=Bo V.out.nd m.n (fun y U=>(V.out.rp y U).range D.out);have k3:=V.out.ln;have k4:todo'.length<=300:=by unfold MZ.n at c8;omega
          go_wp2_with (at_mapUpdate;refine CC rfl _ _ _ _ rfl Tryz.underlying79 (w.heap.size+1) s' y rfl rfl rfl hI.out.set ?_)
          intro wa a8 L;have I:=zh (hI.out.add a8 L)
          have h9:Hid (zW (fun b=>wo.heap.size<=b/\b<wk.heap.size) wk wa):=fun b hb o=>by
           refine (L.block b (Fh o T.out) (fun e=>?_)).trans (hS.out b hb o);injection e with e;have:=hb.1;omega
          have e5:Hid (wk.heap.size<=wa.heap.size):=EI T.out L.size;have i6:w.heap.size+2<=wa.heap.size:=I.out.lt;clear a8 L a4 f5 a9 d4 m0 m1 m2 m3 m4 m5 c5 O B
          go_wp2_with (at_builtin;refine AQ rfl _ _ rfl _ todo' y (w.heap.size+2) wa.heap.size 1 _ rfl rfl (I.out.own.alloc _) ?d1 ?d2 ?d3 ?_)
          (try case d1=>simp)
          case d2=>(first | omega | (simp;omega))
          case d3=>omega
          intro v' wb a6 M f1;have d6:=zh ((I.out.alloc _).app a6 M.out)
          have h8:Hid (∀k,v'.ownBlock=some k->k<wo.heap.size\/wk.heap.size<=k):=fun k hk=>by
           rcases f1.out with e | e
           ·exact a0.out k (e ▸ hk)
           ·have:k=wa.heap.size+1 - 1+1:=by
             rw [e] at hk;simpa using hk.symm
            have:=e5.out;omega
          have i0:Hid (zW (fun b=>wo.heap.size<=b/\b<wk.heap.size) wk wb):=fun b hb o=>by
           have hz:=e5.out;refine (M.out.block b (by simp;omega) (fun e=>?_)).trans ((EY wa _ b (by omega)).trans (h9.out b hb o));have h1:=a0.out b e.symm;have h2:=hb.1;omega
          have j5:Hid (wk.heap.size<=wb.heap.size):=by
           have h1:=M.out.size;have h2:=e5.out;simp at h1;show _<=_;omega
          clear a6 M f1;go_wp2;go_roundw
          case rel=>exact ⟨j+1,s'++[y],todo'++[y],by omega,by go_num,by have:=d6.out;rwa [ins_new z] at this,h7,i0,h8,j5,by have h1:=a5.out;show _/\_;simp only [EO,zab,zac];omega⟩
          case measure=>simp [intOf];omega
        ·have d8:zi m t y=false:=by simpa using hf
         rw [d8] at O;have HF:=zh d8;clear hf d8;go_wp2;go_roundw
         case rel=>exact ⟨j+1,s',todo',by omega,by go_num,hI,G.out (.inr (.inl HF.out)),hS,a0,T,a5⟩
         case measure=>simp [intOf];omega
      ·have d7:=zh (V.out.done (by omega));have c8:=Bo d7.out.nd m.n (fun y U=>(d7.out.rp y U).range D.out);have l7:=a5.out;go_wp2
       go_roundg (2*(m.n.toNat - s'.length)+todo'.length)
       case measure=>
        have h1:(td.concat x).length=td.length+1:=by simp
        rw [h1];omega
       case rel=>exact ⟨s',todo',rfl,hI,d7⟩
theorem AZ {α:Type} {l:List α} (p:α->Bool) (h:k<l.length):(l.take (k+1)).any p=((l.take k).any p || p l[k]):=by
 rw [EN h,List.any_append];simp
theorem Ar {P: Program} {n: FuncId} {fn: Func} (h : P.funcs[n]? = some fn) (hn : (fn.name == "runtime.NumGoroutine") = false) (hb : fn.body.isNone = false) (a : Array Value) (w : World) : (callFunc n a).run P w = .ok (.enter n a) w := by
 unfold callFunc;simp only [Sem.run_bind,run_program,Result.andThen_ok,h,hn,hb,Bool.false_eq_true,if_false,Sem.run_pure]
theorem DK {v:Value} (n:FuncId) (caps:Array Value) (p:Int->Bool) (w:World) (h:zj w ok v l) (hl:l.length<=20000000000000)
  (a2:∀(a:Array Value) (w:World),(callFunc n a).run Tryz.prog w=.ok (.enter n a) w)
  (hp:∀x∈l,∀w1,zK w w1->Calls Tryz.prog n (#[.int .i64 x]++caps) w1 fun e w'=>e=.returned (.bool (p x))/\zK w1 w'):
  Calls Tryz.prog 82 #[v,.func (.func n) #[] caps] w fun e w'=>∃r:Int,e=.returned (.int .i64 r)/\(0<=r↔l.any p=true)/\-1<=r/\zK w w':=by
 obtain ⟨A,c,rfl,hc,V⟩:=h;have HR:=zh V;clear V;have HP:=zh hp;clear hp
 go_enter Tryz.func82,Tryz.ntmps82
 go_wp2_with fail
 go_loopw [8] (fun i wr=>∃k:Nat,k<=l.length/\i=.int .i64 k/\Hid ((l.take k).any p=false)/\Hid (zK w wr)) (fun i _=>l.length - (intOf i).toNat)
 case atStart=>exact ⟨0,EU _,rfl,by simp [Hid],zK.refl _⟩
 case round=>
  obtain ⟨k,hk,rfl,U,M⟩:=hrel;by_cases J:k<l.length
  ·obtain ⟨b,off,rfl,_,I⟩:=zy (HR.out.keep (M.out.same ok)) J J;obtain ⟨x,Q⟩:=zad (l[k]);rw [<-Q] at I;have O:x∈l:=by rw [Q];exact EH _
   have D:=zh (AZ p J);rw [<-Q] at D;clear Q;have o:=zh (HP.out x O wr M.out);by_cases B:p x=true
   ·go_wp2_with fail
    refine o.out.mono ?_;rintro e w1 ⟨rfl,z⟩;rw [B];have E:=zh (M.out.trans z);clear z;have G:=zh B;clear B
    go_wp2_with fail
    go_ret;refine ⟨_,rfl,⟨fun _=>?_,fun _=>by omega⟩,by omega,E.out⟩;rw [FM];exact ⟨x,O,G.out⟩
   ·have L:p x=false:=by simpa using B
    clear B
    go_wp2_with fail
    refine o.out.mono ?_;rintro e w1 ⟨rfl,z⟩;rw [L];have E:=zh (M.out.trans z);clear z;have G:=zh L;clear L
    go_wp2_with fail
    go_roundw
    case rel=>exact ⟨k+1,by omega,by go_num,by
     show _=false;rw [D.out,U.out,G.out];rfl,E⟩
    case measure=>simp [intOf];omega
  ·obtain rfl:k=l.length:=by omega
   go_wp2;go_ret;have h:=U.out;rw [ER] at h;refine ⟨_,rfl,⟨fun T=>by omega,fun T=>?_⟩,by omega,M.out⟩;rw [h] at T
   cases T
theorem indexFuncB_calls {v:Value} {l:List (List Bool)} (n:FuncId) (caps:Array Value) (p:List Bool->Bool) (w:World) (h:Each (BB w ok) w ok v l) (hl:l.length<=20000000000000)
  (a4:∀(a:Array Value) (w:World),(callFunc n a).run Tryz.prog w=.ok (.enter n a) w)
  (hp:∀x∈l,∀u,BB w ok u x->∀w1,zK w w1->Calls Tryz.prog n (#[u]++caps) w1 fun e w'=>e=.returned (.bool (p x))/\zK w1 w'):
  Calls Tryz.prog 102 #[v,.func (.func n) #[] caps] w fun e w'=>∃r:Int,e=.returned (.int .i64 r)/\(0<=r↔l.any p=true)/\-1<=r/\zK w w':=by
 obtain ⟨vs,⟨A,c,rfl,hc,hr⟩,he⟩:=h;have HR:=zh hr;clear hr;have HE:=zh he;clear he;have HP:=zh hp;clear hp
 go_enter Tryz.func102,Tryz.ntmps102
 go_wp2_with fail
 go_loopw [8] (fun i wr=>∃k:Nat,k<=l.length/\i=.int .i64 k/\Hid ((l.take k).any p=false)/\Hid (zK w wr)) (fun i _=>l.length - (intOf i).toNat)
 case atStart=>exact ⟨0,EU _,rfl,by simp [Hid],zK.refl _⟩
 case round=>
  obtain ⟨k,hk,rfl,V,L⟩:=hrel;by_cases I:k<l.length
  ·obtain ⟨b,off,u,rfl,_,T,U⟩:=Ai (HR.out.keep (L.out.same ok)) HE.out I I;obtain ⟨x,O⟩:=zad (l[k]);rw [<-O] at U;have M:x∈l:=by rw [O];exact EH _
   have D:=zh (AZ p I);rw [<-O] at D;clear O;have o:=zh (HP.out x M u U wr L.out);clear U;by_cases B:p x=true
   ·go_wp2_with fail
    refine o.out.mono ?_;rintro e w1 ⟨rfl,z⟩;rw [B];have E:=zh (L.out.trans z);clear z;have G:=zh B;clear B
    go_wp2_with fail
    go_ret;refine ⟨_,rfl,⟨fun _=>?_,fun _=>by omega⟩,by omega,E.out⟩;rw [FM];exact ⟨x,M,G.out⟩
   ·have J:p x=false:=by simpa using B
    clear B
    go_wp2_with fail
    refine o.out.mono ?_;rintro e w1 ⟨rfl,z⟩;rw [J];have E:=zh (L.out.trans z);clear z;have G:=zh J;clear J
    go_wp2_with fail
    go_roundw
    case rel=>exact ⟨k+1,by omega,by go_num,by
     show _=false;rw [D.out,V.out,G.out];rfl,E⟩
    case measure=>simp [intOf];omega
  ·obtain rfl:k=l.length:=by omega
   go_wp2;go_ret;have h:=V.out;rw [ER] at h;refine ⟨_,rfl,⟨fun Q=>by omega,fun Q=>?_⟩,by omega,L.out⟩;rw [h] at Q
   cases Q
theorem Bz {v:Value} {l:List (Int)} (n:FuncId) (caps:Array Value) (p:Int->Bool) (w:World) (h:zj w ok v l) (G:l.length<=20000000000000) (z:∀(a:Array Value) (w:World),(callFunc n a).run Tryz.prog w=.ok (.enter n a) w)
  (hp:∀x∈l,∀w1,zK w w1->Calls Tryz.prog n (#[.int .i64 x]++caps) w1 fun e w'=>e=.returned (.bool (p x))/\zK w1 w'):
  Calls Tryz.prog 54 #[v,.func (.func n) #[] caps] w fun e w'=>e=.returned (.bool (l.any p))/\zK w w':=by
 have H:=zh (DK n caps p w h G z hp);clear hp;obtain ⟨A,c,rfl,J,o⟩:=h;clear o
 go_enter Tryz.func54,Tryz.ntmps54
 go_wp2_with fail
 refine H.out.mono ?_;rintro e w1 ⟨r,rfl,o,I,B⟩;have E:=zh o;clear o;have D:=zh B;clear B
 go_wp2_with fail
 go_ret;refine ⟨ze ?_,D.out⟩;rw [Bool.eq_iff_iff,decide_eq_true_iff];exact E.out
theorem Ez {v:Value} {l:List (List Bool)} (n:FuncId) (caps:Array Value) (p:List Bool->Bool) (w:World) (h:Each (BB w ok) w ok v l) (G:l.length<=20000000000000) (z:∀(a:Array Value) (w:World),(callFunc n a).run Tryz.prog w=.ok (.enter n a) w)
  (hp:∀x∈l,∀u,BB w ok u x->∀w1,zK w w1->Calls Tryz.prog n (#[u]++caps) w1 fun e w'=>e=.returned (.bool (p x))/\zK w1 w'):
  Calls Tryz.prog 76 #[v,.func (.func n) #[] caps] w fun e w'=>e=.returned (.bool (l.any p))/\zK w w':=by
 have H:=zh (indexFuncB_calls n caps p w h G z hp);clear hp;obtain ⟨vs,⟨A,c,rfl,J,o⟩,he⟩:=h;clear o he
 go_enter Tryz.func76,Tryz.ntmps76
 go_wp2_with fail
 refine H.out.mono ?_;rintro e w1 ⟨r,rfl,o,I,B⟩;have E:=zh o;clear o;have D:=zh B;clear B
 go_wp2_with fail
 go_ret;refine ⟨ze ?_,D.out⟩;rw [Bool.eq_iff_iff,decide_eq_true_iff];exact E.out
def zY (n x:Int):Bool:=decide (x<0) || decide (n<=x)
def side (x:Int):Bool:=decide (x<1) || decide (300<x)
def AO (m:MZ):Int:=
 if [m.w,m.h,m.l].any side then 2
 else if 300<m.n\/6<m.tasks.length then 2
 else if m.free.length≠m.tasks.length\/(m.up.length:Int)≠m.n\/m.free.any (fun f=>(f.length:Int) != m.n)=true then 1
 else if m.tasks.any (fun t=>t.1.any (zY m.n) || t.2.any (zY m.n)) then 50
 else 0
theorem cf51 (a:Array Value) (w:World):(callFunc 77 a).run Tryz.prog w=.ok (.enter 77 a) w:=Ar Tryz.func77 (by kernel_rfl) (by kernel_rfl) a w
theorem cf52 (a:Array Value) (w:World):(callFunc 78 a).run Tryz.prog w=.ok (.enter 78 a) w:=Ar Tryz.func78 (by kernel_rfl) (by kernel_rfl) a w
theorem check1_calls {u:Value} {f:List Bool} (g:Nat) (n:Int) (w:World) (B:BB w ok u f) (D:w.cell? ⟨g,0,none⟩=some (.int .i64 n)):
  Calls Tryz.prog 77 #[u,.pointer (some ⟨g,0,none⟩)] w fun e w'=>e=.returned (.bool ((f.length:Int) != n))/\zK w w':=by
 obtain ⟨A,c,rfl,o,z⟩:=B;clear z
 go_enter Tryz.func77,Tryz.ntmps77
 go_wp2;go_ret;exact ⟨rfl,zK.refl _⟩
theorem check2_calls (g:Nat) (n x:Int) (w:World) (z:w.cell? ⟨g,0,none⟩=some (.int .i64 n)):
  Calls Tryz.prog 78 #[.int .i64 x,.pointer (some ⟨g,0,none⟩)] w fun e w'=>e=.returned (.bool (zY n x))/\zK w w':=by
 by_cases o:x<0
 ·go_enter Tryz.func78,Tryz.ntmps78
  go_wp2;go_ret;exact ⟨ze (by simp [zY,o]),zK.refl _⟩
 ·go_enter Tryz.func78,Tryz.ntmps78
  go_wp2;go_ret;refine ⟨ze ?_,zK.refl _⟩;simp [zY];omega
structure Lens (m:MZ):Prop where
 fr:m.free.length<=20000000000000
 up:m.up.length<=20000000000000
 ts:m.tasks.length<=20000000000000
 tl:∀t∈m.tasks,t.1.length<=400000000000/\t.2.length<=400000000000
theorem three_cells {w:World} {g:Nat} {t:TypeId} {a b c:Int} (h:zk w g t #[.int .i64 a,.int .i64 b,.int .i64 c]) (k:Nat) (o:k<3):w.cell? ⟨g,k,none⟩=some (.int .i64 ([a,b,c][k])):=by
 unfold zk at h;unfold World.cell?;simp only [h]
 match k,o with
 | 0,_=>rfl
 | 1,_=>rfl
 | 2,_=>rfl
theorem AJ {w:World} {A:Option Addr} {c:Nat} {l:List (List Int×List Int)} (h:BU w ok (.slice A n c) l) (B:k<l.length):
  ∃b off s u1 u2,A=some ⟨b,off,none⟩/\ok b/\w.cell? ⟨b,off+k*3,none⟩=some (.string s)/\w.cell? ⟨b,off+k*3+1,none⟩=some u1/\w.cell? ⟨b,off+k*3+2,none⟩=some u2/\zj w ok u1 l[k].1/\zj w ok u2 l[k].2:=by
 obtain ⟨vs,⟨A',c',D,_,E,o⟩,he⟩:=h;injection D with e1 e2 e3;subst e1;obtain ⟨b,off,rfl,z,o⟩:=o (by omega);obtain ⟨s,u1,u2,h0,h1,h2,i1,i2⟩:=he k _ (EE B);exact ⟨b,off,s,u1,u2,rfl,z,o _ _ h0,by rw [Nat.add_assoc];exact o _ _ h1,by rw [Nat.add_assoc];exact o _ _ h2,i1,i2⟩
structure CI (w wr:World) (cells:Array Value) (ints:Array Value):Prop where
 below:Below w.heap.size w wr
 box:zk wr w.heap.size 32 cells
 ints:zk wr (w.heap.size+1) 3 ints
theorem CI.call {w wr w':World} (h:CI w wr c i) (o:Below wr.heap.size wr w'):CI w w' c i:=
 ⟨BC h.below o (EG _),h.box.below o (zd h.box),h.ints.below o (zd h.ints)⟩
theorem CI.new (w:World) (c i:Array Value):CI w ((w.alloc (.cells c 32)).alloc (.cells i 3)) c i:=
 ⟨((Below.refl _ _).alloc (EG _) _).alloc (by simp) _,zk.alloc (Fu w _) _,by
  have:=Fu (w.alloc (.cells c 32)) (.cells i 3);simpa [zk] using this⟩
theorem chk_side (h:[m.w,m.h,m.l].any side=true):AO m=2:=by
 unfold AO;rw [if_pos h]
structure CJ (w wr:World) (cells:Array Value) (g:Nat) (n:Int):Prop where
 below:Below w.heap.size w wr
 box:zk wr w.heap.size 32 cells
 all:wr.cell? ⟨g,0,none⟩=some (.int .i64 n)
theorem CJ.call {w wr w':World} {g:Nat} {n:Int} (h:CJ w wr c g n) (o:Below wr.heap.size wr w'):CJ w w' c g n:=
 ⟨BC h.below o (EG _),h.box.below o (zd h.box),(CK (o.block g (zo h.all))).trans h.all⟩
theorem CJ.new {w w':World} (h:CI w w' c i) (n:Int):CJ w (w'.alloc (.cells #[.int .i64 n] 3)) c w'.heap.size n:=
 ⟨h.below.alloc (Nat.le_of_lt (zd h.box)) _,h.box.alloc _,by
  have:=Fu w' (.cells #[.int .i64 n] 3);unfold World.cell?;simp only [this];rfl⟩
theorem CJ.alloc {w wr:World} {c:Array Value} {g:Nat} {n:Int} (h:CJ w wr c g n) (o:Obj):CJ w (wr.alloc o) c g n:=
 ⟨h.below.alloc (Nat.le_of_lt (zd h.box)) _,h.box.alloc _,(CK (EY wr o g (zo h.all))).trans h.all⟩
theorem cells3 {w:World} {g:Nat} {t:TypeId} {a0 a1 a2:Value} (h:zk w g t #[a0,a1,a2]):
  w.cell? ⟨g,0,none⟩=some a0/\w.cell? ⟨g,1,none⟩=some a1/\w.cell? ⟨g,2,none⟩=some a2:=by
 unfold zk at h;unfold World.cell?;simp only [h];exact ⟨rfl,rfl,rfl⟩
theorem sides (h:[m.w,m.h,m.l].any side=false):(1<=m.w/\m.w<=300)/\(1<=m.h/\m.h<=300)/\(1<=m.l/\m.l<=300):=by
 simp [side] at h;omega
theorem sides_mul (h:[m.w,m.h,m.l].any side=false):(1<=m.w*m.h/\m.w*m.h<=90000)/\(1<=m.w*m.h*m.l/\m.w*m.h*m.l<=27000000):=by
 obtain ⟨⟨a1,a2⟩,⟨b1,b2⟩,c1,c2⟩:=sides h;have h1:1<=m.w*m.h:=by have:=Int.mul_pos (a:=m.w) (b:=m.h) (by omega) (by omega);omega
 have h2:m.w*m.h<=300*300:=Int.mul_le_mul a2 b2 (by omega) (by omega);have h3:1<=m.w*m.h*m.l:=by have:=Int.mul_pos (a:=m.w*m.h) (b:=m.l) (by omega) (by omega);omega
 have o:m.w*m.h*m.l<=300*300*300:=Int.mul_le_mul h2 c2 (by omega) (by omega);omega
theorem Bv {v:Value} (w:World) (hm:zw w ok v m) (hl:Lens m):
  Calls Tryz.prog 41 #[v] w fun e w'=>e=.returned (.int .i64 (AO m))/\Below w.heap.size w w':=by
 have e9:=hm;obtain ⟨vfr,vup,vts,rfl,e6,f5,f3⟩:=hm;obtain ⟨vsf,⟨Af,cf,rfl,e4,c4⟩,b9⟩:=e6;obtain ⟨Au,cu,rfl,g5,f2⟩:=f5;obtain ⟨vst,⟨At,ct,rfl,e5,c5⟩,c0⟩:=f3;obtain ⟨l1,l2,l3,l4⟩:=hl;have d6:=zh c4;clear c4;have c9:=zh b9;clear b9;have d7:=zh c5;clear c5;have d4:=zh c0;clear c0;have d5:=zh l4;clear l4;clear f2 e9
 go_enter Tryz.func41,Tryz.ntmps41
 go_wp2;have b5:=CI.new w #[.int .i64 m.w,.int .i64 m.h,.int .i64 m.l,.slice Af m.free.length cf,.slice Au m.up.length cu,.slice At m.tasks.length ct] #[.int .i64 m.w,.int .i64 m.h,.int .i64 m.l];go_loopw [17] (fun i wr=>∃k:Nat,k<=3/\i=.int .i64 k/\Hid (([m.w,m.h,m.l].take k).any side=false)/\Hid (CI w wr #[.int .i64 m.w,.int .i64 m.h,.int .i64 m.l,.slice Af m.free.length cf,.slice Au m.up.length cu,.slice At m.tasks.length ct] #[.int .i64 m.w,.int .i64 m.h,.int .i64 m.l])) (fun i _=>3 - (intOf i).toNat)
 case atStart=>exact ⟨0,by omega,rfl,by simp [Hid],b5⟩
 clear b5
 case round=>
  obtain ⟨k,hk,rfl,L,hI⟩:=hrel;by_cases J:k<3
  ·obtain ⟨x,hx⟩:=zad ([m.w,m.h,m.l][k]'J);have a4:=three_cells hI.out.ints k J;rw [<-hx] at a4;have B:=zh (AZ (l:=[m.w,m.h,m.l]) side J);rw [<-hx] at B;have HX:=zh (show x∈[m.w,m.h,m.l] by rw [hx];exact EH _);clear hx;by_cases h1:x<1
   ·go_wp2;go_ret;refine ⟨AW ?_,hI.out.below⟩;rw [chk_side];exact FM.2 ⟨x,HX.out,by simp [side,h1]⟩
   ·by_cases h2:300<x
    ·go_wp2;go_ret;refine ⟨AW ?_,hI.out.below⟩;rw [chk_side];exact FM.2 ⟨x,HX.out,by simp [side,h2]⟩
    ·have HS:=zh (show side x=false by simp [side,h1,h2]);go_wp2;go_roundw
     case rel=>exact ⟨k+1,by omega,by go_num,by
      show _=false;rw [B.out,L.out,HS.out];rfl,hI⟩
     case measure=>simp [intOf];omega
  ·obtain rfl:k=3:=by omega
   have HN:Hid ([m.w,m.h,m.l].any side=false):=L.out;clear L;obtain ⟨m0,m1,m2,m3,m4,m5⟩:=zA hI.out.box;obtain ⟨⟨p1,p2⟩,p3,p4⟩:=sides_mul HN.out
   have O:300<m.n\/6<m.tasks.length->AO m=2:=by
    intro h;unfold AO;rw [if_neg (by rw [HN.out];simp),if_pos h]
   have b2:=zh O;clear O
   go_wp2_with fail
   refine (AC _ _ _ _ _ _ _ (by omega) (by omega)).mono ?_;rintro e w' ⟨rfl,hb⟩;have z:=zh (hI.out.call hb);clear hI m0 m1 m2 m3 m4 m5 hb;have d8:∀o,_:=fun o=>zA (z.out.box.alloc o)
   by_cases L:300<m.w*m.h*m.l
   ·go_wp2;go_ret;exact ⟨AW (b2.out (.inl L)).symm,z.out.below.alloc (Nat.le_of_lt (zd z.out.box)) _⟩
   by_cases ht:6<m.tasks.length
   ·go_wp2;go_ret;exact ⟨AW (b2.out (.inr ht)).symm,z.out.below.alloc (Nat.le_of_lt (zd z.out.box)) _⟩
   have M:(m.free.length≠m.tasks.length\/(m.up.length:Int)≠m.n\/m.free.any (fun f=>(f.length:Int) != m.n)=true)->AO m=1:=by
    intro h;unfold AO;rw [if_neg (by rw [HN.out];simp),if_neg (by unfold MZ.n;omega),if_pos h]
   have a0:=zh M;clear M;by_cases hf:m.free.length=m.tasks.length
   case neg=>
    go_wp2;go_ret;exact ⟨AW (a0.out (.inl hf)).symm,z.out.below.alloc (Nat.le_of_lt (zd z.out.box)) _⟩
   by_cases hu:(m.up.length:Int)=m.w*m.h*m.l
   case neg=>
    go_wp2;go_ret;exact ⟨AW (a0.out (.inr (.inl hu))).symm,z.out.below.alloc (Nat.le_of_lt (zd z.out.box)) _⟩
   have Q:=zh (CJ.new z.out (m.w*m.h*m.l));have g6:w.heap.size<w'.heap.size:=zd z.out.box;clear z
   have b4:Bj w ok (.slice Af m.tasks.length cf) m.free:=by
    rw [<-hf];exact ⟨vsf,⟨Af,cf,rfl,e4,d6.out⟩,c9.out⟩
   go_wp2_with fail
   refine (Ez (ok:=ok) 77 _ (fun f=>(f.length:Int) != m.w*m.h*m.l) _ (b4.below Q.out.below) l1 cf51 ?hp).mono ?_
   case hp=>exact fun x hx u hu w1 E=>check1_calls w'.heap.size _ w1 (hu.keep (E.same ok)) (Q.out.call (E.below _)).all
   rintro e w1 ⟨rfl,E⟩;have D:=zh (Q.out.call (E.below _));clear Q E d8;by_cases ha:m.free.any (fun f=>(f.length:Int) != m.w*m.h*m.l)=true
   ·rw [ha];go_wp2;go_ret;exact ⟨AW (a0.out (.inr (.inr ha))).symm,D.out.below⟩
   have a3:=zh (show m.free.any (fun f=>(f.length:Int) != m.w*m.h*m.l)=false by simpa using ha);clear ha;rw [a3.out];obtain ⟨m0,m1,m2,m3,m4,m5⟩:=zA D.out.box;have a2:BU w ok (.slice At m.tasks.length ct) m.tasks:=⟨vst,⟨At,ct,rfl,e5,d7.out⟩,d4.out⟩
   go_wp2_with fail
   go_loopw [62] (fun i wr=>∃k:Nat,k<=m.tasks.length/\i=.int .i64 k/\Hid ((m.tasks.take k).any (fun t=>t.1.any (zY m.n) || t.2.any (zY m.n))=false)/\Hid (CJ w wr #[.int .i64 m.w,.int .i64 m.h,.int .i64 m.l,.slice Af m.free.length cf,.slice Au m.up.length cu,.slice At m.tasks.length ct] w'.heap.size (m.w*m.h*m.l))) (fun i _=>m.tasks.length - (intOf i).toNat)
   case atStart=>exact ⟨0,by omega,rfl,by simp [Hid],D⟩
   clear D m0 m1 m2 m3 m4 m5 b4
   case round=>
    obtain ⟨k,hk,rfl,L,hI⟩:=hrel;by_cases J:k<m.tasks.length
    ·obtain ⟨b,off,sn,u1,u2,rfl,_,g4,e0,e3,a5,a6⟩:=AJ (a2.below hI.out.below) J;obtain ⟨A1,c1,rfl,b7,f0⟩:=a5.open;obtain ⟨A2,c2,rfl,b8,f1⟩:=a6.open;obtain ⟨e7,e8⟩:=d5.out _ (EH J);clear f0 f1;have a9:=zh a5;clear a5;have b0:=zh a6;clear a6;have g3:=zh a2;clear a2;obtain ⟨t,ht⟩:=zad (m.tasks[k]);rw [<-ht] at a9 b0 e0 e3 b7 b8 e7 e8;have B:=zh (AZ (fun t=>t.1.any (zY m.n) || t.2.any (zY m.n)) J);rw [<-ht] at B;have HM:=zh (show t∈m.tasks by rw [ht];exact EH _);clear ht;have D:=zh (hI.out.alloc (.cells #[.string sn,.slice A1 t.1.length c1,.slice A2 t.2.length c2] 56));have a1:=zh (Fu wr (.cells #[.string sn,.slice A1 t.1.length c1,.slice A2 t.2.length c2] 56))
     have V:(t.1.any (zY m.n) || t.2.any (zY m.n))=true->AO m=50:=by
      intro h;unfold AO;rw [if_neg (by rw [HN.out];simp),if_neg (by unfold MZ.n;omega),if_neg (by unfold MZ.n;rw [a3.out];simp;omega),if_pos (FM.2 ⟨t,HM.out,h⟩)]
     have U:=zh V;clear V
     go_wp2_with fail
     refine (Bz (ok:=ok) 78 _ (zY (m.w*m.h*m.l)) _ (a9.out.below ((Below.refl _ _).alloc (EG _) _)) (by omega) cf52 ?hp).mono ?_
     case hp=>exact fun x hx w1 E=>check2_calls w'.heap.size _ x w1 (D.out.call (E.below _)).all
     rintro e w4 ⟨rfl,E⟩;have T:=zh (D.out.call (E.below _));have b3:Hid (zk w4 wr.heap.size 56 _):=zk.below a1.out (E.below _) (zd a1.out);have d9:Hid (Below wr.heap.size wr w4):=((Below.refl _ _).alloc (EG _) _).trans (E.below _);clear E D a1;obtain ⟨q0,q1,q2⟩:=cells3 b3.out;by_cases G:t.1.any (zY (m.w*m.h*m.l))=true
     ·rw [G];go_wp2;go_ret;exact ⟨AW (U.out (by show (t.1.any (zY (m.w*m.h*m.l)) || _)=true;rw [G];rfl)).symm,T.out.below⟩
     ·have G:t.1.any (zY (m.w*m.h*m.l))=false:=by simpa using G
      rw [G];have c7:=zh G;clear G
      go_wp2_with fail
      refine (Bz (ok:=ok) 78 _ (zY (m.w*m.h*m.l)) _ (b0.out.below d9.out) (by omega) cf52 ?hp).mono ?_
      case hp=>exact fun x hx w1 E=>check2_calls w'.heap.size _ x w1 (T.out.call (E.below _)).all
      rintro e w5 ⟨rfl,E⟩;have b6:=zh (T.out.call (E.below _));clear E T b3 q0 q1 q2;by_cases I:t.2.any (zY (m.w*m.h*m.l))=true
      ·rw [I];go_wp2;go_ret;exact ⟨AW (U.out (by show (_ || t.2.any (zY (m.w*m.h*m.l)))=true;rw [I];simp)).symm,b6.out.below⟩
      ·have I:t.2.any (zY (m.w*m.h*m.l))=false:=by simpa using I
       rw [I];have c8:=zh I;clear I
       go_wp2_with fail
       go_roundw
       case rel=>exact ⟨k+1,by omega,by go_num,by
        show _=false;rw [B.out,L.out];show (_ || (t.1.any (zY (m.w*m.h*m.l)) || t.2.any (zY (m.w*m.h*m.l))))=false;rw [c7.out,c8.out];rfl,b6⟩
       case measure=>simp [intOf];omega
    ·obtain rfl:k=m.tasks.length:=by omega
     go_wp2;go_ret;refine ⟨AW ?_,hI.out.below⟩;have L:=L.out;rw [ER] at L;unfold AO;rw [if_neg (by rw [HN.out];simp),if_neg (by unfold MZ.n;omega),if_neg (by unfold MZ.n;rw [a3.out];simp;omega),if_neg (by rw [L];simp)]
end
end Go.Proofs.YthbjngbhbbkkgaaGreat
