import Derived.Test.YtcnaogdgjkpkmaaGreatDoorWSb
import Derived.Maps.AppendAt
import Derived.WalkSmall
import Derived.Deep.LoopGhost
set_option linter.unusedVariables false
set_option linter.unusedSimpArgs false
set_option maxRecDepth 100000
set_option maxHeartbeats 16000000
namespace Go.Proofs.YtcnaogdgjkpkmaaGreatDoor
variable {c i:Array Value} {x:Int} {from_ l used:List Int} {m:MZ} {j k n t:Nat} {ok:Nat->Prop}
section
open Go.RowKit
theorem AB {B:Nat} {a w w':World} {g:Nat} (h:Below B a w) (D:w.grownBy w' (some g)) (o:B<=w.heap.size) (r:B<=g):Below B a w':=
 h.grown D o (fun k d=>by injection d with d;omega)
theorem setOf_calls {v:Value} (w:World) (h:zn w ok v l) (hl:l.length<=20000000000000):
  Calls Tryz.prog 125 #[v] w fun e w'=>∃s,e=.returned (.map (some w.heap.size))/\Below w.heap.size w w'/\zB w' w.heap.size s/\∀x,x∈s↔x∈l:=by
 obtain ⟨A,c,rfl,U,J⟩:=h;have M:=zh J;clear J;have Q:=@run_makeMap Tryz.prog
 go_enter Tryz.func125,Tryz.ntmps125
 go_wp2;go_loopw [9] (fun i wr=>∃k s,k<=l.length/\i=.int .i64 (k:Nat)/\Hid (Below w.heap.size w wr)/\Hid (zB wr w.heap.size s)/\Hid (∀x,x∈s↔x∈l.take k)) (fun i _=>l.length - (intOf i).toNat)
 case atStart=>exact ⟨0,[],DR _,rfl,(Below.refl _ _).alloc (DC _) _,zB.new w,by simp [Hid]⟩
 case round=>
  obtain ⟨k,s,V,rfl,D,K,L⟩:=hrel;by_cases o:k<l.length
  ·obtain ⟨b,off,rfl,_,d⟩:=Ae (M.out.keep (zW.of_below D.out)) o o;obtain ⟨y,I⟩:=EH (l[k]);rw [<-I] at d;have O:=zh I;clear I
   go_wp2_with (at_mapUpdate;refine CA rfl _ _ _ _ rfl Tryz.underlying95 w.heap.size s y rfl rfl rfl K.out ?_)
   intro w1 B r;have G:=zh B;clear B;have E:=zh r;clear r;go_wp2;go_roundw
   case rel=>exact ⟨k+1,ins s y,by omega,by go_num,AB D.out E.out D.out.size (DC _),G.out,fun x=>by
    rw [mem_ins,zR o,L.out,O.out]⟩
   case measure=>simp [intOf];omega
  ·obtain rfl:k=l.length:=by omega
   go_wp2;go_ret;exact ⟨s,rfl,D.out,K.out,fun x=>by have:=L.out x;rwa [DN] at this⟩
def zF (w:World) (B:Nat) (v:Value) (l:List Int):Prop:=w.ownsRow B 3 1 v l.length (l.map (Value.int .i64))
theorem Dg {ops:Array Oper} {rest:List Oper} {o:Oper} {a:Act} {Q:Exit->Act->World->Prop} (D:o.guard=none) (s y:Operand)
  (O:o.op=.call { callee:=.builtin .append,args:=#[s,y],argTypes:=#[24,24] }) (W:World) (l:List Int) (x:Int) (B g c:Nat) (v:Value) (U:a.eval s=v)
  (V:a.eval y=.slice (some ⟨g,0,none⟩) 1 c) (d:W.ownsRow B 3 1 v l.length (l.map (Value.int .i64))) (L:W.cell? ⟨g,0,none⟩=some (.int .i64 x)) (K:B<=W.heap.size) (hl:l.length<=1000000000000)
  (h:∀v' w',zF w' B v' (l++[x])->Hid (W.grownBy w' v.ownBlock)->Hid (v'.ownBlock=v.ownBlock\/v'.ownBlock=some W.heap.size)->wpList Tryz.prog ops Q rest (a.put o.dst v') w'):wpList Tryz.prog ops Q (o :: rest) a W:=by
 obtain ⟨i0,M,E,G,I⟩:=info_parts Tryz.infoInt;refine wpList_append_own_at _ D _ _ 24 O B 3 i0 (.int .i64 0) 1 8 Tryz.underlying24 M E G I rfl (by decide) _ _ _ U d ⟨g,0,none⟩ 1 c [.int .i64 x] V rfl ?_ ?_ ?_ ?_ K ?_
 ·intro j u r
  match j,r with
  | 0,r=>
   have:u=.int .i64 x:=by simpa using r.symm
   rw [this];exact L
 ·intro u r;have:u=.int .i64 x:=by simpa using r
  rw [this];rfl
 ·unfold maxLen;omega
 ·omega
 ·intro v' w' h1 h2 _ J;refine h v' w' ?_ h2 J;unfold zF;rw [map_snoc,DK];exact h1
structure RI (w wr:World) (g:Nat) (mv:Array Value) (s todo:List Int) (v:Value):Prop where
 below:Below w.heap.size w wr
 ge:w.heap.size<=g
 box:zj wr g 35 mv
 set:zB wr (g+1) s
 own:wr.ownsRow (g+2) 3 1 v todo.length (todo.map (Value.int .i64))
section
variable {w wr w':World} {g:Nat} {mv:Array Value} {s todo:List Int} {v:Value}
theorem RI.lt (h:RI w wr g mv s todo v):g+1<wr.heap.size:=zb h.set
theorem RI.call (h:RI w wr g mv s todo v) (d:Below wr.heap.size wr w'):RI w w' g mv s todo v:=
 ⟨BB h.below d (DC _),h.ge,h.box.below d (by have:=h.lt;omega),h.set.below d,
  h.own.kept (row:=none) ⟨d.os,d.tape,d.output,d.size,fun i o _=>d.block i o⟩ (by cases h:v.ownBlock <;> simp)⟩
theorem RI.alloc (h:RI w wr g mv s todo v) (o:Obj):RI w (wr.alloc o) g mv s todo v:=h.call ((Below.refl _ _).alloc (DC _) _)
theorem RI.add (h:RI w wr g mv s todo v) (o:zB w' (g+1) (ins s x)) (d:wr.grownBy w' (some (g+1))):RI w w' g mv (ins s x) todo v:=
 ⟨AB h.below d h.below.size (by have:=h.ge;omega),h.ge,(d.block g (by have:=h.lt;omega) (fun e=>by injection e;omega)).trans h.box,o,
  h.own.kept d (.inr (fun e=>by have:=(h.own.lt _ e).1;omega))⟩
theorem RI.app {v':Value} (h:RI w wr g mv s todo v) (r:w'.ownsRow (g+2) 3 1 v' (todo++[x]).length ((todo++[x]).map (Value.int .i64))) (d:wr.grownBy w' v.ownBlock):RI w w' g mv s (todo++[x]) v':=
 ⟨h.below.grown d h.below.size (fun k o=>by have:=(h.own.lt _ o).1;have:=h.ge;omega),h.ge,
  (d.block g (by have:=h.lt;omega) (fun e=>by have:=(h.own.lt _ e.symm).1;omega)).trans h.box,
  (d.block (g+1) h.lt (fun e=>by have:=(h.own.lt _ e.symm).1;omega)).trans h.set,r⟩
end
theorem look_t {w:World} {g:Nat} (h:zB w g l) (d:x∈l):(Instr.lookup 95 (.map (some g)) (.int .i64 x) false).run Tryz.prog w=.ok (.bool true) w:=by
 have:=run_look h x 95 Tryz.underlying95
 rwa [DF d] at this
theorem look_f {w:World} {g:Nat} (h:zB w g l) (d:x∉l):(Instr.lookup 95 (.map (some g)) (.int .i64 x) false).run Tryz.prog w=.ok (.bool false) w:=by
 have:=run_look h x 95 Tryz.underlying95
 rwa [DG d] at this
theorem ins_new (h:x∉l):ins l x=l++[x]:=by simp [ins,h]
theorem nodup_snoc (h:l.Nodup) (r:x∉l):(l++[x]).Nodup:=by
 rw [List.nodup_append]
 exact ⟨h,by simp,fun a d b o=>by
  have:b=x:=by simpa using o
  subst this;rintro rfl;exact r d⟩
structure RO (m:MZ) (t:Nat) (from_ used s todo:List Int):Prop where
 nd:s.Nodup
 rp:∀x∈s,RP m t from_ used x
 fr:∀x∈from_,0<=x->x<m.n->x∈s
 sub:∀x∈todo,x∈s
 cl:∀y∈s,y∉todo->∀z∈zu m y,zl m t z=true->z∉used->z∈s
 ln:todo.length<=s.length
structure RJ (m:MZ) (t:Nat) (from_ used s todo:List Int) (x:Int) (j:Nat):Prop where
 nd:s.Nodup
 rp:∀x∈s,RP m t from_ used x
 fr:∀x∈from_,0<=x->x<m.n->x∈s
 sub:∀x∈todo,x∈s
 xs:x∈s
 cl:∀y∈s,y∉todo->y≠x->∀z∈zu m y,zl m t z=true->z∉used->z∈s
 cx:∀z∈(zu m x).take j,zl m t z=true->z∉used->z∈s
 ln:todo.length<=s.length
theorem RO.pop {s todo:List Int} (h:RO m t from_ used s (todo++[x])):RJ m t from_ used s todo x 0:=
 ⟨h.nd,h.rp,h.fr,fun y o=>h.sub y (by simp [o]),h.sub x (by simp),fun y o r d=>h.cl y o (by simp [r,d]),by simp,by have:=h.ln;simp at this;omega⟩
theorem RJ.skip {s todo:List Int} (h:RJ m t from_ used s todo x j) (o:j<(zu m x).length) (r:(zu m x)[j]∈s\/zl m t (zu m x)[j]=false\/(zu m x)[j]∈used):
  RJ m t from_ used s todo x (j+1):=
 ⟨h.nd,h.rp,h.fr,h.sub,h.xs,h.cl,fun z B hf d=>by
  rcases (zR o z).1 B with h1 | h1
  ·exact h.cx z h1 hf d
  ·subst h1;rcases r with h2 | h2 | h2
   ·exact h2
   ·rw [hf] at h2;cases h2
   ·exact absurd h2 d,h.ln⟩
theorem RJ.push {s todo:List Int} (h:RJ m t from_ used s todo x j) (E:j<(zu m x).length) (I:(zu m x)[j]∉s) (hf:zl m t (zu m x)[j]=true) (J:(zu m x)[j]∉used):
  RJ m t from_ used (s++[(zu m x)[j]]) (todo++[(zu m x)[j]]) x (j+1):=
 ⟨nodup_snoc h.nd I,fun y hy=>by
   rw [Er,Ej] at hy;rcases hy with hy | rfl
   ·exact h.rp y hy
   ·exact (h.rp x h.xs).step (DD E) hf J,
  fun y hy h0 h1=>by simp [h.fr y hy h0 h1],
  fun y hy=>by
   rw [Er,Ej] at hy⊢;rcases hy with hy | hy
   ·exact .inl (h.sub y hy)
   ·exact .inr hy,
  by simp [h.xs],
  fun y hy r B z D d o=>by
   rw [Er,Ej] at hy r;rcases hy with hy | hy
   ·simp [h.cl y hy (fun G=>r (.inl G)) B z D d o]
   ·exact absurd (.inr hy) r,
  fun z D d o=>by
   rcases (zR E z).1 D with h1 | h1
   ·simp [h.cx z h1 d o]
   ·simp [h1],by have:=h.ln;simp;omega⟩
theorem RJ.done {s todo:List Int} (h:RJ m t from_ used s todo x j) (r:(zu m x).length<=j):RO m t from_ used s todo:=
 ⟨h.nd,h.rp,h.fr,h.sub,fun y D B z E hf o=>by
  by_cases d:y=x
  ·subst d;exact h.cx z (by rwa [List.take_of_length_le r]) hf o
  ·exact h.cl y D B d z E hf o,h.ln⟩
theorem RO.end_ {s:List Int} (h:RO m t from_ used s []) (x:Int):x∈s↔RP m t from_ used x:=
 ⟨h.rp x,fun d=>d (·∈s) h.fr (fun y z r B hf o=>h.cl y r (by simp) z B hf o)⟩
theorem AN {w:World} {base:Nat} {e:TypeId} {size g cap:Nat} {xs:List Value} (h:w.ownsRow base e size (.slice (some ⟨g,0,none⟩) n cap) n xs):n<=cap:=by
 rcases h.2 with ⟨h0,_⟩ | ⟨g',cap',cur,o,_,_,d,_⟩
 ·cases h0
 ·cases o;exact d
theorem BV (m:MZ) (x:Int):(zu m x).length<=6:=by
 have h (c:Bool) (y:Int) (l:List Int) (k:Nat) (d:l.length<=k):(ap c y l).length<=k+1:=DE (ap_len c y l) (by omega);unfold zu;exact h _ _ _ 5 (h _ _ _ 4 (h _ _ _ 3 (h _ _ _ 2 (h _ _ _ 1 (h _ _ _ 0 (by simp))))))
theorem reach_calls {ok':Nat->Prop} {vm vf:Value} {gu:Nat} (t:Nat) (w:World) (hm:zM w ok vm m) (d:Dim m) (ht:t<m.free.length) (f0:∀f∈m.free,(f.length:Int)=m.n)
  (hf:zn w ok' vf from_) (hl:from_.length<=20000000000000) (hu:zB w gu used):
  Calls Tryz.prog 124 #[vm,.int .i64 t,vf,.map (some gu)] w fun e w'=>∃s,e=.returned (.map (some (w.heap.size+1)))/\Below w.heap.size w w'/\zB w' (w.heap.size+1) s/\∀x,x∈s↔RP m t from_ used x:=by
 have f3:=hm;obtain ⟨vfr,vup,vts,rfl,a2,_,_⟩:=hm;obtain ⟨vsf,⟨Af,cf,rfl,l0,f6⟩,e9⟩:=a2;obtain ⟨A,c,rfl,hc,hr⟩:=hf;obtain ⟨l3,l4⟩:=d.layer;have D:=zh d;obtain ⟨w1,w2,l1,l2,ll1,ll2,n1,i7⟩:=d;have HM:=zh f3;clear f3;have g8:=zh f6;clear f6;have g6:=zh e9;clear e9;have HR:=zh hr;clear hr;have HU:=zh hu;clear hu;have g7:=zh f0;clear f0 i7;have hN:0<=m.w*m.h*m.l:=by omega
 have l6:=@run_makeMap Tryz.prog
 go_enter Tryz.func124,Tryz.ntmps124
 go_wp2
 have e5:RI w ((w.alloc (.cells #[.int .i64 m.w,.int .i64 m.h,.int .i64 m.l,.slice Af m.free.length cf,vup,vts] 35)).alloc (.map #[] 0)) w.heap.size #[.int .i64 m.w,.int .i64 m.h,.int .i64 m.l,.slice Af m.free.length cf,vup,vts] [] [] (.slice none 0 0):=by
  refine ⟨((Below.refl _ _).alloc (DC _) _).alloc (by simp) _,DC _,?_,?_,World.ownsRow_nil _ _ _ _⟩
  ·exact zj.alloc (Eo w _) _
  ·have:=zB.new (w.alloc (.cells #[.int .i64 m.w,.int .i64 m.h,.int .i64 m.l,.slice Af m.free.length cf,vup,vts] 35));simpa using this
 go_loopw [10,19] (fun v i wr=>∃k s,k<=from_.length/\i=.int .i64 (k:Nat)/\Hid (RI w wr w.heap.size #[.int .i64 m.w,.int .i64 m.h,.int .i64 m.l,.slice Af m.free.length cf,vup,vts] s s v)/\Hid (s.Nodup)/\Hid (∀x,x∈s↔x∈from_.take k/\0<=x/\x<m.n)) (fun _ i _=>from_.length - (intOf i).toNat)
 case atStart=>exact ⟨0,[],DR _,rfl,e5,List.nodup_nil,by simp [Hid]⟩
 clear e5
 case round=>
  obtain ⟨k,s,hk,rfl,hI,hnd,hx⟩:=hrel;by_cases o:k<from_.length
  ·obtain ⟨b,off,rfl,_,B⟩:=Ae (HR.out.keep (zW.of_below hI.out.below)) o o;obtain ⟨y,U⟩:=EH (from_[k]);rw [<-U] at B;have HY:=zh U;clear U;obtain ⟨m0,m1,m2,m3,m4,m5⟩:=zA hI.out.box;by_cases g0:0<=y
   ·by_cases j0:y<m.w*m.h*m.l
    ·have b7:∀W:World,Calls Tryz.prog 57 #[.agg #[.int .i64 m.w,.int .i64 m.h,.int .i64 m.l,.slice Af m.free.length cf,vup,vts]] W _:=fun W=>zX m.w m.h m.l _ vup vts W (by omega) (by omega)
     have b6:=zh b7;clear b7;by_cases r:y∈s
     ·go_wp2_with fail
      refine (b6.out _).mono ?_;rintro e w' ⟨rfl,hb⟩;have O:=zh (hI.out.call hb);have a4:=look_t O.out.set r
      go_wp2_with fail
      go_roundw
      case rel=>exact ⟨k+1,s,by omega,by go_num,O,hnd,fun x=>by
       rw [zR o,hx.out,<-HY.out];constructor
       ·rintro ⟨h1,h2⟩;exact ⟨.inl h1,h2⟩
       ·rintro ⟨h1 | rfl,h2⟩
        ·exact ⟨h1,h2⟩
        ·exact (hx.out x).1 r⟩
      case measure=>simp [intOf];omega
     ·go_wp2_with fail
      refine (b6.out _).mono ?_;rintro e w' ⟨rfl,hb⟩;have O:=zh (hI.out.call hb);have a4:=look_f O.out.set r
      go_wp2_with (at_mapUpdate;refine CA rfl _ _ _ _ rfl Tryz.underlying95 (w.heap.size+1) s y rfl rfl rfl O.out.set ?_)
      intro wa a8 K;have I:=zh (O.out.add a8 K);have Q:wa.heap.size=wa.heap.size:=rfl;have i2:w.heap.size+2<=wa.heap.size:=I.out.lt;have b9:=Cn hnd.out m.n (fun x i9=>((hx.out x).1 i9).2);have i3:s.length<=300:=by unfold MZ.n at b9;omega
      clear a8 K a4 b9
      go_wp2_with (at_builtin;refine Dg rfl _ _ rfl _ s y (w.heap.size+2) wa.heap.size 1 _ rfl rfl (I.out.own.alloc _) ?c1 ?c2 ?c3 ?_)
      case c2=>(first | omega | (simp;omega))
      case c3=>omega
      intro v' wb a6 L _;have d5:=zh ((I.out.alloc _).app a6 L.out);clear a6 L;go_wp2;go_roundw
      case rel=>exact ⟨k+1,s++[y],by omega,by go_num,by have:=d5.out;rwa [ins_new r] at this,nodup_snoc hnd.out r,fun x=>by
       rw [Er,Ej,zR o,hx.out,<-HY.out];constructor
       ·rintro (⟨h1,h2⟩ | rfl)
        ·exact ⟨.inl h1,h2⟩
        ·exact ⟨.inr rfl,g0,j0⟩
       ·rintro ⟨h1 | rfl,h2⟩
        ·exact .inl ⟨h1,h2⟩
        ·exact .inr rfl⟩
      case measure=>simp [intOf];omega
    ·go_wp2_with (go_at_call 57;refine (zX _ _ _ _ _ _ _ (by omega) (by omega)).mono ?_;rintro e w' ⟨rfl,hb⟩)
     go_roundw
     case rel=>exact ⟨k+1,s,by omega,by go_num,hI.out.call ‹_›,hnd,fun x=>by
      rw [zR o,hx.out,<-HY.out];constructor
      ·rintro ⟨h1,h2⟩;exact ⟨.inl h1,h2⟩
      ·rintro ⟨h1 | rfl,h2,h3⟩
       ·exact ⟨h1,h2,h3⟩
       ·unfold MZ.n at h3;omega⟩
     case measure=>simp [intOf];omega
   ·go_wp2;go_roundw
    case rel=>exact ⟨k+1,s,by omega,by go_num,hI,hnd,fun x=>by
     rw [zR o,hx.out,<-HY.out];constructor
     ·rintro ⟨h1,h2⟩;exact ⟨.inl h1,h2⟩
     ·rintro ⟨h1 | rfl,h2,h3⟩
      ·exact ⟨h1,h2,h3⟩
      ·omega⟩
    case measure=>simp [intOf];omega
  ·obtain rfl:k=from_.length:=by omega
   have a9:Hid (∀x,x∈s↔x∈from_/\0<=x/\x<m.n):=fun x=>by have:=hx.out x;rwa [DN] at this
   clear hx;have hO:Hid (RO m t from_ used s s):=⟨hnd.out,fun x h=>RP.base ((a9.out x).1 h).1 ((a9.out x).1 h).2.1 ((a9.out x).1 h).2.2,fun x h h0 h1=>(a9.out x).2 ⟨h,h0,h1⟩,fun x h=>h,fun y h hn=>absurd h hn,DC _⟩;clear a9 hnd o hk;go_wp2
   go_loopg [10] (2*(m.n.toNat - s.length)+s.length) (fun gk v wr=>∃s todo,gk=2*(m.n.toNat - s.length)+todo.length/\Hid (RI w wr w.heap.size #[.int .i64 m.w,.int .i64 m.h,.int .i64 m.l,.slice Af m.free.length cf,vup,vts] s todo v)/\Hid (RO m t from_ used s todo))
   case atStart=>exact ⟨s,s,rfl,hI,hO⟩
   clear hI hO
   case round=>
    obtain ⟨s,todo,rfl,hI,hO⟩:=hrel;obtain ⟨wo,rfl⟩:∃wo:World,wo=wr:=⟨_,rfl⟩;rcases List.eq_nil_or_concat todo with rfl | ⟨td,x,rfl⟩
    ·obtain ⟨A0,c0,hv⟩:∃A0 c0,u10=.slice A0 0 c0:=by
      obtain ⟨A0,c0,hv,_⟩:=An.of_own hI.out.own;exact ⟨A0,c0,hv⟩
     subst hv;go_wp2;go_ret;exact ⟨s,rfl,hI.out.below,hI.out.set,hO.out.end_⟩
    ·rw [List.concat_eq_append] at hI hO;obtain ⟨gt,ct,hv,j4,f1⟩:=hI.out.own.form (by simp);subst hv;have e1:(td++[x]).length=td.length+1:=by simp
     try rw [e1]
     have i1:wo.cell? ⟨gt,td.length,none⟩=some (.int .i64 x):=by
      have:=hI.out.own.cellAt td.length (by simp);rw [this];simp
     have V:=zh hO.out.pop;have i0:=AN hI.out.own;rw [e1] at i0;have i5:=(hO.out.rp x (V.out.xs)).range D.out;have i6:=Cn hO.out.nd m.n (fun y U=>(hO.out.rp y U).range D.out);have l9:=V.out.ln;have j7:s.length<=300:=by unfold MZ.n at i6;omega
     obtain ⟨f8,f9⟩:=i5;obtain ⟨m0,m1,m2,m3,m4,m5⟩:=zA hI.out.box
     have d4:Hid (RI w wo w.heap.size #[.int .i64 m.w,.int .i64 m.h,.int .i64 m.l,.slice Af m.free.length cf,vup,vts] s td (.slice (some ⟨gt,0,none⟩) td.length ct)):=by
      have h:=hI.out.own;refine ⟨hI.out.below,hI.out.ge,hI.out.box,hI.out.set,?_⟩;rw [map_snoc,e1] at h;exact ownsRow_pop (by simp) h
     clear hI hO
     go_wp2_with fail
     refine (Cx m x wo (HM.out.keep (zW.of_below d4.out.below)) D.out f8 f9).mono ?_;rintro e wk ⟨v',rfl,e7,e0⟩;have e4:=zh (d4.out.call e7);have f4:=zh (An.of_own e0);have j5:=zh e0;clear e0;obtain ⟨A2,c2,i8,k9,c6⟩:=f4.out;subst i8;clear f4;have l8:=BV m x;have i4:=HM.out;have e3:=zh c6;clear c6;clear i4 m0 m1 m2 m3 m4 m5 i1;have k4:wo.heap.size<=wk.heap.size:=e7.size;go_wp2;go_loopw [10,62] (fun v i wi=>∃j s' todo',j<=(zu m x).length/\i=.int .i64 (j:Nat)/\Hid (RI w wi w.heap.size #[.int .i64 m.w,.int .i64 m.h,.int .i64 m.l,.slice Af m.free.length cf,vup,vts] s' todo' v)/\Hid (RJ m t from_ used s' todo' x j)/\Hid (zW (fun b=>wo.heap.size<=b/\b<wk.heap.size) wk wi)/\Hid (∀k,v.ownBlock=some k->k<wo.heap.size\/wk.heap.size<=k)/\Hid (wk.heap.size<=wi.heap.size)/\Hid (todo'.length+s.length=td.length+s'.length/\s.length<=s'.length)) (fun _ i _=>(zu m x).length - (intOf i).toNat)
     case atStart=>exact ⟨0,s,td,DR _,rfl,e4,V,zW.refl _ _,fun k hk=>by
      have:k=gt:=by simpa [Value.ownBlock] using hk.symm
      subst this;exact .inl f1,DC _,rfl,DC _⟩
     clear d4 e4 V
     case round=>
      obtain ⟨j,s',todo',hj,rfl,hI,V,hS,a0,Q,a5⟩:=hrel;by_cases a3:j<(zu m x).length
      ·obtain ⟨b2,off2,rfl,h7,E⟩:=Ae e3.out a3 a3;have a1:=zp E;have B:=(CN (hS.out b2 ⟨h7,a1⟩ a1)).trans E;clear E;have g1:=Bx D.out f8 f9 (DD a3);have G:=zh (V.out.skip a3);have a7:=zh (V.out.push a3);obtain ⟨y,U⟩:=EH ((zu m x)[j]);rw [<-U] at B g1 G a7;clear U;obtain ⟨g0,m6⟩:=g1;obtain ⟨m0,m1,m2,m3,m4,m5⟩:=zA hI.out.box;obtain ⟨bf,off3,uf,rfl,_,b8,h8⟩:=BG (g8.out.keep (zW.of_below hI.out.below)) g6.out ht ht;have J:=g7.out _ (DD ht);obtain ⟨A4,c4,rfl,h9,f5⟩:=h8;have b3:y.toNat<(m.free[t]).length:=by omega
       obtain ⟨b4,off4,rfl,_,M⟩:=CC (f5.keep (zW.of_below hI.out.below)) b3 b3;have a2:(m.free[t])[y.toNat]=zl m t y:=by simp [zl,ht,b3]
       rw [a2] at M;have k5:=zh a2;clear a2;obtain ⟨nf,d9⟩:=EH ((m.free[t]).length);rw [<-d9] at b8 b3 J h9;have k6:=zh d9;clear d9;have j2:=zh J;clear J;clear f5;have AT:=hI.out.set;have c9:=HU.out.below hI.out.below;by_cases r:y∈s'
       ·have a4:=look_t AT r;go_wp2;go_roundw
        case rel=>exact ⟨j+1,s',todo',by omega,by go_num,hI,G.out (.inl r),hS,a0,Q,a5⟩
        case measure=>simp [intOf];omega
       ·have a4:=look_f AT r;by_cases hf:zl m t y=true
        ·rw [hf] at M;by_cases b5:y∈used
         ·have f2:=look_t c9 b5;have HF:=zh hf;clear hf;go_wp2;go_roundw
          case rel=>exact ⟨j+1,s',todo',by omega,by go_num,hI,G.out (.inr (.inr b5)),hS,a0,Q,a5⟩
          case measure=>simp [intOf];omega
         ·have f2:=look_f c9 b5;have HF:=zh hf;clear hf;have g9:=zh (a7.out r HF.out b5);have c7:=Cn V.out.nd m.n (fun y U=>(V.out.rp y U).range D.out);have j8:=V.out.ln;have j9:todo'.length<=300:=by unfold MZ.n at c7;omega
          go_wp2_with (at_mapUpdate;refine CA rfl _ _ _ _ rfl Tryz.underlying95 (w.heap.size+1) s' y rfl rfl rfl hI.out.set ?_)
          intro wa a8 K;have I:=zh (hI.out.add a8 K)
          have h5:Hid (zW (fun b=>wo.heap.size<=b/\b<wk.heap.size) wk wa):=fun b hb o=>by
           refine (K.block b (Ee o Q.out) (fun e=>?_)).trans (hS.out b hb o);injection e with e;have:=hb.1;omega
          have e2:Hid (wk.heap.size<=wa.heap.size):=DE Q.out K.size;have i2:w.heap.size+2<=wa.heap.size:=I.out.lt;clear a8 K a4 f2 AT c9 m0 m1 m2 m3 m4 m5 b8 M B
          go_wp2_with (at_builtin;refine Dg rfl _ _ rfl _ todo' y (w.heap.size+2) wa.heap.size 1 _ rfl rfl (I.out.own.alloc _) ?d1 ?d2 ?d3 ?_)
          (try case d1=>simp)
          case d2=>(first | omega | (simp;omega))
          case d3=>omega
          intro v' wb a6 L e8;have d5:=zh ((I.out.alloc _).app a6 L.out)
          have h4:Hid (∀k,v'.ownBlock=some k->k<wo.heap.size\/wk.heap.size<=k):=fun k hk=>by
           rcases e8.out with e | e
           ·exact a0.out k (e ▸ hk)
           ·have:k=wa.heap.size+1 - 1+1:=by
             rw [e] at hk;simpa using hk.symm
            have:=e2.out;omega
          have h6:Hid (zW (fun b=>wo.heap.size<=b/\b<wk.heap.size) wk wb):=fun b hb o=>by
           have hz:=e2.out;refine (L.out.block b (by simp;omega) (fun e=>?_)).trans ((DV wa _ b (by omega)).trans (h5.out b hb o));have h1:=a0.out b e.symm;have h2:=hb.1;omega
          have j1:Hid (wk.heap.size<=wb.heap.size):=by
           have h1:=L.out.size;have h2:=e2.out;simp at h1;show _<=_;omega
          clear a6 L e8;go_wp2;go_roundw
          case rel=>exact ⟨j+1,s'++[y],todo'++[y],by omega,by go_num,by have:=d5.out;rwa [ins_new r] at this,g9,h6,h4,j1,by have h1:=a5.out;show _/\_;simp only [DK,EF,EG];omega⟩
          case measure=>simp [intOf];omega
        ·have d7:zl m t y=false:=by simpa using hf
         rw [d7] at M;have HF:=zh d7;clear hf d7;go_wp2;go_roundw
         case rel=>exact ⟨j+1,s',todo',by omega,by go_num,hI,G.out (.inr (.inl HF.out)),hS,a0,Q,a5⟩
         case measure=>simp [intOf];omega
      ·have d6:=zh (V.out.done (by omega));have c7:=Cn d6.out.nd m.n (fun y U=>(d6.out.rp y U).range D.out);have l5:=a5.out;go_wp2
       go_roundg (2*(m.n.toNat - s'.length)+todo'.length)
       case measure=>
        have h1:(td.concat x).length=td.length+1:=by simp
        rw [h1];omega
       case rel=>exact ⟨s',todo',rfl,hI,d6⟩
theorem Bq {α:Type} {l:List α} (p:α->Bool) (h:k<l.length):(l.take (k+1)).any p=((l.take k).any p || p l[k]):=by
 rw [DJ h,List.any_append];simp
theorem Ah {P: Program} {n: FuncId} {fn: Func} (h : P.funcs[n]? = some fn) (hn : (fn.name == "runtime.NumGoroutine") = false) (hb : fn.body.isNone = false) (a : Array Value) (w : World) : (callFunc n a).run P w = .ok (.enter n a) w := by
 unfold callFunc;simp only [Sem.run_bind,run_program,Result.andThen_ok,h,hn,hb,Bool.false_eq_true,if_false,Sem.run_pure]
theorem CO {v:Value} (n:FuncId) (caps:Array Value) (p:Int->Bool) (w:World) (h:zn w ok v l) (hl:l.length<=20000000000000)
  (a2:∀(a:Array Value) (w:World),(callFunc n a).run Tryz.prog w=.ok (.enter n a) w)
  (hp:∀x∈l,∀w1,zG w w1->Calls Tryz.prog n (#[.int .i64 x]++caps) w1 fun e w'=>e=.returned (.bool (p x))/\zG w1 w'):
  Calls Tryz.prog 104 #[v,.func (.func n) #[] caps] w fun e w'=>∃r:Int,e=.returned (.int .i64 r)/\(0<=r↔l.any p=true)/\-1<=r/\zG w w':=by
 obtain ⟨A,c,rfl,hc,V⟩:=h;have HR:=zh V;clear V;have HP:=zh hp;clear hp
 go_enter Tryz.func104,Tryz.ntmps104
 go_wp2_with fail
 go_loopw [8] (fun i wr=>∃k:Nat,k<=l.length/\i=.int .i64 k/\Hid ((l.take k).any p=false)/\Hid (zG w wr)) (fun i _=>l.length - (intOf i).toNat)
 case atStart=>exact ⟨0,DR _,rfl,by simp [Hid],zG.refl _⟩
 case round=>
  obtain ⟨k,hk,rfl,U,L⟩:=hrel;by_cases J:k<l.length
  ·obtain ⟨b,off,rfl,_,I⟩:=Ae (HR.out.keep (L.out.same ok)) J J;obtain ⟨x,O⟩:=EH (l[k]);rw [<-O] at I;have M:x∈l:=by rw [O];exact DD _
   have D:=zh (Bq p J);rw [<-O] at D;clear O;have d:=zh (HP.out x M wr L.out);by_cases B:p x=true
   ·go_wp2_with fail
    refine d.out.mono ?_;rintro e w1 ⟨rfl,o⟩;rw [B];have E:=zh (L.out.trans o);clear o;have G:=zh B;clear B
    go_wp2_with fail
    go_ret;refine ⟨_,rfl,⟨fun _=>?_,fun _=>by omega⟩,by omega,E.out⟩;rw [EC];exact ⟨x,M,G.out⟩
   ·have K:p x=false:=by simpa using B
    clear B
    go_wp2_with fail
    refine d.out.mono ?_;rintro e w1 ⟨rfl,o⟩;rw [K];have E:=zh (L.out.trans o);clear o;have G:=zh K;clear K
    go_wp2_with fail
    go_roundw
    case rel=>exact ⟨k+1,by omega,by go_num,by
     show _=false;rw [D.out,U.out,G.out];rfl,E⟩
    case measure=>simp [intOf];omega
  ·obtain rfl:k=l.length:=by omega
   go_wp2;go_ret;have h:=U.out;rw [DN] at h;refine ⟨_,rfl,⟨fun Q=>by omega,fun Q=>?_⟩,by omega,L.out⟩;rw [h] at Q
   cases Q
theorem indexFuncB_calls {v:Value} {l:List (List Bool)} (n:FuncId) (caps:Array Value) (p:List Bool->Bool) (w:World) (h:Each (AZ w ok) w ok v l) (hl:l.length<=20000000000000)
  (a4:∀(a:Array Value) (w:World),(callFunc n a).run Tryz.prog w=.ok (.enter n a) w)
  (hp:∀x∈l,∀u,AZ w ok u x->∀w1,zG w w1->Calls Tryz.prog n (#[u]++caps) w1 fun e w'=>e=.returned (.bool (p x))/\zG w1 w'):
  Calls Tryz.prog 103 #[v,.func (.func n) #[] caps] w fun e w'=>∃r:Int,e=.returned (.int .i64 r)/\(0<=r↔l.any p=true)/\-1<=r/\zG w w':=by
 obtain ⟨vs,⟨A,c,rfl,hc,hr⟩,he⟩:=h;have HR:=zh hr;clear hr;have HE:=zh he;clear he;have HP:=zh hp;clear hp
 go_enter Tryz.func103,Tryz.ntmps103
 go_wp2_with fail
 go_loopw [8] (fun i wr=>∃k:Nat,k<=l.length/\i=.int .i64 k/\Hid ((l.take k).any p=false)/\Hid (zG w wr)) (fun i _=>l.length - (intOf i).toNat)
 case atStart=>exact ⟨0,DR _,rfl,by simp [Hid],zG.refl _⟩
 case round=>
  obtain ⟨k,hk,rfl,V,K⟩:=hrel;by_cases I:k<l.length
  ·obtain ⟨b,off,u,rfl,_,Q,U⟩:=BG (HR.out.keep (K.out.same ok)) HE.out I I;obtain ⟨x,M⟩:=EH (l[k]);rw [<-M] at U;have L:x∈l:=by rw [M];exact DD _
   have D:=zh (Bq p I);rw [<-M] at D;clear M;have d:=zh (HP.out x L u U wr K.out);clear U;by_cases B:p x=true
   ·go_wp2_with fail
    refine d.out.mono ?_;rintro e w1 ⟨rfl,o⟩;rw [B];have E:=zh (K.out.trans o);clear o;have G:=zh B;clear B
    go_wp2_with fail
    go_ret;refine ⟨_,rfl,⟨fun _=>?_,fun _=>by omega⟩,by omega,E.out⟩;rw [EC];exact ⟨x,L,G.out⟩
   ·have J:p x=false:=by simpa using B
    clear B
    go_wp2_with fail
    refine d.out.mono ?_;rintro e w1 ⟨rfl,o⟩;rw [J];have E:=zh (K.out.trans o);clear o;have G:=zh J;clear J
    go_wp2_with fail
    go_roundw
    case rel=>exact ⟨k+1,by omega,by go_num,by
     show _=false;rw [D.out,V.out,G.out];rfl,E⟩
    case measure=>simp [intOf];omega
  ·obtain rfl:k=l.length:=by omega
   go_wp2;go_ret;have h:=V.out;rw [DN] at h;refine ⟨_,rfl,⟨fun O=>by omega,fun O=>?_⟩,by omega,K.out⟩;rw [h] at O
   cases O
theorem AM {v:Value} {l:List (Int)} (n:FuncId) (caps:Array Value) (p:Int->Bool) (w:World) (h:zn w ok v l) (G:l.length<=20000000000000) (o:∀(a:Array Value) (w:World),(callFunc n a).run Tryz.prog w=.ok (.enter n a) w)
  (hp:∀x∈l,∀w1,zG w w1->Calls Tryz.prog n (#[.int .i64 x]++caps) w1 fun e w'=>e=.returned (.bool (p x))/\zG w1 w'):
  Calls Tryz.prog 73 #[v,.func (.func n) #[] caps] w fun e w'=>e=.returned (.bool (l.any p))/\zG w w':=by
 have H:=zh (CO n caps p w h G o hp);clear hp;obtain ⟨A,c,rfl,J,d⟩:=h;clear d
 go_enter Tryz.func73,Tryz.ntmps73
 go_wp2_with fail
 refine H.out.mono ?_;rintro e w1 ⟨r,rfl,d,I,B⟩;have E:=zh d;clear d;have D:=zh B;clear B
 go_wp2_with fail
 go_ret;refine ⟨zk ?_,D.out⟩;rw [Bool.eq_iff_iff,decide_eq_true_iff];exact E.out
theorem Dx {v:Value} {l:List (List Bool)} (n:FuncId) (caps:Array Value) (p:List Bool->Bool) (w:World) (h:Each (AZ w ok) w ok v l) (G:l.length<=20000000000000) (o:∀(a:Array Value) (w:World),(callFunc n a).run Tryz.prog w=.ok (.enter n a) w)
  (hp:∀x∈l,∀u,AZ w ok u x->∀w1,zG w w1->Calls Tryz.prog n (#[u]++caps) w1 fun e w'=>e=.returned (.bool (p x))/\zG w1 w'):
  Calls Tryz.prog 70 #[v,.func (.func n) #[] caps] w fun e w'=>e=.returned (.bool (l.any p))/\zG w w':=by
 have H:=zh (indexFuncB_calls n caps p w h G o hp);clear hp;obtain ⟨vs,⟨A,c,rfl,J,d⟩,he⟩:=h;clear d he
 go_enter Tryz.func70,Tryz.ntmps70
 go_wp2_with fail
 refine H.out.mono ?_;rintro e w1 ⟨r,rfl,d,I,B⟩;have E:=zh d;clear d;have D:=zh B;clear B
 go_wp2_with fail
 go_ret;refine ⟨zk ?_,D.out⟩;rw [Bool.eq_iff_iff,decide_eq_true_iff];exact E.out
def Ao (n x:Int):Bool:=decide (x<0) || decide (n<=x)
def side (x:Int):Bool:=decide (x<1) || decide (300<x)
def Br (m:MZ):Int:=
 if [m.w,m.h,m.l].any side then 2
 else if 300<m.n\/6<m.tasks.length then 2
 else if m.free.length≠m.tasks.length\/(m.up.length:Int)≠m.n\/m.free.any (fun f=>(f.length:Int) != m.n)=true then 1
 else if m.tasks.any (fun t=>t.1.any (Ao m.n) || t.2.any (Ao m.n)) then 50
 else 0
theorem cf51 (a:Array Value) (w:World):(callFunc 71 a).run Tryz.prog w=.ok (.enter 71 a) w:=Ah Tryz.func71 (by kernel_rfl) (by kernel_rfl) a w
theorem cf52 (a:Array Value) (w:World):(callFunc 72 a).run Tryz.prog w=.ok (.enter 72 a) w:=Ah Tryz.func72 (by kernel_rfl) (by kernel_rfl) a w
theorem check1_calls {u:Value} {f:List Bool} (g:Nat) (n:Int) (w:World) (r:AZ w ok u f) (B:w.cell? ⟨g,0,none⟩=some (.int .i64 n)):
  Calls Tryz.prog 71 #[u,.pointer (some ⟨g,0,none⟩)] w fun e w'=>e=.returned (.bool ((f.length:Int) != n))/\zG w w':=by
 obtain ⟨A,c,rfl,d,o⟩:=r;clear o
 go_enter Tryz.func71,Tryz.ntmps71
 go_wp2;go_ret;exact ⟨rfl,zG.refl _⟩
theorem check2_calls (g:Nat) (n x:Int) (w:World) (o:w.cell? ⟨g,0,none⟩=some (.int .i64 n)):
  Calls Tryz.prog 72 #[.int .i64 x,.pointer (some ⟨g,0,none⟩)] w fun e w'=>e=.returned (.bool (Ao n x))/\zG w w':=by
 by_cases d:x<0
 ·go_enter Tryz.func72,Tryz.ntmps72
  go_wp2;go_ret;exact ⟨zk (by simp [Ao,d]),zG.refl _⟩
 ·go_enter Tryz.func72,Tryz.ntmps72
  go_wp2;go_ret;refine ⟨zk ?_,zG.refl _⟩;simp [Ao];omega
structure Lens (m:MZ):Prop where
 fr:m.free.length<=20000000000000
 up:m.up.length<=20000000000000
 ts:m.tasks.length<=20000000000000
 tl:∀t∈m.tasks,t.1.length<=400000000000/\t.2.length<=400000000000
theorem three_cells {w:World} {g:Nat} {t:TypeId} {a b c:Int} (h:zj w g t #[.int .i64 a,.int .i64 b,.int .i64 c]) (k:Nat) (d:k<3):w.cell? ⟨g,k,none⟩=some (.int .i64 ([a,b,c][k])):=by
 unfold zj at h;unfold World.cell?;simp only [h]
 match k,d with
 | 0,_=>rfl
 | 1,_=>rfl
 | 2,_=>rfl
theorem BK {w:World} {A:Option Addr} {c:Nat} {l:List (List Int×List Int)} (h:BA w ok (.slice A n c) l) (r:k<l.length):
  ∃b off s u1 u2,A=some ⟨b,off,none⟩/\ok b/\w.cell? ⟨b,off+k*3,none⟩=some (.string s)/\w.cell? ⟨b,off+k*3+1,none⟩=some u1/\w.cell? ⟨b,off+k*3+2,none⟩=some u2/\zn w ok u1 l[k].1/\zn w ok u2 l[k].2:=by
 obtain ⟨vs,⟨A',c',B,_,D,d⟩,he⟩:=h;injection B with e1 e2 e3;subst e1;obtain ⟨b,off,rfl,o,d⟩:=d (by omega);obtain ⟨s,u1,u2,h0,h1,h2,i1,i2⟩:=he k _ (DA r);exact ⟨b,off,s,u1,u2,rfl,o,d _ _ h0,by rw [Nat.add_assoc];exact d _ _ h1,by rw [Nat.add_assoc];exact d _ _ h2,i1,i2⟩
structure CI (w wr:World) (cells:Array Value) (ints:Array Value):Prop where
 below:Below w.heap.size w wr
 box:zj wr w.heap.size 35 cells
 ints:zj wr (w.heap.size+1) 3 ints
theorem CI.call {w wr w':World} (h:CI w wr c i) (d:Below wr.heap.size wr w'):CI w w' c i:=
 ⟨BB h.below d (DC _),h.box.below d (zb h.box),h.ints.below d (zb h.ints)⟩
theorem CI.new (w:World) (c i:Array Value):CI w ((w.alloc (.cells c 35)).alloc (.cells i 3)) c i:=
 ⟨((Below.refl _ _).alloc (DC _) _).alloc (by simp) _,zj.alloc (Eo w _) _,by
  have:=Eo (w.alloc (.cells c 35)) (.cells i 3);simpa [zj] using this⟩
theorem chk_side (h:[m.w,m.h,m.l].any side=true):Br m=2:=by
 unfold Br;rw [if_pos h]
structure CJ (w wr:World) (cells:Array Value) (g:Nat) (n:Int):Prop where
 below:Below w.heap.size w wr
 box:zj wr w.heap.size 35 cells
 all:wr.cell? ⟨g,0,none⟩=some (.int .i64 n)
theorem CJ.call {w wr w':World} {g:Nat} {n:Int} (h:CJ w wr c g n) (d:Below wr.heap.size wr w'):CJ w w' c g n:=
 ⟨BB h.below d (DC _),h.box.below d (zb h.box),(CN (d.block g (zp h.all))).trans h.all⟩
theorem CJ.new {w w':World} (h:CI w w' c i) (n:Int):CJ w (w'.alloc (.cells #[.int .i64 n] 3)) c w'.heap.size n:=
 ⟨h.below.alloc (Nat.le_of_lt (zb h.box)) _,h.box.alloc _,by
  have:=Eo w' (.cells #[.int .i64 n] 3);unfold World.cell?;simp only [this];rfl⟩
theorem CJ.alloc {w wr:World} {c:Array Value} {g:Nat} {n:Int} (h:CJ w wr c g n) (o:Obj):CJ w (wr.alloc o) c g n:=
 ⟨h.below.alloc (Nat.le_of_lt (zb h.box)) _,h.box.alloc _,(CN (DV wr o g (zp h.all))).trans h.all⟩
theorem cells3 {w:World} {g:Nat} {t:TypeId} {a0 a1 a2:Value} (h:zj w g t #[a0,a1,a2]):
  w.cell? ⟨g,0,none⟩=some a0/\w.cell? ⟨g,1,none⟩=some a1/\w.cell? ⟨g,2,none⟩=some a2:=by
 unfold zj at h;unfold World.cell?;simp only [h];exact ⟨rfl,rfl,rfl⟩
theorem sides (h:[m.w,m.h,m.l].any side=false):(1<=m.w/\m.w<=300)/\(1<=m.h/\m.h<=300)/\(1<=m.l/\m.l<=300):=by
 simp [side] at h;omega
theorem sides_mul (h:[m.w,m.h,m.l].any side=false):(1<=m.w*m.h/\m.w*m.h<=90000)/\(1<=m.w*m.h*m.l/\m.w*m.h*m.l<=27000000):=by
 obtain ⟨⟨a1,a2⟩,⟨b1,b2⟩,c1,c2⟩:=sides h;have h1:1<=m.w*m.h:=by have:=Int.mul_pos (a:=m.w) (b:=m.h) (by omega) (by omega);omega
 have h2:m.w*m.h<=300*300:=Int.mul_le_mul a2 b2 (by omega) (by omega);have d:1<=m.w*m.h*m.l:=by have:=Int.mul_pos (a:=m.w*m.h) (b:=m.l) (by omega) (by omega);omega
 have o:m.w*m.h*m.l<=300*300*300:=Int.mul_le_mul h2 c2 (by omega) (by omega);omega
theorem Be {v:Value} (w:World) (hm:zM w ok v m) (hl:Lens m):
  Calls Tryz.prog 31 #[v] w fun e w'=>e=.returned (.int .i64 (Br m))/\Below w.heap.size w w':=by
 have e7:=hm;obtain ⟨vfr,vup,vts,rfl,e4,f3,f1⟩:=hm;obtain ⟨vsf,⟨Af,cf,rfl,e2,b9⟩,b7⟩:=e4;obtain ⟨Au,cu,rfl,g0,f0⟩:=f3;obtain ⟨vst,⟨At,ct,rfl,e3,c0⟩,b8⟩:=f1;obtain ⟨l1,l2,l3,l4⟩:=hl;have d6:=zh b9;clear b9;have c9:=zh b7;clear b7;have d7:=zh c0;clear c0;have d4:=zh b8;clear b8;have d5:=zh l4;clear l4;clear f0 e7
 go_enter Tryz.func31,Tryz.ntmps31
 go_wp2;have b3:=CI.new w #[.int .i64 m.w,.int .i64 m.h,.int .i64 m.l,.slice Af m.free.length cf,.slice Au m.up.length cu,.slice At m.tasks.length ct] #[.int .i64 m.w,.int .i64 m.h,.int .i64 m.l];go_loopw [17] (fun i wr=>∃k:Nat,k<=3/\i=.int .i64 k/\Hid (([m.w,m.h,m.l].take k).any side=false)/\Hid (CI w wr #[.int .i64 m.w,.int .i64 m.h,.int .i64 m.l,.slice Af m.free.length cf,.slice Au m.up.length cu,.slice At m.tasks.length ct] #[.int .i64 m.w,.int .i64 m.h,.int .i64 m.l])) (fun i _=>3 - (intOf i).toNat)
 case atStart=>exact ⟨0,by omega,rfl,by simp [Hid],b3⟩
 clear b3
 case round=>
  obtain ⟨k,hk,rfl,J,hI⟩:=hrel;by_cases I:k<3
  ·obtain ⟨x,hx⟩:=EH ([m.w,m.h,m.l][k]'I);have a3:=three_cells hI.out.ints k I;rw [<-hx] at a3;have r:=zh (Bq (l:=[m.w,m.h,m.l]) side I);rw [<-hx] at r;have HX:=zh (show x∈[m.w,m.h,m.l] by rw [hx];exact DD _);clear hx;by_cases h1:x<1
   ·go_wp2;go_ret;refine ⟨BI ?_,hI.out.below⟩;rw [chk_side];exact EC.2 ⟨x,HX.out,by simp [side,h1]⟩
   ·by_cases h2:300<x
    ·go_wp2;go_ret;refine ⟨BI ?_,hI.out.below⟩;rw [chk_side];exact EC.2 ⟨x,HX.out,by simp [side,h2]⟩
    ·have HS:=zh (show side x=false by simp [side,h1,h2]);go_wp2;go_roundw
     case rel=>exact ⟨k+1,by omega,by go_num,by
      show _=false;rw [r.out,J.out,HS.out];rfl,hI⟩
     case measure=>simp [intOf];omega
  ·obtain rfl:k=3:=by omega
   have HN:Hid ([m.w,m.h,m.l].any side=false):=J.out;clear J;obtain ⟨m0,m1,m2,m3,m4,m5⟩:=zA hI.out.box;obtain ⟨⟨p1,p2⟩,p3,p4⟩:=sides_mul HN.out
   have L:300<m.n\/6<m.tasks.length->Br m=2:=by
    intro h;unfold Br;rw [if_neg (by rw [HN.out];simp),if_pos h]
   have b0:=zh L;clear L
   go_wp2_with fail
   refine (zX _ _ _ _ _ _ _ (by omega) (by omega)).mono ?_;rintro e w' ⟨rfl,hb⟩;have d:=zh (hI.out.call hb);clear hI m0 m1 m2 m3 m4 m5 hb;have d8:∀o,_:=fun o=>zA (d.out.box.alloc o)
   by_cases J:300<m.w*m.h*m.l
   ·go_wp2;go_ret;exact ⟨BI (b0.out (.inl J)).symm,d.out.below.alloc (Nat.le_of_lt (zb d.out.box)) _⟩
   by_cases ht:6<m.tasks.length
   ·go_wp2;go_ret;exact ⟨BI (b0.out (.inr ht)).symm,d.out.below.alloc (Nat.le_of_lt (zb d.out.box)) _⟩
   have K:(m.free.length≠m.tasks.length\/(m.up.length:Int)≠m.n\/m.free.any (fun f=>(f.length:Int) != m.n)=true)->Br m=1:=by
    intro h;unfold Br;rw [if_neg (by rw [HN.out];simp),if_neg (by unfold MZ.n;omega),if_pos h]
   have V:=zh K;clear K;by_cases hf:m.free.length=m.tasks.length
   case neg=>
    go_wp2;go_ret;exact ⟨BI (V.out (.inl hf)).symm,d.out.below.alloc (Nat.le_of_lt (zb d.out.box)) _⟩
   by_cases hu:(m.up.length:Int)=m.w*m.h*m.l
   case neg=>
    go_wp2;go_ret;exact ⟨BI (V.out (.inr (.inl hu))).symm,d.out.below.alloc (Nat.le_of_lt (zb d.out.box)) _⟩
   have M:=zh (CJ.new d.out (m.w*m.h*m.l));have g1:w.heap.size<w'.heap.size:=zb d.out.box;clear d
   have b2:Bd w ok (.slice Af m.tasks.length cf) m.free:=by
    rw [<-hf];exact ⟨vsf,⟨Af,cf,rfl,e2,d6.out⟩,c9.out⟩
   go_wp2_with fail
   refine (Dx (ok:=ok) 71 _ (fun f=>(f.length:Int) != m.w*m.h*m.l) _ (b2.below M.out.below) l1 cf51 ?hp).mono ?_
   case hp=>exact fun x hx u hu w1 D=>check1_calls w'.heap.size _ w1 (hu.keep (D.same ok)) (M.out.call (D.below _)).all
   rintro e w1 ⟨rfl,D⟩;have B:=zh (M.out.call (D.below _));clear M D d8;by_cases ha:m.free.any (fun f=>(f.length:Int) != m.w*m.h*m.l)=true
   ·rw [ha];go_wp2;go_ret;exact ⟨BI (V.out (.inr (.inr ha))).symm,B.out.below⟩
   have a2:=zh (show m.free.any (fun f=>(f.length:Int) != m.w*m.h*m.l)=false by simpa using ha);clear ha;rw [a2.out];obtain ⟨m0,m1,m2,m3,m4,m5⟩:=zA B.out.box;have a1:BA w ok (.slice At m.tasks.length ct) m.tasks:=⟨vst,⟨At,ct,rfl,e3,d7.out⟩,d4.out⟩
   go_wp2_with fail
   go_loopw [62] (fun i wr=>∃k:Nat,k<=m.tasks.length/\i=.int .i64 k/\Hid ((m.tasks.take k).any (fun t=>t.1.any (Ao m.n) || t.2.any (Ao m.n))=false)/\Hid (CJ w wr #[.int .i64 m.w,.int .i64 m.h,.int .i64 m.l,.slice Af m.free.length cf,.slice Au m.up.length cu,.slice At m.tasks.length ct] w'.heap.size (m.w*m.h*m.l))) (fun i _=>m.tasks.length - (intOf i).toNat)
   case atStart=>exact ⟨0,by omega,rfl,by simp [Hid],B⟩
   clear B m0 m1 m2 m3 m4 m5 b2
   case round=>
    obtain ⟨k,hk,rfl,J,hI⟩:=hrel;by_cases I:k<m.tasks.length
    ·obtain ⟨b,off,sn,u1,u2,rfl,_,f9,e0,e1,a4,a5⟩:=BK (a1.below hI.out.below) I;obtain ⟨A1,c1,rfl,b5,e8⟩:=a4.open;obtain ⟨A2,c2,rfl,b6,e9⟩:=a5.open;obtain ⟨e5,e6⟩:=d5.out _ (DD I);clear e8 e9;have a7:=zh a4;clear a4;have a8:=zh a5;clear a5;have f8:=zh a1;clear a1;obtain ⟨t,ht⟩:=EH (m.tasks[k]);rw [<-ht] at a7 a8 e0 e1 b5 b6 e5 e6;have r:=zh (Bq (fun t=>t.1.any (Ao m.n) || t.2.any (Ao m.n)) I);rw [<-ht] at r;have HM:=zh (show t∈m.tasks by rw [ht];exact DD _);clear ht;have B:=zh (hI.out.alloc (.cells #[.string sn,.slice A1 t.1.length c1,.slice A2 t.2.length c2] 101));have a0:=zh (Eo wr (.cells #[.string sn,.slice A1 t.1.length c1,.slice A2 t.2.length c2] 101))
     have U:(t.1.any (Ao m.n) || t.2.any (Ao m.n))=true->Br m=50:=by
      intro h;unfold Br;rw [if_neg (by rw [HN.out];simp),if_neg (by unfold MZ.n;omega),if_neg (by unfold MZ.n;rw [a2.out];simp;omega),if_pos (EC.2 ⟨t,HM.out,h⟩)]
     have Q:=zh U;clear U
     go_wp2_with fail
     refine (AM (ok:=ok) 72 _ (Ao (m.w*m.h*m.l)) _ (a7.out.below ((Below.refl _ _).alloc (DC _) _)) (by omega) cf52 ?hp).mono ?_
     case hp=>exact fun x hx w1 D=>check2_calls w'.heap.size _ x w1 (B.out.call (D.below _)).all
     rintro e w4 ⟨rfl,D⟩;have O:=zh (B.out.call (D.below _));have b1:Hid (zj w4 wr.heap.size 101 _):=zj.below a0.out (D.below _) (zb a0.out);have d9:Hid (Below wr.heap.size wr w4):=((Below.refl _ _).alloc (DC _) _).trans (D.below _);clear D B a0;obtain ⟨q0,q1,q2⟩:=cells3 b1.out;by_cases E:t.1.any (Ao (m.w*m.h*m.l))=true
     ·rw [E];go_wp2;go_ret;exact ⟨BI (Q.out (by show (t.1.any (Ao (m.w*m.h*m.l)) || _)=true;rw [E];rfl)).symm,O.out.below⟩
     ·have E:t.1.any (Ao (m.w*m.h*m.l))=false:=by simpa using E
      rw [E];have c7:=zh E;clear E
      go_wp2_with fail
      refine (AM (ok:=ok) 72 _ (Ao (m.w*m.h*m.l)) _ (a8.out.below d9.out) (by omega) cf52 ?hp).mono ?_
      case hp=>exact fun x hx w1 D=>check2_calls w'.heap.size _ x w1 (O.out.call (D.below _)).all
      rintro e w5 ⟨rfl,D⟩;have b4:=zh (O.out.call (D.below _));clear D O b1 q0 q1 q2;by_cases G:t.2.any (Ao (m.w*m.h*m.l))=true
      ·rw [G];go_wp2;go_ret;exact ⟨BI (Q.out (by show (_ || t.2.any (Ao (m.w*m.h*m.l)))=true;rw [G];simp)).symm,b4.out.below⟩
      ·have G:t.2.any (Ao (m.w*m.h*m.l))=false:=by simpa using G
       rw [G];have c8:=zh G;clear G
       go_wp2_with fail
       go_roundw
       case rel=>exact ⟨k+1,by omega,by go_num,by
        show _=false;rw [r.out,J.out];show (_ || (t.1.any (Ao (m.w*m.h*m.l)) || t.2.any (Ao (m.w*m.h*m.l))))=false;rw [c7.out,c8.out];rfl,b4⟩
       case measure=>simp [intOf];omega
    ·obtain rfl:k=m.tasks.length:=by omega
     go_wp2;go_ret;refine ⟨BI ?_,hI.out.below⟩;have J:=J.out;rw [DN] at J;unfold Br;rw [if_neg (by rw [HN.out];simp),if_neg (by unfold MZ.n;omega),if_neg (by unfold MZ.n;rw [a2.out];simp;omega),if_neg (by rw [J];simp)]
end
end Go.Proofs.YtcnaogdgjkpkmaaGreatDoor
