import Derived.Test.YtnmkmhpgnpojbaaGreatDoorWXa
import Derived.Maps.AppendAt
import Derived.WalkSmall
import Derived.Deep.LoopGhost
set_option linter.unusedVariables false
set_option linter.unusedSimpArgs false
set_option maxRecDepth 100000
set_option maxHeartbeats 16000000
namespace Go.Proofs.YtnmkmhpgnpojbaaGreatDoor
variable {c i:Array Value} {x y:Int} {from_ l used:List Int} {j k t:Nat} {ok:Nat->Prop}
section
open Go.RowKit
def MZ.n (m:MZ):Int:=m.w*m.h*m.l
theorem mem_ap {c:Bool}:y∈ap c x l↔y∈l\/(c=true/\y=x):=by
 unfold ap
 cases c <;> simp
theorem row_step {w k:Int} (o:0<w) (D:y<w*k) (E:y % w+1<w):y+1<w*k:=by
 have z:=Int.emod_add_mul_ediv y w
 have B:y / w<k:=by
  apply Int.ediv_lt_of_lt_mul o
  rwa [Int.mul_comm]
 have d:w*(y / w+1)<=w*k:=Int.mul_le_mul_of_nonneg_left (by omega) (by omega);rw [Int.mul_add,Int.mul_one] at d;omega
theorem layer_step {w h l:Int} (d:0<w) (hh:0<h) (D:y<w*h*l) (B:y / w % h+1<h):y+w<w*h*l:=by
 have z:y / w<h*l:=by
  apply Int.ediv_lt_of_lt_mul d;rw [Int.mul_comm,<-Int.mul_assoc];exact D
 have E:=row_step hh z B;have G:=Int.emod_add_mul_ediv y w;have I:=Int.emod_lt_of_pos y d;have o:w*(y / w+2)<=w*(h*l):=Int.mul_le_mul_of_nonneg_left (by omega) (by omega);rw [Int.mul_add,<-Int.mul_assoc] at o;omega
theorem Ba {m:MZ} (d:Dim m) (h0:0<=y) (o:y<m.n) (h:x∈zg m y):0<=x/\x<m.n:=by
 unfold MZ.n at o⊢;obtain ⟨l1,l2⟩:=d.layer;have G:=d.w1;have hh:=d.h1;simp only [zg,mem_ap,DD,DB,Eo,false_or] at h;rcases h with ((((( ⟨⟨a,_⟩,rfl⟩) | ⟨a,rfl⟩) | ⟨a,rfl⟩) | ⟨a,rfl⟩) | ⟨a,rfl⟩) | ⟨⟨a,_⟩,rfl⟩
 ·omega
 ·have z:1<=y / m.w:=by
   have:0<=y / m.w:=Int.ediv_nonneg h0 (by omega);rcases Int.lt_or_le 0 (y / m.w) with h | h
   ·omega
   ·have:y / m.w=0:=by omega
    rw [this] at a;simp at a
  have B:=Int.emod_add_mul_ediv y m.w;have D:=Int.emod_nonneg y (show m.w≠0 by omega);have E:m.w*1<=m.w*(y / m.w):=Int.mul_le_mul_of_nonneg_left z (by omega);omega
 ·have:y≠0:=by rintro rfl;simp at a
  omega
 ·have:=row_step (y:=y) (w:=m.w) (k:=m.h*m.l) (by omega) (by rw [<-Int.mul_assoc];exact o) a;rw [<-Int.mul_assoc] at this;omega
 ·have:=layer_step (by omega) (by omega) o a;omega
 ·omega
def zf (m:MZ) (t:Nat) (x:Int):Bool:=(m.free.getD t []).getD x.toNat false
def RP (m:MZ) (t:Nat) (from_ used:List Int) (x:Int):Prop:=
 ∀S:Int->Prop,(∀y∈from_,0<=y->y<m.n->S y)->(∀y z,S y->z∈zg m y->zf m t z=true->z∉used->S z)->S x
theorem RP.base {m:MZ} (h:x∈from_) (h0:0<=x) (d:x<m.n):RP m t from_ used x:=fun _ o _=>o x h h0 d
theorem RP.step {m:MZ} (h:RP m t from_ used y) (B:x∈zg m y) (hf:zf m t x=true) (z:x∉used):RP m t from_ used x:=
 fun S o d=>d y x (h S o d) B hf z
theorem RP.range {m:MZ} (d:Dim m) (h:RP m t from_ used x):0<=x/\x<m.n:=
 h (fun x=>0<=x/\x<m.n) (fun y _ h0 B=>⟨h0,B⟩) (fun y z o D _ _=>Ba d o.1 o.2 D)
theorem RP.congr {m:MZ} {from' used':List Int} (hf:∀x,x∈from_↔x∈from') (E:∀x,x∈used↔x∈used') (h:RP m t from_ used x):RP m t from' used' x:=
 h _ (fun y o h0 D=>RP.base ((hf y).1 o) h0 D) (fun y z o G B d=>o.step G B (fun h=>d ((E z).2 h)))
theorem nodup_nat:∀(n:Nat) (l:List Nat),l.Nodup->(∀x∈l,x<n)->l.length<=n
 | 0,l,_,h=>by
  cases l with
  | nil=>simp
  | cons a l=>exact absurd (h a (Ed ..)) (by omega)
 | n+1,l,o,h=>by
  by_cases hm:n∈l
  ·have z:=nodup_nat n (l.erase n) (o.erase n) (fun x d=>by
    have B:=(o.mem_erase_iff).1 d;have D:=h x B.2;omega)
   rw [List.length_erase_of_mem hm] at z;omega
  ·have z:=nodup_nat n l o (fun x d=>by
    have D:=h x d;have:x≠n:=by rintro rfl;exact hm d
    omega)
   omega
theorem Bx (G:l.Nodup) (n:Int) (o:∀x∈l,0<=x/\x<n):l.length<=n.toNat:=by
 have d:(l.map Int.toNat).Nodup:=by
  rw [List.nodup_iff_pairwise_ne,List.pairwise_map];refine List.Pairwise.imp_of_mem ?_ (List.nodup_iff_pairwise_ne.1 G);intro a b B E D he;have:=o a B;have:=o b E;omega
 have:=nodup_nat n.toNat (l.map Int.toNat) d (fun x z=>by
  rw [Er] at z;obtain ⟨y,I,rfl⟩:=z;have:=o y I;omega)
 simpa using this
theorem Am {B:Nat} {a w w':World} {g:Nat} (h:Below B a w) (D:w.grownBy w' (some g)) (o:B<=w.heap.size) (z:B<=g):Below B a w':=
 h.grown D o (fun k d=>by injection d with d;omega)
theorem setOf_calls {v:Value} (w:World) (h:zk w ok v l) (hl:l.length<=20000000000000):
  Calls Tryz.prog 210 #[v] w fun e w'=>∃s,e=.returned (.map (some w.heap.size))/\Below w.heap.size w w'/\zu w' w.heap.size s/\∀x,x∈s↔x∈l:=by
 obtain ⟨A,c,rfl,U,J⟩:=h;have M:=zh J;clear J;have Q:=@run_makeMap Tryz.prog
 go_enter Tryz.func210,Tryz.ntmps210
 go_wp2;go_loopw [9] (fun i wr=>∃k s,k<=l.length/\i=.int .i64 (k:Nat)/\Hid (Below w.heap.size w wr)/\Hid (zu wr w.heap.size s)/\Hid (∀x,x∈s↔x∈l.take k)) (fun i _=>l.length - (intOf i).toNat)
 case atStart=>exact ⟨0,[],DF _,rfl,(Below.refl _ _).alloc (Dq _) _,zu.new w,by simp [Hid]⟩
 case round=>
  obtain ⟨k,s,V,rfl,D,K,L⟩:=hrel;by_cases o:k<l.length
  ·obtain ⟨b,off,rfl,_,d⟩:=Ao (M.out.keep (zN.of_below D.out)) o o;obtain ⟨y,I⟩:=Ez (l[k]);rw [<-I] at d;have O:=zh I;clear I
   go_wp2_with (at_mapUpdate;refine wpSetAdd rfl _ _ _ _ rfl Tryz.underlying152 w.heap.size s y rfl rfl rfl K.out ?_)
   intro w1 B z;have G:=zh B;clear B;have E:=zh z;clear z;go_wp2;go_roundw
   case rel=>exact ⟨k+1,ins s y,by omega,by go_num,Am D.out E.out D.out.size (Dq _),G.out,fun x=>by
    rw [mem_ins,zx o,L.out,O.out]⟩
   case measure=>simp [intOf];omega
  ·obtain rfl:k=l.length:=by omega
   go_wp2;go_ret;exact ⟨s,rfl,D.out,K.out,fun x=>by have:=L.out x;rwa [DC] at this⟩
def zt (w:World) (B:Nat) (v:Value) (l:List Int):Prop:=w.ownsRow B 3 1 v l.length (l.map (Value.int .i64))
theorem CU {ops:Array Oper} {rest:List Oper} {o:Oper} {a:Act} {Q:Exit->Act->World->Prop} (D:o.guard=none) (s y:Operand)
  (V:o.op=.call { callee:=.builtin .append,args:=#[s,y],argTypes:=#[23,23] }) (W:World) (l:List Int) (x:Int) (B g c:Nat) (v:Value) (hs:a.eval s=v)
  (hy:a.eval y=.slice (some ⟨g,0,none⟩) 1 c) (d:W.ownsRow B 3 1 v l.length (l.map (Value.int .i64))) (O:W.cell? ⟨g,0,none⟩=some (.int .i64 x)) (M:B<=W.heap.size) (hl:l.length<=1000000000000)
  (h:∀v' w',zt w' B v' (l++[x])->Hid (W.grownBy w' v.ownBlock)->Hid (v'.ownBlock=v.ownBlock\/v'.ownBlock=some W.heap.size)->wpList Tryz.prog ops Q rest (a.put o.dst v') w'):wpList Tryz.prog ops Q (o :: rest) a W:=by
 obtain ⟨i0,U,E,G,I⟩:=info_parts Tryz.infoInt;refine wpList_append_own_at _ D _ _ 23 V B 3 i0 (.int .i64 0) 1 8 Tryz.underlying23 U E G I rfl (by decide) _ _ _ hs d ⟨g,0,none⟩ 1 c [.int .i64 x] hy rfl ?_ ?_ ?_ ?_ M ?_
 ·intro j u z
  match j,z with
  | 0,z=>
   have:u=.int .i64 x:=by simpa using z.symm
   rw [this];exact O
 ·intro u z;have:u=.int .i64 x:=by simpa using z
  rw [this];rfl
 ·unfold maxLen;omega
 ·omega
 ·intro v' w' J K _ L;refine h v' w' ?_ K L;unfold zt;rw [map_snoc,Dz];exact J
structure RI (w wr:World) (g:Nat) (mv:Array Value) (s todo:List Int) (v:Value):Prop where
 below:Below w.heap.size w wr
 ge:w.heap.size<=g
 box:ze wr g 32 mv
 set:zu wr (g+1) s
 own:wr.ownsRow (g+2) 3 1 v todo.length (todo.map (Value.int .i64))
section
variable {w wr w':World} {g:Nat} {mv:Array Value} {s todo:List Int} {v:Value}
theorem RI.lt (h:RI w wr g mv s todo v):g+1<wr.heap.size:=za h.set
theorem RI.call (h:RI w wr g mv s todo v) (d:Below wr.heap.size wr w'):RI w w' g mv s todo v:=
 ⟨BB h.below d (Dq _),h.ge,h.box.below d (by have:=h.lt;omega),h.set.below d,
  h.own.kept (row:=none) ⟨d.os,d.tape,d.output,d.size,fun i o _=>d.block i o⟩ (by cases h:v.ownBlock <;> simp)⟩
theorem RI.alloc (h:RI w wr g mv s todo v) (o:Obj):RI w (wr.alloc o) g mv s todo v:=h.call ((Below.refl _ _).alloc (Dq _) _)
theorem RI.add (h:RI w wr g mv s todo v) (o:zu w' (g+1) (ins s x)) (d:wr.grownBy w' (some (g+1))):RI w w' g mv (ins s x) todo v:=
 ⟨Am h.below d h.below.size (by have:=h.ge;omega),h.ge,(d.block g (by have:=h.lt;omega) (fun e=>by injection e;omega)).trans h.box,o,
  h.own.kept d (.inr (fun e=>by have:=(h.own.lt _ e).1;omega))⟩
theorem RI.app {v':Value} (h:RI w wr g mv s todo v) (z:w'.ownsRow (g+2) 3 1 v' (todo++[x]).length ((todo++[x]).map (Value.int .i64))) (d:wr.grownBy w' v.ownBlock):RI w w' g mv s (todo++[x]) v':=
 ⟨h.below.grown d h.below.size (fun k o=>by have:=(h.own.lt _ o).1;have:=h.ge;omega),h.ge,
  (d.block g (by have:=h.lt;omega) (fun e=>by have:=(h.own.lt _ e.symm).1;omega)).trans h.box,
  (d.block (g+1) h.lt (fun e=>by have:=(h.own.lt _ e.symm).1;omega)).trans h.set,z⟩
end
theorem look_t {w:World} {g:Nat} (h:zu w g l) (d:x∈l):(Instr.lookup 152 (.map (some g)) (.int .i64 x) false).run Tryz.prog w=.ok (.bool true) w:=by
 have:=run_look h x 152 Tryz.underlying152
 rwa [Du d] at this
theorem look_f {w:World} {g:Nat} (h:zu w g l) (d:x∉l):(Instr.lookup 152 (.map (some g)) (.int .i64 x) false).run Tryz.prog w=.ok (.bool false) w:=by
 have:=run_look h x 152 Tryz.underlying152
 rwa [Dv d] at this
theorem ins_new (h:x∉l):ins l x=l++[x]:=by simp [ins,h]
theorem nodup_snoc (h:l.Nodup) (z:x∉l):(l++[x]).Nodup:=by
 rw [List.nodup_append]
 exact ⟨h,by simp,fun a d b o=>by
  have:b=x:=by simpa using o
  subst this;rintro rfl;exact z d⟩
structure RO (m:MZ) (t:Nat) (from_ used s todo:List Int):Prop where
 nd:s.Nodup
 rp:∀x∈s,RP m t from_ used x
 fr:∀x∈from_,0<=x->x<m.n->x∈s
 sub:∀x∈todo,x∈s
 cl:∀y∈s,y∉todo->∀z∈zg m y,zf m t z=true->z∉used->z∈s
 ln:todo.length<=s.length
structure RJ (m:MZ) (t:Nat) (from_ used s todo:List Int) (x:Int) (j:Nat):Prop where
 nd:s.Nodup
 rp:∀x∈s,RP m t from_ used x
 fr:∀x∈from_,0<=x->x<m.n->x∈s
 sub:∀x∈todo,x∈s
 xs:x∈s
 cl:∀y∈s,y∉todo->y≠x->∀z∈zg m y,zf m t z=true->z∉used->z∈s
 cx:∀z∈(zg m x).take j,zf m t z=true->z∉used->z∈s
 ln:todo.length<=s.length
theorem RO.pop {m:MZ} {s todo:List Int} (h:RO m t from_ used s (todo++[x])):RJ m t from_ used s todo x 0:=
 ⟨h.nd,h.rp,h.fr,fun y o=>h.sub y (by simp [o]),h.sub x (by simp),fun y o z d=>h.cl y o (by simp [z,d]),by simp,by have:=h.ln;simp at this;omega⟩
theorem RJ.skip {m:MZ} {s todo:List Int} (h:RJ m t from_ used s todo x j) (o:j<(zg m x).length) (B:(zg m x)[j]∈s\/zf m t (zg m x)[j]=false\/(zg m x)[j]∈used):
  RJ m t from_ used s todo x (j+1):=
 ⟨h.nd,h.rp,h.fr,h.sub,h.xs,h.cl,fun z D hf d=>by
  rcases (zx o z).1 D with h1 | h1
  ·exact h.cx z h1 hf d
  ·subst h1;rcases B with h2 | h2 | h2
   ·exact h2
   ·rw [hf] at h2;cases h2
   ·exact absurd h2 d,h.ln⟩
theorem RJ.push {m:MZ} {s todo:List Int} (h:RJ m t from_ used s todo x j) (G:j<(zg m x).length) (J:(zg m x)[j]∉s) (hf:zf m t (zg m x)[j]=true) (K:(zg m x)[j]∉used):
  RJ m t from_ used (s++[(zg m x)[j]]) (todo++[(zg m x)[j]]) x (j+1):=
 ⟨nodup_snoc h.nd J,fun y hy=>by
   rw [Eg,DY] at hy;rcases hy with hy | rfl
   ·exact h.rp y hy
   ·exact (h.rp x h.xs).step (Dr G) hf K,
  fun y hy h0 h1=>by simp [h.fr y hy h0 h1],
  fun y hy=>by
   rw [Eg,DY] at hy⊢;rcases hy with hy | hy
   ·exact .inl (h.sub y hy)
   ·exact .inr hy,
  by simp [h.xs],
  fun y hy B D z E d o=>by
   rw [Eg,DY] at hy B;rcases hy with hy | hy
   ·simp [h.cl y hy (fun I=>B (.inl I)) D z E d o]
   ·exact absurd (.inr hy) B,
  fun z E d o=>by
   rcases (zx G z).1 E with h1 | h1
   ·simp [h.cx z h1 d o]
   ·simp [h1],by have:=h.ln;simp;omega⟩
theorem RJ.done {m:MZ} {s todo:List Int} (h:RJ m t from_ used s todo x j) (B:(zg m x).length<=j):RO m t from_ used s todo:=
 ⟨h.nd,h.rp,h.fr,h.sub,fun y E D z G hf o=>by
  by_cases d:y=x
  ·subst d;exact h.cx z (by rwa [List.take_of_length_le B]) hf o
  ·exact h.cl y E D d z G hf o,h.ln⟩
theorem RO.end_ {m:MZ} {s:List Int} (h:RO m t from_ used s []) (x:Int):x∈s↔RP m t from_ used x:=
 ⟨h.rp x,fun d=>d (·∈s) h.fr (fun y z B D hf o=>h.cl y B (by simp) z D hf o)⟩
theorem Be {w:World} {base:Nat} {e:TypeId} {size g n cap:Nat} {xs:List Value} (h:w.ownsRow base e size (.slice (some ⟨g,0,none⟩) n cap) n xs):n<=cap:=by
 rcases h.2 with ⟨h0,_⟩ | ⟨g',cap',cur,o,_,_,d,_⟩
 ·cases h0
 ·cases o;exact d
theorem CB (m:MZ) (x:Int):(zg m x).length<=6:=by
 have h (c:Bool) (y:Int) (l:List Int) (k:Nat) (d:l.length<=k):(ap c y l).length<=k+1:=Dt (ap_len c y l) (by omega);unfold zg;exact h _ _ _ 5 (h _ _ _ 4 (h _ _ _ 3 (h _ _ _ 2 (h _ _ _ 1 (h _ _ _ 0 (by simp))))))
theorem reach_calls {ok':Nat->Prop} {vm vf:Value} {m:MZ} {gu:Nat} (t:Nat) (w:World) (hm:zF w ok vm m) (d:Dim m) (ht:t<m.free.length) (f3:∀f∈m.free,(f.length:Int)=m.n)
  (hf:zk w ok' vf from_) (hl:from_.length<=20000000000000) (hu:zu w gu used):
  Calls Tryz.prog 209 #[vm,.int .i64 t,vf,.map (some gu)] w fun e w'=>∃s,e=.returned (.map (some (w.heap.size+1)))/\Below w.heap.size w w'/\zu w' (w.heap.size+1) s/\∀x,x∈s↔RP m t from_ used x:=by
 have f6:=hm;obtain ⟨vfr,vup,vts,rfl,a4,_,_⟩:=hm;obtain ⟨vsf,⟨Af,cf,rfl,l1,f9⟩,f2⟩:=a4;obtain ⟨A,c,rfl,hc,hr⟩:=hf;obtain ⟨l4,l5⟩:=d.layer;have D:=zh d;obtain ⟨w1,w2,l2,l3,ll1,ll2,n1,j0⟩:=d;have HM:=zh f6;clear f6;have h5:=zh f9;clear f9;have g9:=zh f2;clear f2;have HR:=zh hr;clear hr;have HU:=zh hu;clear hu;have h4:=zh f3;clear f3 j0;have hN:0<=m.w*m.h*m.l:=by omega
 have l7:=@run_makeMap Tryz.prog
 go_enter Tryz.func209,Tryz.ntmps209
 go_wp2
 have e8:RI w ((w.alloc (.cells #[.int .i64 m.w,.int .i64 m.h,.int .i64 m.l,.slice Af m.free.length cf,vup,vts] 32)).alloc (.map #[] 0)) w.heap.size #[.int .i64 m.w,.int .i64 m.h,.int .i64 m.l,.slice Af m.free.length cf,vup,vts] [] [] (.slice none 0 0):=by
  refine ⟨((Below.refl _ _).alloc (Dq _) _).alloc (by simp) _,Dq _,?_,?_,World.ownsRow_nil _ _ _ _⟩
  ·exact ze.alloc (Ee w _) _
  ·have:=zu.new (w.alloc (.cells #[.int .i64 m.w,.int .i64 m.h,.int .i64 m.l,.slice Af m.free.length cf,vup,vts] 32));simpa using this
 go_loopw [10,19] (fun v i wr=>∃k s,k<=from_.length/\i=.int .i64 (k:Nat)/\Hid (RI w wr w.heap.size #[.int .i64 m.w,.int .i64 m.h,.int .i64 m.l,.slice Af m.free.length cf,vup,vts] s s v)/\Hid (s.Nodup)/\Hid (∀x,x∈s↔x∈from_.take k/\0<=x/\x<m.n)) (fun _ i _=>from_.length - (intOf i).toNat)
 case atStart=>exact ⟨0,[],DF _,rfl,e8,List.nodup_nil,by simp [Hid]⟩
 clear e8
 case round=>
  obtain ⟨k,s,hk,rfl,hI,hnd,hx⟩:=hrel;by_cases o:k<from_.length
  ·obtain ⟨b,off,rfl,_,E⟩:=Ao (HR.out.keep (zN.of_below hI.out.below)) o o;obtain ⟨y,hy⟩:=Ez (from_[k]);rw [<-hy] at E;have HY:=zh hy;clear hy;obtain ⟨m0,m1,m2,m3,m4,m5⟩:=zw hI.out.box;by_cases g4:0<=y
   ·by_cases j3:y<m.w*m.h*m.l
    ·have c6:∀W:World,Calls Tryz.prog 99 #[.agg #[.int .i64 m.w,.int .i64 m.h,.int .i64 m.l,.slice Af m.free.length cf,vup,vts]] W _:=fun W=>zY m.w m.h m.l _ vup vts W (by omega) (by omega)
     have b9:=zh c6;clear c6;by_cases B:y∈s
     ·go_wp2_with fail
      refine (b9.out _).mono ?_;rintro e w' ⟨rfl,hb⟩;have U:=zh (hI.out.call hb);have a6:=look_t U.out.set B
      go_wp2_with fail
      go_roundw
      case rel=>exact ⟨k+1,s,by omega,by go_num,U,hnd,fun x=>by
       rw [zx o,hx.out,<-HY.out];constructor
       ·rintro ⟨z,J⟩;exact ⟨.inl z,J⟩
       ·rintro ⟨z | rfl,J⟩
        ·exact ⟨z,J⟩
        ·exact (hx.out x).1 B⟩
      case measure=>simp [intOf];omega
     ·go_wp2_with fail
      refine (b9.out _).mono ?_;rintro e w' ⟨rfl,hb⟩;have U:=zh (hI.out.call hb);have a6:=look_f U.out.set B
      go_wp2_with (at_mapUpdate;refine wpSetAdd rfl _ _ _ _ rfl Tryz.underlying152 (w.heap.size+1) s y rfl rfl rfl U.out.set ?_)
      intro wa b0 M;have K:=zh (U.out.add b0 M);have V:wa.heap.size=wa.heap.size:=rfl;have i5:w.heap.size+2<=wa.heap.size:=K.out.lt;have c8:=Bx hnd.out m.n (fun x j2=>((hx.out x).1 j2).2);have i6:s.length<=300:=by unfold MZ.n at c8;omega
      clear b0 M a6 c8
      go_wp2_with (at_builtin;refine CU rfl _ _ rfl _ s y (w.heap.size+2) wa.heap.size 1 _ rfl rfl (K.out.own.alloc _) ?c1 ?c2 ?c3 ?_)
      case c2=>(first | omega | (simp;omega))
      case c3=>omega
      intro v' wb a8 O _;have d8:=zh ((K.out.alloc _).app a8 O.out);clear a8 O;go_wp2;go_roundw
      case rel=>exact ⟨k+1,s++[y],by omega,by go_num,by have:=d8.out;rwa [ins_new B] at this,nodup_snoc hnd.out B,fun x=>by
       rw [Eg,DY,zx o,hx.out,<-HY.out];constructor
       ·rintro (⟨z,J⟩ | rfl)
        ·exact ⟨.inl z,J⟩
        ·exact ⟨.inr rfl,g4,j3⟩
       ·rintro ⟨z | rfl,J⟩
        ·exact .inl ⟨z,J⟩
        ·exact .inr rfl⟩
      case measure=>simp [intOf];omega
    ·go_wp2_with (go_at_call 99;refine (zY _ _ _ _ _ _ _ (by omega) (by omega)).mono ?_;rintro e w' ⟨rfl,hb⟩)
     go_roundw
     case rel=>exact ⟨k+1,s,by omega,by go_num,hI.out.call ‹_›,hnd,fun x=>by
      rw [zx o,hx.out,<-HY.out];constructor
      ·rintro ⟨z,J⟩;exact ⟨.inl z,J⟩
      ·rintro ⟨z | rfl,J,h3⟩
       ·exact ⟨z,J,h3⟩
       ·unfold MZ.n at h3;omega⟩
     case measure=>simp [intOf];omega
   ·go_wp2;go_roundw
    case rel=>exact ⟨k+1,s,by omega,by go_num,hI,hnd,fun x=>by
     rw [zx o,hx.out,<-HY.out];constructor
     ·rintro ⟨z,J⟩;exact ⟨.inl z,J⟩
     ·rintro ⟨z | rfl,J,h3⟩
      ·exact ⟨z,J,h3⟩
      ·omega⟩
    case measure=>simp [intOf];omega
  ·obtain rfl:k=from_.length:=by omega
   have b3:Hid (∀x,x∈s↔x∈from_/\0<=x/\x<m.n):=fun x=>by have:=hx.out x;rwa [DC] at this
   clear hx;have hO:Hid (RO m t from_ used s s):=⟨hnd.out,fun x h=>RP.base ((b3.out x).1 h).1 ((b3.out x).1 h).2.1 ((b3.out x).1 h).2.2,fun x h h0 z=>(b3.out x).2 ⟨h,h0,z⟩,fun x h=>h,fun y h hn=>absurd h hn,Dq _⟩;clear b3 hnd o hk;go_wp2
   go_loopg [10] (2*(m.n.toNat - s.length)+s.length) (fun gk v wr=>∃s todo,gk=2*(m.n.toNat - s.length)+todo.length/\Hid (RI w wr w.heap.size #[.int .i64 m.w,.int .i64 m.h,.int .i64 m.l,.slice Af m.free.length cf,vup,vts] s todo v)/\Hid (RO m t from_ used s todo))
   case atStart=>exact ⟨s,s,rfl,hI,hO⟩
   clear hI hO
   case round=>
    obtain ⟨s,todo,rfl,hI,hO⟩:=hrel;obtain ⟨wo,rfl⟩:∃wo:World,wo=wr:=⟨_,rfl⟩;rcases List.eq_nil_or_concat todo with rfl | ⟨td,x,rfl⟩
    ·obtain ⟨A0,c0,hv⟩:∃A0 c0,u10=.slice A0 0 c0:=by
      obtain ⟨A0,c0,hv,_⟩:=Aw.of_own hI.out.own;exact ⟨A0,c0,hv⟩
     subst hv;go_wp2;go_ret;exact ⟨s,rfl,hI.out.below,hI.out.set,hO.out.end_⟩
    ·rw [List.concat_eq_append] at hI hO;obtain ⟨gt,ct,hv,j7,f4⟩:=hI.out.own.form (by simp);subst hv;have e4:(td++[x]).length=td.length+1:=by simp
     try rw [e4]
     have i4:wo.cell? ⟨gt,td.length,none⟩=some (.int .i64 x):=by
      have:=hI.out.own.cellAt td.length (by simp);rw [this];simp
     have hJ:=zh hO.out.pop;have i3:=Be hI.out.own;rw [e4] at i3;have i8:=(hO.out.rp x (hJ.out.xs)).range D.out;have i9:=Bx hO.out.nd m.n (fun y hy=>(hO.out.rp y hy).range D.out);have m6:=hJ.out.ln;have k1:s.length<=300:=by unfold MZ.n at i9;omega
     obtain ⟨g1,g3⟩:=i8;obtain ⟨m0,m1,m2,m3,m4,m5⟩:=zw hI.out.box
     have d7:Hid (RI w wo w.heap.size #[.int .i64 m.w,.int .i64 m.h,.int .i64 m.l,.slice Af m.free.length cf,vup,vts] s td (.slice (some ⟨gt,0,none⟩) td.length ct)):=by
      have h:=hI.out.own;refine ⟨hI.out.below,hI.out.ge,hI.out.box,hI.out.set,?_⟩;rw [map_snoc,e4] at h;exact ownsRow_pop (by simp) h
     clear hI hO
     go_wp2_with fail
     refine (CQ m x wo (HM.out.keep (zN.of_below d7.out.below)) D.out g1 g3).mono ?_;rintro e wk ⟨v',rfl,f0,e3⟩;have e7:=zh (d7.out.call f0);have f7:=zh (Aw.of_own e3);have j8:=zh e3;clear e3;obtain ⟨A2,c2,j1,l0,c9⟩:=f7.out;subst j1;clear f7;have l9:=CB m x;have i7:=HM.out;have e6:=zh c9;clear c9;clear i7 m0 m1 m2 m3 m4 m5 i4;have k5:wo.heap.size<=wk.heap.size:=f0.size;go_wp2;go_loopw [10,62] (fun v i wi=>∃j s' todo',j<=(zg m x).length/\i=.int .i64 (j:Nat)/\Hid (RI w wi w.heap.size #[.int .i64 m.w,.int .i64 m.h,.int .i64 m.l,.slice Af m.free.length cf,vup,vts] s' todo' v)/\Hid (RJ m t from_ used s' todo' x j)/\Hid (zN (fun b=>wo.heap.size<=b/\b<wk.heap.size) wk wi)/\Hid (∀k,v.ownBlock=some k->k<wo.heap.size\/wk.heap.size<=k)/\Hid (wk.heap.size<=wi.heap.size)/\Hid (todo'.length+s.length=td.length+s'.length/\s.length<=s'.length)) (fun _ i _=>(zg m x).length - (intOf i).toNat)
     case atStart=>exact ⟨0,s,td,DF _,rfl,e7,hJ,zN.refl _ _,fun k hk=>by
      have:k=gt:=by simpa [Value.ownBlock] using hk.symm
      subst this;exact .inl f4,Dq _,rfl,Dq _⟩
     clear d7 e7 hJ
     case round=>
      obtain ⟨j,s',todo',hj,rfl,hI,hJ,hS,a2,V,a7⟩:=hrel;by_cases a5:j<(zg m x).length
      ·obtain ⟨b2,off2,rfl,i0,G⟩:=Ao e6.out a5 a5;have a3:=zn G;have E:=(Cz (hS.out b2 ⟨i0,a3⟩ a3)).trans G;clear G;have g5:=Ba D.out g1 g3 (Dr a5);have I:=zh (hJ.out.skip a5);have a9:=zh (hJ.out.push a5);obtain ⟨y,hy⟩:=Ez ((zg m x)[j]);rw [<-hy] at E g5 I a9;clear hy;obtain ⟨g4,m7⟩:=g5;obtain ⟨m0,m1,m2,m3,m4,m5⟩:=zw hI.out.box;obtain ⟨bf,off3,uf,rfl,_,c7,i1⟩:=BU (h5.out.keep (zN.of_below hI.out.below)) g9.out ht ht;have L:=h4.out _ (Dr ht);obtain ⟨A4,c4,rfl,i2,f8⟩:=i1;have b7:y.toNat<(m.free[t]).length:=by omega
       obtain ⟨b4,off4,rfl,_,Q⟩:=CF (f8.keep (zN.of_below hI.out.below)) b7 b7;have a4:(m.free[t])[y.toNat]=zf m t y:=by simp [zf,ht,b7]
       rw [a4] at Q;have k6:=zh a4;clear a4;obtain ⟨nf,e2⟩:=Ez ((m.free[t]).length);rw [<-e2] at c7 b7 L i2;have k7:=zh e2;clear e2;have j5:=zh L;clear L;clear f8;have b1:=hI.out.set;have d6:=HU.out.below hI.out.below;by_cases B:y∈s'
       ·have a6:=look_t b1 B;go_wp2;go_roundw
        case rel=>exact ⟨j+1,s',todo',by omega,by go_num,hI,I.out (.inl B),hS,a2,V,a7⟩
        case measure=>simp [intOf];omega
       ·have a6:=look_f b1 B;by_cases hf:zf m t y=true
        ·rw [hf] at Q;by_cases b8:y∈used
         ·have f5:=look_t d6 b8;have HF:=zh hf;clear hf;go_wp2;go_roundw
          case rel=>exact ⟨j+1,s',todo',by omega,by go_num,hI,I.out (.inr (.inr b8)),hS,a2,V,a7⟩
          case measure=>simp [intOf];omega
         ·have f5:=look_f d6 b8;have HF:=zh hf;clear hf;have h6:=zh (a9.out B HF.out b8);have d4:=Bx hJ.out.nd m.n (fun y hy=>(hJ.out.rp y hy).range D.out);have k2:=hJ.out.ln;have k3:todo'.length<=300:=by unfold MZ.n at d4;omega
          go_wp2_with (at_mapUpdate;refine wpSetAdd rfl _ _ _ _ rfl Tryz.underlying152 (w.heap.size+1) s' y rfl rfl rfl hI.out.set ?_)
          intro wa b0 M;have K:=zh (hI.out.add b0 M)
          have h8:Hid (zN (fun b=>wo.heap.size<=b/\b<wk.heap.size) wk wa):=fun b hb o=>by
           refine (M.block b (DT o V.out) (fun e=>?_)).trans (hS.out b hb o);injection e with e;have:=hb.1;omega
          have e5:Hid (wk.heap.size<=wa.heap.size):=Dt V.out M.size;have i5:w.heap.size+2<=wa.heap.size:=K.out.lt;clear b0 M a6 f5 b1 d6 m0 m1 m2 m3 m4 m5 c7 Q E
          go_wp2_with (at_builtin;refine CU rfl _ _ rfl _ todo' y (w.heap.size+2) wa.heap.size 1 _ rfl rfl (K.out.own.alloc _) ?d1 ?d2 ?d3 ?_)
          (try case d1=>simp)
          case d2=>(first | omega | (simp;omega))
          case d3=>omega
          intro v' wb a8 O f1;have d8:=zh ((K.out.alloc _).app a8 O.out)
          have h7:Hid (∀k,v'.ownBlock=some k->k<wo.heap.size\/wk.heap.size<=k):=fun k hk=>by
           rcases f1.out with e | e
           ·exact a2.out k (e ▸ hk)
           ·have:k=wa.heap.size+1 - 1+1:=by
             rw [e] at hk;simpa using hk.symm
            have:=e5.out;omega
          have h9:Hid (zN (fun b=>wo.heap.size<=b/\b<wk.heap.size) wk wb):=fun b hb o=>by
           have hz:=e5.out;refine (O.out.block b (by simp;omega) (fun e=>?_)).trans ((DK wa _ b (by omega)).trans (h8.out b hb o));have z:=a2.out b e.symm;have J:=hb.1;omega
          have j4:Hid (wk.heap.size<=wb.heap.size):=by
           have z:=O.out.size;have J:=e5.out;simp at z;show _<=_;omega
          clear a8 O f1;go_wp2;go_roundw
          case rel=>exact ⟨j+1,s'++[y],todo'++[y],by omega,by go_num,by have:=d8.out;rwa [ins_new B] at this,h6,h9,h7,j4,by have z:=a7.out;show _/\_;simp only [Dz,Ex,Ey];omega⟩
          case measure=>simp [intOf];omega
        ·have e0:zf m t y=false:=by simpa using hf
         rw [e0] at Q;have HF:=zh e0;clear hf e0;go_wp2;go_roundw
         case rel=>exact ⟨j+1,s',todo',by omega,by go_num,hI,I.out (.inr (.inl HF.out)),hS,a2,V,a7⟩
         case measure=>simp [intOf];omega
      ·have d9:=zh (hJ.out.done (by omega));have d4:=Bx d9.out.nd m.n (fun y hy=>(d9.out.rp y hy).range D.out);have l6:=a7.out;go_wp2
       go_roundg (2*(m.n.toNat - s'.length)+todo'.length)
       case measure=>
        have z:(td.concat x).length=td.length+1:=by simp
        rw [z];omega
       case rel=>exact ⟨s',todo',rfl,hI,d9⟩
theorem Bm {α:Type} {l:List α} (p:α->Bool) (h:k<l.length):(l.take (k+1)).any p=((l.take k).any p || p l[k]):=by
 rw [Dy h,List.any_append];simp
theorem zX {P: Program} {n: FuncId} {fn: Func} (h : P.funcs[n]? = some fn) (hn : (fn.name == "runtime.NumGoroutine") = false) (hb : fn.body.isNone = false) (a : Array Value) (w : World) : (callFunc n a).run P w = .ok (.enter n a) w := by
 unfold callFunc;simp only [Sem.run_bind,run_program,Result.andThen_ok,h,hn,hb,Bool.false_eq_true,if_false,Sem.run_pure]
theorem CA {v:Value} (n:FuncId) (caps:Array Value) (p:Int->Bool) (w:World) (h:zk w ok v l) (hl:l.length<=20000000000000)
  (a1:∀(a:Array Value) (w:World),(callFunc n a).run Tryz.prog w=.ok (.enter n a) w)
  (hp:∀x∈l,∀w1,zB w w1->Calls Tryz.prog n (#[.int .i64 x]++caps) w1 fun e w'=>e=.returned (.bool (p x))/\zB w1 w'):
  Calls Tryz.prog 195 #[v,.func (.func n) #[] caps] w fun e w'=>∃r:Int,e=.returned (.int .i64 r)/\(0<=r↔l.any p=true)/\-1<=r/\zB w w':=by
 obtain ⟨A,c,rfl,hc,U⟩:=h;have HR:=zh U;clear U;have V:=zh hp;clear hp
 go_enter Tryz.func195,Tryz.ntmps195
 go_wp2_with fail
 go_loopw [8] (fun i wr=>∃k:Nat,k<=l.length/\i=.int .i64 k/\Hid ((l.take k).any p=false)/\Hid (zB w wr)) (fun i _=>l.length - (intOf i).toNat)
 case atStart=>exact ⟨0,DF _,rfl,by simp [Hid],zB.refl _⟩
 case round=>
  obtain ⟨k,hk,rfl,Q,K⟩:=hrel;by_cases I:k<l.length
  ·obtain ⟨b,off,rfl,_,G⟩:=Ao (HR.out.keep (K.out.same ok)) I I;obtain ⟨x,M⟩:=Ez (l[k]);rw [<-M] at G;have L:x∈l:=by rw [M];exact Dr _
   have B:=zh (Bm p I);rw [<-M] at B;clear M;have d:=zh (V.out x L wr K.out);by_cases z:p x=true
   ·go_wp2_with fail
    refine d.out.mono ?_;rintro e w1 ⟨rfl,o⟩;rw [z];have D:=zh (K.out.trans o);clear o;have E:=zh z;clear z
    go_wp2_with fail
    go_ret;refine ⟨_,rfl,⟨fun _=>?_,fun _=>by omega⟩,by omega,D.out⟩;rw [Eu];exact ⟨x,L,E.out⟩
   ·have J:p x=false:=by simpa using z
    clear z
    go_wp2_with fail
    refine d.out.mono ?_;rintro e w1 ⟨rfl,o⟩;rw [J];have D:=zh (K.out.trans o);clear o;have E:=zh J;clear J
    go_wp2_with fail
    go_roundw
    case rel=>exact ⟨k+1,by omega,by go_num,by
     show _=false;rw [B.out,Q.out,E.out];rfl,D⟩
    case measure=>simp [intOf];omega
  ·obtain rfl:k=l.length:=by omega
   go_wp2;go_ret;have h:=Q.out;rw [DC] at h;refine ⟨_,rfl,⟨fun O=>by omega,fun O=>?_⟩,by omega,K.out⟩;rw [h] at O
   cases O
theorem indexFuncB_calls {v:Value} {l:List (List Bool)} (n:FuncId) (caps:Array Value) (p:List Bool->Bool) (w:World) (h:Each (AR w ok) w ok v l) (hl:l.length<=20000000000000)
  (a3:∀(a:Array Value) (w:World),(callFunc n a).run Tryz.prog w=.ok (.enter n a) w)
  (hp:∀x∈l,∀u,AR w ok u x->∀w1,zB w w1->Calls Tryz.prog n (#[u]++caps) w1 fun e w'=>e=.returned (.bool (p x))/\zB w1 w'):
  Calls Tryz.prog 194 #[v,.func (.func n) #[] caps] w fun e w'=>∃r:Int,e=.returned (.int .i64 r)/\(0<=r↔l.any p=true)/\-1<=r/\zB w w':=by
 obtain ⟨vs,⟨A,c,rfl,hc,V⟩,he⟩:=h;have HR:=zh V;clear V;have HE:=zh he;clear he;have HP:=zh hp;clear hp
 go_enter Tryz.func194,Tryz.ntmps194
 go_wp2_with fail
 go_loopw [8] (fun i wr=>∃k:Nat,k<=l.length/\i=.int .i64 k/\Hid ((l.take k).any p=false)/\Hid (zB w wr)) (fun i _=>l.length - (intOf i).toNat)
 case atStart=>exact ⟨0,DF _,rfl,by simp [Hid],zB.refl _⟩
 case round=>
  obtain ⟨k,hk,rfl,U,J⟩:=hrel;by_cases G:k<l.length
  ·obtain ⟨b,off,u,rfl,_,O,Q⟩:=BU (HR.out.keep (J.out.same ok)) HE.out G G;obtain ⟨x,L⟩:=Ez (l[k]);rw [<-L] at Q;have K:x∈l:=by rw [L];exact Dr _
   have B:=zh (Bm p G);rw [<-L] at B;clear L;have d:=zh (HP.out x K u Q wr J.out);clear Q;by_cases z:p x=true
   ·go_wp2_with fail
    refine d.out.mono ?_;rintro e w1 ⟨rfl,o⟩;rw [z];have D:=zh (J.out.trans o);clear o;have E:=zh z;clear z
    go_wp2_with fail
    go_ret;refine ⟨_,rfl,⟨fun _=>?_,fun _=>by omega⟩,by omega,D.out⟩;rw [Eu];exact ⟨x,K,E.out⟩
   ·have I:p x=false:=by simpa using z
    clear z
    go_wp2_with fail
    refine d.out.mono ?_;rintro e w1 ⟨rfl,o⟩;rw [I];have D:=zh (J.out.trans o);clear o;have E:=zh I;clear I
    go_wp2_with fail
    go_roundw
    case rel=>exact ⟨k+1,by omega,by go_num,by
     show _=false;rw [B.out,U.out,E.out];rfl,D⟩
    case measure=>simp [intOf];omega
  ·obtain rfl:k=l.length:=by omega
   go_wp2;go_ret;have h:=U.out;rw [DC] at h;refine ⟨_,rfl,⟨fun M=>by omega,fun M=>?_⟩,by omega,J.out⟩;rw [h] at M
   cases M
theorem AC {v:Value} {l:List (Int)} (n:FuncId) (caps:Array Value) (p:Int->Bool) (w:World) (h:zk w ok v l) (E:l.length<=20000000000000) (o:∀(a:Array Value) (w:World),(callFunc n a).run Tryz.prog w=.ok (.enter n a) w)
  (hp:∀x∈l,∀w1,zB w w1->Calls Tryz.prog n (#[.int .i64 x]++caps) w1 fun e w'=>e=.returned (.bool (p x))/\zB w1 w'):
  Calls Tryz.prog 145 #[v,.func (.func n) #[] caps] w fun e w'=>e=.returned (.bool (l.any p))/\zB w w':=by
 have H:=zh (CA n caps p w h E o hp);clear hp;obtain ⟨A,c,rfl,I,d⟩:=h;clear d
 go_enter Tryz.func145,Tryz.ntmps145
 go_wp2_with fail
 refine H.out.mono ?_;rintro e w1 ⟨r,rfl,d,G,z⟩;have D:=zh d;clear d;have B:=zh z;clear z
 go_wp2_with fail
 go_ret;refine ⟨zl ?_,B.out⟩;rw [Bool.eq_iff_iff,decide_eq_true_iff];exact D.out
theorem Dj {v:Value} {l:List (List Bool)} (n:FuncId) (caps:Array Value) (p:List Bool->Bool) (w:World) (h:Each (AR w ok) w ok v l) (E:l.length<=20000000000000) (o:∀(a:Array Value) (w:World),(callFunc n a).run Tryz.prog w=.ok (.enter n a) w)
  (hp:∀x∈l,∀u,AR w ok u x->∀w1,zB w w1->Calls Tryz.prog n (#[u]++caps) w1 fun e w'=>e=.returned (.bool (p x))/\zB w1 w'):
  Calls Tryz.prog 142 #[v,.func (.func n) #[] caps] w fun e w'=>e=.returned (.bool (l.any p))/\zB w w':=by
 have H:=zh (indexFuncB_calls n caps p w h E o hp);clear hp;obtain ⟨vs,⟨A,c,rfl,I,d⟩,he⟩:=h;clear d he
 go_enter Tryz.func142,Tryz.ntmps142
 go_wp2_with fail
 refine H.out.mono ?_;rintro e w1 ⟨r,rfl,d,G,z⟩;have D:=zh d;clear d;have B:=zh z;clear z
 go_wp2_with fail
 go_ret;refine ⟨zl ?_,B.out⟩;rw [Bool.eq_iff_iff,decide_eq_true_iff];exact D.out
def Ae (n x:Int):Bool:=decide (x<0) || decide (n<=x)
def side (x:Int):Bool:=decide (x<1) || decide (300<x)
def AS (m:MZ):Int:=
 if [m.w,m.h,m.l].any side then 2
 else if 300<m.n\/6<m.tasks.length then 2
 else if m.free.length≠m.tasks.length\/(m.up.length:Int)≠m.n\/m.free.any (fun f=>(f.length:Int) != m.n)=true then 1
 else if m.tasks.any (fun t=>t.1.any (Ae m.n) || t.2.any (Ae m.n)) then 50
 else 0
theorem cf51 (a:Array Value) (w:World):(callFunc 143 a).run Tryz.prog w=.ok (.enter 143 a) w:=zX Tryz.func143 (by kernel_rfl) (by kernel_rfl) a w
theorem cf52 (a:Array Value) (w:World):(callFunc 144 a).run Tryz.prog w=.ok (.enter 144 a) w:=zX Tryz.func144 (by kernel_rfl) (by kernel_rfl) a w
theorem check1_calls {u:Value} {f:List Bool} (g:Nat) (n:Int) (w:World) (z:AR w ok u f) (B:w.cell? ⟨g,0,none⟩=some (.int .i64 n)):
  Calls Tryz.prog 143 #[u,.pointer (some ⟨g,0,none⟩)] w fun e w'=>e=.returned (.bool ((f.length:Int) != n))/\zB w w':=by
 obtain ⟨A,c,rfl,d,o⟩:=z;clear o
 go_enter Tryz.func143,Tryz.ntmps143
 go_wp2;go_ret;exact ⟨rfl,zB.refl _⟩
theorem check2_calls (g:Nat) (n x:Int) (w:World) (o:w.cell? ⟨g,0,none⟩=some (.int .i64 n)):
  Calls Tryz.prog 144 #[.int .i64 x,.pointer (some ⟨g,0,none⟩)] w fun e w'=>e=.returned (.bool (Ae n x))/\zB w w':=by
 by_cases d:x<0
 ·go_enter Tryz.func144,Tryz.ntmps144
  go_wp2;go_ret;exact ⟨zl (by simp [Ae,d]),zB.refl _⟩
 ·go_enter Tryz.func144,Tryz.ntmps144
  go_wp2;go_ret;refine ⟨zl ?_,zB.refl _⟩;simp [Ae];omega
structure Lens (m:MZ):Prop where
 fr:m.free.length<=20000000000000
 up:m.up.length<=20000000000000
 ts:m.tasks.length<=20000000000000
 tl:∀t∈m.tasks,t.1.length<=400000000000/\t.2.length<=400000000000
theorem three_cells {w:World} {g:Nat} {t:TypeId} {a b c:Int} (h:ze w g t #[.int .i64 a,.int .i64 b,.int .i64 c]) (k:Nat) (d:k<3):w.cell? ⟨g,k,none⟩=some (.int .i64 ([a,b,c][k])):=by
 unfold ze at h;unfold World.cell?;simp only [h]
 match k,d with
 | 0,_=>rfl
 | 1,_=>rfl
 | 2,_=>rfl
theorem BR {w:World} {A:Option Addr} {n c:Nat} {l:List (List Int×List Int)} (h:Bf w ok (.slice A n c) l) (D:k<l.length):
  ∃b off s u1 u2,A=some ⟨b,off,none⟩/\ok b/\w.cell? ⟨b,off+k*3,none⟩=some (.string s)/\w.cell? ⟨b,off+k*3+1,none⟩=some u1/\w.cell? ⟨b,off+k*3+2,none⟩=some u2/\zk w ok u1 l[k].1/\zk w ok u2 l[k].2:=by
 obtain ⟨vs,⟨A',c',E,_,G,d⟩,he⟩:=h;injection E with e1 e2 e3;subst e1;obtain ⟨b,off,rfl,B,d⟩:=d (by omega);obtain ⟨s,u1,u2,h0,o,z,i1,i2⟩:=he k _ (Do D);exact ⟨b,off,s,u1,u2,rfl,B,d _ _ h0,by rw [Nat.add_assoc];exact d _ _ o,by rw [Nat.add_assoc];exact d _ _ z,i1,i2⟩
structure CI (w wr:World) (cells:Array Value) (ints:Array Value):Prop where
 below:Below w.heap.size w wr
 box:ze wr w.heap.size 32 cells
 ints:ze wr (w.heap.size+1) 3 ints
theorem CI.call {w wr w':World} (h:CI w wr c i) (d:Below wr.heap.size wr w'):CI w w' c i:=
 ⟨BB h.below d (Dq _),h.box.below d (za h.box),h.ints.below d (za h.ints)⟩
theorem CI.new (w:World) (c i:Array Value):CI w ((w.alloc (.cells c 32)).alloc (.cells i 3)) c i:=
 ⟨((Below.refl _ _).alloc (Dq _) _).alloc (by simp) _,ze.alloc (Ee w _) _,by
  have:=Ee (w.alloc (.cells c 32)) (.cells i 3);simpa [ze] using this⟩
theorem chk_side {m:MZ} (h:[m.w,m.h,m.l].any side=true):AS m=2:=by
 unfold AS;rw [if_pos h]
structure CJ (w wr:World) (cells:Array Value) (g:Nat) (n:Int):Prop where
 below:Below w.heap.size w wr
 box:ze wr w.heap.size 32 cells
 all:wr.cell? ⟨g,0,none⟩=some (.int .i64 n)
theorem CJ.call {w wr w':World} {g:Nat} {n:Int} (h:CJ w wr c g n) (d:Below wr.heap.size wr w'):CJ w w' c g n:=
 ⟨BB h.below d (Dq _),h.box.below d (za h.box),(Cz (d.block g (zn h.all))).trans h.all⟩
theorem CJ.new {w w':World} (h:CI w w' c i) (n:Int):CJ w (w'.alloc (.cells #[.int .i64 n] 3)) c w'.heap.size n:=
 ⟨h.below.alloc (Nat.le_of_lt (za h.box)) _,h.box.alloc _,by
  have:=Ee w' (.cells #[.int .i64 n] 3);unfold World.cell?;simp only [this];rfl⟩
theorem CJ.alloc {w wr:World} {c:Array Value} {g:Nat} {n:Int} (h:CJ w wr c g n) (o:Obj):CJ w (wr.alloc o) c g n:=
 ⟨h.below.alloc (Nat.le_of_lt (za h.box)) _,h.box.alloc _,(Cz (DK wr o g (zn h.all))).trans h.all⟩
theorem cells3 {w:World} {g:Nat} {t:TypeId} {a0 a1 a2:Value} (h:ze w g t #[a0,a1,a2]):
  w.cell? ⟨g,0,none⟩=some a0/\w.cell? ⟨g,1,none⟩=some a1/\w.cell? ⟨g,2,none⟩=some a2:=by
 unfold ze at h;unfold World.cell?;simp only [h];exact ⟨rfl,rfl,rfl⟩
theorem sides {m:MZ} (h:[m.w,m.h,m.l].any side=false):(1<=m.w/\m.w<=300)/\(1<=m.h/\m.h<=300)/\(1<=m.l/\m.l<=300):=by
 simp [side] at h;omega
theorem sides_mul {m:MZ} (h:[m.w,m.h,m.l].any side=false):(1<=m.w*m.h/\m.w*m.h<=90000)/\(1<=m.w*m.h*m.l/\m.w*m.h*m.l<=27000000):=by
 obtain ⟨⟨a1,a2⟩,⟨b1,b2⟩,c1,c2⟩:=sides h;have o:1<=m.w*m.h:=by have:=Int.mul_pos (a:=m.w) (b:=m.h) (by omega) (by omega);omega
 have d:m.w*m.h<=300*300:=Int.mul_le_mul a2 b2 (by omega) (by omega);have z:1<=m.w*m.h*m.l:=by have:=Int.mul_pos (a:=m.w*m.h) (b:=m.l) (by omega) (by omega);omega
 have B:m.w*m.h*m.l<=300*300*300:=Int.mul_le_mul d c2 (by omega) (by omega);omega
theorem Bv {v:Value} {m:MZ} (w:World) (hm:zF w ok v m) (hl:Lens m):
  Calls Tryz.prog 77 #[v] w fun e w'=>e=.returned (.int .i64 (AS m))/\Below w.heap.size w w':=by
 have e7:=hm;obtain ⟨vfr,vup,vts,rfl,e4,f3,f1⟩:=hm;obtain ⟨vsf,⟨Af,cf,rfl,e2,b9⟩,b7⟩:=e4;obtain ⟨Au,cu,rfl,g3,f0⟩:=f3;obtain ⟨vst,⟨At,ct,rfl,e3,c0⟩,b8⟩:=f1;obtain ⟨l1,l2,l3,l4⟩:=hl;have d6:=zh b9;clear b9;have c9:=zh b7;clear b7;have d7:=zh c0;clear c0;have d4:=zh b8;clear b8;have d5:=zh l4;clear l4;clear f0 e7
 go_enter Tryz.func77,Tryz.ntmps77
 go_wp2;have b3:=CI.new w #[.int .i64 m.w,.int .i64 m.h,.int .i64 m.l,.slice Af m.free.length cf,.slice Au m.up.length cu,.slice At m.tasks.length ct] #[.int .i64 m.w,.int .i64 m.h,.int .i64 m.l];go_loopw [17] (fun i wr=>∃k:Nat,k<=3/\i=.int .i64 k/\Hid (([m.w,m.h,m.l].take k).any side=false)/\Hid (CI w wr #[.int .i64 m.w,.int .i64 m.h,.int .i64 m.l,.slice Af m.free.length cf,.slice Au m.up.length cu,.slice At m.tasks.length ct] #[.int .i64 m.w,.int .i64 m.h,.int .i64 m.l])) (fun i _=>3 - (intOf i).toNat)
 case atStart=>exact ⟨0,by omega,rfl,by simp [Hid],b3⟩
 clear b3
 case round=>
  obtain ⟨k,hk,rfl,J,hI⟩:=hrel;by_cases I:k<3
  ·obtain ⟨x,hx⟩:=Ez ([m.w,m.h,m.l][k]'I);have a3:=three_cells hI.out.ints k I;rw [<-hx] at a3;have z:=zh (Bm (l:=[m.w,m.h,m.l]) side I);rw [<-hx] at z;have HX:=zh (show x∈[m.w,m.h,m.l] by rw [hx];exact Dr _);clear hx;by_cases h1:x<1
   ·go_wp2;go_ret;refine ⟨BH ?_,hI.out.below⟩;rw [chk_side];exact Eu.2 ⟨x,HX.out,by simp [side,h1]⟩
   ·by_cases h2:300<x
    ·go_wp2;go_ret;refine ⟨BH ?_,hI.out.below⟩;rw [chk_side];exact Eu.2 ⟨x,HX.out,by simp [side,h2]⟩
    ·have HS:=zh (show side x=false by simp [side,h1,h2]);go_wp2;go_roundw
     case rel=>exact ⟨k+1,by omega,by go_num,by
      show _=false;rw [z.out,J.out,HS.out];rfl,hI⟩
     case measure=>simp [intOf];omega
  ·obtain rfl:k=3:=by omega
   have HN:Hid ([m.w,m.h,m.l].any side=false):=J.out;clear J;obtain ⟨m0,m1,m2,m3,m4,m5⟩:=zw hI.out.box;obtain ⟨⟨p1,p2⟩,p3,p4⟩:=sides_mul HN.out
   have L:300<m.n\/6<m.tasks.length->AS m=2:=by
    intro h;unfold AS;rw [if_neg (by rw [HN.out];simp),if_pos h]
   have b0:=zh L;clear L
   go_wp2_with fail
   refine (zY _ _ _ _ _ _ _ (by omega) (by omega)).mono ?_;rintro e w' ⟨rfl,hb⟩;have d:=zh (hI.out.call hb);clear hI m0 m1 m2 m3 m4 m5 hb;have d8:∀o,_:=fun o=>zw (d.out.box.alloc o)
   by_cases J:300<m.w*m.h*m.l
   ·go_wp2;go_ret;exact ⟨BH (b0.out (.inl J)).symm,d.out.below.alloc (Nat.le_of_lt (za d.out.box)) _⟩
   by_cases ht:6<m.tasks.length
   ·go_wp2;go_ret;exact ⟨BH (b0.out (.inr ht)).symm,d.out.below.alloc (Nat.le_of_lt (za d.out.box)) _⟩
   have K:(m.free.length≠m.tasks.length\/(m.up.length:Int)≠m.n\/m.free.any (fun f=>(f.length:Int) != m.n)=true)->AS m=1:=by
    intro h;unfold AS;rw [if_neg (by rw [HN.out];simp),if_neg (by unfold MZ.n;omega),if_pos h]
   have V:=zh K;clear K;by_cases hf:m.free.length=m.tasks.length
   case neg=>
    go_wp2;go_ret;exact ⟨BH (V.out (.inl hf)).symm,d.out.below.alloc (Nat.le_of_lt (za d.out.box)) _⟩
   by_cases hu:(m.up.length:Int)=m.w*m.h*m.l
   case neg=>
    go_wp2;go_ret;exact ⟨BH (V.out (.inr (.inl hu))).symm,d.out.below.alloc (Nat.le_of_lt (za d.out.box)) _⟩
   have M:=zh (CJ.new d.out (m.w*m.h*m.l));have g4:w.heap.size<w'.heap.size:=za d.out.box;clear d
   have b2:AO w ok (.slice Af m.tasks.length cf) m.free:=by
    rw [<-hf];exact ⟨vsf,⟨Af,cf,rfl,e2,d6.out⟩,c9.out⟩
   go_wp2_with fail
   refine (Dj (ok:=ok) 143 _ (fun f=>(f.length:Int) != m.w*m.h*m.l) _ (b2.below M.out.below) l1 cf51 ?hp).mono ?_
   case hp=>exact fun x hx u hu w1 D=>check1_calls w'.heap.size _ w1 (hu.keep (D.same ok)) (M.out.call (D.below _)).all
   rintro e w1 ⟨rfl,D⟩;have B:=zh (M.out.call (D.below _));clear M D d8;by_cases ha:m.free.any (fun f=>(f.length:Int) != m.w*m.h*m.l)=true
   ·rw [ha];go_wp2;go_ret;exact ⟨BH (V.out (.inr (.inr ha))).symm,B.out.below⟩
   have a2:=zh (show m.free.any (fun f=>(f.length:Int) != m.w*m.h*m.l)=false by simpa using ha);clear ha;rw [a2.out];obtain ⟨m0,m1,m2,m3,m4,m5⟩:=zw B.out.box;have a1:Bf w ok (.slice At m.tasks.length ct) m.tasks:=⟨vst,⟨At,ct,rfl,e3,d7.out⟩,d4.out⟩
   go_wp2_with fail
   go_loopw [62] (fun i wr=>∃k:Nat,k<=m.tasks.length/\i=.int .i64 k/\Hid ((m.tasks.take k).any (fun t=>t.1.any (Ae m.n) || t.2.any (Ae m.n))=false)/\Hid (CJ w wr #[.int .i64 m.w,.int .i64 m.h,.int .i64 m.l,.slice Af m.free.length cf,.slice Au m.up.length cu,.slice At m.tasks.length ct] w'.heap.size (m.w*m.h*m.l))) (fun i _=>m.tasks.length - (intOf i).toNat)
   case atStart=>exact ⟨0,by omega,rfl,by simp [Hid],B⟩
   clear B m0 m1 m2 m3 m4 m5 b2
   case round=>
    obtain ⟨k,hk,rfl,J,hI⟩:=hrel;by_cases I:k<m.tasks.length
    ·obtain ⟨b,off,sn,u1,u2,rfl,_,g1,e0,e1,a4,a5⟩:=BR (a1.below hI.out.below) I;obtain ⟨A1,c1,rfl,b5,e8⟩:=a4.open;obtain ⟨A2,c2,rfl,b6,e9⟩:=a5.open;obtain ⟨e5,e6⟩:=d5.out _ (Dr I);clear e8 e9;have a7:=zh a4;clear a4;have a8:=zh a5;clear a5;have g0:=zh a1;clear a1;obtain ⟨t,ht⟩:=Ez (m.tasks[k]);rw [<-ht] at a7 a8 e0 e1 b5 b6 e5 e6;have z:=zh (Bm (fun t=>t.1.any (Ae m.n) || t.2.any (Ae m.n)) I);rw [<-ht] at z;have HM:=zh (show t∈m.tasks by rw [ht];exact Dr _);clear ht;have B:=zh (hI.out.alloc (.cells #[.string sn,.slice A1 t.1.length c1,.slice A2 t.2.length c2] 113));have a0:=zh (Ee wr (.cells #[.string sn,.slice A1 t.1.length c1,.slice A2 t.2.length c2] 113))
     have U:(t.1.any (Ae m.n) || t.2.any (Ae m.n))=true->AS m=50:=by
      intro h;unfold AS;rw [if_neg (by rw [HN.out];simp),if_neg (by unfold MZ.n;omega),if_neg (by unfold MZ.n;rw [a2.out];simp;omega),if_pos (Eu.2 ⟨t,HM.out,h⟩)]
     have Q:=zh U;clear U
     go_wp2_with fail
     refine (AC (ok:=ok) 144 _ (Ae (m.w*m.h*m.l)) _ (a7.out.below ((Below.refl _ _).alloc (Dq _) _)) (by omega) cf52 ?hp).mono ?_
     case hp=>exact fun x hx w1 D=>check2_calls w'.heap.size _ x w1 (B.out.call (D.below _)).all
     rintro e w4 ⟨rfl,D⟩;have O:=zh (B.out.call (D.below _));have b1:Hid (ze w4 wr.heap.size 113 _):=ze.below a0.out (D.below _) (za a0.out);have d9:Hid (Below wr.heap.size wr w4):=((Below.refl _ _).alloc (Dq _) _).trans (D.below _);clear D B a0;obtain ⟨q0,q1,q2⟩:=cells3 b1.out;by_cases E:t.1.any (Ae (m.w*m.h*m.l))=true
     ·rw [E];go_wp2;go_ret;exact ⟨BH (Q.out (by show (t.1.any (Ae (m.w*m.h*m.l)) || _)=true;rw [E];rfl)).symm,O.out.below⟩
     ·have E:t.1.any (Ae (m.w*m.h*m.l))=false:=by simpa using E
      rw [E];have c7:=zh E;clear E
      go_wp2_with fail
      refine (AC (ok:=ok) 144 _ (Ae (m.w*m.h*m.l)) _ (a8.out.below d9.out) (by omega) cf52 ?hp).mono ?_
      case hp=>exact fun x hx w1 D=>check2_calls w'.heap.size _ x w1 (O.out.call (D.below _)).all
      rintro e w5 ⟨rfl,D⟩;have b4:=zh (O.out.call (D.below _));clear D O b1 q0 q1 q2;by_cases G:t.2.any (Ae (m.w*m.h*m.l))=true
      ·rw [G];go_wp2;go_ret;exact ⟨BH (Q.out (by show (_ || t.2.any (Ae (m.w*m.h*m.l)))=true;rw [G];simp)).symm,b4.out.below⟩
      ·have G:t.2.any (Ae (m.w*m.h*m.l))=false:=by simpa using G
       rw [G];have c8:=zh G;clear G
       go_wp2_with fail
       go_roundw
       case rel=>exact ⟨k+1,by omega,by go_num,by
        show _=false;rw [z.out,J.out];show (_ || (t.1.any (Ae (m.w*m.h*m.l)) || t.2.any (Ae (m.w*m.h*m.l))))=false;rw [c7.out,c8.out];rfl,b4⟩
       case measure=>simp [intOf];omega
    ·obtain rfl:k=m.tasks.length:=by omega
     go_wp2;go_ret;refine ⟨BH ?_,hI.out.below⟩;have J:=J.out;rw [DC] at J;unfold AS;rw [if_neg (by rw [HN.out];simp),if_neg (by unfold MZ.n;omega),if_neg (by unfold MZ.n;rw [a2.out];simp;omega),if_neg (by rw [J];simp)]
end
end Go.Proofs.YtnmkmhpgnpojbaaGreatDoor
