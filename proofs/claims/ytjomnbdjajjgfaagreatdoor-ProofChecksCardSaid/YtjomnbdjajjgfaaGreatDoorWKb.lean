import Derived.Test.YtjomnbdjajjgfaaGreatDoorWKa
import Derived.Maps.AppendAt
import Derived.WalkSmall
import Derived.Deep.LoopGhost
import Derived.Deep.AppendSrc
import Derived.Deep.AppendLies
set_option linter.unusedVariables false
set_option linter.unusedSimpArgs false
set_option maxRecDepth 100000
set_option maxHeartbeats 16000000
namespace Go.Proofs.YtjomnbdjajjgfaaGreatDoor
variable {K:Act->World->Prop} {ops:Array Oper} {c i:Array Value} {Q:Exit->Act->World->Prop} {x:Int} {from_ l l' used:List Int} {rest:List Oper} {m:MZ} {B j k n t:Nat} {ok:Nat->Prop} {o:Oper} {A:Option Addr} {v':Value} {W a b w1 wk:World}
section
open Go.RowKit
theorem BA {w w':World} {g:Nat} (h:Below B a w) (I:w.grownBy w' (some g)) (E:B<=w.heap.size) (G:B<=g):Below B a w':=
 h.grown I E (fun k D=>by injection D with D;omega)
theorem setOf_calls {v:Value} (w:World) (h:zk w ok v l) (hl:l.length<=20000000000000):
  Calls Tryz.prog 217 #[v] w fun e w'=>∃s,e=.returned (.map (some w.heap.size))/\Below w.heap.size w w'/\zG w' w.heap.size s/\∀x,x∈s↔x∈l:=by
 obtain ⟨A,c,rfl,hc,U⟩:=h;have HR:=zh U;clear U;have a3:=@run_makeMap Tryz.prog
 go_enter Tryz.func217,Tryz.ntmps217
 go_wp2;go_loopw [9] (fun i wr=>∃k s,k<=l.length/\i=.int .i64 (k:Nat)/\Hid (Below w.heap.size w wr)/\Hid (zG wr w.heap.size s)/\Hid (∀x,x∈s↔x∈l.take k)) (fun i _=>l.length - (intOf i).toNat)
 case atStart=>exact ⟨0,[],Ef _,rfl,(Below.refl _ _).alloc (DR _) _,zG.new w,by simp [Hid]⟩
 case round=>
  obtain ⟨k,s,hk,rfl,J,V,hx⟩:=hrel;by_cases E:k<l.length
  ·obtain ⟨b,off,rfl,_,D⟩:=zE (HR.out.keep (zK.of_below J.out)) E E;obtain ⟨y,O⟩:=EY (l[k]);rw [<-O] at D;have HY:=zh O;clear O
   go_wp2_with (at_mapUpdate;refine wpSetAdd rfl _ _ _ _ rfl Tryz.underlying205 w.heap.size s y rfl rfl rfl V.out ?_)
   intro w1 I G;have M:=zh I;clear I;have L:=zh G;clear G;go_wp2;go_roundw
   case rel=>exact ⟨k+1,ins s y,by omega,by go_num,BA J.out L.out J.out.size (DR _),M.out,fun x=>by
    rw [mem_ins,zr E,hx.out,HY.out]⟩
   case measure=>simp [intOf];omega
  ·obtain rfl:k=l.length:=by omega
   go_wp2;go_ret;exact ⟨s,rfl,J.out,V.out,fun x=>by have:=hx.out x;rwa [Ec] at this⟩
def zB (w:World) (B:Nat) (v:Value) (l:List Int):Prop:=w.ownsRow B 3 1 v l.length (l.map (Value.int .i64))
theorem AF {a:Act} (G:o.guard=none) (s y:Operand)
  (V:o.op=.call { callee:=.builtin .append,args:=#[s,y],argTypes:=#[23,23] }) (W:World) (l:List Int) (x:Int) (B g c:Nat) (v:Value) (hs:a.eval s=v)
  (hy:a.eval y=.slice (some ⟨g,0,none⟩) 1 c) (D:W.ownsRow B 3 1 v l.length (l.map (Value.int .i64))) (O:W.cell? ⟨g,0,none⟩=some (.int .i64 x)) (M:B<=W.heap.size) (hl:l.length<=1000000000000)
  (h:∀v' w',zB w' B v' (l++[x])->Hid (W.grownBy w' v.ownBlock)->Hid (v'.ownBlock=v.ownBlock\/v'.ownBlock=some W.heap.size)->wpList Tryz.prog ops Q rest (a.put o.dst v') w'):wpList Tryz.prog ops Q (o :: rest) a W:=by
 obtain ⟨i0,U,I,J,L⟩:=info_parts Tryz.infoInt;refine wpList_append_own_at _ G _ _ 23 V B 3 i0 (.int .i64 0) 1 8 Tryz.underlying23 U I J L rfl (by decide) _ _ _ hs D ⟨g,0,none⟩ 1 c [.int .i64 x] hy rfl ?_ ?_ ?_ ?_ M ?_
 ·intro j u E
  match j,E with
  | 0,E=>
   have:u=.int .i64 x:=by simpa using E.symm
   rw [this];exact O
 ·intro u E;have:u=.int .i64 x:=by simpa using E
  rw [this];rfl
 ·unfold maxLen;omega
 ·omega
 ·intro v' w' h1 h2 _ h3;refine h v' w' ?_ h2 h3;unfold zB;rw [map_snoc,DZ];exact h1
structure RI (w wr:World) (g:Nat) (mv:Array Value) (s todo:List Int) (v:Value):Prop where
 below:Below w.heap.size w wr
 ge:w.heap.size<=g
 box:zd wr g 32 mv
 set:zG wr (g+1) s
 own:wr.ownsRow (g+2) 3 1 v todo.length (todo.map (Value.int .i64))
section
variable {w wr w':World} {g:Nat} {mv:Array Value} {s todo:List Int} {v:Value}
theorem RI.lt (h:RI w wr g mv s todo v):g+1<wr.heap.size:=zc h.set
theorem RI.call (h:RI w wr g mv s todo v) (D:Below wr.heap.size wr w'):RI w w' g mv s todo v:=
 ⟨Ba h.below D (DR _),h.ge,h.box.below D (by have:=h.lt;omega),h.set.below D,
  h.own.kept (row:=none) ⟨D.os,D.tape,D.output,D.size,fun i E _=>D.block i E⟩ (by cases h:v.ownBlock <;> simp)⟩
theorem RI.alloc (h:RI w wr g mv s todo v) (o:Obj):RI w (wr.alloc o) g mv s todo v:=h.call ((Below.refl _ _).alloc (DR _) _)
theorem RI.add (h:RI w wr g mv s todo v) (E:zG w' (g+1) (ins s x)) (D:wr.grownBy w' (some (g+1))):RI w w' g mv (ins s x) todo v:=
 ⟨BA h.below D h.below.size (by have:=h.ge;omega),h.ge,(D.block g (by have:=h.lt;omega) (fun e=>by injection e;omega)).trans h.box,E,
  h.own.kept D (.inr (fun e=>by have:=(h.own.lt _ e).1;omega))⟩
theorem RI.app (h:RI w wr g mv s todo v) (G:w'.ownsRow (g+2) 3 1 v' (todo++[x]).length ((todo++[x]).map (Value.int .i64))) (D:wr.grownBy w' v.ownBlock):RI w w' g mv s (todo++[x]) v':=
 ⟨h.below.grown D h.below.size (fun k E=>by have:=(h.own.lt _ E).1;have:=h.ge;omega),h.ge,
  (D.block g (by have:=h.lt;omega) (fun e=>by have:=(h.own.lt _ e.symm).1;omega)).trans h.box,
  (D.block (g+1) h.lt (fun e=>by have:=(h.own.lt _ e.symm).1;omega)).trans h.set,G⟩
end
theorem look_t {w:World} {g:Nat} (h:zG w g l) (D:x∈l):(Instr.lookup 205 (.map (some g)) (.int .i64 x) false).run Tryz.prog w=.ok (.bool true) w:=by
 have:=run_look h x 205 Tryz.underlying205
 rwa [DU D] at this
theorem look_f {w:World} {g:Nat} (h:zG w g l) (D:x∉l):(Instr.lookup 205 (.map (some g)) (.int .i64 x) false).run Tryz.prog w=.ok (.bool false) w:=by
 have:=run_look h x 205 Tryz.underlying205
 rwa [DV D] at this
theorem ins_new (h:x∉l):ins l x=l++[x]:=by simp [ins,h]
theorem Dm (h:l.Nodup) (G:x∉l):(l++[x]).Nodup:=by
 rw [List.nodup_append]
 exact ⟨h,by simp,fun a D b E=>by
  have:b=x:=by simpa using E
  subst this;rintro rfl;exact G D⟩
structure RO (m:MZ) (t:Nat) (from_ used s todo:List Int):Prop where
 nd:s.Nodup
 rp:∀x∈s,RP m t from_ used x
 fr:∀x∈from_,0<=x->x<m.n->x∈s
 sub:∀x∈todo,x∈s
 cl:∀y∈s,y∉todo->∀z∈zo m y,ze m t z=true->z∉used->z∈s
 ln:todo.length<=s.length
structure RJ (m:MZ) (t:Nat) (from_ used s todo:List Int) (x:Int) (j:Nat):Prop where
 nd:s.Nodup
 rp:∀x∈s,RP m t from_ used x
 fr:∀x∈from_,0<=x->x<m.n->x∈s
 sub:∀x∈todo,x∈s
 xs:x∈s
 cl:∀y∈s,y∉todo->y≠x->∀z∈zo m y,ze m t z=true->z∉used->z∈s
 cx:∀z∈(zo m x).take j,ze m t z=true->z∉used->z∈s
 ln:todo.length<=s.length
theorem RO.pop {s todo:List Int} (h:RO m t from_ used s (todo++[x])):RJ m t from_ used s todo x 0:=
 ⟨h.nd,h.rp,h.fr,fun y E=>h.sub y (by simp [E]),h.sub x (by simp),fun y E G D=>h.cl y E (by simp [G,D]),by simp,by have:=h.ln;simp at this;omega⟩
theorem RJ.skip {s todo:List Int} (h:RJ m t from_ used s todo x j) (E:j<(zo m x).length) (G:(zo m x)[j]∈s\/ze m t (zo m x)[j]=false\/(zo m x)[j]∈used):
  RJ m t from_ used s todo x (j+1):=
 ⟨h.nd,h.rp,h.fr,h.sub,h.xs,h.cl,fun z I hf D=>by
  rcases (zr E z).1 I with h1 | h1
  ·exact h.cx z h1 hf D
  ·subst h1;rcases G with h2 | h2 | h2
   ·exact h2
   ·rw [hf] at h2;cases h2
   ·exact absurd h2 D,h.ln⟩
theorem RJ.push {s todo:List Int} (h:RJ m t from_ used s todo x j) (L:j<(zo m x).length) (O:(zo m x)[j]∉s) (hf:ze m t (zo m x)[j]=true) (U:(zo m x)[j]∉used):
  RJ m t from_ used (s++[(zo m x)[j]]) (todo++[(zo m x)[j]]) x (j+1):=
 ⟨Dm h.nd O,fun y hy=>by
   rw [EH,Ey] at hy;rcases hy with hy | rfl
   ·exact h.rp y hy
   ·exact (h.rp x h.xs).step (DS L) hf U,
  fun y hy h0 h1=>by simp [h.fr y hy h0 h1],
  fun y hy=>by
   rw [EH,Ey] at hy⊢;rcases hy with hy | hy
   ·exact .inl (h.sub y hy)
   ·exact .inr hy,
  by simp [h.xs],
  fun y hy G I z J D E=>by
   rw [EH,Ey] at hy G;rcases hy with hy | hy
   ·simp [h.cl y hy (fun M=>G (.inl M)) I z J D E]
   ·exact absurd (.inr hy) G,
  fun z J D E=>by
   rcases (zr L z).1 J with h1 | h1
   ·simp [h.cx z h1 D E]
   ·simp [h1],by have:=h.ln;simp;omega⟩
theorem RJ.done {s todo:List Int} (h:RJ m t from_ used s todo x j) (G:(zo m x).length<=j):RO m t from_ used s todo:=
 ⟨h.nd,h.rp,h.fr,h.sub,fun y J I z L hf E=>by
  by_cases D:y=x
  ·subst D;exact h.cx z (by rwa [List.take_of_length_le G]) hf E
  ·exact h.cl y J I D z L hf E,h.ln⟩
theorem RO.end_ {s:List Int} (h:RO m t from_ used s []) (x:Int):x∈s↔RP m t from_ used x:=
 ⟨h.rp x,fun D=>D (·∈s) h.fr (fun y z G I hf E=>h.cl y G (by simp) z I hf E)⟩
theorem Bx {w:World} {base:Nat} {e:TypeId} {size g cap:Nat} {xs:List Value} (h:w.ownsRow base e size (.slice (some ⟨g,0,none⟩) n cap) n xs):n<=cap:=by
 rcases h.2 with ⟨h0,_⟩ | ⟨g',cap',cur,E,_,_,D,_⟩
 ·cases h0
 ·cases E;exact D
theorem BZ (m:MZ) (x:Int):(zo m x).length<=6:=by
 have h (c:Bool) (y:Int) (l:List Int) (k:Nat) (D:l.length<=k):(ap c y l).length<=k+1:=DT (ap_len c y l) (by omega);unfold zo;exact h _ _ _ 5 (h _ _ _ 4 (h _ _ _ 3 (h _ _ _ 2 (h _ _ _ 1 (h _ _ _ 0 (by simp))))))
theorem reach_calls {ok':Nat->Prop} {vm vf:Value} {gu:Nat} (t:Nat) (w:World) (hm:zt w ok vm m) (d:Dim m) (ht:t<m.free.length) (f5:∀f∈m.free,(f.length:Int)=m.n)
  (hf:zk w ok' vf from_) (hl:from_.length<=20000000000000) (hu:zG w gu used):
  Calls Tryz.prog 206 #[vm,.int .i64 t,vf,.map (some gu)] w fun e w'=>∃s,e=.returned (.map (some (w.heap.size+1)))/\Below w.heap.size w w'/\zG w' (w.heap.size+1) s/\∀x,x∈s↔RP m t from_ used x:=by
 have f8:=hm;obtain ⟨vfr,vup,vts,rfl,a7,_,_⟩:=hm;obtain ⟨vsf,⟨Af,cf,rfl,l4,g1⟩,f4⟩:=a7;obtain ⟨A,c,rfl,hc,hr⟩:=hf;obtain ⟨l7,l8⟩:=d.layer;have D:=zh d;obtain ⟨w1,w2,l5,l6,ll1,ll2,n1,j1⟩:=d;have HM:=zh f8;clear f8;have h6:=zh g1;clear g1;have h4:=zh f4;clear f4;have HR:=zh hr;clear hr;have HU:=zh hu;clear hu;have h5:=zh f5;clear f5 j1;have hN:0<=m.w*m.h*m.l:=by omega
 have m6:=@run_makeMap Tryz.prog
 go_enter Tryz.func206,Tryz.ntmps206
 go_wp2
 have f0:RI w ((w.alloc (.cells #[.int .i64 m.w,.int .i64 m.h,.int .i64 m.l,.slice Af m.free.length cf,vup,vts] 32)).alloc (.map #[] 0)) w.heap.size #[.int .i64 m.w,.int .i64 m.h,.int .i64 m.l,.slice Af m.free.length cf,vup,vts] [] [] (.slice none 0 0):=by
  refine ⟨((Below.refl _ _).alloc (DR _) _).alloc (by simp) _,DR _,?_,?_,World.ownsRow_nil _ _ _ _⟩
  ·exact zd.alloc (EE w _) _
  ·have:=zG.new (w.alloc (.cells #[.int .i64 m.w,.int .i64 m.h,.int .i64 m.l,.slice Af m.free.length cf,vup,vts] 32));simpa using this
 go_loopw [10,19] (fun v i wr=>∃k s,k<=from_.length/\i=.int .i64 (k:Nat)/\Hid (RI w wr w.heap.size #[.int .i64 m.w,.int .i64 m.h,.int .i64 m.l,.slice Af m.free.length cf,vup,vts] s s v)/\Hid (s.Nodup)/\Hid (∀x,x∈s↔x∈from_.take k/\0<=x/\x<m.n)) (fun _ i _=>from_.length - (intOf i).toNat)
 case atStart=>exact ⟨0,[],Ef _,rfl,f0,List.nodup_nil,by simp [Hid]⟩
 clear f0
 case round=>
  obtain ⟨k,s,hk,rfl,hI,hnd,hx⟩:=hrel;by_cases E:k<from_.length
  ·obtain ⟨b,off,rfl,_,I⟩:=zE (HR.out.keep (zK.of_below hI.out.below)) E E;obtain ⟨y,hy⟩:=EY (from_[k]);rw [<-hy] at I;have HY:=zh hy;clear hy;obtain ⟨m0,m1,m2,m3,m4,m5⟩:=zq hI.out.box;by_cases g6:0<=y
   ·by_cases j4:y<m.w*m.h*m.l
    ·have c8:∀W:World,Calls Tryz.prog 124 #[.agg #[.int .i64 m.w,.int .i64 m.h,.int .i64 m.l,.slice Af m.free.length cf,vup,vts]] W _:=fun W=>Ah m.w m.h m.l _ vup vts W (by omega) (by omega)
     have c7:=zh c8;clear c8;by_cases G:y∈s
     ·go_wp2_with fail
      refine (c7.out _).mono ?_;rintro e w' ⟨rfl,hb⟩;have a1:=zh (hI.out.call hb);have a9:=look_t a1.out.set G
      go_wp2_with fail
      go_roundw
      case rel=>exact ⟨k+1,s,by omega,by go_num,a1,hnd,fun x=>by
       rw [zr E,hx.out,<-HY.out];constructor
       ·rintro ⟨h1,h2⟩;exact ⟨.inl h1,h2⟩
       ·rintro ⟨h1 | rfl,h2⟩
        ·exact ⟨h1,h2⟩
        ·exact (hx.out x).1 G⟩
      case measure=>simp [intOf];omega
     ·go_wp2_with fail
      refine (c7.out _).mono ?_;rintro e w' ⟨rfl,hb⟩;have a1:=zh (hI.out.call hb);have a9:=look_f a1.out.set G
      go_wp2_with (at_mapUpdate;refine wpSetAdd rfl _ _ _ _ rfl Tryz.underlying205 (w.heap.size+1) s y rfl rfl rfl a1.out.set ?_)
      intro wa b5 U;have M:=zh (a1.out.add b5 U);have a2:wa.heap.size=wa.heap.size:=rfl;have i6:w.heap.size+2<=wa.heap.size:=M.out.lt;have d4:=Bp hnd.out m.n (fun x j3=>((hx.out x).1 j3).2);have i7:s.length<=300:=by unfold MZ.n at d4;omega
      clear b5 U a9 d4
      go_wp2_with (at_builtin;refine AF rfl _ _ rfl _ s y (w.heap.size+2) wa.heap.size 1 _ rfl rfl (M.out.own.alloc _) ?c1 ?c2 ?c3 ?_)
      case c2=>(first | omega | (simp;omega))
      case c3=>omega
      intro v' wb b1 V _;have e0:=zh ((M.out.alloc _).app b1 V.out);clear b1 V;go_wp2;go_roundw
      case rel=>exact ⟨k+1,s++[y],by omega,by go_num,by have:=e0.out;rwa [ins_new G] at this,Dm hnd.out G,fun x=>by
       rw [EH,Ey,zr E,hx.out,<-HY.out];constructor
       ·rintro (⟨h1,h2⟩ | rfl)
        ·exact ⟨.inl h1,h2⟩
        ·exact ⟨.inr rfl,g6,j4⟩
       ·rintro ⟨h1 | rfl,h2⟩
        ·exact .inl ⟨h1,h2⟩
        ·exact .inr rfl⟩
      case measure=>simp [intOf];omega
    ·go_wp2_with (go_at_call 124;refine (Ah _ _ _ _ _ _ _ (by omega) (by omega)).mono ?_;rintro e w' ⟨rfl,hb⟩)
     go_roundw
     case rel=>exact ⟨k+1,s,by omega,by go_num,hI.out.call ‹_›,hnd,fun x=>by
      rw [zr E,hx.out,<-HY.out];constructor
      ·rintro ⟨h1,h2⟩;exact ⟨.inl h1,h2⟩
      ·rintro ⟨h1 | rfl,h2,h3⟩
       ·exact ⟨h1,h2,h3⟩
       ·unfold MZ.n at h3;omega⟩
     case measure=>simp [intOf];omega
   ·go_wp2;go_roundw
    case rel=>exact ⟨k+1,s,by omega,by go_num,hI,hnd,fun x=>by
     rw [zr E,hx.out,<-HY.out];constructor
     ·rintro ⟨h1,h2⟩;exact ⟨.inl h1,h2⟩
     ·rintro ⟨h1 | rfl,h2,h3⟩
      ·exact ⟨h1,h2,h3⟩
      ·omega⟩
    case measure=>simp [intOf];omega
  ·obtain rfl:k=from_.length:=by omega
   have b6:Hid (∀x,x∈s↔x∈from_/\0<=x/\x<m.n):=fun x=>by have:=hx.out x;rwa [Ec] at this
   clear hx;have hO:Hid (RO m t from_ used s s):=⟨hnd.out,fun x h=>RP.base ((b6.out x).1 h).1 ((b6.out x).1 h).2.1 ((b6.out x).1 h).2.2,fun x h h0 h1=>(b6.out x).2 ⟨h,h0,h1⟩,fun x h=>h,fun y h hn=>absurd h hn,DR _⟩;clear b6 hnd E hk;go_wp2
   go_loopg [10] (2*(m.n.toNat - s.length)+s.length) (fun gk v wr=>∃s todo,gk=2*(m.n.toNat - s.length)+todo.length/\Hid (RI w wr w.heap.size #[.int .i64 m.w,.int .i64 m.h,.int .i64 m.l,.slice Af m.free.length cf,vup,vts] s todo v)/\Hid (RO m t from_ used s todo))
   case atStart=>exact ⟨s,s,rfl,hI,hO⟩
   clear hI hO
   case round=>
    obtain ⟨s,todo,rfl,hI,hO⟩:=hrel;obtain ⟨wo,rfl⟩:∃wo:World,wo=wr:=⟨_,rfl⟩;rcases List.eq_nil_or_concat todo with rfl | ⟨td,x,rfl⟩
    ·obtain ⟨A0,c0,hv⟩:∃A0 c0,u10=.slice A0 0 c0:=by
      obtain ⟨A0,c0,hv,_⟩:=Ae.of_own hI.out.own;exact ⟨A0,c0,hv⟩
     subst hv;go_wp2;go_ret;exact ⟨s,rfl,hI.out.below,hI.out.set,hO.out.end_⟩
    ·rw [List.concat_eq_append] at hI hO;obtain ⟨gt,ct,hv,j8,f6⟩:=hI.out.own.form (by simp);subst hv;have e6:(td++[x]).length=td.length+1:=by simp
     try rw [e6]
     have i5:wo.cell? ⟨gt,td.length,none⟩=some (.int .i64 x):=by
      have:=hI.out.own.cellAt td.length (by simp);rw [this];simp
     have hJ:=zh hO.out.pop;have i4:=Bx hI.out.own;rw [e6] at i4;have i9:=(hO.out.rp x (hJ.out.xs)).range D.out;have j0:=Bp hO.out.nd m.n (fun y hy=>(hO.out.rp y hy).range D.out);have m9:=hJ.out.ln;have k4:s.length<=300:=by unfold MZ.n at j0;omega
     obtain ⟨g4,g5⟩:=i9;obtain ⟨m0,m1,m2,m3,m4,m5⟩:=zq hI.out.box
     have d9:Hid (RI w wo w.heap.size #[.int .i64 m.w,.int .i64 m.h,.int .i64 m.l,.slice Af m.free.length cf,vup,vts] s td (.slice (some ⟨gt,0,none⟩) td.length ct)):=by
      have h:=hI.out.own;refine ⟨hI.out.below,hI.out.ge,hI.out.box,hI.out.set,?_⟩;rw [map_snoc,e6] at h;exact ownsRow_pop (by simp) h
     clear hI hO
     go_wp2_with fail
     refine (Dl m x wo (HM.out.keep (zK.of_below d9.out.below)) D.out g4 g5).mono ?_;rintro e wk ⟨v',rfl,f2,e5⟩;have e9:=zh (d9.out.call f2);have f9:=zh (Ae.of_own e5);have j9:=zh e5;clear e5;obtain ⟨A2,c2,j2,l3,d5⟩:=f9.out;subst j2;clear f9;have m8:=BZ m x;have i8:=HM.out;have e8:=zh d5;clear d5;clear i8 m0 m1 m2 m3 m4 m5 i5;have k8:wo.heap.size<=wk.heap.size:=f2.size;go_wp2;go_loopw [10,62] (fun v i wi=>∃j s' todo',j<=(zo m x).length/\i=.int .i64 (j:Nat)/\Hid (RI w wi w.heap.size #[.int .i64 m.w,.int .i64 m.h,.int .i64 m.l,.slice Af m.free.length cf,vup,vts] s' todo' v)/\Hid (RJ m t from_ used s' todo' x j)/\Hid (zK (fun b=>wo.heap.size<=b/\b<wk.heap.size) wk wi)/\Hid (∀k,v.ownBlock=some k->k<wo.heap.size\/wk.heap.size<=k)/\Hid (wk.heap.size<=wi.heap.size)/\Hid (todo'.length+s.length=td.length+s'.length/\s.length<=s'.length)) (fun _ i _=>(zo m x).length - (intOf i).toNat)
     case atStart=>exact ⟨0,s,td,Ef _,rfl,e9,hJ,zK.refl _ _,fun k hk=>by
      have:k=gt:=by simpa [Value.ownBlock] using hk.symm
      subst this;exact .inl f6,DR _,rfl,DR _⟩
     clear d9 e9 hJ
     case round=>
      obtain ⟨j,s',todo',hj,rfl,hI,hJ,hS,a5,a2,b0⟩:=hrel;by_cases a8:j<(zo m x).length
      ·obtain ⟨b2,off2,rfl,i1,J⟩:=zE e8.out a8 a8;have a6:=zA J;have I:=(CY (hS.out b2 ⟨i1,a6⟩ a6)).trans J;clear J;have g7:=Bg D.out g4 g5 (DS a8);have L:=zh (hJ.out.skip a8);have b3:=zh (hJ.out.push a8);obtain ⟨y,hy⟩:=EY ((zo m x)[j]);rw [<-hy] at I g7 L b3;clear hy;obtain ⟨g6,n0⟩:=g7;obtain ⟨m0,m1,m2,m3,m4,m5⟩:=zq hI.out.box;obtain ⟨bf,off3,uf,rfl,_,c9,i2⟩:=Br (h6.out.keep (zK.of_below hI.out.below)) h4.out ht ht;have O:=h5.out _ (DS ht);obtain ⟨A4,c4,rfl,i3,g0⟩:=i2;have b9:y.toNat<(m.free[t]).length:=by omega
       obtain ⟨b4,off4,rfl,_,a0⟩:=BP (g0.keep (zK.of_below hI.out.below)) b9 b9;have a7:(m.free[t])[y.toNat]=ze m t y:=by simp [ze,ht,b9]
       rw [a7] at a0;have k9:=zh a7;clear a7;obtain ⟨nf,e4⟩:=EY ((m.free[t]).length);rw [<-e4] at c9 b9 O i3;have l0:=zh e4;clear e4;have j6:=zh O;clear O;clear g0;have AO:=hI.out.set;have d8:=HU.out.below hI.out.below;by_cases G:y∈s'
       ·have a9:=look_t AO G;go_wp2;go_roundw
        case rel=>exact ⟨j+1,s',todo',by omega,by go_num,hI,L.out (.inl G),hS,a5,a2,b0⟩
        case measure=>simp [intOf];omega
       ·have a9:=look_f AO G;by_cases hf:ze m t y=true
        ·rw [hf] at a0;by_cases c6:y∈used
         ·have f7:=look_t d8 c6;have HF:=zh hf;clear hf;go_wp2;go_roundw
          case rel=>exact ⟨j+1,s',todo',by omega,by go_num,hI,L.out (.inr (.inr c6)),hS,a5,a2,b0⟩
          case measure=>simp [intOf];omega
         ·have f7:=look_f d8 c6;have HF:=zh hf;clear hf;have h7:=zh (b3.out G HF.out c6);have d6:=Bp hJ.out.nd m.n (fun y hy=>(hJ.out.rp y hy).range D.out);have k5:=hJ.out.ln;have k6:todo'.length<=300:=by unfold MZ.n at d6;omega
          go_wp2_with (at_mapUpdate;refine wpSetAdd rfl _ _ _ _ rfl Tryz.underlying205 (w.heap.size+1) s' y rfl rfl rfl hI.out.set ?_)
          intro wa b5 U;have M:=zh (hI.out.add b5 U)
          have h9:Hid (zK (fun b=>wo.heap.size<=b/\b<wk.heap.size) wk wa):=fun b hb E=>by
           refine (U.block b (Et E a2.out) (fun e=>?_)).trans (hS.out b hb E);injection e with e;have:=hb.1;omega
          have e7:Hid (wk.heap.size<=wa.heap.size):=DT a2.out U.size;have i6:w.heap.size+2<=wa.heap.size:=M.out.lt;clear b5 U a9 f7 AO d8 m0 m1 m2 m3 m4 m5 c9 a0 I
          go_wp2_with (at_builtin;refine AF rfl _ _ rfl _ todo' y (w.heap.size+2) wa.heap.size 1 _ rfl rfl (M.out.own.alloc _) ?d1 ?d2 ?d3 ?_)
          (try case d1=>simp)
          case d2=>(first | omega | (simp;omega))
          case d3=>omega
          intro v' wb b1 V f3;have e0:=zh ((M.out.alloc _).app b1 V.out)
          have h8:Hid (∀k,v'.ownBlock=some k->k<wo.heap.size\/wk.heap.size<=k):=fun k hk=>by
           rcases f3.out with e | e
           ·exact a5.out k (e ▸ hk)
           ·have:k=wa.heap.size+1 - 1+1:=by
             rw [e] at hk;simpa using hk.symm
            have:=e7.out;omega
          have i0:Hid (zK (fun b=>wo.heap.size<=b/\b<wk.heap.size) wk wb):=fun b hb E=>by
           have hz:=e7.out;refine (V.out.block b (by simp;omega) (fun e=>?_)).trans ((Ej wa _ b (by omega)).trans (h9.out b hb E));have h1:=a5.out b e.symm;have h2:=hb.1;omega
          have j5:Hid (wk.heap.size<=wb.heap.size):=by
           have h1:=V.out.size;have h2:=e7.out;simp at h1;show _<=_;omega
          clear b1 V f3;go_wp2;go_roundw
          case rel=>exact ⟨j+1,s'++[y],todo'++[y],by omega,by go_num,by have:=e0.out;rwa [ins_new G] at this,h7,i0,h8,j5,by have h1:=b0.out;show _/\_;simp only [DZ,EW,EX];omega⟩
          case measure=>simp [intOf];omega
        ·have e2:ze m t y=false:=by simpa using hf
         rw [e2] at a0;have HF:=zh e2;clear hf e2;go_wp2;go_roundw
         case rel=>exact ⟨j+1,s',todo',by omega,by go_num,hI,L.out (.inr (.inl HF.out)),hS,a5,a2,b0⟩
         case measure=>simp [intOf];omega
      ·have e1:=zh (hJ.out.done (by omega));have d6:=Bp e1.out.nd m.n (fun y hy=>(e1.out.rp y hy).range D.out);have l9:=b0.out;go_wp2
       go_roundg (2*(m.n.toNat - s'.length)+todo'.length)
       case measure=>
        have h1:(td.concat x).length=td.length+1:=by simp
        rw [h1];omega
       case rel=>exact ⟨s',todo',rfl,hI,e1⟩
theorem AH {α:Type} {l:List α} (p:α->Bool) (h:k<l.length):(l.take (k+1)).any p=((l.take k).any p || p l[k]):=by
 rw [DY h,List.any_append];simp
theorem AW {P: Program} {n: FuncId} {fn: Func} (h : P.funcs[n]? = some fn) (hn : (fn.name == "runtime.NumGoroutine") = false) (hb : fn.body.isNone = false) (a : Array Value) (w : World) : (callFunc n a).run P w = .ok (.enter n a) w := by
 unfold callFunc;simp only [Sem.run_bind,run_program,Result.andThen_ok,h,hn,hb,Bool.false_eq_true,if_false,Sem.run_pure]
theorem indexFuncI_calls {v:Value} (n:FuncId) (caps:Array Value) (p:Int->Bool) (w:World) (h:zk w ok v l) (hl:l.length<=20000000000000)
  (a6:∀(a:Array Value) (w:World),(callFunc n a).run Tryz.prog w=.ok (.enter n a) w)
  (hp:∀x∈l,∀w1,zZ w w1->Calls Tryz.prog n (#[.int .i64 x]++caps) w1 fun e w'=>e=.returned (.bool (p x))/\zZ w1 w'):
  Calls Tryz.prog 182 #[v,.func (.func n) #[] caps] w fun e w'=>∃r:Int,e=.returned (.int .i64 r)/\(0<=r↔l.any p=true)/\-1<=r/\zZ w w':=by
 obtain ⟨A,c,rfl,hc,hr⟩:=h;have HR:=zh hr;clear hr;have HP:=zh hp;clear hp
 go_enter Tryz.func182,Tryz.ntmps182
 go_wp2_with fail
 go_loopw [8] (fun i wr=>∃k:Nat,k<=l.length/\i=.int .i64 k/\Hid ((l.take k).any p=false)/\Hid (zZ w wr)) (fun i _=>l.length - (intOf i).toNat)
 case atStart=>exact ⟨0,Ef _,rfl,by simp [Hid],zZ.refl _⟩
 case round=>
  obtain ⟨k,hk,rfl,hn,V⟩:=hrel;by_cases O:k<l.length
  ·obtain ⟨b,off,rfl,_,M⟩:=zE (HR.out.keep (V.out.same ok)) O O;obtain ⟨x,hx⟩:=EY (l[k]);rw [<-hx] at M;have a0:x∈l:=by rw [hx];exact DS _
   have I:=zh (AH p O);rw [<-hx] at I;clear hx;have D:=zh (HP.out x a0 wr V.out);by_cases G:p x=true
   ·go_wp2_with fail
    refine D.out.mono ?_;rintro e w1 ⟨rfl,E⟩;rw [G];have J:=zh (V.out.trans E);clear E;have L:=zh G;clear G
    go_wp2_with fail
    go_ret;refine ⟨_,rfl,⟨fun _=>?_,fun _=>by omega⟩,by omega,J.out⟩;rw [ET];exact ⟨x,a0,L.out⟩
   ·have U:p x=false:=by simpa using G
    clear G
    go_wp2_with fail
    refine D.out.mono ?_;rintro e w1 ⟨rfl,E⟩;rw [U];have J:=zh (V.out.trans E);clear E;have L:=zh U;clear U
    go_wp2_with fail
    go_roundw
    case rel=>exact ⟨k+1,by omega,by go_num,by
     show _=false;rw [I.out,hn.out,L.out];rfl,J⟩
    case measure=>simp [intOf];omega
  ·obtain rfl:k=l.length:=by omega
   go_wp2;go_ret;have h:=hn.out;rw [Ec] at h;refine ⟨_,rfl,⟨fun h'=>by omega,fun h'=>?_⟩,by omega,V.out⟩;rw [h] at h'
   cases h'
theorem indexFuncB_calls {v:Value} {l:List (List Bool)} (n:FuncId) (caps:Array Value) (p:List Bool->Bool) (w:World) (h:Each (Bo w ok) w ok v l) (hl:l.length<=20000000000000)
  (a8:∀(a:Array Value) (w:World),(callFunc n a).run Tryz.prog w=.ok (.enter n a) w)
  (hp:∀x∈l,∀u,Bo w ok u x->∀w1,zZ w w1->Calls Tryz.prog n (#[u]++caps) w1 fun e w'=>e=.returned (.bool (p x))/\zZ w1 w'):
  Calls Tryz.prog 181 #[v,.func (.func n) #[] caps] w fun e w'=>∃r:Int,e=.returned (.int .i64 r)/\(0<=r↔l.any p=true)/\-1<=r/\zZ w w':=by
 obtain ⟨vs,⟨A,c,rfl,hc,hr⟩,he⟩:=h;have HR:=zh hr;clear hr;have HE:=zh he;clear he;have HP:=zh hp;clear hp
 go_enter Tryz.func181,Tryz.ntmps181
 go_wp2_with fail
 go_loopw [8] (fun i wr=>∃k:Nat,k<=l.length/\i=.int .i64 k/\Hid ((l.take k).any p=false)/\Hid (zZ w wr)) (fun i _=>l.length - (intOf i).toNat)
 case atStart=>exact ⟨0,Ef _,rfl,by simp [Hid],zZ.refl _⟩
 case round=>
  obtain ⟨k,hk,rfl,hn,U⟩:=hrel;by_cases M:k<l.length
  ·obtain ⟨b,off,u,rfl,_,a2,hu⟩:=Br (HR.out.keep (U.out.same ok)) HE.out M M;obtain ⟨x,hx⟩:=EY (l[k]);rw [<-hx] at hu;have V:x∈l:=by rw [hx];exact DS _
   have I:=zh (AH p M);rw [<-hx] at I;clear hx;have D:=zh (HP.out x V u hu wr U.out);clear hu;by_cases G:p x=true
   ·go_wp2_with fail
    refine D.out.mono ?_;rintro e w1 ⟨rfl,E⟩;rw [G];have J:=zh (U.out.trans E);clear E;have L:=zh G;clear G
    go_wp2_with fail
    go_ret;refine ⟨_,rfl,⟨fun _=>?_,fun _=>by omega⟩,by omega,J.out⟩;rw [ET];exact ⟨x,V,L.out⟩
   ·have O:p x=false:=by simpa using G
    clear G
    go_wp2_with fail
    refine D.out.mono ?_;rintro e w1 ⟨rfl,E⟩;rw [O];have J:=zh (U.out.trans E);clear E;have L:=zh O;clear O
    go_wp2_with fail
    go_roundw
    case rel=>exact ⟨k+1,by omega,by go_num,by
     show _=false;rw [I.out,hn.out,L.out];rfl,J⟩
    case measure=>simp [intOf];omega
  ·obtain rfl:k=l.length:=by omega
   go_wp2;go_ret;have h:=hn.out;rw [Ec] at h;refine ⟨_,rfl,⟨fun h'=>by omega,fun h'=>?_⟩,by omega,U.out⟩;rw [h] at h'
   cases h'
theorem BL {v:Value} {l:List (Int)} (n:FuncId) (caps:Array Value) (p:Int->Bool) (w:World) (h:zk w ok v l) (L:l.length<=20000000000000) (E:∀(a:Array Value) (w:World),(callFunc n a).run Tryz.prog w=.ok (.enter n a) w)
  (hp:∀x∈l,∀w1,zZ w w1->Calls Tryz.prog n (#[.int .i64 x]++caps) w1 fun e w'=>e=.returned (.bool (p x))/\zZ w1 w'):
  Calls Tryz.prog 128 #[v,.func (.func n) #[] caps] w fun e w'=>e=.returned (.bool (l.any p))/\zZ w w':=by
 have H:=zh (indexFuncI_calls n caps p w h L E hp);clear hp;obtain ⟨A,c,rfl,O,D⟩:=h;clear D
 go_enter Tryz.func128,Tryz.ntmps128
 go_wp2_with fail
 refine H.out.mono ?_;rintro e w1 ⟨r,rfl,D,M,G⟩;have J:=zh D;clear D;have I:=zh G;clear G
 go_wp2_with fail
 go_ret;refine ⟨zi ?_,I.out⟩;rw [Bool.eq_iff_iff,decide_eq_true_iff];exact J.out
theorem DK {v:Value} {l:List (List Bool)} (n:FuncId) (caps:Array Value) (p:List Bool->Bool) (w:World) (h:Each (Bo w ok) w ok v l) (L:l.length<=20000000000000) (E:∀(a:Array Value) (w:World),(callFunc n a).run Tryz.prog w=.ok (.enter n a) w)
  (hp:∀x∈l,∀u,Bo w ok u x->∀w1,zZ w w1->Calls Tryz.prog n (#[u]++caps) w1 fun e w'=>e=.returned (.bool (p x))/\zZ w1 w'):
  Calls Tryz.prog 125 #[v,.func (.func n) #[] caps] w fun e w'=>e=.returned (.bool (l.any p))/\zZ w w':=by
 have H:=zh (indexFuncB_calls n caps p w h L E hp);clear hp;obtain ⟨vs,⟨A,c,rfl,O,D⟩,he⟩:=h;clear D he
 go_enter Tryz.func125,Tryz.ntmps125
 go_wp2_with fail
 refine H.out.mono ?_;rintro e w1 ⟨r,rfl,D,M,G⟩;have J:=zh D;clear D;have I:=zh G;clear G
 go_wp2_with fail
 go_ret;refine ⟨zi ?_,I.out⟩;rw [Bool.eq_iff_iff,decide_eq_true_iff];exact J.out
def zO (n x:Int):Bool:=decide (x<0) || decide (n<=x)
def side (x:Int):Bool:=decide (x<1) || decide (300<x)
def Bq (m:MZ):Int:=
 if [m.w,m.h,m.l].any side then 2
 else if 300<m.n\/6<m.tasks.length then 2
 else if m.free.length≠m.tasks.length\/(m.up.length:Int)≠m.n\/m.free.any (fun f=>(f.length:Int) != m.n)=true then 1
 else if m.tasks.any (fun t=>t.1.any (zO m.n) || t.2.any (zO m.n)) then 50
 else 0
theorem cf51 (a:Array Value) (w:World):(callFunc 126 a).run Tryz.prog w=.ok (.enter 126 a) w:=AW Tryz.func126 (by kernel_rfl) (by kernel_rfl) a w
theorem cf52 (a:Array Value) (w:World):(callFunc 127 a).run Tryz.prog w=.ok (.enter 127 a) w:=AW Tryz.func127 (by kernel_rfl) (by kernel_rfl) a w
theorem check1_calls {u:Value} {f:List Bool} (g:Nat) (n:Int) (w:World) (G:Bo w ok u f) (I:w.cell? ⟨g,0,none⟩=some (.int .i64 n)):
  Calls Tryz.prog 126 #[u,.pointer (some ⟨g,0,none⟩)] w fun e w'=>e=.returned (.bool ((f.length:Int) != n))/\zZ w w':=by
 obtain ⟨A,c,rfl,D,E⟩:=G;clear E
 go_enter Tryz.func126,Tryz.ntmps126
 go_wp2;go_ret;exact ⟨rfl,zZ.refl _⟩
theorem check2_calls (g:Nat) (n x:Int) (w:World) (E:w.cell? ⟨g,0,none⟩=some (.int .i64 n)):
  Calls Tryz.prog 127 #[.int .i64 x,.pointer (some ⟨g,0,none⟩)] w fun e w'=>e=.returned (.bool (zO n x))/\zZ w w':=by
 by_cases D:x<0
 ·go_enter Tryz.func127,Tryz.ntmps127
  go_wp2;go_ret;exact ⟨zi (by simp [zO,D]),zZ.refl _⟩
 ·go_enter Tryz.func127,Tryz.ntmps127
  go_wp2;go_ret;refine ⟨zi ?_,zZ.refl _⟩;simp [zO];omega
structure Lens (m:MZ):Prop where
 fr:m.free.length<=20000000000000
 up:m.up.length<=20000000000000
 ts:m.tasks.length<=20000000000000
 tl:∀t∈m.tasks,t.1.length<=400000000000/\t.2.length<=400000000000
theorem three_cells {w:World} {g:Nat} {t:TypeId} {a b c:Int} (h:zd w g t #[.int .i64 a,.int .i64 b,.int .i64 c]) (k:Nat) (D:k<3):w.cell? ⟨g,k,none⟩=some (.int .i64 ([a,b,c][k])):=by
 unfold zd at h;unfold World.cell?;simp only [h]
 match k,D with
 | 0,_=>rfl
 | 1,_=>rfl
 | 2,_=>rfl
theorem Bm {w:World} {c:Nat} {l:List (List Int×List Int)} (h:Bz w ok (.slice A n c) l) (G:k<l.length):
  ∃b off s u1 u2,A=some ⟨b,off,none⟩/\ok b/\w.cell? ⟨b,off+k*3,none⟩=some (.string s)/\w.cell? ⟨b,off+k*3+1,none⟩=some u1/\w.cell? ⟨b,off+k*3+2,none⟩=some u2/\zk w ok u1 l[k].1/\zk w ok u2 l[k].2:=by
 obtain ⟨vs,⟨A',c',I,_,J,D⟩,he⟩:=h;injection I with e1 e2 e3;subst e1;obtain ⟨b,off,rfl,E,D⟩:=D (by omega);obtain ⟨s,u1,u2,h0,h1,h2,i1,i2⟩:=he k _ (DO G);exact ⟨b,off,s,u1,u2,rfl,E,D _ _ h0,by rw [Nat.add_assoc];exact D _ _ h1,by rw [Nat.add_assoc];exact D _ _ h2,i1,i2⟩
structure CI (w wr:World) (cells:Array Value) (ints:Array Value):Prop where
 below:Below w.heap.size w wr
 box:zd wr w.heap.size 32 cells
 ints:zd wr (w.heap.size+1) 3 ints
theorem CI.call {w wr w':World} (h:CI w wr c i) (D:Below wr.heap.size wr w'):CI w w' c i:=
 ⟨Ba h.below D (DR _),h.box.below D (zc h.box),h.ints.below D (zc h.ints)⟩
theorem CI.new (w:World) (c i:Array Value):CI w ((w.alloc (.cells c 32)).alloc (.cells i 3)) c i:=
 ⟨((Below.refl _ _).alloc (DR _) _).alloc (by simp) _,zd.alloc (EE w _) _,by
  have:=EE (w.alloc (.cells c 32)) (.cells i 3);simpa [zd] using this⟩
theorem chk_side (h:[m.w,m.h,m.l].any side=true):Bq m=2:=by
 unfold Bq;rw [if_pos h]
structure CJ (w wr:World) (cells:Array Value) (g:Nat) (n:Int):Prop where
 below:Below w.heap.size w wr
 box:zd wr w.heap.size 32 cells
 all:wr.cell? ⟨g,0,none⟩=some (.int .i64 n)
theorem CJ.call {w wr w':World} {g:Nat} {n:Int} (h:CJ w wr c g n) (D:Below wr.heap.size wr w'):CJ w w' c g n:=
 ⟨Ba h.below D (DR _),h.box.below D (zc h.box),(CY (D.block g (zA h.all))).trans h.all⟩
theorem CJ.new {w w':World} (h:CI w w' c i) (n:Int):CJ w (w'.alloc (.cells #[.int .i64 n] 3)) c w'.heap.size n:=
 ⟨h.below.alloc (Nat.le_of_lt (zc h.box)) _,h.box.alloc _,by
  have:=EE w' (.cells #[.int .i64 n] 3);unfold World.cell?;simp only [this];rfl⟩
theorem CJ.alloc {w wr:World} {c:Array Value} {g:Nat} {n:Int} (h:CJ w wr c g n) (o:Obj):CJ w (wr.alloc o) c g n:=
 ⟨h.below.alloc (Nat.le_of_lt (zc h.box)) _,h.box.alloc _,(CY (Ej wr o g (zA h.all))).trans h.all⟩
theorem cells3 {w:World} {g:Nat} {t:TypeId} {a0 a1 a2:Value} (h:zd w g t #[a0,a1,a2]):
  w.cell? ⟨g,0,none⟩=some a0/\w.cell? ⟨g,1,none⟩=some a1/\w.cell? ⟨g,2,none⟩=some a2:=by
 unfold zd at h;unfold World.cell?;simp only [h];exact ⟨rfl,rfl,rfl⟩
theorem sides (h:[m.w,m.h,m.l].any side=false):(1<=m.w/\m.w<=300)/\(1<=m.h/\m.h<=300)/\(1<=m.l/\m.l<=300):=by
 simp [side] at h;omega
theorem sides_mul (h:[m.w,m.h,m.l].any side=false):(1<=m.w*m.h/\m.w*m.h<=90000)/\(1<=m.w*m.h*m.l/\m.w*m.h*m.l<=27000000):=by
 obtain ⟨⟨a1,a2⟩,⟨b1,b2⟩,c1,c2⟩:=sides h;have h1:1<=m.w*m.h:=by have:=Int.mul_pos (a:=m.w) (b:=m.h) (by omega) (by omega);omega
 have h2:m.w*m.h<=300*300:=Int.mul_le_mul a2 b2 (by omega) (by omega);have h3:1<=m.w*m.h*m.l:=by have:=Int.mul_pos (a:=m.w*m.h) (b:=m.l) (by omega) (by omega);omega
 have D:m.w*m.h*m.l<=300*300*300:=Int.mul_le_mul h2 c2 (by omega) (by omega);omega
theorem Cr {v:Value} (w:World) (hm:zt w ok v m) (hl:Lens m):
  Calls Tryz.prog 62 #[v] w fun e w'=>e=.returned (.int .i64 (Bq m))/\Below w.heap.size w w':=by
 have f2:=hm;obtain ⟨vfr,vup,vts,rfl,e9,f8,f6⟩:=hm;obtain ⟨vsf,⟨Af,cf,rfl,e7,c9⟩,c7⟩:=e9;obtain ⟨Au,cu,rfl,g6,f5⟩:=f8;obtain ⟨vst,⟨At,ct,rfl,e8,d4⟩,c8⟩:=f6;obtain ⟨l1,l2,l3,l4⟩:=hl;have e1:=zh c9;clear c9;have d8:=zh c7;clear c7;have e2:=zh d4;clear d4;have d9:=zh c8;clear c8;have e0:=zh l4;clear l4;clear f5 f2
 go_enter Tryz.func62,Tryz.ntmps62
 go_wp2;have b8:=CI.new w #[.int .i64 m.w,.int .i64 m.h,.int .i64 m.l,.slice Af m.free.length cf,.slice Au m.up.length cu,.slice At m.tasks.length ct] #[.int .i64 m.w,.int .i64 m.h,.int .i64 m.l];go_loopw [17] (fun i wr=>∃k:Nat,k<=3/\i=.int .i64 k/\Hid (([m.w,m.h,m.l].take k).any side=false)/\Hid (CI w wr #[.int .i64 m.w,.int .i64 m.h,.int .i64 m.l,.slice Af m.free.length cf,.slice Au m.up.length cu,.slice At m.tasks.length ct] #[.int .i64 m.w,.int .i64 m.h,.int .i64 m.l])) (fun i _=>3 - (intOf i).toNat)
 case atStart=>exact ⟨0,by omega,rfl,by simp [Hid],b8⟩
 clear b8
 case round=>
  obtain ⟨k,hk,rfl,O,hI⟩:=hrel;by_cases M:k<3
  ·obtain ⟨x,hx⟩:=EY ([m.w,m.h,m.l][k]'M);have a8:=three_cells hI.out.ints k M;rw [<-hx] at a8;have E:=zh (AH (l:=[m.w,m.h,m.l]) side M);rw [<-hx] at E;have HX:=zh (show x∈[m.w,m.h,m.l] by rw [hx];exact DS _);clear hx;by_cases h1:x<1
   ·go_wp2;go_ret;refine ⟨AB ?_,hI.out.below⟩;rw [chk_side];exact ET.2 ⟨x,HX.out,by simp [side,h1]⟩
   ·by_cases h2:300<x
    ·go_wp2;go_ret;refine ⟨AB ?_,hI.out.below⟩;rw [chk_side];exact ET.2 ⟨x,HX.out,by simp [side,h2]⟩
    ·have HS:=zh (show side x=false by simp [side,h1,h2]);go_wp2;go_roundw
     case rel=>exact ⟨k+1,by omega,by go_num,by
      show _=false;rw [E.out,O.out,HS.out];rfl,hI⟩
     case measure=>simp [intOf];omega
  ·obtain rfl:k=3:=by omega
   have HN:Hid ([m.w,m.h,m.l].any side=false):=O.out;clear O;obtain ⟨m0,m1,m2,m3,m4,m5⟩:=zq hI.out.box;obtain ⟨⟨p1,p2⟩,p3,p4⟩:=sides_mul HN.out
   have V:300<m.n\/6<m.tasks.length->Bq m=2:=by
    intro h;unfold Bq;rw [if_neg (by rw [HN.out];simp),if_pos h]
   have b5:=zh V;clear V
   go_wp2_with fail
   refine (Ah _ _ _ _ _ _ _ (by omega) (by omega)).mono ?_;rintro e w' ⟨rfl,hb⟩;have D:=zh (hI.out.call hb);clear hI m0 m1 m2 m3 m4 m5 hb;have e3:∀o,_:=fun o=>zq (D.out.box.alloc o)
   by_cases O:300<m.w*m.h*m.l
   ·go_wp2;go_ret;exact ⟨AB (b5.out (.inl O)).symm,D.out.below.alloc (Nat.le_of_lt (zc D.out.box)) _⟩
   by_cases ht:6<m.tasks.length
   ·go_wp2;go_ret;exact ⟨AB (b5.out (.inr ht)).symm,D.out.below.alloc (Nat.le_of_lt (zc D.out.box)) _⟩
   have U:(m.free.length≠m.tasks.length\/(m.up.length:Int)≠m.n\/m.free.any (fun f=>(f.length:Int) != m.n)=true)->Bq m=1:=by
    intro h;unfold Bq;rw [if_neg (by rw [HN.out];simp),if_neg (by unfold MZ.n;omega),if_pos h]
   have a4:=zh U;clear U;by_cases hf:m.free.length=m.tasks.length
   case neg=>
    go_wp2;go_ret;exact ⟨AB (a4.out (.inl hf)).symm,D.out.below.alloc (Nat.le_of_lt (zc D.out.box)) _⟩
   by_cases hu:(m.up.length:Int)=m.w*m.h*m.l
   case neg=>
    go_wp2;go_ret;exact ⟨AB (a4.out (.inr (.inl hu))).symm,D.out.below.alloc (Nat.le_of_lt (zc D.out.box)) _⟩
   have a0:=zh (CJ.new D.out (m.w*m.h*m.l));have g7:w.heap.size<w'.heap.size:=zc D.out.box;clear D
   have b7:Bi w ok (.slice Af m.tasks.length cf) m.free:=by
    rw [<-hf];exact ⟨vsf,⟨Af,cf,rfl,e7,e1.out⟩,d8.out⟩
   go_wp2_with fail
   refine (DK (ok:=ok) 126 _ (fun f=>(f.length:Int) != m.w*m.h*m.l) _ (b7.below a0.out.below) l1 cf51 ?hp).mono ?_
   case hp=>exact fun x hx u hu w1 I=>check1_calls w'.heap.size _ w1 (hu.keep (I.same ok)) (a0.out.call (I.below _)).all
   rintro e w1 ⟨rfl,I⟩;have G:=zh (a0.out.call (I.below _));clear a0 I e3;by_cases ha:m.free.any (fun f=>(f.length:Int) != m.w*m.h*m.l)=true
   ·rw [ha];go_wp2;go_ret;exact ⟨AB (a4.out (.inr (.inr ha))).symm,G.out.below⟩
   have a7:=zh (show m.free.any (fun f=>(f.length:Int) != m.w*m.h*m.l)=false by simpa using ha);clear ha;rw [a7.out];obtain ⟨m0,m1,m2,m3,m4,m5⟩:=zq G.out.box;have a6:Bz w ok (.slice At m.tasks.length ct) m.tasks:=⟨vst,⟨At,ct,rfl,e8,e2.out⟩,d9.out⟩
   go_wp2_with fail
   go_loopw [62] (fun i wr=>∃k:Nat,k<=m.tasks.length/\i=.int .i64 k/\Hid ((m.tasks.take k).any (fun t=>t.1.any (zO m.n) || t.2.any (zO m.n))=false)/\Hid (CJ w wr #[.int .i64 m.w,.int .i64 m.h,.int .i64 m.l,.slice Af m.free.length cf,.slice Au m.up.length cu,.slice At m.tasks.length ct] w'.heap.size (m.w*m.h*m.l))) (fun i _=>m.tasks.length - (intOf i).toNat)
   case atStart=>exact ⟨0,by omega,rfl,by simp [Hid],G⟩
   clear G m0 m1 m2 m3 m4 m5 b7
   case round=>
    obtain ⟨k,hk,rfl,O,hI⟩:=hrel;by_cases M:k<m.tasks.length
    ·obtain ⟨b,off,sn,u1,u2,rfl,_,g5,e5,e6,a9,b0⟩:=Bm (a6.below hI.out.below) M;obtain ⟨A1,c1,rfl,c0,f3⟩:=a9.open;obtain ⟨A2,c2,rfl,c6,f4⟩:=b0.open;obtain ⟨f0,f1⟩:=e0.out _ (DS M);clear f3 f4;have b2:=zh a9;clear a9;have b3:=zh b0;clear b0;have g4:=zh a6;clear a6;obtain ⟨t,ht⟩:=EY (m.tasks[k]);rw [<-ht] at b2 b3 e5 e6 c0 c6 f0 f1;have E:=zh (AH (fun t=>t.1.any (zO m.n) || t.2.any (zO m.n)) M);rw [<-ht] at E;have HM:=zh (show t∈m.tasks by rw [ht];exact DS _);clear ht;have G:=zh (hI.out.alloc (.cells #[.string sn,.slice A1 t.1.length c1,.slice A2 t.2.length c2] 87));have a5:=zh (EE wr (.cells #[.string sn,.slice A1 t.1.length c1,.slice A2 t.2.length c2] 87))
     have a3:(t.1.any (zO m.n) || t.2.any (zO m.n))=true->Bq m=50:=by
      intro h;unfold Bq;rw [if_neg (by rw [HN.out];simp),if_neg (by unfold MZ.n;omega),if_neg (by unfold MZ.n;rw [a7.out];simp;omega),if_pos (ET.2 ⟨t,HM.out,h⟩)]
     have a2:=zh a3;clear a3
     go_wp2_with fail
     refine (BL (ok:=ok) 127 _ (zO (m.w*m.h*m.l)) _ (b2.out.below ((Below.refl _ _).alloc (DR _) _)) (by omega) cf52 ?hp).mono ?_
     case hp=>exact fun x hx w1 I=>check2_calls w'.heap.size _ x w1 (G.out.call (I.below _)).all
     rintro e w4 ⟨rfl,I⟩;have a1:=zh (G.out.call (I.below _));have b6:Hid (zd w4 wr.heap.size 87 _):=zd.below a5.out (I.below _) (zc a5.out);have e4:Hid (Below wr.heap.size wr w4):=((Below.refl _ _).alloc (DR _) _).trans (I.below _);clear I G a5;obtain ⟨q0,q1,q2⟩:=cells3 b6.out;by_cases J:t.1.any (zO (m.w*m.h*m.l))=true
     ·rw [J];go_wp2;go_ret;exact ⟨AB (a2.out (by show (t.1.any (zO (m.w*m.h*m.l)) || _)=true;rw [J];rfl)).symm,a1.out.below⟩
     ·have J:t.1.any (zO (m.w*m.h*m.l))=false:=by simpa using J
      rw [J];have d6:=zh J;clear J
      go_wp2_with fail
      refine (BL (ok:=ok) 127 _ (zO (m.w*m.h*m.l)) _ (b3.out.below e4.out) (by omega) cf52 ?hp).mono ?_
      case hp=>exact fun x hx w1 I=>check2_calls w'.heap.size _ x w1 (a1.out.call (I.below _)).all
      rintro e w5 ⟨rfl,I⟩;have b9:=zh (a1.out.call (I.below _));clear I a1 b6 q0 q1 q2;by_cases L:t.2.any (zO (m.w*m.h*m.l))=true
      ·rw [L];go_wp2;go_ret;exact ⟨AB (a2.out (by show (_ || t.2.any (zO (m.w*m.h*m.l)))=true;rw [L];simp)).symm,b9.out.below⟩
      ·have L:t.2.any (zO (m.w*m.h*m.l))=false:=by simpa using L
       rw [L];have d7:=zh L;clear L
       go_wp2_with fail
       go_roundw
       case rel=>exact ⟨k+1,by omega,by go_num,by
        show _=false;rw [E.out,O.out];show (_ || (t.1.any (zO (m.w*m.h*m.l)) || t.2.any (zO (m.w*m.h*m.l))))=false;rw [d6.out,d7.out];rfl,b9⟩
       case measure=>simp [intOf];omega
    ·obtain rfl:k=m.tasks.length:=by omega
     go_wp2;go_ret;refine ⟨AB ?_,hI.out.below⟩;have O:=O.out;rw [Ec] at O;unfold Bq;rw [if_neg (by rw [HN.out];simp),if_neg (by unfold MZ.n;omega),if_neg (by unfold MZ.n;rw [a7.out];simp;omega),if_neg (by rw [O];simp)]
theorem Dq (w:World) (b off:Nat):w.setCells b off []=w:=by
 unfold World.setCells;rfl
theorem DF (w:World) (base:Nat) (t ty e:TypeId) (i:TypeInfo) (z:Value) (bytes:Nat) (ht:Tryz.prog.underlying t=some (.slice e)) (U:Tryz.prog.info? e=some i) (hz:i.zero=some z)
  (D:i.size=1) (M:i.bytes=bytes) (O:z.cells.size=1)
  (v:Value) (n:Nat) (xs:List Value) (I:w.ownsRow base e 1 v n xs) (u:Value) (m:Nat) (news:List Value) (hu:Ae w ok 1 u m news) (h1:∀u∈news,u.oneCell'=true)
  (L:n+m<=maxLen) (E:(n+m)*bytes<=140737488355328) (J:base<=w.heap.size):
  ∃v' w',(Builtin.append_ #[t,t] ty #[v,u]).run Tryz.prog w=.ok v' w'/\w'.ownsRow base e 1 v' (n+m) (xs++news)/\w.grownBy w' v.ownBlock/\(v'.ownBlock=v.ownBlock\/v'.ownBlock=some w.heap.size):=by
 obtain ⟨A,c,rfl,hc,hl,G⟩:=hu;rcases A with _ | a
 ·have hm:m=0:=by
   rcases EC m with h | h
   ·exact h
   ·obtain ⟨b,off,e,_⟩:=G h;cases e
  subst hm;have hn:news=[]:=Ei (by simpa using hl);subst hn;refine ⟨v,w,?_,by simpa using I,⟨rfl,rfl,rfl,DR _,fun _ _ _=>rfl⟩,.inl rfl⟩;rcases I.2 with ⟨rfl,rfl⟩ | ⟨g,cap,cur,rfl,a6,hg,b0,a7,a8,a3⟩
  ·simp [Builtin.append_,run_underlying ht,sizeOf,typeInfo,U,D,Builtin.lenOf,Builtin.firstCells,loadCells,loadCellsFrom]
  ·have h:=run_append_room_src (P:=Tryz.prog) w t t ty e i ht U g 0 n cap (.slice none 0 c) 0 [] (by rw [D];exact Src.ofNil w ht c) (by omega) (by simp) (by simp);rw [Dq] at h;simpa using h
 ·rcases EC m with h0 | hpos
  ·subst h0;have hn:news=[]:=Ei (by simpa using hl);subst hn;obtain ⟨v',w',h1,h2,h3,h4,V⟩:=run_append_own_at (P:=Tryz.prog) w base t ty e i z 1 bytes ht U hz D M O (by decide) v n xs I a 0 c [] (by simp) (by simp) (by simp) L E J;exact ⟨v',w',h1,h2,h3,V⟩
  ·obtain ⟨b,off,he,_,a0⟩:=G hpos;injection he with he;subst he;obtain ⟨v',w',h1,h2,h3,h4,V⟩:=run_append_own_at (P:=Tryz.prog) w base t ty e i z 1 bytes ht U hz D M O (by decide) v n xs I ⟨b,off,none⟩ m c news (by simpa using hl) (fun j u hj=>by rw [Addr.add_lit];exact a0 j u hj) h1 L E J;exact ⟨v',w',h1,h2,h3,V⟩
theorem Ci {a:Act} (W:World) (s x:Operand)
  (U:o.op=.call { callee:=.builtin .append,args:=#[s,x],argTypes:=#[23,23] }) (base:Nat) (l l2:List Int) (v u:Value) (hs:a.eval s=v) (hx:a.eval x=u)
  (E:zB W base v l) (G:zk W ok u l2) (D:base<=W.heap.size) (hl:l.length+l2.length<=1000000000000)
  (h:∀v' w',zB w' base v' (l++l2)->Hid (W.grownBy w' v.ownBlock)->Hid (v'.ownBlock=v.ownBlock\/v'.ownBlock=some W.heap.size)->K (a.put o.dst v') w'):Oper.wp Tryz.prog o a W K Q:=by
 obtain ⟨i0,O,I,J,L⟩:=info_parts Tryz.infoInt
 obtain ⟨v',w',V,h2,h3,M⟩:=DF (ok:=ok) W base 23 o.type 3 i0 (.int .i64 0) 8 Tryz.underlying23 O I J L rfl v _ _ E u _ _ G (by
  intro u G;obtain ⟨_,_,rfl⟩:=EP.1 G;rfl) (by unfold maxLen;omega) (by omega) D
 unfold Oper.wp execOp;simp only [U,resolve,invoke,builtin,Sem.run_bind,Sem.run_pure,Result.andThen_ok,List.map_toArray,List.map_cons,List.map_nil,hs,hx,V];refine h v' w' ?_ h3 M;unfold zB;rw [EI,DZ];exact h2
theorem AJ {a:Act} {E:Prop} (I:o.guard=none) (W:World) (s x:Operand)
  (L:o.op=.call { callee:=.builtin .append,args:=#[s,x],argTypes:=#[23,23] }) (base:Nat) (l l2:List Int) (v u:Value) (M:a.eval s=v) (V:a.eval x=u)
  (G:zB W base v l) (O:zk W ok u l2) (D:base<=W.heap.size) (J:l.length+l2.length<=1000000000000)
  (h:∀v' w',zB w' base v' (l++l2)->Hid (W.grownBy w' v.ownBlock)->Hid (v'.ownBlock=v.ownBlock\/v'.ownBlock=some W.heap.size)->K (a.put o.dst v') w'):
  if Region.wanted o (yielded ops a.tmps)=true then Oper.wp Tryz.prog o a W K Q else E:=by
 have U:Region.wanted o (yielded ops a.tmps)=true:=by simp [Region.wanted,I]
 rw [if_pos U];exact Ci W s x L base l l2 v u M V G O D J h
theorem Bn {a:Act} (G:o.guard=none) (W:World) (s x:Operand)
  (L:o.op=.call { callee:=.builtin .append,args:=#[s,x],argTypes:=#[23,23] }) (base:Nat) (l l2:List Int) (v u:Value) (M:a.eval s=v) (U:a.eval x=u)
  (E:zB W base v l) (O:zk W ok u l2) (D:base<=W.heap.size) (J:l.length+l2.length<=1000000000000)
  (h:∀v' w',zB w' base v' (l++l2)->Hid (W.grownBy w' v.ownBlock)->Hid (v'.ownBlock=v.ownBlock\/v'.ownBlock=some W.heap.size)->wpList Tryz.prog ops Q rest (a.put o.dst v') w'):wpList Tryz.prog ops Q (o :: rest) a W:=by
 refine wpList_plain G fun K I=>?_
 exact Ci W s x L base l l2 v u M U E O D J fun v' w' h1 h2 h3=>I _ _ (h v' w' h1 h2 h3)
theorem Ao {v:Value} (h:zB W B v l) (D:v.ownBlock=some k):B<=k:=by
 rcases h.2 with ⟨rfl,_⟩ | ⟨g,cap,cur,rfl,E,_⟩
 ·cases D
 ·have D:some g=some k:=D;injection D with D;omega
theorem CB (W:World) (B:Nat) (D:B<=W.heap.size):zB (W.alloc (.cells #[] 3)) B (.slice (some ⟨W.heap.size,0,none⟩) 0 0) []:=
 ⟨rfl,.inr ⟨W.heap.size,0,#[],rfl,D,EE W _,DR _,by decide,rfl,rfl⟩⟩
theorem zS {w':World} {v:Value} (h:Below B a W) (E:Hid (W.grownBy w' v.ownBlock)) (D:B<=W.heap.size) (G:∀k,v.ownBlock=some k->B<=k):Below B a w':=h.grown E.out D G
def za (w w':World):Prop:=Below w.heap.size w w'
theorem za.refl (w:World):za w w:=Below.refl _ _
theorem za.trans {c:World} (h:za a b) (D:za b c):za a c:=Ba h D (DR _)
theorem za.alloc {a b:World} (h:za a b) (o:Obj):za a (b.alloc o):=Below.alloc h h.size o
theorem za.drew {a b:World} (h:za a b):za a b.drew:=Below.drew h
theorem za.drewN {a b:World} (h:za a b) (n:Nat):za a (b.drewN n):=Cq h n
theorem za.cell {w W:World} {p:Addr} {v:Value} (h:w.cell? p=some v) (hW:za w W):W.cell? p=some v:=(Below.cell hW (zA h)).trans h
theorem za.rule {w:World} {p:Addr} {v:Value} (h:w.cell? p=some v):∀W,za w W->W.cell? p=some v:=fun _ hW=>hW.cell h
theorem za.lt {w:World} (h:za w W) {g:Nat} (D:g<w.heap.size):g<W.heap.size:=Et D h.size
theorem Bj (w:World):∀W o,za w W->za w (W.alloc o):=fun _ o h=>h.alloc o
structure Mk (w1 w:World) (v:Value) (l:List Int):Prop where
 own:zB w w1.heap.size v l
 ext:za w1 w
theorem Mk.nil (w1:World):Mk w1 w1 (.slice none 0 0) []:=⟨World.ownsRow_nil _ _ _ _,za.refl _⟩
theorem Mk.nil' {w:World} (h:za w1 w):Mk w1 w (.slice none 0 0) []:=⟨World.ownsRow_nil _ _ _ _,h⟩
theorem Mk.app {w w':World} {v:Value} (h:Mk w1 w v l) (G:zB w' w1.heap.size v' l') (D:Hid (w.grownBy w' v.ownBlock)):Mk w1 w' v' l':=
 ⟨G,zS h.ext D h.ext.size (fun k E=>Ao h.own E)⟩
theorem Mk.more {w w':World} {v:Value} (h:Mk w1 w v l) (D:za w w'):Mk w1 w' v l:=
 ⟨h.own.kept (row:=none) ⟨D.os,D.tape,D.output,D.size,fun i E _=>D.block i E⟩ (by cases h:v.ownBlock <;> simp),h.ext.trans D⟩
theorem Mk.alloc {w1 w:World} {v:Value} {l:List Int} (h:Mk w1 w v l) (o:Obj):Mk w1 (w.alloc o) v l:=h.more ((za.refl _).alloc o)
theorem Mk.drew {w1 w:World} {v:Value} {l:List Int} (h:Mk w1 w v l):Mk w1 w.drew v l:=⟨h.own,h.ext.drew⟩
theorem Mk.drewN {w1 w:World} {v:Value} {l:List Int} (h:Mk w1 w v l) (n:Nat):Mk w1 (w.drewN n) v l:=⟨h.own,h.ext.drewN n⟩
theorem Mk.cast {w:World} {v:Value} (h:Mk w1 w v l) (e:l'=l):Mk w1 w v l':=e ▸ h
theorem Mk.ints {w:World} {v:Value} (h:Mk w1 w v l):zk w (fun b=>w1.heap.size<=b) v l:=Ae.of_own h.own
theorem Mk.slice {w1 w:World} {v:Value} {l:List Int} (h:Mk w1 w v l):∃A c,v=.slice A l.length c/\l.length<=c:=by
 obtain ⟨A,c,e,D,_⟩:=h.ints;exact ⟨A,c,e,D⟩
theorem za.mono_mk {w w':World} {v:Value} (h:za w w1) (hm:Mk w1 w' v l):Mk w w' v l:=⟨hm.own.mono h.size,h.trans hm.ext⟩
theorem held_ext (h:za w1 a/\za wk a) (D:Below a.heap.size a b):za w1 b/\za wk b:=⟨h.1.trans D,h.2.trans D⟩
theorem CZ (h:za w1 wk):za w1 wk.drew/\za wk wk.drew:=⟨h.drew,(za.refl wk).drew⟩
theorem AA {w:World} {v:Value} (h:zB w B v l):∃A c,v=.slice A l.length c/\l.length<=c:=by
 obtain ⟨A,c,e,D,_⟩:=Ae.of_own h;exact ⟨A,c,e,D⟩
theorem own_at {w:World} {c:Nat} (h:zB w B (.slice A n c) l) (E:k<l.length):∃b,A=some ⟨b,0,none⟩/\B<=b/\w.cell? ⟨b,k,none⟩=some (.int .i64 l[k]):=by
 obtain ⟨g,cap,I,D,G⟩:=World.ownsRow.form h (by omega);injection I with h1 h2 h3;subst h1 h2 h3;refine ⟨g,rfl,D,?_⟩;rw [World.ownsRow.cellAt h k (by omega)];simp [E]
theorem zC (W:World) (v:Value) (t:TypeId) {g:Nat} (h:g=W.heap.size):(W.alloc (.cells #[v] t)).cell? ⟨g,0,none⟩=some v:=by
 subst h;unfold World.cell?;simp only [EE];rfl
end
end Go.Proofs.YtjomnbdjajjgfaaGreatDoor
