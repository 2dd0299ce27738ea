import Derived.Test.YtjomnbdjajjgfaaGreatDoorWIa
import Derived.Maps.AppendAt
import Derived.WalkSmall
import Derived.Deep.LoopGhost
import Derived.Deep.AppendSrc
import Derived.Deep.AppendLies
import Derived.Shelf.Strings.BuilderK
import Derived.Shelf.LaysM
import Derived.Shelf.Strconv.Itoa3
import Derived.Shelf.LaysC
import Derived.Shelf.Strconv.ErrVarAll
import Derived.Shelf.Strings.Search2
import Derived.Lib.UnsafeStr
import Derived.Lib.AppendStr
set_option linter.unusedVariables false
set_option linter.unusedSimpArgs false
set_option maxRecDepth 100000
set_option maxHeartbeats 16000000
namespace Go.Proofs.YtjomnbdjajjgfaaGreatDoor
variable {K:Act->World->Prop} {ops:Array Oper} {c i:Array Value} {Q:Exit->Act->World->Prop} {x:Int} {from_ l l' used:List Int} {rest:List Oper} {m:MZ} {B j k n t:Nat} {ok:Nat->Prop} {o:Oper} {A:Option Addr} {v':Value} {W a b w1 wk:World}
section
open Go.RowKit
theorem AU {w w':World} {g:Nat} (h:Below B a w) (G:w.grownBy w' (some g)) (D:B<=w.heap.size) (E:B<=g):Below B a w':=
 h.grown G D (fun k d=>by injection d with d;omega)
def zL (w:World) (B:Nat) (v:Value) (l:List Int):Prop:=w.ownsRow B 3 1 v l.length (l.map (Value.int .i64))
theorem AR {a:Act} (E:o.guard=none) (s y:Operand)
  (V:o.op=.call { callee:=.builtin .append,args:=#[s,y],argTypes:=#[23,23] }) (W:World) (l:List Int) (x:Int) (B g c:Nat) (v:Value) (hs:a.eval s=v)
  (hy:a.eval y=.slice (some ⟨g,0,none⟩) 1 c) (d:W.ownsRow B 3 1 v l.length (l.map (Value.int .i64))) (O:W.cell? ⟨g,0,none⟩=some (.int .i64 x)) (M:B<=W.heap.size) (hl:l.length<=1000000000000)
  (h:∀v' w',zL w' B v' (l++[x])->Hid (W.grownBy w' v.ownBlock)->Hid (v'.ownBlock=v.ownBlock\/v'.ownBlock=some W.heap.size)->wpList Tryz.prog ops Q rest (a.put o.dst v') w'):wpList Tryz.prog ops Q (o :: rest) a W:=by
 obtain ⟨i0,U,G,I,J⟩:=info_parts Tryz.infoInt;refine wpList_append_own_at _ E _ _ 23 V B 3 i0 (.int .i64 0) 1 8 Tryz.underlying23 U G I J rfl (by decide) _ _ _ hs d ⟨g,0,none⟩ 1 c [.int .i64 x] hy rfl ?_ ?_ ?_ ?_ M ?_
 ·intro j u D
  match j,D with
  | 0,D=>
   have:u=.int .i64 x:=by simpa using D.symm
   rw [this];exact O
 ·intro u D;have:u=.int .i64 x:=by simpa using D
  rw [this];rfl
 ·unfold maxLen;omega
 ·omega
 ·intro v' w' h1 h2 _ h3;refine h v' w' ?_ h2 h3;unfold zL;rw [map_snoc,Eg];exact h1
structure RI (w wr:World) (g:Nat) (mv:Array Value) (s todo:List Int) (v:Value):Prop where
 below:Below w.heap.size w wr
 ge:w.heap.size<=g
 box:zl wr g 32 mv
 set:zF wr (g+1) s
 own:wr.ownsRow (g+2) 3 1 v todo.length (todo.map (Value.int .i64))
section
variable {w wr w':World} {g:Nat} {mv:Array Value} {s todo:List Int} {v:Value}
theorem RI.lt (h:RI w wr g mv s todo v):g+1<wr.heap.size:=zc h.set
theorem RI.call (h:RI w wr g mv s todo v) (d:Below wr.heap.size wr w'):RI w w' g mv s todo v:=
 ⟨AZ h.below d (DY _),h.ge,h.box.below d (by have:=h.lt;omega),h.set.below d,
  h.own.kept (row:=none) ⟨d.os,d.tape,d.output,d.size,fun i D _=>d.block i D⟩ (by cases h:v.ownBlock <;> simp)⟩
theorem RI.alloc (h:RI w wr g mv s todo v) (o:Obj):RI w (wr.alloc o) g mv s todo v:=h.call ((Below.refl _ _).alloc (DY _) _)
theorem RI.add (h:RI w wr g mv s todo v) (D:zF w' (g+1) (ins s x)) (d:wr.grownBy w' (some (g+1))):RI w w' g mv (ins s x) todo v:=
 ⟨AU h.below d h.below.size (by have:=h.ge;omega),h.ge,(d.block g (by have:=h.lt;omega) (fun e=>by injection e;omega)).trans h.box,D,
  h.own.kept d (.inr (fun e=>by have:=(h.own.lt _ e).1;omega))⟩
theorem RI.app (h:RI w wr g mv s todo v) (E:w'.ownsRow (g+2) 3 1 v' (todo++[x]).length ((todo++[x]).map (Value.int .i64))) (d:wr.grownBy w' v.ownBlock):RI w w' g mv s (todo++[x]) v':=
 ⟨h.below.grown d h.below.size (fun k D=>by have:=(h.own.lt _ D).1;have:=h.ge;omega),h.ge,
  (d.block g (by have:=h.lt;omega) (fun e=>by have:=(h.own.lt _ e.symm).1;omega)).trans h.box,
  (d.block (g+1) h.lt (fun e=>by have:=(h.own.lt _ e.symm).1;omega)).trans h.set,E⟩
end
theorem look_t {w:World} {g:Nat} (h:zF w g l) (d:x∈l):(Instr.lookup 205 (.map (some g)) (.int .i64 x) false).run Tryz.prog w=.ok (.bool true) w:=by
 have:=run_look h x 205 Tryz.underlying205
 rwa [Eb d] at this
theorem look_f {w:World} {g:Nat} (h:zF w g l) (d:x∉l):(Instr.lookup 205 (.map (some g)) (.int .i64 x) false).run Tryz.prog w=.ok (.bool false) w:=by
 have:=run_look h x 205 Tryz.underlying205
 rwa [Ec d] at this
theorem ins_new (h:x∉l):ins l x=l++[x]:=by simp [ins,h]
theorem Dv (h:l.Nodup) (E:x∉l):(l++[x]).Nodup:=by
 rw [List.nodup_append]
 exact ⟨h,by simp,fun a d b D=>by
  have:b=x:=by simpa using D
  subst this;rintro rfl;exact E d⟩
structure RO (m:MZ) (t:Nat) (from_ used s todo:List Int):Prop where
 nd:s.Nodup
 rp:∀x∈s,RP m t from_ used x
 fr:∀x∈from_,0<=x->x<m.n->x∈s
 sub:∀x∈todo,x∈s
 cl:∀y∈s,y∉todo->∀z∈zm m y,zi m t z=true->z∉used->z∈s
 ln:todo.length<=s.length
structure RJ (m:MZ) (t:Nat) (from_ used s todo:List Int) (x:Int) (j:Nat):Prop where
 nd:s.Nodup
 rp:∀x∈s,RP m t from_ used x
 fr:∀x∈from_,0<=x->x<m.n->x∈s
 sub:∀x∈todo,x∈s
 xs:x∈s
 cl:∀y∈s,y∉todo->y≠x->∀z∈zm m y,zi m t z=true->z∉used->z∈s
 cx:∀z∈(zm m x).take j,zi m t z=true->z∉used->z∈s
 ln:todo.length<=s.length
theorem RO.pop {s todo:List Int} (h:RO m t from_ used s (todo++[x])):RJ m t from_ used s todo x 0:=
 ⟨h.nd,h.rp,h.fr,fun y D=>h.sub y (by simp [D]),h.sub x (by simp),fun y D E d=>h.cl y D (by simp [E,d]),by simp,by have:=h.ln;simp at this;omega⟩
theorem RJ.skip {s todo:List Int} (h:RJ m t from_ used s todo x j) (D:j<(zm m x).length) (E:(zm m x)[j]∈s\/zi m t (zm m x)[j]=false\/(zm m x)[j]∈used):
  RJ m t from_ used s todo x (j+1):=
 ⟨h.nd,h.rp,h.fr,h.sub,h.xs,h.cl,fun z G hf d=>by
  rcases (zv D z).1 G with h1 | h1
  ·exact h.cx z h1 hf d
  ·subst h1;rcases E with h2 | h2 | h2
   ·exact h2
   ·rw [hf] at h2;cases h2
   ·exact absurd h2 d,h.ln⟩
theorem RJ.push {s todo:List Int} (h:RJ m t from_ used s todo x j) (J:j<(zm m x).length) (O:(zm m x)[j]∉s) (hf:zi m t (zm m x)[j]=true) (U:(zm m x)[j]∉used):
  RJ m t from_ used (s++[(zm m x)[j]]) (todo++[(zm m x)[j]]) x (j+1):=
 ⟨Dv h.nd O,fun y hy=>by
   rw [EN,EF] at hy;rcases hy with hy | rfl
   ·exact h.rp y hy
   ·exact (h.rp x h.xs).step (DZ J) hf U,
  fun y hy h0 h1=>by simp [h.fr y hy h0 h1],
  fun y hy=>by
   rw [EN,EF] at hy⊢;rcases hy with hy | hy
   ·exact .inl (h.sub y hy)
   ·exact .inr hy,
  by simp [h.xs],
  fun y hy E G z I d D=>by
   rw [EN,EF] at hy E;rcases hy with hy | hy
   ·simp [h.cl y hy (fun M=>E (.inl M)) G z I d D]
   ·exact absurd (.inr hy) E,
  fun z I d D=>by
   rcases (zv J z).1 I with h1 | h1
   ·simp [h.cx z h1 d D]
   ·simp [h1],by have:=h.ln;simp;omega⟩
theorem RJ.done {s todo:List Int} (h:RJ m t from_ used s todo x j) (E:(zm m x).length<=j):RO m t from_ used s todo:=
 ⟨h.nd,h.rp,h.fr,h.sub,fun y I G z J hf D=>by
  by_cases d:y=x
  ·subst d;exact h.cx z (by rwa [List.take_of_length_le E]) hf D
  ·exact h.cl y I G d z J hf D,h.ln⟩
theorem RO.end_ {s:List Int} (h:RO m t from_ used s []) (x:Int):x∈s↔RP m t from_ used x:=
 ⟨h.rp x,fun d=>d (·∈s) h.fr (fun y z E G hf D=>h.cl y E (by simp) z G hf D)⟩
theorem BE {w:World} {base:Nat} {e:TypeId} {size g cap:Nat} {xs:List Value} (h:w.ownsRow base e size (.slice (some ⟨g,0,none⟩) n cap) n xs):n<=cap:=by
 rcases h.2 with ⟨h0,_⟩ | ⟨g',cap',cur,D,_,_,d,_⟩
 ·cases h0
 ·cases D;exact d
theorem Cr (m:MZ) (x:Int):(zm m x).length<=6:=by
 have h (c:Bool) (y:Int) (l:List Int) (k:Nat) (d:l.length<=k):(ap c y l).length<=k+1:=Ea (ap_len c y l) (by omega);unfold zm;exact h _ _ _ 5 (h _ _ _ 4 (h _ _ _ 3 (h _ _ _ 2 (h _ _ _ 1 (h _ _ _ 0 (by simp))))))
theorem reach_calls {ok':Nat->Prop} {vm vf:Value} {gu:Nat} (t:Nat) (w:World) (hm:zY w ok vm m) (d:Dim m) (ht:t<m.free.length) (f6:∀f∈m.free,(f.length:Int)=m.n)
  (hf:zk w ok' vf from_) (hl:from_.length<=20000000000000) (hu:zF w gu used):
  Calls Tryz.prog 206 #[vm,.int .i64 t,vf,.map (some gu)] w fun e w'=>∃s,e=.returned (.map (some (w.heap.size+1)))/\Below w.heap.size w w'/\zF w' (w.heap.size+1) s/\∀x,x∈s↔RP m t from_ used x:=by
 have f9:=hm;obtain ⟨vfr,vup,vts,rfl,a8,_,_⟩:=hm;obtain ⟨vsf,⟨Af,cf,rfl,l7,g3⟩,f5⟩:=a8;obtain ⟨A,c,rfl,hc,hr⟩:=hf;obtain ⟨m6,m7⟩:=d.layer;have D:=zh d;obtain ⟨w1,w2,l8,l9,ll1,ll2,n1,j3⟩:=d;have HM:=zh f9;clear f9;have h7:=zh g3;clear g3;have h5:=zh f5;clear f5;have HR:=zh hr;clear hr;have HU:=zh hu;clear hu;have h6:=zh f6;clear f6 j3;have hN:0<=m.w*m.h*m.l:=by omega
 have m9:=@run_makeMap Tryz.prog
 go_enter Tryz.func206,Tryz.ntmps206
 go_wp2
 have f1:RI w ((w.alloc (.cells #[.int .i64 m.w,.int .i64 m.h,.int .i64 m.l,.slice Af m.free.length cf,vup,vts] 32)).alloc (.map #[] 0)) w.heap.size #[.int .i64 m.w,.int .i64 m.h,.int .i64 m.l,.slice Af m.free.length cf,vup,vts] [] [] (.slice none 0 0):=by
  refine ⟨((Below.refl _ _).alloc (DY _) _).alloc (by simp) _,DY _,?_,?_,World.ownsRow_nil _ _ _ _⟩
  ·exact zl.alloc (EL w _) _
  ·have:=zF.new (w.alloc (.cells #[.int .i64 m.w,.int .i64 m.h,.int .i64 m.l,.slice Af m.free.length cf,vup,vts] 32));simpa using this
 go_loopw [10,19] (fun v i wr=>∃k s,k<=from_.length/\i=.int .i64 (k:Nat)/\Hid (RI w wr w.heap.size #[.int .i64 m.w,.int .i64 m.h,.int .i64 m.l,.slice Af m.free.length cf,vup,vts] s s v)/\Hid (s.Nodup)/\Hid (∀x,x∈s↔x∈from_.take k/\0<=x/\x<m.n)) (fun _ i _=>from_.length - (intOf i).toNat)
 case atStart=>exact ⟨0,[],Em _,rfl,f1,List.nodup_nil,by simp [Hid]⟩
 clear f1
 case round=>
  obtain ⟨k,s,hk,rfl,hI,hnd,hx⟩:=hrel;by_cases E:k<from_.length
  ·obtain ⟨b,off,rfl,_,I⟩:=AH (HR.out.keep (Ar.of_below hI.out.below)) E E;obtain ⟨y,hy⟩:=Fd (from_[k]);rw [<-hy] at I;have HY:=zh hy;clear hy;obtain ⟨m0,m1,m2,m3,m4,m5⟩:=zt hI.out.box;by_cases g7:0<=y
   ·by_cases j6:y<m.w*m.h*m.l
    ·have c9:∀W:World,Calls Tryz.prog 124 #[.agg #[.int .i64 m.w,.int .i64 m.h,.int .i64 m.l,.slice Af m.free.length cf,vup,vts]] W _:=fun W=>Bk m.w m.h m.l _ vup vts W (by omega) (by omega)
     have c8:=zh c9;clear c9;by_cases G:y∈s
     ·go_wp2_with fail
      refine (c8.out _).mono ?_;rintro e w' ⟨rfl,hb⟩;have a2:=zh (hI.out.call hb);have b0:=look_t a2.out.set G
      go_wp2_with fail
      go_roundw
      case rel=>exact ⟨k+1,s,by omega,by go_num,a2,hnd,fun x=>by
       rw [zv E,hx.out,<-HY.out];constructor
       ·rintro ⟨h1,h2⟩;exact ⟨.inl h1,h2⟩
       ·rintro ⟨h1 | rfl,h2⟩
        ·exact ⟨h1,h2⟩
        ·exact (hx.out x).1 G⟩
      case measure=>simp [intOf];omega
     ·go_wp2_with fail
      refine (c8.out _).mono ?_;rintro e w' ⟨rfl,hb⟩;have a2:=zh (hI.out.call hb);have b0:=look_f a2.out.set G
      go_wp2_with (at_mapUpdate;refine wpSetAdd rfl _ _ _ _ rfl Tryz.underlying205 (w.heap.size+1) s y rfl rfl rfl a2.out.set ?_)
      intro wa b6 V;have O:=zh (a2.out.add b6 V);have a3:wa.heap.size=wa.heap.size:=rfl;have i7:w.heap.size+2<=wa.heap.size:=O.out.lt;have d5:=Bp hnd.out m.n (fun x j5=>((hx.out x).1 j5).2);have i8:s.length<=300:=by unfold MZ.n at d5;omega
      clear b6 V b0 d5
      go_wp2_with (at_builtin;refine AR rfl _ _ rfl _ s y (w.heap.size+2) wa.heap.size 1 _ rfl rfl (O.out.own.alloc _) ?c1 ?c2 ?c3 ?_)
      case c2=>(first | omega | (simp;omega))
      case c3=>omega
      intro v' wb b3 a0 _;have e1:=zh ((O.out.alloc _).app b3 a0.out);clear b3 a0;go_wp2;go_roundw
      case rel=>exact ⟨k+1,s++[y],by omega,by go_num,by have:=e1.out;rwa [ins_new G] at this,Dv hnd.out G,fun x=>by
       rw [EN,EF,zv E,hx.out,<-HY.out];constructor
       ·rintro (⟨h1,h2⟩ | rfl)
        ·exact ⟨.inl h1,h2⟩
        ·exact ⟨.inr rfl,g7,j6⟩
       ·rintro ⟨h1 | rfl,h2⟩
        ·exact .inl ⟨h1,h2⟩
        ·exact .inr rfl⟩
      case measure=>simp [intOf];omega
    ·go_wp2_with (go_at_call 124;refine (Bk _ _ _ _ _ _ _ (by omega) (by omega)).mono ?_;rintro e w' ⟨rfl,hb⟩)
     go_roundw
     case rel=>exact ⟨k+1,s,by omega,by go_num,hI.out.call ‹_›,hnd,fun x=>by
      rw [zv E,hx.out,<-HY.out];constructor
      ·rintro ⟨h1,h2⟩;exact ⟨.inl h1,h2⟩
      ·rintro ⟨h1 | rfl,h2,h3⟩
       ·exact ⟨h1,h2,h3⟩
       ·unfold MZ.n at h3;omega⟩
     case measure=>simp [intOf];omega
   ·go_wp2;go_roundw
    case rel=>exact ⟨k+1,s,by omega,by go_num,hI,hnd,fun x=>by
     rw [zv E,hx.out,<-HY.out];constructor
     ·rintro ⟨h1,h2⟩;exact ⟨.inl h1,h2⟩
     ·rintro ⟨h1 | rfl,h2,h3⟩
      ·exact ⟨h1,h2,h3⟩
      ·omega⟩
    case measure=>simp [intOf];omega
  ·obtain rfl:k=from_.length:=by omega
   have b7:Hid (∀x,x∈s↔x∈from_/\0<=x/\x<m.n):=fun x=>by have:=hx.out x;rwa [Ej] at this
   clear hx;have hO:Hid (RO m t from_ used s s):=⟨hnd.out,fun x h=>RP.base ((b7.out x).1 h).1 ((b7.out x).1 h).2.1 ((b7.out x).1 h).2.2,fun x h h0 h1=>(b7.out x).2 ⟨h,h0,h1⟩,fun x h=>h,fun y h hn=>absurd h hn,DY _⟩;clear b7 hnd E hk;go_wp2
   go_loopg [10] (2*(m.n.toNat - s.length)+s.length) (fun gk v wr=>∃s todo,gk=2*(m.n.toNat - s.length)+todo.length/\Hid (RI w wr w.heap.size #[.int .i64 m.w,.int .i64 m.h,.int .i64 m.l,.slice Af m.free.length cf,vup,vts] s todo v)/\Hid (RO m t from_ used s todo))
   case atStart=>exact ⟨s,s,rfl,hI,hO⟩
   clear hI hO
   case round=>
    obtain ⟨s,todo,rfl,hI,hO⟩:=hrel;obtain ⟨wo,rfl⟩:∃wo:World,wo=wr:=⟨_,rfl⟩;rcases List.eq_nil_or_concat todo with rfl | ⟨td,x,rfl⟩
    ·obtain ⟨A0,c0,hv⟩:∃A0 c0,u10=.slice A0 0 c0:=by
      obtain ⟨A0,c0,hv,_⟩:=Bv.of_own hI.out.own;exact ⟨A0,c0,hv⟩
     subst hv;go_wp2;go_ret;exact ⟨s,rfl,hI.out.below,hI.out.set,hO.out.end_⟩
    ·rw [List.concat_eq_append] at hI hO;obtain ⟨gt,ct,hv,k4,f7⟩:=hI.out.own.form (by simp);subst hv;have e7:(td++[x]).length=td.length+1:=by simp
     try rw [e7]
     have i6:wo.cell? ⟨gt,td.length,none⟩=some (.int .i64 x):=by
      have:=hI.out.own.cellAt td.length (by simp);rw [this];simp
     have hJ:=zh hO.out.pop;have i5:=BE hI.out.own;rw [e7] at i5;have j1:=(hO.out.rp x (hJ.out.xs)).range D.out;have j2:=Bp hO.out.nd m.n (fun y hy=>(hO.out.rp y hy).range D.out);have n3:=hJ.out.ln;have k7:s.length<=300:=by unfold MZ.n at j2;omega
     obtain ⟨g5,g6⟩:=j1;obtain ⟨m0,m1,m2,m3,m4,m5⟩:=zt hI.out.box
     have e0:Hid (RI w wo w.heap.size #[.int .i64 m.w,.int .i64 m.h,.int .i64 m.l,.slice Af m.free.length cf,vup,vts] s td (.slice (some ⟨gt,0,none⟩) td.length ct)):=by
      have h:=hI.out.own;refine ⟨hI.out.below,hI.out.ge,hI.out.box,hI.out.set,?_⟩;rw [map_snoc,e7] at h;exact ownsRow_pop (by simp) h
     clear hI hO
     go_wp2_with fail
     refine (next_calls m x wo (HM.out.keep (Ar.of_below e0.out.below)) D.out g5 g6).mono ?_;rintro e wk ⟨v',rfl,f3,e6⟩;have f0:=zh (e0.out.call f3);have g0:=zh (Bv.of_own e6);have k5:=zh e6;clear e6;obtain ⟨A2,c2,j4,l6,d6⟩:=g0.out;subst j4;clear g0;have n2:=Cr m x;have i9:=HM.out;have e9:=zh d6;clear d6;clear i9 m0 m1 m2 m3 m4 m5 i6;have l1:wo.heap.size<=wk.heap.size:=f3.size;go_wp2;go_loopw [10,62] (fun v i wi=>∃j s' todo',j<=(zm m x).length/\i=.int .i64 (j:Nat)/\Hid (RI w wi w.heap.size #[.int .i64 m.w,.int .i64 m.h,.int .i64 m.l,.slice Af m.free.length cf,vup,vts] s' todo' v)/\Hid (RJ m t from_ used s' todo' x j)/\Hid (Ar (fun b=>wo.heap.size<=b/\b<wk.heap.size) wk wi)/\Hid (∀k,v.ownBlock=some k->k<wo.heap.size\/wk.heap.size<=k)/\Hid (wk.heap.size<=wi.heap.size)/\Hid (todo'.length+s.length=td.length+s'.length/\s.length<=s'.length)) (fun _ i _=>(zm m x).length - (intOf i).toNat)
     case atStart=>exact ⟨0,s,td,Em _,rfl,f0,hJ,Ar.refl _ _,fun k hk=>by
      have:k=gt:=by simpa [Value.ownBlock] using hk.symm
      subst this;exact .inl f7,DY _,rfl,DY _⟩
     clear e0 f0 hJ
     case round=>
      obtain ⟨j,s',todo',hj,rfl,hI,hJ,hS,a6,a3,b1⟩:=hrel;by_cases a9:j<(zm m x).length
      ·obtain ⟨b2,off2,rfl,i2,J⟩:=AH e9.out a9 a9;have a7:=zn J;have I:=(cell_same (hS.out b2 ⟨i2,a7⟩ a7)).trans J;clear J;have g8:=Bz D.out g5 g6 (DZ a9);have M:=zh (hJ.out.skip a9);have b5:=zh (hJ.out.push a9);obtain ⟨y,hy⟩:=Fd ((zm m x)[j]);rw [<-hy] at I g8 M b5;clear hy;obtain ⟨g7,n4⟩:=g8;obtain ⟨m0,m1,m2,m3,m4,m5⟩:=zt hI.out.box;obtain ⟨bf,off3,uf,rfl,_,d4,i3⟩:=AX (h7.out.keep (Ar.of_below hI.out.below)) h5.out ht ht;have U:=h6.out _ (DZ ht);obtain ⟨A4,c4,rfl,i4,g1⟩:=i3;have c6:y.toNat<(m.free[t]).length:=by omega
       obtain ⟨b4,off4,rfl,_,a1⟩:=Bu (g1.keep (Ar.of_below hI.out.below)) c6 c6;have a8:(m.free[t])[y.toNat]=zi m t y:=by simp [zi,ht,c6]
       rw [a8] at a1;have l2:=zh a8;clear a8;obtain ⟨nf,e5⟩:=Fd ((m.free[t]).length);rw [<-e5] at d4 c6 U i4;have l3:=zh e5;clear e5;have j8:=zh U;clear U;clear g1;have hset:=hI.out.set;have d9:=HU.out.below hI.out.below;by_cases G:y∈s'
       ·have b0:=look_t hset G;go_wp2;go_roundw
        case rel=>exact ⟨j+1,s',todo',by omega,by go_num,hI,M.out (.inl G),hS,a6,a3,b1⟩
        case measure=>simp [intOf];omega
       ·have b0:=look_f hset G;by_cases hf:zi m t y=true
        ·rw [hf] at a1;by_cases c7:y∈used
         ·have f8:=look_t d9 c7;have HF:=zh hf;clear hf;go_wp2;go_roundw
          case rel=>exact ⟨j+1,s',todo',by omega,by go_num,hI,M.out (.inr (.inr c7)),hS,a6,a3,b1⟩
          case measure=>simp [intOf];omega
         ·have f8:=look_f d9 c7;have HF:=zh hf;clear hf;have h8:=zh (b5.out G HF.out c7);have d7:=Bp hJ.out.nd m.n (fun y hy=>(hJ.out.rp y hy).range D.out);have k8:=hJ.out.ln;have k9:todo'.length<=300:=by unfold MZ.n at d7;omega
          go_wp2_with (at_mapUpdate;refine wpSetAdd rfl _ _ _ _ rfl Tryz.underlying205 (w.heap.size+1) s' y rfl rfl rfl hI.out.set ?_)
          intro wa b6 V;have O:=zh (hI.out.add b6 V)
          have i0:Hid (Ar (fun b=>wo.heap.size<=b/\b<wk.heap.size) wk wa):=fun b hb E=>by
           refine (V.block b (EA E a3.out) (fun e=>?_)).trans (hS.out b hb E);injection e with e;have:=hb.1;omega
          have e8:Hid (wk.heap.size<=wa.heap.size):=Ea a3.out V.size;have i7:w.heap.size+2<=wa.heap.size:=O.out.lt;clear b6 V b0 f8 hset d9 m0 m1 m2 m3 m4 m5 d4 a1 I
          go_wp2_with (at_builtin;refine AR rfl _ _ rfl _ todo' y (w.heap.size+2) wa.heap.size 1 _ rfl rfl (O.out.own.alloc _) ?d1 ?d2 ?d3 ?_)
          (try case d1=>simp)
          case d2=>(first | omega | (simp;omega))
          case d3=>omega
          intro v' wb b3 a0 f4;have e1:=zh ((O.out.alloc _).app b3 a0.out)
          have h9:Hid (∀k,v'.ownBlock=some k->k<wo.heap.size\/wk.heap.size<=k):=fun k hk=>by
           rcases f4.out with e | e
           ·exact a6.out k (e ▸ hk)
           ·have:k=wa.heap.size+1 - 1+1:=by
             rw [e] at hk;simpa using hk.symm
            have:=e8.out;omega
          have i1:Hid (Ar (fun b=>wo.heap.size<=b/\b<wk.heap.size) wk wb):=fun b hb E=>by
           have hz:=e8.out;refine (a0.out.block b (by simp;omega) (fun e=>?_)).trans ((Er wa _ b (by omega)).trans (i0.out b hb E));have h1:=a6.out b e.symm;have h2:=hb.1;omega
          have j7:Hid (wk.heap.size<=wb.heap.size):=by
           have h1:=a0.out.size;have h2:=e8.out;simp at h1;show _<=_;omega
          clear b3 a0 f4;go_wp2;go_roundw
          case rel=>exact ⟨j+1,s'++[y],todo'++[y],by omega,by go_num,by have:=e1.out;rwa [ins_new G] at this,h8,i1,h9,j7,by have h1:=b1.out;show _/\_;simp only [Eg,Fb,Fc];omega⟩
          case measure=>simp [intOf];omega
        ·have e3:zi m t y=false:=by simpa using hf
         rw [e3] at a1;have HF:=zh e3;clear hf e3;go_wp2;go_roundw
         case rel=>exact ⟨j+1,s',todo',by omega,by go_num,hI,M.out (.inr (.inl HF.out)),hS,a6,a3,b1⟩
         case measure=>simp [intOf];omega
      ·have e2:=zh (hJ.out.done (by omega));have d7:=Bp e2.out.nd m.n (fun y hy=>(e2.out.rp y hy).range D.out);have m8:=b1.out;go_wp2
       go_roundg (2*(m.n.toNat - s'.length)+todo'.length)
       case measure=>
        have h1:(td.concat x).length=td.length+1:=by simp
        rw [h1];omega
       case rel=>exact ⟨s',todo',rfl,hI,e2⟩
theorem AW {α:Type} {l:List α} (p:α->Bool) (h:k<l.length):(l.take (k+1)).any p=((l.take k).any p || p l[k]):=by
 rw [Ef h,List.any_append];simp
theorem Cb {P: Program} {n: FuncId} {fn: Func} (h : P.funcs[n]? = some fn) (hn : (fn.name == "runtime.NumGoroutine") = false) (hb : fn.body.isNone = false) (a : Array Value) (w : World) : (callFunc n a).run P w = .ok (.enter n a) w := by
 unfold callFunc;simp only [Sem.run_bind,run_program,Result.andThen_ok,h,hn,hb,Bool.false_eq_true,if_false,Sem.run_pure]
theorem Dn {v:Value} (n:FuncId) (caps:Array Value) (p:Int->Bool) (w:World) (h:zk w ok v l) (hl:l.length<=20000000000000)
  (a7:∀(a:Array Value) (w:World),(callFunc n a).run Tryz.prog w=.ok (.enter n a) w)
  (hp:∀x∈l,∀w1,z8 w w1->Calls Tryz.prog n (#[.int .i64 x]++caps) w1 fun e w'=>e=.returned (.bool (p x))/\z8 w1 w'):
  Calls Tryz.prog 182 #[v,.func (.func n) #[] caps] w fun e w'=>∃r:Int,e=.returned (.int .i64 r)/\(0<=r↔l.any p=true)/\-1<=r/\z8 w w':=by
 obtain ⟨A,c,rfl,hc,hr⟩:=h;have HR:=zh hr;clear hr;have HP:=zh hp;clear hp
 go_enter Tryz.func182,Tryz.ntmps182
 go_wp2_with fail
 go_loopw [8] (fun i wr=>∃k:Nat,k<=l.length/\i=.int .i64 k/\Hid ((l.take k).any p=false)/\Hid (z8 w wr)) (fun i _=>l.length - (intOf i).toNat)
 case atStart=>exact ⟨0,Em _,rfl,by simp [Hid],z8.refl _⟩
 case round=>
  obtain ⟨k,hk,rfl,hn,V⟩:=hrel;by_cases O:k<l.length
  ·obtain ⟨b,off,rfl,_,M⟩:=AH (HR.out.keep (V.out.same ok)) O O;obtain ⟨x,hx⟩:=Fd (l[k]);rw [<-hx] at M;have a0:x∈l:=by rw [hx];exact DZ _
   have G:=zh (AW p O);rw [<-hx] at G;clear hx;have d:=zh (HP.out x a0 wr V.out);by_cases E:p x=true
   ·go_wp2_with fail
    refine d.out.mono ?_;rintro e w1 ⟨rfl,D⟩;rw [E];have I:=zh (V.out.trans D);clear D;have J:=zh E;clear E
    go_wp2_with fail
    go_ret;refine ⟨_,rfl,⟨fun _=>?_,fun _=>by omega⟩,by omega,I.out⟩;rw [EZ];exact ⟨x,a0,J.out⟩
   ·have U:p x=false:=by simpa using E
    clear E
    go_wp2_with fail
    refine d.out.mono ?_;rintro e w1 ⟨rfl,D⟩;rw [U];have I:=zh (V.out.trans D);clear D;have J:=zh U;clear U
    go_wp2_with fail
    go_roundw
    case rel=>exact ⟨k+1,by omega,by go_num,by
     show _=false;rw [G.out,hn.out,J.out];rfl,I⟩
    case measure=>simp [intOf];omega
  ·obtain rfl:k=l.length:=by omega
   go_wp2;go_ret;have h:=hn.out;rw [Ej] at h;refine ⟨_,rfl,⟨fun h'=>by omega,fun h'=>?_⟩,by omega,V.out⟩;rw [h] at h'
   cases h'
theorem indexFuncB_calls {v:Value} {l:List (List Bool)} (n:FuncId) (caps:Array Value) (p:List Bool->Bool) (w:World) (h:Each (Be w ok) w ok v l) (hl:l.length<=20000000000000)
  (a9:∀(a:Array Value) (w:World),(callFunc n a).run Tryz.prog w=.ok (.enter n a) w)
  (hp:∀x∈l,∀u,Be w ok u x->∀w1,z8 w w1->Calls Tryz.prog n (#[u]++caps) w1 fun e w'=>e=.returned (.bool (p x))/\z8 w1 w'):
  Calls Tryz.prog 181 #[v,.func (.func n) #[] caps] w fun e w'=>∃r:Int,e=.returned (.int .i64 r)/\(0<=r↔l.any p=true)/\-1<=r/\z8 w w':=by
 obtain ⟨vs,⟨A,c,rfl,hc,hr⟩,he⟩:=h;have HR:=zh hr;clear hr;have HE:=zh he;clear he;have HP:=zh hp;clear hp
 go_enter Tryz.func181,Tryz.ntmps181
 go_wp2_with fail
 go_loopw [8] (fun i wr=>∃k:Nat,k<=l.length/\i=.int .i64 k/\Hid ((l.take k).any p=false)/\Hid (z8 w wr)) (fun i _=>l.length - (intOf i).toNat)
 case atStart=>exact ⟨0,Em _,rfl,by simp [Hid],z8.refl _⟩
 case round=>
  obtain ⟨k,hk,rfl,hn,U⟩:=hrel;by_cases M:k<l.length
  ·obtain ⟨b,off,u,rfl,_,a2,hu⟩:=AX (HR.out.keep (U.out.same ok)) HE.out M M;obtain ⟨x,hx⟩:=Fd (l[k]);rw [<-hx] at hu;have V:x∈l:=by rw [hx];exact DZ _
   have G:=zh (AW p M);rw [<-hx] at G;clear hx;have d:=zh (HP.out x V u hu wr U.out);clear hu;by_cases E:p x=true
   ·go_wp2_with fail
    refine d.out.mono ?_;rintro e w1 ⟨rfl,D⟩;rw [E];have I:=zh (U.out.trans D);clear D;have J:=zh E;clear E
    go_wp2_with fail
    go_ret;refine ⟨_,rfl,⟨fun _=>?_,fun _=>by omega⟩,by omega,I.out⟩;rw [EZ];exact ⟨x,V,J.out⟩
   ·have O:p x=false:=by simpa using E
    clear E
    go_wp2_with fail
    refine d.out.mono ?_;rintro e w1 ⟨rfl,D⟩;rw [O];have I:=zh (U.out.trans D);clear D;have J:=zh O;clear O
    go_wp2_with fail
    go_roundw
    case rel=>exact ⟨k+1,by omega,by go_num,by
     show _=false;rw [G.out,hn.out,J.out];rfl,I⟩
    case measure=>simp [intOf];omega
  ·obtain rfl:k=l.length:=by omega
   go_wp2;go_ret;have h:=hn.out;rw [Ej] at h;refine ⟨_,rfl,⟨fun h'=>by omega,fun h'=>?_⟩,by omega,U.out⟩;rw [h] at h'
   cases h'
theorem BH {v:Value} {l:List (Int)} (n:FuncId) (caps:Array Value) (p:Int->Bool) (w:World) (h:zk w ok v l) (J:l.length<=20000000000000) (D:∀(a:Array Value) (w:World),(callFunc n a).run Tryz.prog w=.ok (.enter n a) w)
  (hp:∀x∈l,∀w1,z8 w w1->Calls Tryz.prog n (#[.int .i64 x]++caps) w1 fun e w'=>e=.returned (.bool (p x))/\z8 w1 w'):
  Calls Tryz.prog 128 #[v,.func (.func n) #[] caps] w fun e w'=>e=.returned (.bool (l.any p))/\z8 w w':=by
 have H:=zh (Dn n caps p w h J D hp);clear hp;obtain ⟨A,c,rfl,O,d⟩:=h;clear d
 go_enter Tryz.func128,Tryz.ntmps128
 go_wp2_with fail
 refine H.out.mono ?_;rintro e w1 ⟨r,rfl,d,M,E⟩;have I:=zh d;clear d;have G:=zh E;clear E
 go_wp2_with fail
 go_ret;refine ⟨zo ?_,G.out⟩;rw [Bool.eq_iff_iff,decide_eq_true_iff];exact I.out
theorem DT {v:Value} {l:List (List Bool)} (n:FuncId) (caps:Array Value) (p:List Bool->Bool) (w:World) (h:Each (Be w ok) w ok v l) (J:l.length<=20000000000000) (D:∀(a:Array Value) (w:World),(callFunc n a).run Tryz.prog w=.ok (.enter n a) w)
  (hp:∀x∈l,∀u,Be w ok u x->∀w1,z8 w w1->Calls Tryz.prog n (#[u]++caps) w1 fun e w'=>e=.returned (.bool (p x))/\z8 w1 w'):
  Calls Tryz.prog 125 #[v,.func (.func n) #[] caps] w fun e w'=>e=.returned (.bool (l.any p))/\z8 w w':=by
 have H:=zh (indexFuncB_calls n caps p w h J D hp);clear hp;obtain ⟨vs,⟨A,c,rfl,O,d⟩,he⟩:=h;clear d he
 go_enter Tryz.func125,Tryz.ntmps125
 go_wp2_with fail
 refine H.out.mono ?_;rintro e w1 ⟨r,rfl,d,M,E⟩;have I:=zh d;clear d;have G:=zh E;clear E
 go_wp2_with fail
 go_ret;refine ⟨zo ?_,G.out⟩;rw [Bool.eq_iff_iff,decide_eq_true_iff];exact I.out
def zP (n x:Int):Bool:=decide (x<0) || decide (n<=x)
def side (x:Int):Bool:=decide (x<1) || decide (300<x)
def BM (m:MZ):Int:=
 if [m.w,m.h,m.l].any side then 2
 else if 300<m.n\/6<m.tasks.length then 2
 else if m.free.length≠m.tasks.length\/(m.up.length:Int)≠m.n\/m.free.any (fun f=>(f.length:Int) != m.n)=true then 1
 else if m.tasks.any (fun t=>t.1.any (zP m.n) || t.2.any (zP m.n)) then 50
 else 0
theorem cf51 (a:Array Value) (w:World):(callFunc 126 a).run Tryz.prog w=.ok (.enter 126 a) w:=Cb Tryz.func126 (by kernel_rfl) (by kernel_rfl) a w
theorem cf52 (a:Array Value) (w:World):(callFunc 127 a).run Tryz.prog w=.ok (.enter 127 a) w:=Cb Tryz.func127 (by kernel_rfl) (by kernel_rfl) a w
theorem check1_calls {u:Value} {f:List Bool} (g:Nat) (n:Int) (w:World) (E:Be w ok u f) (G:w.cell? ⟨g,0,none⟩=some (.int .i64 n)):
  Calls Tryz.prog 126 #[u,.pointer (some ⟨g,0,none⟩)] w fun e w'=>e=.returned (.bool ((f.length:Int) != n))/\z8 w w':=by
 obtain ⟨A,c,rfl,d,D⟩:=E;clear D
 go_enter Tryz.func126,Tryz.ntmps126
 go_wp2;go_ret;exact ⟨rfl,z8.refl _⟩
theorem check2_calls (g:Nat) (n x:Int) (w:World) (D:w.cell? ⟨g,0,none⟩=some (.int .i64 n)):
  Calls Tryz.prog 127 #[.int .i64 x,.pointer (some ⟨g,0,none⟩)] w fun e w'=>e=.returned (.bool (zP n x))/\z8 w w':=by
 by_cases d:x<0
 ·go_enter Tryz.func127,Tryz.ntmps127
  go_wp2;go_ret;exact ⟨zo (by simp [zP,d]),z8.refl _⟩
 ·go_enter Tryz.func127,Tryz.ntmps127
  go_wp2;go_ret;refine ⟨zo ?_,z8.refl _⟩;simp [zP];omega
structure Lens (m:MZ):Prop where
 fr:m.free.length<=20000000000000
 up:m.up.length<=20000000000000
 ts:m.tasks.length<=20000000000000
 tl:∀t∈m.tasks,t.1.length<=400000000000/\t.2.length<=400000000000
theorem three_cells {w:World} {g:Nat} {t:TypeId} {a b c:Int} (h:zl w g t #[.int .i64 a,.int .i64 b,.int .i64 c]) (k:Nat) (d:k<3):w.cell? ⟨g,k,none⟩=some (.int .i64 ([a,b,c][k])):=by
 unfold zl at h;unfold World.cell?;simp only [h]
 match k,d with
 | 0,_=>rfl
 | 1,_=>rfl
 | 2,_=>rfl
theorem Ce {w:World} {c:Nat} {l:List (List Int×List Int)} (h:BR w ok (.slice A n c) l) (E:k<l.length):
  ∃b off s u1 u2,A=some ⟨b,off,none⟩/\ok b/\w.cell? ⟨b,off+k*3,none⟩=some (.string s)/\w.cell? ⟨b,off+k*3+1,none⟩=some u1/\w.cell? ⟨b,off+k*3+2,none⟩=some u2/\zk w ok u1 l[k].1/\zk w ok u2 l[k].2:=by
 obtain ⟨vs,⟨A',c',G,_,I,d⟩,he⟩:=h;injection G with e1 e2 e3;subst e1;obtain ⟨b,off,rfl,D,d⟩:=d (by omega);obtain ⟨s,u1,u2,h0,h1,h2,i1,i2⟩:=he k _ (DW E);exact ⟨b,off,s,u1,u2,rfl,D,d _ _ h0,by rw [Nat.add_assoc];exact d _ _ h1,by rw [Nat.add_assoc];exact d _ _ h2,i1,i2⟩
structure CI (w wr:World) (cells:Array Value) (ints:Array Value):Prop where
 below:Below w.heap.size w wr
 box:zl wr w.heap.size 32 cells
 ints:zl wr (w.heap.size+1) 3 ints
theorem CI.call {w wr w':World} (h:CI w wr c i) (d:Below wr.heap.size wr w'):CI w w' c i:=
 ⟨AZ h.below d (DY _),h.box.below d (zc h.box),h.ints.below d (zc h.ints)⟩
theorem CI.new (w:World) (c i:Array Value):CI w ((w.alloc (.cells c 32)).alloc (.cells i 3)) c i:=
 ⟨((Below.refl _ _).alloc (DY _) _).alloc (by simp) _,zl.alloc (EL w _) _,by
  have:=EL (w.alloc (.cells c 32)) (.cells i 3);simpa [zl] using this⟩
theorem chk_side (h:[m.w,m.h,m.l].any side=true):BM m=2:=by
 unfold BM;rw [if_pos h]
structure CJ (w wr:World) (cells:Array Value) (g:Nat) (n:Int):Prop where
 below:Below w.heap.size w wr
 box:zl wr w.heap.size 32 cells
 all:wr.cell? ⟨g,0,none⟩=some (.int .i64 n)
theorem CJ.call {w wr w':World} {g:Nat} {n:Int} (h:CJ w wr c g n) (d:Below wr.heap.size wr w'):CJ w w' c g n:=
 ⟨AZ h.below d (DY _),h.box.below d (zc h.box),(cell_same (d.block g (zn h.all))).trans h.all⟩
theorem CJ.new {w w':World} (h:CI w w' c i) (n:Int):CJ w (w'.alloc (.cells #[.int .i64 n] 3)) c w'.heap.size n:=
 ⟨h.below.alloc (Nat.le_of_lt (zc h.box)) _,h.box.alloc _,by
  have:=EL w' (.cells #[.int .i64 n] 3);unfold World.cell?;simp only [this];rfl⟩
theorem CJ.alloc {w wr:World} {c:Array Value} {g:Nat} {n:Int} (h:CJ w wr c g n) (o:Obj):CJ w (wr.alloc o) c g n:=
 ⟨h.below.alloc (Nat.le_of_lt (zc h.box)) _,h.box.alloc _,(cell_same (Er wr o g (zn h.all))).trans h.all⟩
theorem cells3 {w:World} {g:Nat} {t:TypeId} {a0 a1 a2:Value} (h:zl w g t #[a0,a1,a2]):
  w.cell? ⟨g,0,none⟩=some a0/\w.cell? ⟨g,1,none⟩=some a1/\w.cell? ⟨g,2,none⟩=some a2:=by
 unfold zl at h;unfold World.cell?;simp only [h];exact ⟨rfl,rfl,rfl⟩
theorem sides (h:[m.w,m.h,m.l].any side=false):(1<=m.w/\m.w<=300)/\(1<=m.h/\m.h<=300)/\(1<=m.l/\m.l<=300):=by
 simp [side] at h;omega
theorem sides_mul (h:[m.w,m.h,m.l].any side=false):(1<=m.w*m.h/\m.w*m.h<=90000)/\(1<=m.w*m.h*m.l/\m.w*m.h*m.l<=27000000):=by
 obtain ⟨⟨a1,a2⟩,⟨b1,b2⟩,c1,c2⟩:=sides h;have h1:1<=m.w*m.h:=by have:=Int.mul_pos (a:=m.w) (b:=m.h) (by omega) (by omega);omega
 have h2:m.w*m.h<=300*300:=Int.mul_le_mul a2 b2 (by omega) (by omega);have h3:1<=m.w*m.h*m.l:=by have:=Int.mul_pos (a:=m.w*m.h) (b:=m.l) (by omega) (by omega);omega
 have d:m.w*m.h*m.l<=300*300*300:=Int.mul_le_mul h2 c2 (by omega) (by omega);omega
theorem De {v:Value} (w:World) (hm:zY w ok v m) (hl:Lens m):
  Calls Tryz.prog 62 #[v] w fun e w'=>e=.returned (.int .i64 (BM m))/\Below w.heap.size w w':=by
 have f2:=hm;obtain ⟨vfr,vup,vts,rfl,e9,f8,f6⟩:=hm;obtain ⟨vsf,⟨Af,cf,rfl,e7,c9⟩,c7⟩:=e9;obtain ⟨Au,cu,rfl,g6,f5⟩:=f8;obtain ⟨vst,⟨At,ct,rfl,e8,d4⟩,c8⟩:=f6;obtain ⟨l1,l2,l3,l4⟩:=hl;have e1:=zh c9;clear c9;have d8:=zh c7;clear c7;have e2:=zh d4;clear d4;have d9:=zh c8;clear c8;have e0:=zh l4;clear l4;clear f5 f2
 go_enter Tryz.func62,Tryz.ntmps62
 go_wp2;have b8:=CI.new w #[.int .i64 m.w,.int .i64 m.h,.int .i64 m.l,.slice Af m.free.length cf,.slice Au m.up.length cu,.slice At m.tasks.length ct] #[.int .i64 m.w,.int .i64 m.h,.int .i64 m.l];go_loopw [17] (fun i wr=>∃k:Nat,k<=3/\i=.int .i64 k/\Hid (([m.w,m.h,m.l].take k).any side=false)/\Hid (CI w wr #[.int .i64 m.w,.int .i64 m.h,.int .i64 m.l,.slice Af m.free.length cf,.slice Au m.up.length cu,.slice At m.tasks.length ct] #[.int .i64 m.w,.int .i64 m.h,.int .i64 m.l])) (fun i _=>3 - (intOf i).toNat)
 case atStart=>exact ⟨0,by omega,rfl,by simp [Hid],b8⟩
 clear b8
 case round=>
  obtain ⟨k,hk,rfl,O,hI⟩:=hrel;by_cases M:k<3
  ·obtain ⟨x,hx⟩:=Fd ([m.w,m.h,m.l][k]'M);have a8:=three_cells hI.out.ints k M;rw [<-hx] at a8;have D:=zh (AW (l:=[m.w,m.h,m.l]) side M);rw [<-hx] at D;have HX:=zh (show x∈[m.w,m.h,m.l] by rw [hx];exact DZ _);clear hx;by_cases h1:x<1
   ·go_wp2;go_ret;refine ⟨AF ?_,hI.out.below⟩;rw [chk_side];exact EZ.2 ⟨x,HX.out,by simp [side,h1]⟩
   ·by_cases h2:300<x
    ·go_wp2;go_ret;refine ⟨AF ?_,hI.out.below⟩;rw [chk_side];exact EZ.2 ⟨x,HX.out,by simp [side,h2]⟩
    ·have HS:=zh (show side x=false by simp [side,h1,h2]);go_wp2;go_roundw
     case rel=>exact ⟨k+1,by omega,by go_num,by
      show _=false;rw [D.out,O.out,HS.out];rfl,hI⟩
     case measure=>simp [intOf];omega
  ·obtain rfl:k=3:=by omega
   have HN:Hid ([m.w,m.h,m.l].any side=false):=O.out;clear O;obtain ⟨m0,m1,m2,m3,m4,m5⟩:=zt hI.out.box;obtain ⟨⟨p1,p2⟩,p3,p4⟩:=sides_mul HN.out
   have V:300<m.n\/6<m.tasks.length->BM m=2:=by
    intro h;unfold BM;rw [if_neg (by rw [HN.out];simp),if_pos h]
   have b5:=zh V;clear V
   go_wp2_with fail
   refine (Bk _ _ _ _ _ _ _ (by omega) (by omega)).mono ?_;rintro e w' ⟨rfl,hb⟩;have d:=zh (hI.out.call hb);clear hI m0 m1 m2 m3 m4 m5 hb;have e3:∀o,_:=fun o=>zt (d.out.box.alloc o)
   by_cases O:300<m.w*m.h*m.l
   ·go_wp2;go_ret;exact ⟨AF (b5.out (.inl O)).symm,d.out.below.alloc (Nat.le_of_lt (zc d.out.box)) _⟩
   by_cases ht:6<m.tasks.length
   ·go_wp2;go_ret;exact ⟨AF (b5.out (.inr ht)).symm,d.out.below.alloc (Nat.le_of_lt (zc d.out.box)) _⟩
   have U:(m.free.length≠m.tasks.length\/(m.up.length:Int)≠m.n\/m.free.any (fun f=>(f.length:Int) != m.n)=true)->BM m=1:=by
    intro h;unfold BM;rw [if_neg (by rw [HN.out];simp),if_neg (by unfold MZ.n;omega),if_pos h]
   have a4:=zh U;clear U;by_cases hf:m.free.length=m.tasks.length
   case neg=>
    go_wp2;go_ret;exact ⟨AF (a4.out (.inl hf)).symm,d.out.below.alloc (Nat.le_of_lt (zc d.out.box)) _⟩
   by_cases hu:(m.up.length:Int)=m.w*m.h*m.l
   case neg=>
    go_wp2;go_ret;exact ⟨AF (a4.out (.inr (.inl hu))).symm,d.out.below.alloc (Nat.le_of_lt (zc d.out.box)) _⟩
   have a0:=zh (CJ.new d.out (m.w*m.h*m.l));have g7:w.heap.size<w'.heap.size:=zc d.out.box;clear d
   have b7:Bw w ok (.slice Af m.tasks.length cf) m.free:=by
    rw [<-hf];exact ⟨vsf,⟨Af,cf,rfl,e7,e1.out⟩,d8.out⟩
   go_wp2_with fail
   refine (DT (ok:=ok) 126 _ (fun f=>(f.length:Int) != m.w*m.h*m.l) _ (b7.below a0.out.below) l1 cf51 ?hp).mono ?_
   case hp=>exact fun x hx u hu w1 G=>check1_calls w'.heap.size _ w1 (hu.keep (G.same ok)) (a0.out.call (G.below _)).all
   rintro e w1 ⟨rfl,G⟩;have E:=zh (a0.out.call (G.below _));clear a0 G e3;by_cases ha:m.free.any (fun f=>(f.length:Int) != m.w*m.h*m.l)=true
   ·rw [ha];go_wp2;go_ret;exact ⟨AF (a4.out (.inr (.inr ha))).symm,E.out.below⟩
   have a7:=zh (show m.free.any (fun f=>(f.length:Int) != m.w*m.h*m.l)=false by simpa using ha);clear ha;rw [a7.out];obtain ⟨m0,m1,m2,m3,m4,m5⟩:=zt E.out.box;have a6:BR w ok (.slice At m.tasks.length ct) m.tasks:=⟨vst,⟨At,ct,rfl,e8,e2.out⟩,d9.out⟩
   go_wp2_with fail
   go_loopw [62] (fun i wr=>∃k:Nat,k<=m.tasks.length/\i=.int .i64 k/\Hid ((m.tasks.take k).any (fun t=>t.1.any (zP m.n) || t.2.any (zP m.n))=false)/\Hid (CJ w wr #[.int .i64 m.w,.int .i64 m.h,.int .i64 m.l,.slice Af m.free.length cf,.slice Au m.up.length cu,.slice At m.tasks.length ct] w'.heap.size (m.w*m.h*m.l))) (fun i _=>m.tasks.length - (intOf i).toNat)
   case atStart=>exact ⟨0,by omega,rfl,by simp [Hid],E⟩
   clear E m0 m1 m2 m3 m4 m5 b7
   case round=>
    obtain ⟨k,hk,rfl,O,hI⟩:=hrel;by_cases M:k<m.tasks.length
    ·obtain ⟨b,off,sn,u1,u2,rfl,_,g5,e5,e6,a9,b0⟩:=Ce (a6.below hI.out.below) M;obtain ⟨A1,c1,rfl,c0,f3⟩:=a9.open;obtain ⟨A2,c2,rfl,c6,f4⟩:=b0.open;obtain ⟨f0,f1⟩:=e0.out _ (DZ M);clear f3 f4;have b2:=zh a9;clear a9;have b3:=zh b0;clear b0;have g4:=zh a6;clear a6;obtain ⟨t,ht⟩:=Fd (m.tasks[k]);rw [<-ht] at b2 b3 e5 e6 c0 c6 f0 f1;have D:=zh (AW (fun t=>t.1.any (zP m.n) || t.2.any (zP m.n)) M);rw [<-ht] at D;have HM:=zh (show t∈m.tasks by rw [ht];exact DZ _);clear ht;have E:=zh (hI.out.alloc (.cells #[.string sn,.slice A1 t.1.length c1,.slice A2 t.2.length c2] 87));have a5:=zh (EL wr (.cells #[.string sn,.slice A1 t.1.length c1,.slice A2 t.2.length c2] 87))
     have a3:(t.1.any (zP m.n) || t.2.any (zP m.n))=true->BM m=50:=by
      intro h;unfold BM;rw [if_neg (by rw [HN.out];simp),if_neg (by unfold MZ.n;omega),if_neg (by unfold MZ.n;rw [a7.out];simp;omega),if_pos (EZ.2 ⟨t,HM.out,h⟩)]
     have a2:=zh a3;clear a3
     go_wp2_with fail
     refine (BH (ok:=ok) 127 _ (zP (m.w*m.h*m.l)) _ (b2.out.below ((Below.refl _ _).alloc (DY _) _)) (by omega) cf52 ?hp).mono ?_
     case hp=>exact fun x hx w1 G=>check2_calls w'.heap.size _ x w1 (E.out.call (G.below _)).all
     rintro e w4 ⟨rfl,G⟩;have a1:=zh (E.out.call (G.below _));have b6:Hid (zl w4 wr.heap.size 87 _):=zl.below a5.out (G.below _) (zc a5.out);have e4:Hid (Below wr.heap.size wr w4):=((Below.refl _ _).alloc (DY _) _).trans (G.below _);clear G E a5;obtain ⟨q0,q1,q2⟩:=cells3 b6.out;by_cases I:t.1.any (zP (m.w*m.h*m.l))=true
     ·rw [I];go_wp2;go_ret;exact ⟨AF (a2.out (by show (t.1.any (zP (m.w*m.h*m.l)) || _)=true;rw [I];rfl)).symm,a1.out.below⟩
     ·have I:t.1.any (zP (m.w*m.h*m.l))=false:=by simpa using I
      rw [I];have d6:=zh I;clear I
      go_wp2_with fail
      refine (BH (ok:=ok) 127 _ (zP (m.w*m.h*m.l)) _ (b3.out.below e4.out) (by omega) cf52 ?hp).mono ?_
      case hp=>exact fun x hx w1 G=>check2_calls w'.heap.size _ x w1 (a1.out.call (G.below _)).all
      rintro e w5 ⟨rfl,G⟩;have b9:=zh (a1.out.call (G.below _));clear G a1 b6 q0 q1 q2;by_cases J:t.2.any (zP (m.w*m.h*m.l))=true
      ·rw [J];go_wp2;go_ret;exact ⟨AF (a2.out (by show (_ || t.2.any (zP (m.w*m.h*m.l)))=true;rw [J];simp)).symm,b9.out.below⟩
      ·have J:t.2.any (zP (m.w*m.h*m.l))=false:=by simpa using J
       rw [J];have d7:=zh J;clear J
       go_wp2_with fail
       go_roundw
       case rel=>exact ⟨k+1,by omega,by go_num,by
        show _=false;rw [D.out,O.out];show (_ || (t.1.any (zP (m.w*m.h*m.l)) || t.2.any (zP (m.w*m.h*m.l))))=false;rw [d6.out,d7.out];rfl,b9⟩
       case measure=>simp [intOf];omega
    ·obtain rfl:k=m.tasks.length:=by omega
     go_wp2;go_ret;refine ⟨AF ?_,hI.out.below⟩;have O:=O.out;rw [Ej] at O;unfold BM;rw [if_neg (by rw [HN.out];simp),if_neg (by unfold MZ.n;omega),if_neg (by unfold MZ.n;rw [a7.out];simp;omega),if_neg (by rw [O];simp)]
theorem setCells_nil (w:World) (b off:Nat):w.setCells b off []=w:=by
 unfold World.setCells;rfl
theorem DQ (w:World) (base:Nat) (t ty e:TypeId) (i:TypeInfo) (z:Value) (bytes:Nat) (ht:Tryz.prog.underlying t=some (.slice e)) (U:Tryz.prog.info? e=some i) (hz:i.zero=some z)
  (d:i.size=1) (M:i.bytes=bytes) (O:z.cells.size=1)
  (v:Value) (n:Nat) (xs:List Value) (G:w.ownsRow base e 1 v n xs) (u:Value) (m:Nat) (news:List Value) (hu:Bv w ok 1 u m news) (h1:∀u∈news,u.oneCell'=true)
  (J:n+m<=maxLen) (D:(n+m)*bytes<=140737488355328) (I:base<=w.heap.size):
  ∃v' w',(Builtin.append_ #[t,t] ty #[v,u]).run Tryz.prog w=.ok v' w'/\w'.ownsRow base e 1 v' (n+m) (xs++news)/\w.grownBy w' v.ownBlock/\(v'.ownBlock=v.ownBlock\/v'.ownBlock=some w.heap.size):=by
 obtain ⟨A,c,rfl,hc,hl,E⟩:=hu;rcases A with _ | a
 ·have hm:m=0:=by
   rcases EJ m with h | h
   ·exact h
   ·obtain ⟨b,off,e,_⟩:=E h;cases e
  subst hm;have hn:news=[]:=Ep (by simpa using hl);subst hn;refine ⟨v,w,?_,by simpa using G,⟨rfl,rfl,rfl,DY _,fun _ _ _=>rfl⟩,.inl rfl⟩;rcases G.2 with ⟨rfl,rfl⟩ | ⟨g,cap,cur,rfl,a6,hg,b0,a7,a8,a3⟩
  ·simp [Builtin.append_,run_underlying ht,sizeOf,typeInfo,U,d,Builtin.lenOf,Builtin.firstCells,loadCells,loadCellsFrom]
  ·have h:=run_append_room_src (P:=Tryz.prog) w t t ty e i ht U g 0 n cap (.slice none 0 c) 0 [] (by rw [d];exact Src.ofNil w ht c) (by omega) (by simp) (by simp);rw [setCells_nil] at h;simpa using h
 ·rcases EJ m with h0 | hpos
  ·subst h0;have hn:news=[]:=Ep (by simpa using hl);subst hn;obtain ⟨v',w',h1,h2,h3,h4,V⟩:=run_append_own_at (P:=Tryz.prog) w base t ty e i z 1 bytes ht U hz d M O (by decide) v n xs G a 0 c [] (by simp) (by simp) (by simp) J D I;exact ⟨v',w',h1,h2,h3,V⟩
  ·obtain ⟨b,off,he,_,a0⟩:=E hpos;injection he with he;subst he;obtain ⟨v',w',h1,h2,h3,h4,V⟩:=run_append_own_at (P:=Tryz.prog) w base t ty e i z 1 bytes ht U hz d M O (by decide) v n xs G ⟨b,off,none⟩ m c news (by simpa using hl) (fun j u hj=>by rw [Addr.add_lit];exact a0 j u hj) h1 J D I;exact ⟨v',w',h1,h2,h3,V⟩
theorem Ch {a:Act} (W:World) (s x:Operand)
  (U:o.op=.call { callee:=.builtin .append,args:=#[s,x],argTypes:=#[23,23] }) (base:Nat) (l l2:List Int) (v u:Value) (hs:a.eval s=v) (hx:a.eval x=u)
  (D:zL W base v l) (E:zk W ok u l2) (d:base<=W.heap.size) (hl:l.length+l2.length<=1000000000000)
  (h:∀v' w',zL w' base v' (l++l2)->Hid (W.grownBy w' v.ownBlock)->Hid (v'.ownBlock=v.ownBlock\/v'.ownBlock=some W.heap.size)->K (a.put o.dst v') w'):Oper.wp Tryz.prog o a W K Q:=by
 obtain ⟨i0,O,G,I,J⟩:=info_parts Tryz.infoInt
 obtain ⟨v',w',V,h2,h3,M⟩:=DQ (ok:=ok) W base 23 o.type 3 i0 (.int .i64 0) 8 Tryz.underlying23 O G I J rfl v _ _ D u _ _ E (by
  intro u E;obtain ⟨_,_,rfl⟩:=List.mem_map.1 E;rfl) (by unfold maxLen;omega) (by omega) d
 unfold Oper.wp execOp;simp only [U,resolve,invoke,builtin,Sem.run_bind,Sem.run_pure,Result.andThen_ok,List.map_toArray,List.map_cons,List.map_nil,hs,hx,V];refine h v' w' ?_ h3 M;unfold zL;rw [EP,Eg];exact h2
theorem AM {a:Act} {E:Prop} (G:o.guard=none) (W:World) (s x:Operand)
  (J:o.op=.call { callee:=.builtin .append,args:=#[s,x],argTypes:=#[23,23] }) (base:Nat) (l l2:List Int) (v u:Value) (M:a.eval s=v) (V:a.eval x=u)
  (D:zL W base v l) (O:zk W ok u l2) (d:base<=W.heap.size) (I:l.length+l2.length<=1000000000000)
  (h:∀v' w',zL w' base v' (l++l2)->Hid (W.grownBy w' v.ownBlock)->Hid (v'.ownBlock=v.ownBlock\/v'.ownBlock=some W.heap.size)->K (a.put o.dst v') w'):
  if Region.wanted o (yielded ops a.tmps)=true then Oper.wp Tryz.prog o a W K Q else E:=by
 have U:Region.wanted o (yielded ops a.tmps)=true:=by simp [Region.wanted,G]
 rw [if_pos U];exact Ch W s x J base l l2 v u M V D O d I h
theorem Dd {a:Act} (E:o.guard=none) (W:World) (s x:Operand)
  (J:o.op=.call { callee:=.builtin .append,args:=#[s,x],argTypes:=#[23,23] }) (base:Nat) (l l2:List Int) (v u:Value) (M:a.eval s=v) (U:a.eval x=u)
  (D:zL W base v l) (O:zk W ok u l2) (d:base<=W.heap.size) (I:l.length+l2.length<=1000000000000)
  (h:∀v' w',zL w' base v' (l++l2)->Hid (W.grownBy w' v.ownBlock)->Hid (v'.ownBlock=v.ownBlock\/v'.ownBlock=some W.heap.size)->wpList Tryz.prog ops Q rest (a.put o.dst v') w'):wpList Tryz.prog ops Q (o :: rest) a W:=by
 refine wpList_plain E fun K G=>?_
 exact Ch W s x J base l l2 v u M U D O d I fun v' w' h1 h2 h3=>G _ _ (h v' w' h1 h2 h3)
theorem AO {v:Value} (h:zL W B v l) (d:v.ownBlock=some k):B<=k:=by
 rcases h.2 with ⟨rfl,_⟩ | ⟨g,cap,cur,rfl,D,_⟩
 ·cases d
 ·have d:some g=some k:=d;injection d with d;omega
theorem BX (W:World) (B:Nat) (d:B<=W.heap.size):zL (W.alloc (.cells #[] 3)) B (.slice (some ⟨W.heap.size,0,none⟩) 0 0) []:=
 ⟨rfl,.inr ⟨W.heap.size,0,#[],rfl,d,EL W _,DY _,by decide,rfl,rfl⟩⟩
theorem Ao {w':World} {v:Value} (h:Below B a W) (D:Hid (W.grownBy w' v.ownBlock)) (d:B<=W.heap.size) (E:∀k,v.ownBlock=some k->B<=k):Below B a w':=h.grown D.out d E
def za (w w':World):Prop:=Below w.heap.size w w'
theorem za.refl (w:World):za w w:=Below.refl _ _
theorem za.trans {c:World} (h:za a b) (d:za b c):za a c:=AZ h d (DY _)
theorem za.alloc {a b:World} (h:za a b) (o:Obj):za a (b.alloc o):=Below.alloc h h.size o
theorem za.drew {a b:World} (h:za a b):za a b.drew:=Below.drew h
theorem za.drewN {a b:World} (h:za a b) (n:Nat):za a (b.drewN n):=Cx h n
theorem za.cell {w W:World} {p:Addr} {v:Value} (h:w.cell? p=some v) (hW:za w W):W.cell? p=some v:=(Below.cell hW (zn h)).trans h
theorem za.rule {w:World} {p:Addr} {v:Value} (h:w.cell? p=some v):∀W,za w W->W.cell? p=some v:=fun _ hW=>hW.cell h
theorem za.lt {w:World} (h:za w W) {g:Nat} (d:g<w.heap.size):g<W.heap.size:=EA d h.size
theorem ext_allocs (w:World):∀W o,za w W->za w (W.alloc o):=fun _ o h=>h.alloc o
structure Mk (w1 w:World) (v:Value) (l:List Int):Prop where
 own:zL w w1.heap.size v l
 ext:za w1 w
theorem Mk.nil (w1:World):Mk w1 w1 (.slice none 0 0) []:=⟨World.ownsRow_nil _ _ _ _,za.refl _⟩
theorem Mk.nil' {w:World} (h:za w1 w):Mk w1 w (.slice none 0 0) []:=⟨World.ownsRow_nil _ _ _ _,h⟩
theorem Mk.app {w w':World} {v:Value} (h:Mk w1 w v l) (E:zL w' w1.heap.size v' l') (d:Hid (w.grownBy w' v.ownBlock)):Mk w1 w' v' l':=
 ⟨E,Ao h.ext d h.ext.size (fun k D=>AO h.own D)⟩
theorem Mk.more {w w':World} {v:Value} (h:Mk w1 w v l) (d:za w w'):Mk w1 w' v l:=
 ⟨h.own.kept (row:=none) ⟨d.os,d.tape,d.output,d.size,fun i D _=>d.block i D⟩ (by cases h:v.ownBlock <;> simp),h.ext.trans d⟩
theorem Mk.alloc {w1 w:World} {v:Value} {l:List Int} (h:Mk w1 w v l) (o:Obj):Mk w1 (w.alloc o) v l:=h.more ((za.refl _).alloc o)
theorem Mk.drew {w1 w:World} {v:Value} {l:List Int} (h:Mk w1 w v l):Mk w1 w.drew v l:=⟨h.own,h.ext.drew⟩
theorem Mk.drewN {w1 w:World} {v:Value} {l:List Int} (h:Mk w1 w v l) (n:Nat):Mk w1 (w.drewN n) v l:=⟨h.own,h.ext.drewN n⟩
theorem Mk.cast {w:World} {v:Value} (h:Mk w1 w v l) (e:l'=l):Mk w1 w v l':=e ▸ h
theorem Mk.ints {w:World} {v:Value} (h:Mk w1 w v l):zk w (fun b=>w1.heap.size<=b) v l:=Bv.of_own h.own
theorem Mk.slice {w1 w:World} {v:Value} {l:List Int} (h:Mk w1 w v l):∃A c,v=.slice A l.length c/\l.length<=c:=by
 obtain ⟨A,c,e,d,_⟩:=h.ints;exact ⟨A,c,e,d⟩
theorem za.mono_mk {w w':World} {v:Value} (h:za w w1) (hm:Mk w1 w' v l):Mk w w' v l:=⟨hm.own.mono h.size,h.trans hm.ext⟩
theorem held_ext (h:za w1 a/\za wk a) (d:Below a.heap.size a b):za w1 b/\za wk b:=⟨h.1.trans d,h.2.trans d⟩
theorem held_drew (h:za w1 wk):za w1 wk.drew/\za wk wk.drew:=⟨h.drew,(za.refl wk).drew⟩
theorem AL {w:World} {v:Value} (h:zL w B v l):∃A c,v=.slice A l.length c/\l.length<=c:=by
 obtain ⟨A,c,e,d,_⟩:=Bv.of_own h;exact ⟨A,c,e,d⟩
theorem own_at {w:World} {c:Nat} (h:zL w B (.slice A n c) l) (D:k<l.length):∃b,A=some ⟨b,0,none⟩/\B<=b/\w.cell? ⟨b,k,none⟩=some (.int .i64 l[k]):=by
 obtain ⟨g,cap,G,d,E⟩:=World.ownsRow.form h (by omega);injection G with h1 h2 h3;subst h1 h2 h3;refine ⟨g,rfl,d,?_⟩;rw [World.ownsRow.cellAt h k (by omega)];simp [D]
theorem zA (W:World) (v:Value) (t:TypeId) {g:Nat} (h:g=W.heap.size):(W.alloc (.cells #[v] t)).cell? ⟨g,0,none⟩=some v:=by
 subst h;unfold World.cell?;simp only [EL];rfl
end
section
open Go.RowKit Go.Shelf
def sStr_ren:Go.Shelf.Ren:=⟨fun | 169=>86 | n=>n,fun | 70=>132 | 9=>9 | 0=>0 | 72=>134 | 37=>76 | 127=>208 | 3=>3 | 5=>5 | n=>n,fun | n=>n⟩
theorem sStr:Go.Proofs.Lays.n169 Tryz.prog sStr_ren:=by
 constructor
 iterate 4 (all_goals first | kernel_rfl | (intro _;kernel_rfl) | exact ⟨_,by decide,by kernel_rfl⟩ | constructor)
def sItoa_ren:Go.Shelf.Ren:=⟨fun | 171=>107 | 243=>168 | 246=>216 | 283=>230 | 284=>231 | 285=>232 | 286=>233 | 129=>242 | 317=>241 | 318=>243 | 319=>244 | 320=>245 | 337=>259 | 338=>260 | n=>n,fun | 3=>3 | 9=>9 | 2=>2 | 4=>4 | 171=>256 | 0=>0 | 53=>252 | 37=>76 | 5=>5 | 173=>259 | 212=>267 | 51=>268 | 20=>20 | 213=>269 | 46=>226 | 232=>291 | 233=>292 | n=>n,fun | 17=>0 | 18=>1 | 19=>2 | n=>n⟩
theorem sItoa:Go.Proofs.LaysM.n171 Tryz.prog sItoa_ren:=by
 constructor
 iterate 4 (all_goals first | kernel_rfl | (intro _;kernel_rfl) | exact ⟨_,by decide,by kernel_rfl⟩ | constructor)
def sAtoi_ren:Go.Shelf.Ren:=⟨fun | 172=>235 | 244=>247 | 245=>248 | 247=>262 | 279=>263 | 280=>264 | 281=>265 | 282=>266 | 287=>277 | 316=>237 | 171=>107 | 205=>278 | 321=>282 | 322=>283 | 243=>168 | 246=>216 | 283=>230 | 284=>231 | 285=>232 | 286=>233 | 129=>242 | 317=>241 | 318=>243 | 319=>244 | 320=>245 | 337=>259 | 338=>260 | n=>n,fun | 9=>9 | 3=>3 | 75=>136 | 76=>137 | 4=>4 | 5=>5 | 167=>279 | 37=>76 | 0=>0 | 85=>280 | 2=>2 | 168=>282 | 53=>252 | 175=>294 | 46=>226 | 210=>297 | 127=>208 | 145=>308 | 143=>306 | 21=>21 | 171=>256 | 173=>259 | 212=>267 | 51=>268 | 20=>20 | 213=>269 | 232=>291 | 233=>292 | 80=>144 | n=>n,fun | 15=>4 | 16=>5 | 17=>0 | 18=>1 | 19=>2 | n=>n⟩
theorem sAtoi:Go.Proofs.LaysC.n172 Tryz.prog sAtoi_ren:=by
 constructor
 iterate 4 (all_goals first | kernel_rfl | (intro _;kernel_rfl) | exact ⟨_,by decide,by kernel_rfl⟩ | constructor)
def sIdx_ren:Go.Shelf.Ren:=⟨fun | 219=>261 | 217=>273 | 225=>274 | 224=>275 | 267=>276 | 266=>280 | 314=>281 | n=>n,fun | 9=>9 | 3=>3 | 4=>4 | 5=>5 | 46=>226 | 146=>302 | 51=>268 | n=>n,fun | 1=>3 | n=>n⟩
theorem sIdx:Go.Proofs.Lays.n219 Tryz.prog sIdx_ren:=by
 constructor
 iterate 4 (all_goals first | kernel_rfl | (intro _;kernel_rfl) | exact ⟨_,by decide,by kernel_rfl⟩ | constructor)
theorem sExt:Builder.Extra Tryz.prog sStr_ren:=by
 constructor
 iterate 4 (all_goals first | kernel_rfl | (intro _;kernel_rfl) | decide | constructor)
end
end Go.Proofs.YtjomnbdjajjgfaaGreatDoor
