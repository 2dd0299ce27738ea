import Derived.Test.YtfjjdmpndmbfoaaGreatDoorWJa
import Derived.Maps.AppendAt
import Derived.WalkSmall
import Derived.Deep.LoopGhost
import Derived.Deep.AppendSrc
import Derived.Deep.AppendLies
import Derived.Shelf.Strings.BuilderK
import Derived.Shelf.LaysM
import Derived.Shelf.Strconv.Itoa3
import Derived.Shelf.LaysC
import Derived.Shelf.Strconv.ErrVarAll
import Derived.Shelf.Strings.Search2
import Derived.Lib.UnsafeStr
import Derived.Lib.AppendStr
import Derived.Deep.OwnRows
import Derived.BigQuiet
import Derived.Deep.RegionHeld3
import Derived.Deep.DrawnRows
set_option linter.unusedVariables false
set_option linter.unusedSimpArgs false
set_option maxRecDepth 100000
set_option maxHeartbeats 16000000
namespace Go.Proofs.YtfjjdmpndmbfoaaGreatDoor
variable {ops:Array Oper} {c i:Array Value} {Q:Exit->Act->World->Prop} {x:Int} {from_ l l' used:List Int} {rest:List Oper} {m:MZ} {B j k n t:Nat} {ok:Nat->Prop} {o:Oper} {A:Option Addr} {v':Value} {W a w1:World}
section
open Go.RowKit
theorem Aa {w w':World} {g:Nat} (h:Below B a w) (G:w.grownBy w' (some g)) (D:B<=w.heap.size) (E:B<=g):Below B a w':=
 h.grown G D (fun k d=>by injection d with d;omega)
def zK (w:World) (B:Nat) (v:Value) (l:List Int):Prop:=w.ownsRow B 3 1 v l.length (l.map (Value.int .i64))
theorem wpAppAt {a:Act} (E:o.guard=none) (s y:Operand)
  (ho:o.op=.call { callee:=.builtin .append,args:=#[s,y],argTypes:=#[39,39] }) (W:World) (l:List Int) (x:Int) (B g c:Nat) (v:Value) (hs:a.eval s=v)
  (hy:a.eval y=.slice (some ⟨g,0,none⟩) 1 c) (d:W.ownsRow B 3 1 v l.length (l.map (Value.int .i64))) (U:W.cell? ⟨g,0,none⟩=some (.int .i64 x)) (O:B<=W.heap.size) (hl:l.length<=1000000000000)
  (h:∀v' w',zK w' B v' (l++[x])->Hid (W.grownBy w' v.ownBlock)->Hid (v'.ownBlock=v.ownBlock\/v'.ownBlock=some W.heap.size)->wpList Tryz.prog ops Q rest (a.put o.dst v') w'):wpList Tryz.prog ops Q (o :: rest) a W:=by
 obtain ⟨i0,V,G,I,J⟩:=info_parts Tryz.infoInt;refine wpList_append_own_at _ E _ _ 39 ho B 3 i0 (.int .i64 0) 1 8 Tryz.underlying39 V G I J rfl (by decide) _ _ _ hs d ⟨g,0,none⟩ 1 c [.int .i64 x] hy rfl ?_ ?_ ?_ ?_ O ?_
 ·intro j u D
  match j,D with
  | 0,D=>
   have:u=.int .i64 x:=by simpa using D.symm
   rw [this];exact U
 ·intro u D;have:u=.int .i64 x:=by simpa using D
  rw [this];rfl
 ·unfold maxLen;omega
 ·omega
 ·intro v' w' h1 K _ M;refine h v' w' ?_ K M;unfold zK;rw [map_snoc,Da];exact h1
structure RI (w wr:World) (g:Nat) (mv:Array Value) (s todo:List Int) (v:Value):Prop where
 below:Below w.heap.size w wr
 ge:w.heap.size<=g
 box:zj wr g 29 mv
 set:zy wr (g+1) s
 own:wr.ownsRow (g+2) 3 1 v todo.length (todo.map (Value.int .i64))
section
variable {w wr w':World} {g:Nat} {mv:Array Value} {s todo:List Int} {v:Value}
theorem RI.lt (h:RI w wr g mv s todo v):g+1<wr.heap.size:=za h.set
theorem RI.call (h:RI w wr g mv s todo v) (d:Below wr.heap.size wr w'):RI w w' g mv s todo v:=
 ⟨Bg h.below d (CS _),h.ge,h.box.below d (by have:=h.lt;omega),h.set.below d,
  h.own.kept (row:=none) ⟨d.os,d.tape,d.output,d.size,fun i D _=>d.block i D⟩ (by cases h:v.ownBlock <;> simp)⟩
theorem RI.alloc (h:RI w wr g mv s todo v) (o:Obj):RI w (wr.alloc o) g mv s todo v:=h.call ((Below.refl _ _).alloc (CS _) _)
theorem RI.add (h:RI w wr g mv s todo v) (D:zy w' (g+1) (ins s x)) (d:wr.grownBy w' (some (g+1))):RI w w' g mv (ins s x) todo v:=
 ⟨Aa h.below d h.below.size (by have:=h.ge;omega),h.ge,(d.block g (by have:=h.lt;omega) (fun e=>by injection e;omega)).trans h.box,D,
  h.own.kept d (.inr (fun e=>by have:=(h.own.lt _ e).1;omega))⟩
theorem RI.app (h:RI w wr g mv s todo v) (E:w'.ownsRow (g+2) 3 1 v' (todo++[x]).length ((todo++[x]).map (Value.int .i64))) (d:wr.grownBy w' v.ownBlock):RI w w' g mv s (todo++[x]) v':=
 ⟨h.below.grown d h.below.size (fun k D=>by have:=(h.own.lt _ D).1;have:=h.ge;omega),h.ge,
  (d.block g (by have:=h.lt;omega) (fun e=>by have:=(h.own.lt _ e.symm).1;omega)).trans h.box,
  (d.block (g+1) h.lt (fun e=>by have:=(h.own.lt _ e.symm).1;omega)).trans h.set,E⟩
end
theorem look_t {w:World} {g:Nat} (h:zy w g l) (d:x∈l):(Instr.lookup 104 (.map (some g)) (.int .i64 x) false).run Tryz.prog w=.ok (.bool true) w:=by
 have:=run_look h x 104 Tryz.underlying104
 rwa [CV d] at this
theorem look_f {w:World} {g:Nat} (h:zy w g l) (d:x∉l):(Instr.lookup 104 (.map (some g)) (.int .i64 x) false).run Tryz.prog w=.ok (.bool false) w:=by
 have:=run_look h x 104 Tryz.underlying104
 rwa [CW d] at this
theorem ins_new (h:x∉l):ins l x=l++[x]:=by simp [ins,h]
theorem nodup_snoc (h:l.Nodup) (E:x∉l):(l++[x]).Nodup:=by
 rw [List.nodup_append]
 exact ⟨h,by simp,fun a d b D=>by
  have:b=x:=by simpa using D
  subst this;rintro rfl;exact E d⟩
structure RO (m:MZ) (t:Nat) (from_ used s todo:List Int):Prop where
 nd:s.Nodup
 rp:∀x∈s,RP m t from_ used x
 fr:∀x∈from_,0<=x->x<m.n->x∈s
 sub:∀x∈todo,x∈s
 cl:∀y∈s,y∉todo->∀z∈zr m y,zp m t z=true->z∉used->z∈s
 ln:todo.length<=s.length
structure RJ (m:MZ) (t:Nat) (from_ used s todo:List Int) (x:Int) (j:Nat):Prop where
 nd:s.Nodup
 rp:∀x∈s,RP m t from_ used x
 fr:∀x∈from_,0<=x->x<m.n->x∈s
 sub:∀x∈todo,x∈s
 xs:x∈s
 cl:∀y∈s,y∉todo->y≠x->∀z∈zr m y,zp m t z=true->z∉used->z∈s
 cx:∀z∈(zr m x).take j,zp m t z=true->z∉used->z∈s
 ln:todo.length<=s.length
theorem RO.pop {s todo:List Int} (h:RO m t from_ used s (todo++[x])):RJ m t from_ used s todo x 0:=
 ⟨h.nd,h.rp,h.fr,fun y D=>h.sub y (by simp [D]),h.sub x (by simp),fun y D E d=>h.cl y D (by simp [E,d]),by simp,by have:=h.ln;simp at this;omega⟩
theorem RJ.skip {s todo:List Int} (h:RJ m t from_ used s todo x j) (D:j<(zr m x).length) (E:(zr m x)[j]∈s\/zp m t (zr m x)[j]=false\/(zr m x)[j]∈used):
  RJ m t from_ used s todo x (j+1):=
 ⟨h.nd,h.rp,h.fr,h.sub,h.xs,h.cl,fun z G hf d=>by
  rcases (zJ D z).1 G with h1 | h1
  ·exact h.cx z h1 hf d
  ·subst h1;rcases E with h2 | h2 | h2
   ·exact h2
   ·rw [hf] at h2;cases h2
   ·exact absurd h2 d,h.ln⟩
theorem RJ.push {s todo:List Int} (h:RJ m t from_ used s todo x j) (J:j<(zr m x).length) (M:(zr m x)[j]∉s) (hf:zp m t (zr m x)[j]=true) (O:(zr m x)[j]∉used):
  RJ m t from_ used (s++[(zr m x)[j]]) (todo++[(zr m x)[j]]) x (j+1):=
 ⟨nodup_snoc h.nd M,fun y hy=>by
   rw [DF,Dy] at hy;rcases hy with hy | rfl
   ·exact h.rp y hy
   ·exact (h.rp x h.xs).step (CT J) hf O,
  fun y hy h0 h1=>by simp [h.fr y hy h0 h1],
  fun y hy=>by
   rw [DF,Dy] at hy⊢;rcases hy with hy | hy
   ·exact .inl (h.sub y hy)
   ·exact .inr hy,
  by simp [h.xs],
  fun y hy E G z I d D=>by
   rw [DF,Dy] at hy E;rcases hy with hy | hy
   ·simp [h.cl y hy (fun K=>E (.inl K)) G z I d D]
   ·exact absurd (.inr hy) E,
  fun z I d D=>by
   rcases (zJ J z).1 I with h1 | h1
   ·simp [h.cx z h1 d D]
   ·simp [h1],by have:=h.ln;simp;omega⟩
theorem RJ.done {s todo:List Int} (h:RJ m t from_ used s todo x j) (E:(zr m x).length<=j):RO m t from_ used s todo:=
 ⟨h.nd,h.rp,h.fr,h.sub,fun y I G z J hf D=>by
  by_cases d:y=x
  ·subst d;exact h.cx z (by rwa [List.take_of_length_le E]) hf D
  ·exact h.cl y I G d z J hf D,h.ln⟩
theorem RO.end_ {s:List Int} (h:RO m t from_ used s []) (x:Int):x∈s↔RP m t from_ used x:=
 ⟨h.rp x,fun d=>d (·∈s) h.fr (fun y z E G hf D=>h.cl y E (by simp) z G hf D)⟩
theorem Bm {w:World} {base:Nat} {e:TypeId} {size g cap:Nat} {xs:List Value} (h:w.ownsRow base e size (.slice (some ⟨g,0,none⟩) n cap) n xs):n<=cap:=by
 rcases h.2 with ⟨h0,_⟩ | ⟨g',cap',cur,D,_,_,d,_⟩
 ·cases h0
 ·cases D;exact d
theorem nextL_len (m:MZ) (x:Int):(zr m x).length<=6:=by
 have h (c:Bool) (y:Int) (l:List Int) (k:Nat) (d:l.length<=k):(ap c y l).length<=k+1:=CU (ap_len c y l) (by omega);unfold zr;exact h _ _ _ 5 (h _ _ _ 4 (h _ _ _ 3 (h _ _ _ 2 (h _ _ _ 1 (h _ _ _ 0 (by simp))))))
theorem reach_calls {ok':Nat->Prop} {vm vf:Value} {gu:Nat} (t:Nat) (w:World) (hm:zV w ok vm m) (d:Dim m) (ht:t<m.free.length) (f6:∀f∈m.free,(f.length:Int)=m.n)
  (hf:zk w ok' vf from_) (hl:from_.length<=20000000000000) (hu:zy w gu used):
  Calls Tryz.prog 101 #[vm,.int .i64 t,vf,.map (some gu)] w fun e w'=>∃s,e=.returned (.map (some (w.heap.size+1)))/\Below w.heap.size w w'/\zy w' (w.heap.size+1) s/\∀x,x∈s↔RP m t from_ used x:=by
 have f9:=hm;obtain ⟨vfr,vup,vts,rfl,a8,_,_⟩:=hm;obtain ⟨vsf,⟨Af,cf,rfl,l6,g3⟩,f5⟩:=a8;obtain ⟨A,c,rfl,hc,hr⟩:=hf;obtain ⟨l9,m6⟩:=d.layer;have D:=zh d;obtain ⟨w1,w2,l7,l8,ll1,ll2,n1,j4⟩:=d;have HM:=zh f9;clear f9;have h8:=zh g3;clear g3;have h6:=zh f5;clear f5;have HR:=zh hr;clear hr;have HU:=zh hu;clear hu;have h7:=zh f6;clear f6 j4;have hN:0<=m.w*m.h*m.l:=by omega
 have m8:=@run_makeMap Tryz.prog
 go_enter Tryz.func101,Tryz.ntmps101
 go_wp2
 have f1:RI w ((w.alloc (.cells #[.int .i64 m.w,.int .i64 m.h,.int .i64 m.l,.slice Af m.free.length cf,vup,vts] 29)).alloc (.map #[] 0)) w.heap.size #[.int .i64 m.w,.int .i64 m.h,.int .i64 m.l,.slice Af m.free.length cf,vup,vts] [] [] (.slice none 0 0):=by
  refine ⟨((Below.refl _ _).alloc (CS _) _).alloc (by simp) _,CS _,?_,?_,World.ownsRow_nil _ _ _ _⟩
  ·exact zj.alloc (DD w _) _
  ·have:=zy.new (w.alloc (.cells #[.int .i64 m.w,.int .i64 m.h,.int .i64 m.l,.slice Af m.free.length cf,vup,vts] 29));simpa using this
 go_loopw [10,19] (fun v i wr=>∃k s,k<=from_.length/\i=.int .i64 (k:Nat)/\Hid (RI w wr w.heap.size #[.int .i64 m.w,.int .i64 m.h,.int .i64 m.l,.slice Af m.free.length cf,vup,vts] s s v)/\Hid (s.Nodup)/\Hid (∀x,x∈s↔x∈from_.take k/\0<=x/\x<m.n)) (fun _ i _=>from_.length - (intOf i).toNat)
 case atStart=>exact ⟨0,[],Dg _,rfl,f1,List.nodup_nil,by simp [Hid]⟩
 clear f1
 case round=>
  obtain ⟨k,s,hk,rfl,hI,hnd,hx⟩:=hrel;by_cases E:k<from_.length
  ·obtain ⟨b,off,rfl,_,I⟩:=Bk (HR.out.keep (zW.of_below hI.out.below)) E E;obtain ⟨y,hy⟩:=DT (from_[k]);rw [<-hy] at I;have HY:=zh hy;clear hy;obtain ⟨m0,m1,m2,m3,m4,m5⟩:=zu hI.out.box;by_cases g7:0<=y
   ·by_cases j7:y<m.w*m.h*m.l
    ·have c9:∀W:World,Calls Tryz.prog 43 #[.agg #[.int .i64 m.w,.int .i64 m.h,.int .i64 m.l,.slice Af m.free.length cf,vup,vts]] W _:=fun W=>Az m.w m.h m.l _ vup vts W (by omega) (by omega)
     have c8:=zh c9;clear c9;by_cases G:y∈s
     ·go_wp2_with fail
      refine (c8.out _).mono ?_;rintro e w' ⟨rfl,hb⟩;have a2:=zh (hI.out.call hb);have b0:=look_t a2.out.set G
      go_wp2_with fail
      go_roundw
      case rel=>exact ⟨k+1,s,by omega,by go_num,a2,hnd,fun x=>by
       rw [zJ E,hx.out,<-HY.out];constructor
       ·rintro ⟨h1,M⟩;exact ⟨.inl h1,M⟩
       ·rintro ⟨h1 | rfl,M⟩
        ·exact ⟨h1,M⟩
        ·exact (hx.out x).1 G⟩
      case measure=>simp [intOf];omega
     ·go_wp2_with fail
      refine (c8.out _).mono ?_;rintro e w' ⟨rfl,hb⟩;have a2:=zh (hI.out.call hb);have b0:=look_f a2.out.set G
      go_wp2_with (at_mapUpdate;refine wpSetAdd rfl _ _ _ _ rfl Tryz.underlying104 (w.heap.size+1) s y rfl rfl rfl a2.out.set ?_)
      intro wa b6 V;have O:=zh (a2.out.add b6 V);have a3:wa.heap.size=wa.heap.size:=rfl;have i8:w.heap.size+2<=wa.heap.size:=O.out.lt;have d5:=BN hnd.out m.n (fun x j6=>((hx.out x).1 j6).2);have i9:s.length<=300:=by unfold MZ.n at d5;omega
      clear b6 V b0 d5
      go_wp2_with (at_builtin;refine wpAppAt rfl _ _ rfl _ s y (w.heap.size+2) wa.heap.size 1 _ rfl rfl (O.out.own.alloc _) ?c1 ?c2 ?c3 ?_)
      case c2=>(first | omega | (simp;omega))
      case c3=>omega
      intro v' wb b3 a0 _;have e1:=zh ((O.out.alloc _).app b3 a0.out);clear b3 a0;go_wp2;go_roundw
      case rel=>exact ⟨k+1,s++[y],by omega,by go_num,by have:=e1.out;rwa [ins_new G] at this,nodup_snoc hnd.out G,fun x=>by
       rw [DF,Dy,zJ E,hx.out,<-HY.out];constructor
       ·rintro (⟨h1,M⟩ | rfl)
        ·exact ⟨.inl h1,M⟩
        ·exact ⟨.inr rfl,g7,j7⟩
       ·rintro ⟨h1 | rfl,M⟩
        ·exact .inl ⟨h1,M⟩
        ·exact .inr rfl⟩
      case measure=>simp [intOf];omega
    ·go_wp2_with (go_at_call 43;refine (Az _ _ _ _ _ _ _ (by omega) (by omega)).mono ?_;rintro e w' ⟨rfl,hb⟩)
     go_roundw
     case rel=>exact ⟨k+1,s,by omega,by go_num,hI.out.call ‹_›,hnd,fun x=>by
      rw [zJ E,hx.out,<-HY.out];constructor
      ·rintro ⟨h1,M⟩;exact ⟨.inl h1,M⟩
      ·rintro ⟨h1 | rfl,M,h3⟩
       ·exact ⟨h1,M,h3⟩
       ·unfold MZ.n at h3;omega⟩
     case measure=>simp [intOf];omega
   ·go_wp2;go_roundw
    case rel=>exact ⟨k+1,s,by omega,by go_num,hI,hnd,fun x=>by
     rw [zJ E,hx.out,<-HY.out];constructor
     ·rintro ⟨h1,M⟩;exact ⟨.inl h1,M⟩
     ·rintro ⟨h1 | rfl,M,h3⟩
      ·exact ⟨h1,M,h3⟩
      ·omega⟩
    case measure=>simp [intOf];omega
  ·obtain rfl:k=from_.length:=by omega
   have b7:Hid (∀x,x∈s↔x∈from_/\0<=x/\x<m.n):=fun x=>by have:=hx.out x;rwa [Dd] at this
   clear hx;have hO:Hid (RO m t from_ used s s):=⟨hnd.out,fun x h=>RP.base ((b7.out x).1 h).1 ((b7.out x).1 h).2.1 ((b7.out x).1 h).2.2,fun x h h0 h1=>(b7.out x).2 ⟨h,h0,h1⟩,fun x h=>h,fun y h hn=>absurd h hn,CS _⟩;clear b7 hnd E hk;go_wp2
   go_loopg [10] (2*(m.n.toNat - s.length)+s.length) (fun gk v wr=>∃s todo,gk=2*(m.n.toNat - s.length)+todo.length/\Hid (RI w wr w.heap.size #[.int .i64 m.w,.int .i64 m.h,.int .i64 m.l,.slice Af m.free.length cf,vup,vts] s todo v)/\Hid (RO m t from_ used s todo))
   case atStart=>exact ⟨s,s,rfl,hI,hO⟩
   clear hI hO
   case round=>
    obtain ⟨s,todo,rfl,hI,hO⟩:=hrel;obtain ⟨wo,rfl⟩:∃wo:World,wo=wr:=⟨_,rfl⟩;rcases List.eq_nil_or_concat todo with rfl | ⟨td,x,rfl⟩
    ·obtain ⟨A0,c0,hv⟩:∃A0 c0,u10=.slice A0 0 c0:=by
      obtain ⟨A0,c0,hv,_⟩:=Bd.of_own hI.out.own;exact ⟨A0,c0,hv⟩
     subst hv;go_wp2;go_ret;exact ⟨s,rfl,hI.out.below,hI.out.set,hO.out.end_⟩
    ·rw [List.concat_eq_append] at hI hO;obtain ⟨gt,ct,hv,k3,f7⟩:=hI.out.own.form (by simp);subst hv;have e7:(td++[x]).length=td.length+1:=by simp
     try rw [e7]
     have i7:wo.cell? ⟨gt,td.length,none⟩=some (.int .i64 x):=by
      have:=hI.out.own.cellAt td.length (by simp);rw [this];simp
     have hJ:=zh hO.out.pop;have i6:=Bm hI.out.own;rw [e7] at i6;have j2:=(hO.out.rp x (hJ.out.xs)).range D.out;have j3:=BN hO.out.nd m.n (fun y hy=>(hO.out.rp y hy).range D.out);have n2:=hJ.out.ln;have k6:s.length<=300:=by unfold MZ.n at j3;omega
     obtain ⟨g5,g6⟩:=j2;obtain ⟨m0,m1,m2,m3,m4,m5⟩:=zu hI.out.box
     have e0:Hid (RI w wo w.heap.size #[.int .i64 m.w,.int .i64 m.h,.int .i64 m.l,.slice Af m.free.length cf,vup,vts] s td (.slice (some ⟨gt,0,none⟩) td.length ct)):=by
      have h:=hI.out.own;refine ⟨hI.out.below,hI.out.ge,hI.out.box,hI.out.set,?_⟩;rw [map_snoc,e7] at h;exact ownsRow_pop (by simp) h
     clear hI hO
     go_wp2_with fail
     refine (next_calls m x wo (HM.out.keep (zW.of_below e0.out.below)) D.out g5 g6).mono ?_;rintro e wk ⟨v',rfl,f3,e6⟩;have f0:=zh (e0.out.call f3);have g0:=zh (Bd.of_own e6);have k4:=zh e6;clear e6;obtain ⟨A2,c2,j5,l5,d6⟩:=g0.out;subst j5;clear g0;have n0:=nextL_len m x;have j1:=HM.out;have e9:=zh d6;clear d6;clear j1 m0 m1 m2 m3 m4 m5 i7;have l0:wo.heap.size<=wk.heap.size:=f3.size;go_wp2;go_loopw [10,62] (fun v i wi=>∃j s' todo',j<=(zr m x).length/\i=.int .i64 (j:Nat)/\Hid (RI w wi w.heap.size #[.int .i64 m.w,.int .i64 m.h,.int .i64 m.l,.slice Af m.free.length cf,vup,vts] s' todo' v)/\Hid (RJ m t from_ used s' todo' x j)/\Hid (zW (fun b=>wo.heap.size<=b/\b<wk.heap.size) wk wi)/\Hid (∀k,v.ownBlock=some k->k<wo.heap.size\/wk.heap.size<=k)/\Hid (wk.heap.size<=wi.heap.size)/\Hid (todo'.length+s.length=td.length+s'.length/\s.length<=s'.length)) (fun _ i _=>(zr m x).length - (intOf i).toNat)
     case atStart=>exact ⟨0,s,td,Dg _,rfl,f0,hJ,zW.refl _ _,fun k hk=>by
      have:k=gt:=by simpa [Value.ownBlock] using hk.symm
      subst this;exact .inl f7,CS _,rfl,CS _⟩
     clear e0 f0 hJ
     case round=>
      obtain ⟨j,s',todo',hj,rfl,hI,hJ,hS,a6,a3,b1⟩:=hrel;by_cases a9:j<(zr m x).length
      ·obtain ⟨b2,off2,rfl,i3,J⟩:=Bk e9.out a9 a9;have a7:=zl J;have I:=(cell_same (hS.out b2 ⟨i3,a7⟩ a7)).trans J;clear J;have g8:=By D.out g5 g6 (CT a9);have K:=zh (hJ.out.skip a9);have b5:=zh (hJ.out.push a9);obtain ⟨y,hy⟩:=DT ((zr m x)[j]);rw [<-hy] at I g8 K b5;clear hy;obtain ⟨g7,n3⟩:=g8;obtain ⟨m0,m1,m2,m3,m4,m5⟩:=zu hI.out.box;obtain ⟨bf,off3,uf,rfl,_,d4,i4⟩:=BB (h8.out.keep (zW.of_below hI.out.below)) h6.out ht ht;have U:=h7.out _ (CT ht);obtain ⟨A4,c4,rfl,i5,g1⟩:=i4;have c6:y.toNat<(m.free[t]).length:=by omega
       obtain ⟨b4,off4,rfl,_,a1⟩:=Cn (g1.keep (zW.of_below hI.out.below)) c6 c6;have a8:(m.free[t])[y.toNat]=zp m t y:=by simp [zp,ht,c6]
       rw [a8] at a1;have l1:=zh a8;clear a8;obtain ⟨nf,e5⟩:=DT ((m.free[t]).length);rw [<-e5] at d4 c6 U i5;have l2:=zh e5;clear e5;have j9:=zh U;clear U;clear g1;have hset:=hI.out.set;have d9:=HU.out.below hI.out.below;by_cases G:y∈s'
       ·have b0:=look_t hset G;go_wp2;go_roundw
        case rel=>exact ⟨j+1,s',todo',by omega,by go_num,hI,K.out (.inl G),hS,a6,a3,b1⟩
        case measure=>simp [intOf];omega
       ·have b0:=look_f hset G;by_cases hf:zp m t y=true
        ·rw [hf] at a1;by_cases c7:y∈used
         ·have f8:=look_t d9 c7;have HF:=zh hf;clear hf;go_wp2;go_roundw
          case rel=>exact ⟨j+1,s',todo',by omega,by go_num,hI,K.out (.inr (.inr c7)),hS,a6,a3,b1⟩
          case measure=>simp [intOf];omega
         ·have f8:=look_f d9 c7;have HF:=zh hf;clear hf;have h9:=zh (b5.out G HF.out c7);have d7:=BN hJ.out.nd m.n (fun y hy=>(hJ.out.rp y hy).range D.out);have k7:=hJ.out.ln;have k8:todo'.length<=300:=by unfold MZ.n at d7;omega
          go_wp2_with (at_mapUpdate;refine wpSetAdd rfl _ _ _ _ rfl Tryz.underlying104 (w.heap.size+1) s' y rfl rfl rfl hI.out.set ?_)
          intro wa b6 V;have O:=zh (hI.out.add b6 V)
          have i1:Hid (zW (fun b=>wo.heap.size<=b/\b<wk.heap.size) wk wa):=fun b hb E=>by
           refine (V.block b (Dt E a3.out) (fun e=>?_)).trans (hS.out b hb E);injection e with e;have:=hb.1;omega
          have e8:Hid (wk.heap.size<=wa.heap.size):=CU a3.out V.size;have i8:w.heap.size+2<=wa.heap.size:=O.out.lt;clear b6 V b0 f8 hset d9 m0 m1 m2 m3 m4 m5 d4 a1 I
          go_wp2_with (at_builtin;refine wpAppAt rfl _ _ rfl _ todo' y (w.heap.size+2) wa.heap.size 1 _ rfl rfl (O.out.own.alloc _) ?d1 ?d2 ?d3 ?_)
          (try case d1=>simp)
          case d2=>(first | omega | (simp;omega))
          case d3=>omega
          intro v' wb b3 a0 f4;have e1:=zh ((O.out.alloc _).app b3 a0.out)
          have i0:Hid (∀k,v'.ownBlock=some k->k<wo.heap.size\/wk.heap.size<=k):=fun k hk=>by
           rcases f4.out with e | e
           ·exact a6.out k (e ▸ hk)
           ·have:k=wa.heap.size+1 - 1+1:=by
             rw [e] at hk;simpa using hk.symm
            have:=e8.out;omega
          have i2:Hid (zW (fun b=>wo.heap.size<=b/\b<wk.heap.size) wk wb):=fun b hb E=>by
           have hz:=e8.out;refine (a0.out.block b (by simp;omega) (fun e=>?_)).trans ((Dk wa _ b (by omega)).trans (i1.out b hb E));have h1:=a6.out b e.symm;have M:=hb.1;omega
          have j8:Hid (wk.heap.size<=wb.heap.size):=by
           have h1:=a0.out.size;have M:=e8.out;simp at h1;show _<=_;omega
          clear b3 a0 f4;go_wp2;go_roundw
          case rel=>exact ⟨j+1,s'++[y],todo'++[y],by omega,by go_num,by have:=e1.out;rwa [ins_new G] at this,h9,i2,i0,j8,by have h1:=b1.out;show _/\_;simp only [Da,DR,DS];omega⟩
          case measure=>simp [intOf];omega
        ·have e3:zp m t y=false:=by simpa using hf
         rw [e3] at a1;have HF:=zh e3;clear hf e3;go_wp2;go_roundw
         case rel=>exact ⟨j+1,s',todo',by omega,by go_num,hI,K.out (.inr (.inl HF.out)),hS,a6,a3,b1⟩
         case measure=>simp [intOf];omega
      ·have e2:=zh (hJ.out.done (by omega));have d7:=BN e2.out.nd m.n (fun y hy=>(e2.out.rp y hy).range D.out);have m7:=b1.out;go_wp2
       go_roundg (2*(m.n.toNat - s'.length)+todo'.length)
       case measure=>
        have h1:(td.concat x).length=td.length+1:=by simp
        rw [h1];omega
       case rel=>exact ⟨s',todo',rfl,hI,e2⟩
theorem Bu {α:Type} {l:List α} (p:α->Bool) (h:k<l.length):(l.take (k+1)).any p=((l.take k).any p || p l[k]):=by
 rw [CZ h,List.any_append];simp
theorem Bh {P: Program} {n: FuncId} {fn: Func} (h : P.funcs[n]? = some fn) (hn : (fn.name == "runtime.NumGoroutine") = false) (hb : fn.body.isNone = false) (a : Array Value) (w : World) : (callFunc n a).run P w = .ok (.enter n a) w := by
 unfold callFunc;simp only [Sem.run_bind,run_program,Result.andThen_ok,h,hn,hb,Bool.false_eq_true,if_false,Sem.run_pure]
theorem Cj {v:Value} (n:FuncId) (caps:Array Value) (p:Int->Bool) (w:World) (h:zk w ok v l) (hl:l.length<=20000000000000)
  (a6:∀(a:Array Value) (w:World),(callFunc n a).run Tryz.prog w=.ok (.enter n a) w)
  (hp:∀x∈l,∀w1,zw w w1->Calls Tryz.prog n (#[.int .i64 x]++caps) w1 fun e w'=>e=.returned (.bool (p x))/\zw w1 w'):
  Calls Tryz.prog 78 #[v,.func (.func n) #[] caps] w fun e w'=>∃r:Int,e=.returned (.int .i64 r)/\(0<=r↔l.any p=true)/\-1<=r/\zw w w':=by
 obtain ⟨A,c,rfl,hc,hr⟩:=h;have HR:=zh hr;clear hr;have HP:=zh hp;clear hp
 go_enter Tryz.func78,Tryz.ntmps78
 go_wp2_with fail
 go_loopw [8] (fun i wr=>∃k:Nat,k<=l.length/\i=.int .i64 k/\Hid ((l.take k).any p=false)/\Hid (zw w wr)) (fun i _=>l.length - (intOf i).toNat)
 case atStart=>exact ⟨0,Dg _,rfl,by simp [Hid],zw.refl _⟩
 case round=>
  obtain ⟨k,hk,rfl,hn,U⟩:=hrel;by_cases M:k<l.length
  ·obtain ⟨b,off,rfl,_,K⟩:=Bk (HR.out.keep (U.out.same ok)) M M;obtain ⟨x,hx⟩:=DT (l[k]);rw [<-hx] at K;have V:x∈l:=by rw [hx];exact CT _
   have G:=zh (Bu p M);rw [<-hx] at G;clear hx;have d:=zh (HP.out x V wr U.out);by_cases E:p x=true
   ·go_wp2_with fail
    refine d.out.mono ?_;rintro e w1 ⟨rfl,D⟩;rw [E];have I:=zh (U.out.trans D);clear D;have J:=zh E;clear E
    go_wp2_with fail
    go_ret;refine ⟨_,rfl,⟨fun _=>?_,fun _=>by omega⟩,by omega,I.out⟩;rw [DP];exact ⟨x,V,J.out⟩
   ·have O:p x=false:=by simpa using E
    clear E
    go_wp2_with fail
    refine d.out.mono ?_;rintro e w1 ⟨rfl,D⟩;rw [O];have I:=zh (U.out.trans D);clear D;have J:=zh O;clear O
    go_wp2_with fail
    go_roundw
    case rel=>exact ⟨k+1,by omega,by go_num,by
     show _=false;rw [G.out,hn.out,J.out];rfl,I⟩
    case measure=>simp [intOf];omega
  ·obtain rfl:k=l.length:=by omega
   go_wp2;go_ret;have h:=hn.out;rw [Dd] at h;refine ⟨_,rfl,⟨fun h'=>by omega,fun h'=>?_⟩,by omega,U.out⟩;rw [h] at h'
   cases h'
theorem indexFuncB_calls {v:Value} {l:List (List Bool)} (n:FuncId) (caps:Array Value) (p:List Bool->Bool) (w:World) (h:Each (AA w ok) w ok v l) (hl:l.length<=20000000000000)
  (a8:∀(a:Array Value) (w:World),(callFunc n a).run Tryz.prog w=.ok (.enter n a) w)
  (hp:∀x∈l,∀u,AA w ok u x->∀w1,zw w w1->Calls Tryz.prog n (#[u]++caps) w1 fun e w'=>e=.returned (.bool (p x))/\zw w1 w'):
  Calls Tryz.prog 77 #[v,.func (.func n) #[] caps] w fun e w'=>∃r:Int,e=.returned (.int .i64 r)/\(0<=r↔l.any p=true)/\-1<=r/\zw w w':=by
 obtain ⟨vs,⟨A,c,rfl,hc,hr⟩,he⟩:=h;have HR:=zh hr;clear hr;have HE:=zh he;clear he;have HP:=zh hp;clear hp
 go_enter Tryz.func77,Tryz.ntmps77
 go_wp2_with fail
 go_loopw [8] (fun i wr=>∃k:Nat,k<=l.length/\i=.int .i64 k/\Hid ((l.take k).any p=false)/\Hid (zw w wr)) (fun i _=>l.length - (intOf i).toNat)
 case atStart=>exact ⟨0,Dg _,rfl,by simp [Hid],zw.refl _⟩
 case round=>
  obtain ⟨k,hk,rfl,hn,O⟩:=hrel;by_cases K:k<l.length
  ·obtain ⟨b,off,u,rfl,_,a1,hu⟩:=BB (HR.out.keep (O.out.same ok)) HE.out K K;obtain ⟨x,V⟩:=DT (l[k]);rw [<-V] at hu;have U:x∈l:=by rw [V];exact CT _
   have G:=zh (Bu p K);rw [<-V] at G;clear V;have d:=zh (HP.out x U u hu wr O.out);clear hu;by_cases E:p x=true
   ·go_wp2_with fail
    refine d.out.mono ?_;rintro e w1 ⟨rfl,D⟩;rw [E];have I:=zh (O.out.trans D);clear D;have J:=zh E;clear E
    go_wp2_with fail
    go_ret;refine ⟨_,rfl,⟨fun _=>?_,fun _=>by omega⟩,by omega,I.out⟩;rw [DP];exact ⟨x,U,J.out⟩
   ·have M:p x=false:=by simpa using E
    clear E
    go_wp2_with fail
    refine d.out.mono ?_;rintro e w1 ⟨rfl,D⟩;rw [M];have I:=zh (O.out.trans D);clear D;have J:=zh M;clear M
    go_wp2_with fail
    go_roundw
    case rel=>exact ⟨k+1,by omega,by go_num,by
     show _=false;rw [G.out,hn.out,J.out];rfl,I⟩
    case measure=>simp [intOf];omega
  ·obtain rfl:k=l.length:=by omega
   go_wp2;go_ret;have h:=hn.out;rw [Dd] at h;refine ⟨_,rfl,⟨fun h'=>by omega,fun h'=>?_⟩,by omega,O.out⟩;rw [h] at h'
   cases h'
theorem AQ {v:Value} {l:List (Int)} (n:FuncId) (caps:Array Value) (p:Int->Bool) (w:World) (h:zk w ok v l) (J:l.length<=20000000000000) (D:∀(a:Array Value) (w:World),(callFunc n a).run Tryz.prog w=.ok (.enter n a) w)
  (hp:∀x∈l,∀w1,zw w w1->Calls Tryz.prog n (#[.int .i64 x]++caps) w1 fun e w'=>e=.returned (.bool (p x))/\zw w1 w'):
  Calls Tryz.prog 47 #[v,.func (.func n) #[] caps] w fun e w'=>e=.returned (.bool (l.any p))/\zw w w':=by
 have H:=zh (Cj n caps p w h J D hp);clear hp;obtain ⟨A,c,rfl,M,d⟩:=h;clear d
 go_enter Tryz.func47,Tryz.ntmps47
 go_wp2_with fail
 refine H.out.mono ?_;rintro e w1 ⟨r,rfl,d,K,E⟩;have I:=zh d;clear d;have G:=zh E;clear E
 go_wp2_with fail
 go_ret;refine ⟨zt ?_,G.out⟩;rw [Bool.eq_iff_iff,decide_eq_true_iff];exact I.out
theorem CO {v:Value} {l:List (List Bool)} (n:FuncId) (caps:Array Value) (p:List Bool->Bool) (w:World) (h:Each (AA w ok) w ok v l) (J:l.length<=20000000000000) (D:∀(a:Array Value) (w:World),(callFunc n a).run Tryz.prog w=.ok (.enter n a) w)
  (hp:∀x∈l,∀u,AA w ok u x->∀w1,zw w w1->Calls Tryz.prog n (#[u]++caps) w1 fun e w'=>e=.returned (.bool (p x))/\zw w1 w'):
  Calls Tryz.prog 44 #[v,.func (.func n) #[] caps] w fun e w'=>e=.returned (.bool (l.any p))/\zw w w':=by
 have H:=zh (indexFuncB_calls n caps p w h J D hp);clear hp;obtain ⟨vs,⟨A,c,rfl,M,d⟩,he⟩:=h;clear d he
 go_enter Tryz.func44,Tryz.ntmps44
 go_wp2_with fail
 refine H.out.mono ?_;rintro e w1 ⟨r,rfl,d,K,E⟩;have I:=zh d;clear d;have G:=zh E;clear E
 go_wp2_with fail
 go_ret;refine ⟨zt ?_,G.out⟩;rw [Bool.eq_iff_iff,decide_eq_true_iff];exact I.out
def zU (n x:Int):Bool:=decide (x<0) || decide (n<=x)
def side (x:Int):Bool:=decide (x<1) || decide (300<x)
def Cw (m:MZ):Int:=
 if [m.w,m.h,m.l].any side then 2
 else if 300<m.n\/6<m.tasks.length then 2
 else if m.free.length≠m.tasks.length\/(m.up.length:Int)≠m.n\/m.free.any (fun f=>(f.length:Int) != m.n)=true then 1
 else if m.tasks.any (fun t=>t.1.any (zU m.n) || t.2.any (zU m.n)) then 50
 else 0
theorem cf51 (a:Array Value) (w:World):(callFunc 45 a).run Tryz.prog w=.ok (.enter 45 a) w:=Bh Tryz.func45 (by kernel_rfl) (by kernel_rfl) a w
theorem cf52 (a:Array Value) (w:World):(callFunc 46 a).run Tryz.prog w=.ok (.enter 46 a) w:=Bh Tryz.func46 (by kernel_rfl) (by kernel_rfl) a w
theorem check1_calls {u:Value} {f:List Bool} (g:Nat) (n:Int) (w:World) (E:AA w ok u f) (G:w.cell? ⟨g,0,none⟩=some (.int .i64 n)):
  Calls Tryz.prog 45 #[u,.pointer (some ⟨g,0,none⟩)] w fun e w'=>e=.returned (.bool ((f.length:Int) != n))/\zw w w':=by
 obtain ⟨A,c,rfl,d,D⟩:=E;clear D
 go_enter Tryz.func45,Tryz.ntmps45
 go_wp2;go_ret;exact ⟨rfl,zw.refl _⟩
theorem check2_calls (g:Nat) (n x:Int) (w:World) (D:w.cell? ⟨g,0,none⟩=some (.int .i64 n)):
  Calls Tryz.prog 46 #[.int .i64 x,.pointer (some ⟨g,0,none⟩)] w fun e w'=>e=.returned (.bool (zU n x))/\zw w w':=by
 by_cases d:x<0
 ·go_enter Tryz.func46,Tryz.ntmps46
  go_wp2;go_ret;exact ⟨zt (by simp [zU,d]),zw.refl _⟩
 ·go_enter Tryz.func46,Tryz.ntmps46
  go_wp2;go_ret;refine ⟨zt ?_,zw.refl _⟩;simp [zU];omega
structure Lens (m:MZ):Prop where
 fr:m.free.length<=20000000000000
 up:m.up.length<=20000000000000
 ts:m.tasks.length<=20000000000000
 tl:∀t∈m.tasks,t.1.length<=400000000000/\t.2.length<=400000000000
theorem three_cells {w:World} {g:Nat} {t:TypeId} {a b c:Int} (h:zj w g t #[.int .i64 a,.int .i64 b,.int .i64 c]) (k:Nat) (d:k<3):w.cell? ⟨g,k,none⟩=some (.int .i64 ([a,b,c][k])):=by
 unfold zj at h;unfold World.cell?;simp only [h]
 match k,d with
 | 0,_=>rfl
 | 1,_=>rfl
 | 2,_=>rfl
theorem tasksAt {w:World} {c:Nat} {l:List (List Int×List Int)} (h:Bf w ok (.slice A n c) l) (G:k<l.length):
  ∃b off s u1 u2,A=some ⟨b,off,none⟩/\ok b/\w.cell? ⟨b,off+k*3,none⟩=some (.string s)/\w.cell? ⟨b,off+k*3+1,none⟩=some u1/\w.cell? ⟨b,off+k*3+2,none⟩=some u2/\zk w ok u1 l[k].1/\zk w ok u2 l[k].2:=by
 obtain ⟨vs,⟨A',c',I,_,J,d⟩,he⟩:=h;injection I with e1 e2 e3;subst e1;obtain ⟨b,off,rfl,E,d⟩:=d (by omega);obtain ⟨s,u1,u2,h0,h1,D,i1,i2⟩:=he k _ (CQ G);exact ⟨b,off,s,u1,u2,rfl,E,d _ _ h0,by rw [Nat.add_assoc];exact d _ _ h1,by rw [Nat.add_assoc];exact d _ _ D,i1,i2⟩
structure CI (w wr:World) (cells:Array Value) (ints:Array Value):Prop where
 below:Below w.heap.size w wr
 box:zj wr w.heap.size 29 cells
 ints:zj wr (w.heap.size+1) 3 ints
theorem CI.call {w wr w':World} (h:CI w wr c i) (d:Below wr.heap.size wr w'):CI w w' c i:=
 ⟨Bg h.below d (CS _),h.box.below d (za h.box),h.ints.below d (za h.ints)⟩
theorem CI.new (w:World) (c i:Array Value):CI w ((w.alloc (.cells c 29)).alloc (.cells i 3)) c i:=
 ⟨((Below.refl _ _).alloc (CS _) _).alloc (by simp) _,zj.alloc (DD w _) _,by
  have:=DD (w.alloc (.cells c 29)) (.cells i 3);simpa [zj] using this⟩
theorem chk_side (h:[m.w,m.h,m.l].any side=true):Cw m=2:=by
 unfold Cw;rw [if_pos h]
structure CJ (w wr:World) (cells:Array Value) (g:Nat) (n:Int):Prop where
 below:Below w.heap.size w wr
 box:zj wr w.heap.size 29 cells
 all:wr.cell? ⟨g,0,none⟩=some (.int .i64 n)
theorem CJ.call {w wr w':World} {g:Nat} {n:Int} (h:CJ w wr c g n) (d:Below wr.heap.size wr w'):CJ w w' c g n:=
 ⟨Bg h.below d (CS _),h.box.below d (za h.box),(cell_same (d.block g (zl h.all))).trans h.all⟩
theorem CJ.new {w w':World} (h:CI w w' c i) (n:Int):CJ w (w'.alloc (.cells #[.int .i64 n] 3)) c w'.heap.size n:=
 ⟨h.below.alloc (Nat.le_of_lt (za h.box)) _,h.box.alloc _,by
  have:=DD w' (.cells #[.int .i64 n] 3);unfold World.cell?;simp only [this];rfl⟩
theorem CJ.alloc {w wr:World} {c:Array Value} {g:Nat} {n:Int} (h:CJ w wr c g n) (o:Obj):CJ w (wr.alloc o) c g n:=
 ⟨h.below.alloc (Nat.le_of_lt (za h.box)) _,h.box.alloc _,(cell_same (Dk wr o g (zl h.all))).trans h.all⟩
theorem cells3 {w:World} {g:Nat} {t:TypeId} {a0 a1 a2:Value} (h:zj w g t #[a0,a1,a2]):
  w.cell? ⟨g,0,none⟩=some a0/\w.cell? ⟨g,1,none⟩=some a1/\w.cell? ⟨g,2,none⟩=some a2:=by
 unfold zj at h;unfold World.cell?;simp only [h];exact ⟨rfl,rfl,rfl⟩
theorem sides (h:[m.w,m.h,m.l].any side=false):(1<=m.w/\m.w<=300)/\(1<=m.h/\m.h<=300)/\(1<=m.l/\m.l<=300):=by
 simp [side] at h;omega
theorem sides_mul (h:[m.w,m.h,m.l].any side=false):(1<=m.w*m.h/\m.w*m.h<=90000)/\(1<=m.w*m.h*m.l/\m.w*m.h*m.l<=27000000):=by
 obtain ⟨⟨a1,a2⟩,⟨b1,b2⟩,c1,c2⟩:=sides h;have h1:1<=m.w*m.h:=by have:=Int.mul_pos (a:=m.w) (b:=m.h) (by omega) (by omega);omega
 have d:m.w*m.h<=300*300:=Int.mul_le_mul a2 b2 (by omega) (by omega);have D:1<=m.w*m.h*m.l:=by have:=Int.mul_pos (a:=m.w*m.h) (b:=m.l) (by omega) (by omega);omega
 have E:m.w*m.h*m.l<=300*300*300:=Int.mul_le_mul d c2 (by omega) (by omega);omega
theorem CA {v:Value} (w:World) (hm:zV w ok v m) (hl:Lens m):
  Calls Tryz.prog 27 #[v] w fun e w'=>e=.returned (.int .i64 (Cw m))/\Below w.heap.size w w':=by
 have f1:=hm;obtain ⟨vfr,vup,vts,rfl,e8,f7,f5⟩:=hm;obtain ⟨vsf,⟨Af,cf,rfl,e6,c8⟩,c6⟩:=e8;obtain ⟨Au,cu,rfl,g6,f4⟩:=f7;obtain ⟨vst,⟨At,ct,rfl,e7,c9⟩,c7⟩:=f5;obtain ⟨l1,l2,l3,l4⟩:=hl;have e0:=zh c8;clear c8;have d7:=zh c6;clear c6;have e1:=zh c9;clear c9;have d8:=zh c7;clear c7;have d9:=zh l4;clear l4;clear f4 f1
 go_enter Tryz.func27,Tryz.ntmps27
 go_wp2;have b7:=CI.new w #[.int .i64 m.w,.int .i64 m.h,.int .i64 m.l,.slice Af m.free.length cf,.slice Au m.up.length cu,.slice At m.tasks.length ct] #[.int .i64 m.w,.int .i64 m.h,.int .i64 m.l];go_loopw [17] (fun i wr=>∃k:Nat,k<=3/\i=.int .i64 k/\Hid (([m.w,m.h,m.l].take k).any side=false)/\Hid (CI w wr #[.int .i64 m.w,.int .i64 m.h,.int .i64 m.l,.slice Af m.free.length cf,.slice Au m.up.length cu,.slice At m.tasks.length ct] #[.int .i64 m.w,.int .i64 m.h,.int .i64 m.l])) (fun i _=>3 - (intOf i).toNat)
 case atStart=>exact ⟨0,by omega,rfl,by simp [Hid],b7⟩
 clear b7
 case round=>
  obtain ⟨k,hk,rfl,M,hI⟩:=hrel;by_cases K:k<3
  ·obtain ⟨x,hx⟩:=DT ([m.w,m.h,m.l][k]'K);have a7:=three_cells hI.out.ints k K;rw [<-hx] at a7;have D:=zh (Bu (l:=[m.w,m.h,m.l]) side K);rw [<-hx] at D;have HX:=zh (show x∈[m.w,m.h,m.l] by rw [hx];exact CT _);clear hx;by_cases h1:x<1
   ·go_wp2;go_ret;refine ⟨Bn ?_,hI.out.below⟩;rw [chk_side];exact DP.2 ⟨x,HX.out,by simp [side,h1]⟩
   ·by_cases h2:300<x
    ·go_wp2;go_ret;refine ⟨Bn ?_,hI.out.below⟩;rw [chk_side];exact DP.2 ⟨x,HX.out,by simp [side,h2]⟩
    ·have HS:=zh (show side x=false by simp [side,h1,h2]);go_wp2;go_roundw
     case rel=>exact ⟨k+1,by omega,by go_num,by
      show _=false;rw [D.out,M.out,HS.out];rfl,hI⟩
     case measure=>simp [intOf];omega
  ·obtain rfl:k=3:=by omega
   have HN:Hid ([m.w,m.h,m.l].any side=false):=M.out;clear M;obtain ⟨m0,m1,m2,m3,m4,m5⟩:=zu hI.out.box;obtain ⟨⟨p1,p2⟩,p3,p4⟩:=sides_mul HN.out
   have U:300<m.n\/6<m.tasks.length->Cw m=2:=by
    intro h;unfold Cw;rw [if_neg (by rw [HN.out];simp),if_pos h]
   have b4:=zh U;clear U
   go_wp2_with fail
   refine (Az _ _ _ _ _ _ _ (by omega) (by omega)).mono ?_;rintro e w' ⟨rfl,hb⟩;have d:=zh (hI.out.call hb);clear hI m0 m1 m2 m3 m4 m5 hb;have e2:∀o,_:=fun o=>zu (d.out.box.alloc o)
   by_cases M:300<m.w*m.h*m.l
   ·go_wp2;go_ret;exact ⟨Bn (b4.out (.inl M)).symm,d.out.below.alloc (Nat.le_of_lt (za d.out.box)) _⟩
   by_cases ht:6<m.tasks.length
   ·go_wp2;go_ret;exact ⟨Bn (b4.out (.inr ht)).symm,d.out.below.alloc (Nat.le_of_lt (za d.out.box)) _⟩
   have O:(m.free.length≠m.tasks.length\/(m.up.length:Int)≠m.n\/m.free.any (fun f=>(f.length:Int) != m.n)=true)->Cw m=1:=by
    intro h;unfold Cw;rw [if_neg (by rw [HN.out];simp),if_neg (by unfold MZ.n;omega),if_pos h]
   have a3:=zh O;clear O;by_cases hf:m.free.length=m.tasks.length
   case neg=>
    go_wp2;go_ret;exact ⟨Bn (a3.out (.inl hf)).symm,d.out.below.alloc (Nat.le_of_lt (za d.out.box)) _⟩
   by_cases hu:(m.up.length:Int)=m.w*m.h*m.l
   case neg=>
    go_wp2;go_ret;exact ⟨Bn (a3.out (.inr (.inl hu))).symm,d.out.below.alloc (Nat.le_of_lt (za d.out.box)) _⟩
   have V:=zh (CJ.new d.out (m.w*m.h*m.l));have g7:w.heap.size<w'.heap.size:=za d.out.box;clear d
   have b6:AP w ok (.slice Af m.tasks.length cf) m.free:=by
    rw [<-hf];exact ⟨vsf,⟨Af,cf,rfl,e6,e0.out⟩,d7.out⟩
   go_wp2_with fail
   refine (CO (ok:=ok) 45 _ (fun f=>(f.length:Int) != m.w*m.h*m.l) _ (b6.below V.out.below) l1 cf51 ?hp).mono ?_
   case hp=>exact fun x hx u hu w1 G=>check1_calls w'.heap.size _ w1 (hu.keep (G.same ok)) (V.out.call (G.below _)).all
   rintro e w1 ⟨rfl,G⟩;have E:=zh (V.out.call (G.below _));clear V G e2;by_cases ha:m.free.any (fun f=>(f.length:Int) != m.w*m.h*m.l)=true
   ·rw [ha];go_wp2;go_ret;exact ⟨Bn (a3.out (.inr (.inr ha))).symm,E.out.below⟩
   have a6:=zh (show m.free.any (fun f=>(f.length:Int) != m.w*m.h*m.l)=false by simpa using ha);clear ha;rw [a6.out];obtain ⟨m0,m1,m2,m3,m4,m5⟩:=zu E.out.box;have a5:Bf w ok (.slice At m.tasks.length ct) m.tasks:=⟨vst,⟨At,ct,rfl,e7,e1.out⟩,d8.out⟩
   go_wp2_with fail
   go_loopw [62] (fun i wr=>∃k:Nat,k<=m.tasks.length/\i=.int .i64 k/\Hid ((m.tasks.take k).any (fun t=>t.1.any (zU m.n) || t.2.any (zU m.n))=false)/\Hid (CJ w wr #[.int .i64 m.w,.int .i64 m.h,.int .i64 m.l,.slice Af m.free.length cf,.slice Au m.up.length cu,.slice At m.tasks.length ct] w'.heap.size (m.w*m.h*m.l))) (fun i _=>m.tasks.length - (intOf i).toNat)
   case atStart=>exact ⟨0,by omega,rfl,by simp [Hid],E⟩
   clear E m0 m1 m2 m3 m4 m5 b6
   case round=>
    obtain ⟨k,hk,rfl,M,hI⟩:=hrel;by_cases K:k<m.tasks.length
    ·obtain ⟨b,off,sn,u1,u2,rfl,_,g5,e4,e5,a8,a9⟩:=tasksAt (a5.below hI.out.below) K;obtain ⟨A1,c1,rfl,b9,f2⟩:=a8.open;obtain ⟨A2,c2,rfl,c0,f3⟩:=a9.open;obtain ⟨e9,f0⟩:=d9.out _ (CT K);clear f2 f3;have b1:=zh a8;clear a8;have b2:=zh a9;clear a9;have g4:=zh a5;clear a5;obtain ⟨t,ht⟩:=DT (m.tasks[k]);rw [<-ht] at b1 b2 e4 e5 b9 c0 e9 f0;have D:=zh (Bu (fun t=>t.1.any (zU m.n) || t.2.any (zU m.n)) K);rw [<-ht] at D;have HM:=zh (show t∈m.tasks by rw [ht];exact CT _);clear ht;have E:=zh (hI.out.alloc (.cells #[.string sn,.slice A1 t.1.length c1,.slice A2 t.2.length c2] 72));have a4:=zh (DD wr (.cells #[.string sn,.slice A1 t.1.length c1,.slice A2 t.2.length c2] 72))
     have a2:(t.1.any (zU m.n) || t.2.any (zU m.n))=true->Cw m=50:=by
      intro h;unfold Cw;rw [if_neg (by rw [HN.out];simp),if_neg (by unfold MZ.n;omega),if_neg (by unfold MZ.n;rw [a6.out];simp;omega),if_pos (DP.2 ⟨t,HM.out,h⟩)]
     have a1:=zh a2;clear a2
     go_wp2_with fail
     refine (AQ (ok:=ok) 46 _ (zU (m.w*m.h*m.l)) _ (b1.out.below ((Below.refl _ _).alloc (CS _) _)) (by omega) cf52 ?hp).mono ?_
     case hp=>exact fun x hx w1 G=>check2_calls w'.heap.size _ x w1 (E.out.call (G.below _)).all
     rintro e w4 ⟨rfl,G⟩;have a0:=zh (E.out.call (G.below _));have b5:Hid (zj w4 wr.heap.size 72 _):=zj.below a4.out (G.below _) (za a4.out);have e3:Hid (Below wr.heap.size wr w4):=((Below.refl _ _).alloc (CS _) _).trans (G.below _);clear G E a4;obtain ⟨q0,q1,q2⟩:=cells3 b5.out;by_cases I:t.1.any (zU (m.w*m.h*m.l))=true
     ·rw [I];go_wp2;go_ret;exact ⟨Bn (a1.out (by show (t.1.any (zU (m.w*m.h*m.l)) || _)=true;rw [I];rfl)).symm,a0.out.below⟩
     ·have I:t.1.any (zU (m.w*m.h*m.l))=false:=by simpa using I
      rw [I];have d5:=zh I;clear I
      go_wp2_with fail
      refine (AQ (ok:=ok) 46 _ (zU (m.w*m.h*m.l)) _ (b2.out.below e3.out) (by omega) cf52 ?hp).mono ?_
      case hp=>exact fun x hx w1 G=>check2_calls w'.heap.size _ x w1 (a0.out.call (G.below _)).all
      rintro e w5 ⟨rfl,G⟩;have b8:=zh (a0.out.call (G.below _));clear G a0 b5 q0 q1 q2;by_cases J:t.2.any (zU (m.w*m.h*m.l))=true
      ·rw [J];go_wp2;go_ret;exact ⟨Bn (a1.out (by show (_ || t.2.any (zU (m.w*m.h*m.l)))=true;rw [J];simp)).symm,b8.out.below⟩
      ·have J:t.2.any (zU (m.w*m.h*m.l))=false:=by simpa using J
       rw [J];have d6:=zh J;clear J
       go_wp2_with fail
       go_roundw
       case rel=>exact ⟨k+1,by omega,by go_num,by
        show _=false;rw [D.out,M.out];show (_ || (t.1.any (zU (m.w*m.h*m.l)) || t.2.any (zU (m.w*m.h*m.l))))=false;rw [d5.out,d6.out];rfl,b8⟩
       case measure=>simp [intOf];omega
    ·obtain rfl:k=m.tasks.length:=by omega
     go_wp2;go_ret;refine ⟨Bn ?_,hI.out.below⟩;have M:=M.out;rw [Dd] at M;unfold Cw;rw [if_neg (by rw [HN.out];simp),if_neg (by unfold MZ.n;omega),if_neg (by unfold MZ.n;rw [a6.out];simp;omega),if_neg (by rw [M];simp)]
theorem setCells_nil (w:World) (b off:Nat):w.setCells b off []=w:=by
 unfold World.setCells;rfl
theorem CL (w:World) (base:Nat) (t ty e:TypeId) (i:TypeInfo) (z:Value) (bytes:Nat) (ht:Tryz.prog.underlying t=some (.slice e)) (O:Tryz.prog.info? e=some i) (hz:i.zero=some z)
  (d:i.size=1) (K:i.bytes=bytes) (M:z.cells.size=1)
  (v:Value) (n:Nat) (xs:List Value) (G:w.ownsRow base e 1 v n xs) (u:Value) (m:Nat) (news:List Value) (hu:Bd w ok 1 u m news) (h1:∀u∈news,u.oneCell'=true)
  (J:n+m<=maxLen) (D:(n+m)*bytes<=140737488355328) (I:base<=w.heap.size):
  ∃v' w',(Builtin.append_ #[t,t] ty #[v,u]).run Tryz.prog w=.ok v' w'/\w'.ownsRow base e 1 v' (n+m) (xs++news)/\w.grownBy w' v.ownBlock/\(v'.ownBlock=v.ownBlock\/v'.ownBlock=some w.heap.size):=by
 obtain ⟨A,c,rfl,hc,hl,E⟩:=hu;rcases A with _ | a
 ·have hm:m=0:=by
   rcases DB m with h | h
   ·exact h
   ·obtain ⟨b,off,e,_⟩:=E h;cases e
  subst hm;have hn:news=[]:=Dj (by simpa using hl);subst hn;refine ⟨v,w,?_,by simpa using G,⟨rfl,rfl,rfl,CS _,fun _ _ _=>rfl⟩,.inl rfl⟩;rcases G.2 with ⟨rfl,rfl⟩ | ⟨g,cap,cur,rfl,a7,hg,b1,a8,a9,a4⟩
  ·simp [Builtin.append_,run_underlying ht,sizeOf,typeInfo,O,d,Builtin.lenOf,Builtin.firstCells,loadCells,loadCellsFrom]
  ·have h:=run_append_room_src (P:=Tryz.prog) w t t ty e i ht O g 0 n cap (.slice none 0 c) 0 [] (by rw [d];exact Src.ofNil w ht c) (by omega) (by simp) (by simp);rw [setCells_nil] at h;simpa using h
 ·rcases DB m with h0 | hpos
  ·subst h0;have hn:news=[]:=Dj (by simpa using hl);subst hn;obtain ⟨v',w',h1,U,V,h4,h5⟩:=run_append_own_at (P:=Tryz.prog) w base t ty e i z 1 bytes ht O hz d K M (by decide) v n xs G a 0 c [] (by simp) (by simp) (by simp) J D I;exact ⟨v',w',h1,U,V,h5⟩
  ·obtain ⟨b,off,he,_,a1⟩:=E hpos;injection he with he;subst he;obtain ⟨v',w',h1,U,V,h4,h5⟩:=run_append_own_at (P:=Tryz.prog) w base t ty e i z 1 bytes ht O hz d K M (by decide) v n xs G ⟨b,off,none⟩ m c news (by simpa using hl) (fun j u hj=>by rw [Addr.add_lit];exact a1 j u hj) h1 J D I;exact ⟨v',w',h1,U,V,h5⟩
theorem Ca {a:Act} {K:Act->World->Prop} (W:World) (s x:Operand)
  (ho:o.op=.call { callee:=.builtin .append,args:=#[s,x],argTypes:=#[39,39] }) (base:Nat) (l l2:List Int) (v u:Value) (hs:a.eval s=v) (hx:a.eval x=u)
  (D:zK W base v l) (E:zk W ok u l2) (d:base<=W.heap.size) (hl:l.length+l2.length<=1000000000000)
  (h:∀v' w',zK w' base v' (l++l2)->Hid (W.grownBy w' v.ownBlock)->Hid (v'.ownBlock=v.ownBlock\/v'.ownBlock=some W.heap.size)->K (a.put o.dst v') w'):Oper.wp Tryz.prog o a W K Q:=by
 obtain ⟨i0,V,G,I,J⟩:=info_parts Tryz.infoInt
 obtain ⟨v',w',hr,M,O,U⟩:=CL (ok:=ok) W base 39 o.type 3 i0 (.int .i64 0) 8 Tryz.underlying39 V G I J rfl v _ _ D u _ _ E (by
  intro u E;obtain ⟨_,_,rfl⟩:=List.mem_map.1 E;rfl) (by unfold maxLen;omega) (by omega) d
 unfold Oper.wp execOp;simp only [ho,resolve,invoke,builtin,Sem.run_bind,Sem.run_pure,Result.andThen_ok,List.map_toArray,List.map_cons,List.map_nil,hs,hx,hr];refine h v' w' ?_ O U;unfold zK;rw [DG,Da];exact M
theorem BZ {a:Act} (E:o.guard=none) (W:World) (s x:Operand)
  (O:o.op=.call { callee:=.builtin .append,args:=#[s,x],argTypes:=#[39,39] }) (base:Nat) (l l2:List Int) (v u:Value) (U:a.eval s=v) (hx:a.eval x=u)
  (D:zK W base v l) (V:zk W ok u l2) (d:base<=W.heap.size) (M:l.length+l2.length<=1000000000000)
  (h:∀v' w',zK w' base v' (l++l2)->Hid (W.grownBy w' v.ownBlock)->Hid (v'.ownBlock=v.ownBlock\/v'.ownBlock=some W.heap.size)->wpList Tryz.prog ops Q rest (a.put o.dst v') w'):wpList Tryz.prog ops Q (o :: rest) a W:=by
 refine wpList_plain E fun K J=>?_
 exact Ca W s x O base l l2 v u U hx D V d M fun v' w' h1 G I=>J _ _ (h v' w' h1 G I)
theorem own_base {v:Value} (h:zK W B v l) (d:v.ownBlock=some k):B<=k:=by
 rcases h.2 with ⟨rfl,_⟩ | ⟨g,cap,cur,rfl,D,_⟩
 ·cases d
 ·have d:some g=some k:=d;injection d with d;omega
theorem own_empty (W:World) (B:Nat) (d:B<=W.heap.size):zK (W.alloc (.cells #[] 3)) B (.slice (some ⟨W.heap.size,0,none⟩) 0 0) []:=
 ⟨rfl,.inr ⟨W.heap.size,0,#[],rfl,d,DD W _,CS _,by decide,rfl,rfl⟩⟩
theorem AW {w':World} {v:Value} (h:Below B a W) (D:Hid (W.grownBy w' v.ownBlock)) (d:B<=W.heap.size) (E:∀k,v.ownBlock=some k->B<=k):Below B a w':=h.grown D.out d E
def zc (w w':World):Prop:=Below w.heap.size w w'
theorem zc.refl (w:World):zc w w:=Below.refl _ _
theorem zc.trans {b c:World} (h:zc a b) (d:zc b c):zc a c:=Bg h d (CS _)
theorem zc.alloc {a b:World} (h:zc a b) (o:Obj):zc a (b.alloc o):=Below.alloc h h.size o
theorem zc.drew {a b:World} (h:zc a b):zc a b.drew:=Below.drew h
theorem zc.drewN {a b:World} (h:zc a b) (n:Nat):zc a (b.drewN n):=Cz h n
theorem zc.cell {w W:World} {p:Addr} {v:Value} (h:w.cell? p=some v) (hW:zc w W):W.cell? p=some v:=(Below.cell hW (zl h)).trans h
theorem zc.rule {w:World} {p:Addr} {v:Value} (h:w.cell? p=some v):∀W,zc w W->W.cell? p=some v:=fun _ hW=>hW.cell h
theorem zc.lt {w:World} (h:zc w W) {g:Nat} (d:g<w.heap.size):g<W.heap.size:=Dt d h.size
structure Mk (w1 w:World) (v:Value) (l:List Int):Prop where
 own:zK w w1.heap.size v l
 ext:zc w1 w
theorem Mk.nil (w1:World):Mk w1 w1 (.slice none 0 0) []:=⟨World.ownsRow_nil _ _ _ _,zc.refl _⟩
theorem Mk.app {w w':World} {v:Value} (h:Mk w1 w v l) (E:zK w' w1.heap.size v' l') (d:Hid (w.grownBy w' v.ownBlock)):Mk w1 w' v' l':=
 ⟨E,AW h.ext d h.ext.size (fun k D=>own_base h.own D)⟩
theorem Mk.more {w w':World} {v:Value} (h:Mk w1 w v l) (d:zc w w'):Mk w1 w' v l:=
 ⟨h.own.kept (row:=none) ⟨d.os,d.tape,d.output,d.size,fun i D _=>d.block i D⟩ (by cases h:v.ownBlock <;> simp),h.ext.trans d⟩
theorem Mk.alloc {w1 w:World} {v:Value} {l:List Int} (h:Mk w1 w v l) (o:Obj):Mk w1 (w.alloc o) v l:=h.more ((zc.refl _).alloc o)
theorem Mk.drew {w1 w:World} {v:Value} {l:List Int} (h:Mk w1 w v l):Mk w1 w.drew v l:=⟨h.own,h.ext.drew⟩
theorem Mk.drewN {w1 w:World} {v:Value} {l:List Int} (h:Mk w1 w v l) (n:Nat):Mk w1 (w.drewN n) v l:=⟨h.own,h.ext.drewN n⟩
theorem Mk.cast {w:World} {v:Value} (h:Mk w1 w v l) (e:l'=l):Mk w1 w v l':=e ▸ h
theorem Mk.ints {w:World} {v:Value} (h:Mk w1 w v l):zk w (fun b=>w1.heap.size<=b) v l:=Bd.of_own h.own
theorem Mk.slice {w1 w:World} {v:Value} {l:List Int} (h:Mk w1 w v l):∃A c,v=.slice A l.length c/\l.length<=c:=by
 obtain ⟨A,c,e,d,_⟩:=h.ints;exact ⟨A,c,e,d⟩
theorem zc.mono_mk {w w':World} {v:Value} (h:zc w w1) (hm:Mk w1 w' v l):Mk w w' v l:=⟨hm.own.mono h.size,h.trans hm.ext⟩
theorem AM {w:World} {v:Value} (h:zK w B v l):∃A c,v=.slice A l.length c/\l.length<=c:=by
 obtain ⟨A,c,e,d,_⟩:=Bd.of_own h;exact ⟨A,c,e,d⟩
theorem own_at {w:World} {c:Nat} (h:zK w B (.slice A n c) l) (G:k<l.length):∃b,A=some ⟨b,0,none⟩/\B<=b/\w.cell? ⟨b,k,none⟩=some (.int .i64 l[k]):=by
 obtain ⟨g,cap,J,E,I⟩:=World.ownsRow.form h (by omega);injection J with h1 d D;subst h1 d D;refine ⟨g,rfl,E,?_⟩;rw [World.ownsRow.cellAt h k (by omega)];simp [G]
theorem zX (W:World) (v:Value) (t:TypeId) {g:Nat} (h:g=W.heap.size):(W.alloc (.cells #[v] t)).cell? ⟨g,0,none⟩=some v:=by
 subst h;unfold World.cell?;simp only [DD];rfl
end
section
open Go.RowKit Go.Shelf
def sStr_ren:Go.Shelf.Ren:=⟨fun | 169=>34 | n=>n,fun | 70=>81 | 9=>9 | 0=>0 | 72=>83 | 37=>51 | 127=>122 | 3=>3 | 5=>5 | n=>n,fun | n=>n⟩
theorem sStr:Go.Proofs.Lays.n169 Tryz.prog sStr_ren:=by
 constructor
 iterate 4 (all_goals first | kernel_rfl | (intro _;kernel_rfl) | exact ⟨_,by decide,by kernel_rfl⟩ | constructor)
def sItoa_ren:Go.Shelf.Ren:=⟨fun | 171=>79 | 243=>122 | 246=>143 | 283=>155 | 284=>156 | 285=>157 | 286=>158 | 129=>172 | 317=>174 | 318=>175 | 319=>176 | 320=>177 | 337=>190 | 338=>191 | n=>n,fun | 3=>3 | 9=>9 | 2=>2 | 4=>4 | 171=>197 | 0=>0 | 53=>174 | 37=>51 | 5=>5 | 173=>200 | 212=>213 | 51=>211 | 20=>20 | 213=>214 | 46=>137 | 232=>237 | 233=>238 | n=>n,fun | 17=>0 | 18=>4 | 19=>5 | n=>n⟩
theorem sItoa:Go.Proofs.LaysM.n171 Tryz.prog sItoa_ren:=by
 constructor
 iterate 4 (all_goals first | kernel_rfl | (intro _;kernel_rfl) | exact ⟨_,by decide,by kernel_rfl⟩ | constructor)
def sAtoi_ren:Go.Shelf.Ren:=⟨fun | 172=>146 | 244=>160 | 245=>161 | 247=>179 | 279=>180 | 280=>181 | 281=>182 | 282=>183 | 287=>196 | 316=>144 | 171=>79 | 205=>197 | 321=>201 | 322=>202 | 243=>122 | 246=>143 | 283=>155 | 284=>156 | 285=>157 | 286=>158 | 129=>172 | 317=>174 | 318=>175 | 319=>176 | 320=>177 | 337=>190 | 338=>191 | n=>n,fun | 9=>9 | 3=>3 | 75=>85 | 76=>86 | 4=>4 | 5=>5 | 167=>216 | 37=>51 | 0=>0 | 85=>217 | 2=>2 | 168=>219 | 53=>174 | 175=>229 | 46=>137 | 210=>232 | 127=>122 | 145=>245 | 143=>243 | 21=>21 | 171=>197 | 173=>200 | 212=>213 | 51=>211 | 20=>20 | 213=>214 | 232=>237 | 233=>238 | 80=>90 | n=>n,fun | 15=>2 | 16=>3 | 17=>0 | 18=>4 | 19=>5 | n=>n⟩
theorem sAtoi:Go.Proofs.LaysC.n172 Tryz.prog sAtoi_ren:=by
 constructor
 iterate 4 (all_goals first | kernel_rfl | (intro _;kernel_rfl) | exact ⟨_,by decide,by kernel_rfl⟩ | constructor)
def sIdx_ren:Go.Shelf.Ren:=⟨fun | 219=>178 | 217=>192 | 225=>193 | 224=>194 | 267=>195 | 266=>199 | 314=>200 | n=>n,fun | 9=>9 | 3=>3 | 4=>4 | 5=>5 | 46=>137 | 146=>239 | 51=>211 | n=>n,fun | 1=>1 | n=>n⟩
theorem sIdx:Go.Proofs.Lays.n219 Tryz.prog sIdx_ren:=by
 constructor
 iterate 4 (all_goals first | kernel_rfl | (intro _;kernel_rfl) | exact ⟨_,by decide,by kernel_rfl⟩ | constructor)
theorem sExt:Builder.Extra Tryz.prog sStr_ren:=by
 constructor
 iterate 4 (all_goals first | kernel_rfl | (intro _;kernel_rfl) | decide | constructor)
end
section
open Go.RowKit
attribute [local go_sem ↓] Go.wp_at_zero Go.wp_at_succ
theorem Tryz.infoBool:(Tryz.prog.info? 4).map (fun i=>(i.zero,i.size,i.bytes))=some (some (.bool false),1,1):=by kernel_rfl
open Classical in
noncomputable def reachL (m:MZ) (t:Nat) (from_ used:List Int):List Int:=((List.range m.n.toNat).map Int.ofNat).filter (fun x=>decide (RP m t from_ used x))
theorem mem_reachL (d:Dim m):x∈reachL m t from_ used↔RP m t from_ used x:=by
 unfold reachL;simp only [DM,List.mem_map,DN,Dc];constructor
 ·rintro ⟨_,h⟩;exact h
 ·intro h;have D:=h.range d;exact ⟨⟨x.toNat,by omega,by simp;omega⟩,h⟩
structure Al (m:MZ):Prop where
 dim:Dim m
 fl:m.free.length=m.tasks.length
 fn:∀f∈m.free,(f.length:Int)=m.n
 tk:m.tasks.length<=6
 tn:∀t∈m.tasks,∀x,x∈t.1\/x∈t.2->0<=x/\x<m.n
theorem Al.of (h:Cw m=0):Al m:=by
 unfold Cw at h
 split at h
 ·cases h
 ·rename_i h1
  have D:[m.w,m.h,m.l].any side=false:=by simpa using h1
  obtain ⟨⟨a1,a2⟩,⟨b1,b2⟩,c1,c2⟩:=sides D
  split at h
  ·cases h
  ·rename_i O
   split at h
   ·cases h
   ·rename_i E
    split at h
    ·cases h
    ·rename_i M
     have d:m.n<=300/\m.tasks.length<=6:=by omega
     have G:m.free.length=m.tasks.length:=by
      by_cases h:m.free.length=m.tasks.length
      ·exact h
      ·exact absurd (.inl h) E
     have I:(m.up.length:Int)=m.n:=by
      by_cases h:(m.up.length:Int)=m.n
      ·exact h
      ·exact absurd (.inr (.inl h)) E
     have J:∀f∈m.free,(f.length:Int)=m.n:=by
      intro f hf;by_cases h:(f.length:Int)=m.n
      ·exact h
      ·exact absurd (.inr (.inr (DP.2 ⟨f,hf,by simpa using h⟩))) E
     refine ⟨⟨a1,a2,b1,b2,c1,c2,d.1,I⟩,G,J,d.2,fun t ht x hx=>?_⟩;by_cases K:zU m.n x=true
     ·exfalso
      apply M;refine DP.2 ⟨t,ht,?_⟩;rw [DO];rcases hx with hx | hx
      ·exact .inl (DP.2 ⟨x,hx,K⟩)
      ·exact .inr (DP.2 ⟨x,hx,K⟩)
     ·simp [zU] at K;omega
theorem Al.n1 (g:Al m):1<=m.w*m.h*m.l:=by have:=g.dim.layer;omega
open Classical in
noncomputable def reachO (m:MZ) (t:Int) (from_ used:List Int):List Int:=if Cw m=0/\0<=t/\t<m.tasks.length then reachL m t.toNat from_ used else []
end
end Go.Proofs.YtfjjdmpndmbfoaaGreatDoor
