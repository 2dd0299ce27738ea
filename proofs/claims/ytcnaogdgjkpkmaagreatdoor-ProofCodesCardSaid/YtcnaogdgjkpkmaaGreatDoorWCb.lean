import Derived.Test.YtcnaogdgjkpkmaaGreatDoorWCa
import Derived.Maps.AppendAt
import Derived.WalkSmall
import Derived.Deep.LoopGhost
import Derived.Deep.AppendSrc
import Derived.Deep.AppendLies
import Derived.Shelf.Strings.BuilderK
import Derived.Shelf.LaysM
import Derived.Shelf.Strconv.Itoa3
import Derived.Shelf.LaysC
import Derived.Shelf.Strconv.ErrVarAll
import Derived.Shelf.Strings.Search2
import Derived.Lib.UnsafeStr
import Derived.Lib.AppendStr
import Derived.Deep.OwnRows
import Derived.BigQuiet
import Derived.Deep.RegionHeld3
import Derived.Deep.DrawnRows
set_option linter.unusedVariables false
set_option linter.unusedSimpArgs false
set_option maxRecDepth 100000
set_option maxHeartbeats 16000000
namespace Go.Proofs.YtcnaogdgjkpkmaaGreatDoor
variable {K:Act->World->Prop} {ops:Array Oper} {c i:Array Value} {Q:Exit->Act->World->Prop} {x:Int} {from_ l l' used:List Int} {rest:List Oper} {m:MZ} {B j k n t:Nat} {ok:Nat->Prop} {o:Oper} {A:Option Addr} {v':Value} {W a b w1 wk:World}
section
open Go.RowKit
theorem AG {w w':World} {g:Nat} (h:Below B a w) (D:w.grownBy w' (some g)) (r:B<=w.heap.size) (z:B<=g):Below B a w':=
 h.grown D r (fun k d=>by injection d with d;omega)
theorem setOf_calls {v:Value} (w:World) (h:zk w ok v l) (hl:l.length<=20000000000000):
  Calls Tryz.prog 125 #[v] w fun e w'=>∃s,e=.returned (.map (some w.heap.size))/\Below w.heap.size w w'/\zv w' w.heap.size s/\∀x,x∈s↔x∈l:=by
 obtain ⟨A,c,rfl,hc,L⟩:=h;have U:=zh L;clear L;have a0:=@run_makeMap Tryz.prog
 go_enter Tryz.func125,Tryz.ntmps125
 go_wp2;go_loopw [9] (fun i wr=>∃k s,k<=l.length/\i=.int .i64 (k:Nat)/\Hid (Below w.heap.size w wr)/\Hid (zv wr w.heap.size s)/\Hid (∀x,x∈s↔x∈l.take k)) (fun i _=>l.length - (intOf i).toNat)
 case atStart=>exact ⟨0,[],Do _,rfl,(Below.refl _ _).alloc (CY _) _,zv.new w,by simp [Hid]⟩
 case round=>
  obtain ⟨k,s,hk,rfl,E,M,O⟩:=hrel;by_cases r:k<l.length
  ·obtain ⟨b,off,rfl,_,d⟩:=Am (U.out.keep (zK.of_below E.out)) r r;obtain ⟨y,J⟩:=DX (l[k]);rw [<-J] at d;have V:=zh J;clear J
   go_wp2_with (at_mapUpdate;refine wpSetAdd rfl _ _ _ _ rfl Tryz.underlying95 w.heap.size s y rfl rfl rfl M.out ?_)
   intro w1 D z;have I:=zh D;clear D;have G:=zh z;clear z;go_wp2;go_roundw
   case rel=>exact ⟨k+1,ins s y,by omega,by go_num,AG E.out G.out E.out.size (CY _),I.out,fun x=>by
    rw [mem_ins,zQ r,O.out,V.out]⟩
   case measure=>simp [intOf];omega
  ·obtain rfl:k=l.length:=by omega
   go_wp2;go_ret;exact ⟨s,rfl,E.out,M.out,fun x=>by have:=O.out x;rwa [Dl] at this⟩
def zT (w:World) (B:Nat) (v:Value) (l:List Int):Prop:=w.ownsRow B 3 1 v l.length (l.map (Value.int .i64))
theorem Cf {a:Act} (z:o.guard=none) (s y:Operand)
  (O:o.op=.call { callee:=.builtin .append,args:=#[s,y],argTypes:=#[24,24] }) (W:World) (l:List Int) (x:Int) (B g c:Nat) (v:Value) (U:a.eval s=v)
  (V:a.eval y=.slice (some ⟨g,0,none⟩) 1 c) (d:W.ownsRow B 3 1 v l.length (l.map (Value.int .i64))) (L:W.cell? ⟨g,0,none⟩=some (.int .i64 x)) (J:B<=W.heap.size) (hl:l.length<=1000000000000)
  (h:∀v' w',zT w' B v' (l++[x])->Hid (W.grownBy w' v.ownBlock)->Hid (v'.ownBlock=v.ownBlock\/v'.ownBlock=some W.heap.size)->wpList Tryz.prog ops Q rest (a.put o.dst v') w'):wpList Tryz.prog ops Q (o :: rest) a W:=by
 obtain ⟨i0,M,D,E,G⟩:=info_parts Tryz.infoInt;refine wpList_append_own_at _ z _ _ 24 O B 3 i0 (.int .i64 0) 1 8 Tryz.underlying24 M D E G rfl (by decide) _ _ _ U d ⟨g,0,none⟩ 1 c [.int .i64 x] V rfl ?_ ?_ ?_ ?_ J ?_
 ·intro j u r
  match j,r with
  | 0,r=>
   have:u=.int .i64 x:=by simpa using r.symm
   rw [this];exact L
 ·intro u r;have:u=.int .i64 x:=by simpa using r
  rw [this];rfl
 ·unfold maxLen;omega
 ·omega
 ·intro v' w' h1 h2 _ I;refine h v' w' ?_ h2 I;unfold zT;rw [map_snoc,Dh];exact h1
structure RI (w wr:World) (g:Nat) (mv:Array Value) (s todo:List Int) (v:Value):Prop where
 below:Below w.heap.size w wr
 ge:w.heap.size<=g
 box:ze wr g 35 mv
 set:zv wr (g+1) s
 own:wr.ownsRow (g+2) 3 1 v todo.length (todo.map (Value.int .i64))
section
variable {w wr w':World} {g:Nat} {mv:Array Value} {s todo:List Int} {v:Value}
theorem RI.lt (h:RI w wr g mv s todo v):g+1<wr.heap.size:=zb h.set
theorem RI.call (h:RI w wr g mv s todo v) (d:Below wr.heap.size wr w'):RI w w' g mv s todo v:=
 ⟨Be h.below d (CY _),h.ge,h.box.below d (by have:=h.lt;omega),h.set.below d,
  h.own.kept (row:=none) ⟨d.os,d.tape,d.output,d.size,fun i r _=>d.block i r⟩ (by cases h:v.ownBlock <;> simp)⟩
theorem RI.alloc (h:RI w wr g mv s todo v) (o:Obj):RI w (wr.alloc o) g mv s todo v:=h.call ((Below.refl _ _).alloc (CY _) _)
theorem RI.add (h:RI w wr g mv s todo v) (r:zv w' (g+1) (ins s x)) (d:wr.grownBy w' (some (g+1))):RI w w' g mv (ins s x) todo v:=
 ⟨AG h.below d h.below.size (by have:=h.ge;omega),h.ge,(d.block g (by have:=h.lt;omega) (fun e=>by injection e;omega)).trans h.box,r,
  h.own.kept d (.inr (fun e=>by have:=(h.own.lt _ e).1;omega))⟩
theorem RI.app (h:RI w wr g mv s todo v) (z:w'.ownsRow (g+2) 3 1 v' (todo++[x]).length ((todo++[x]).map (Value.int .i64))) (d:wr.grownBy w' v.ownBlock):RI w w' g mv s (todo++[x]) v':=
 ⟨h.below.grown d h.below.size (fun k r=>by have:=(h.own.lt _ r).1;have:=h.ge;omega),h.ge,
  (d.block g (by have:=h.lt;omega) (fun e=>by have:=(h.own.lt _ e.symm).1;omega)).trans h.box,
  (d.block (g+1) h.lt (fun e=>by have:=(h.own.lt _ e.symm).1;omega)).trans h.set,z⟩
end
theorem look_t {w:World} {g:Nat} (h:zv w g l) (d:x∈l):(Instr.lookup 95 (.map (some g)) (.int .i64 x) false).run Tryz.prog w=.ok (.bool true) w:=by
 have:=run_look h x 95 Tryz.underlying95
 rwa [Db d] at this
theorem look_f {w:World} {g:Nat} (h:zv w g l) (d:x∉l):(Instr.lookup 95 (.map (some g)) (.int .i64 x) false).run Tryz.prog w=.ok (.bool false) w:=by
 have:=run_look h x 95 Tryz.underlying95
 rwa [Dc d] at this
theorem ins_new (h:x∉l):ins l x=l++[x]:=by simp [ins,h]
theorem nodup_snoc (h:l.Nodup) (z:x∉l):(l++[x]).Nodup:=by
 rw [List.nodup_append]
 exact ⟨h,by simp,fun a d b r=>by
  have:b=x:=by simpa using r
  subst this;rintro rfl;exact z d⟩
structure RO (m:MZ) (t:Nat) (from_ used s todo:List Int):Prop where
 nd:s.Nodup
 rp:∀x∈s,RP m t from_ used x
 fr:∀x∈from_,0<=x->x<m.n->x∈s
 sub:∀x∈todo,x∈s
 cl:∀y∈s,y∉todo->∀z∈zo m y,zg m t z=true->z∉used->z∈s
 ln:todo.length<=s.length
structure RJ (m:MZ) (t:Nat) (from_ used s todo:List Int) (x:Int) (j:Nat):Prop where
 nd:s.Nodup
 rp:∀x∈s,RP m t from_ used x
 fr:∀x∈from_,0<=x->x<m.n->x∈s
 sub:∀x∈todo,x∈s
 xs:x∈s
 cl:∀y∈s,y∉todo->y≠x->∀z∈zo m y,zg m t z=true->z∉used->z∈s
 cx:∀z∈(zo m x).take j,zg m t z=true->z∉used->z∈s
 ln:todo.length<=s.length
theorem RO.pop {s todo:List Int} (h:RO m t from_ used s (todo++[x])):RJ m t from_ used s todo x 0:=
 ⟨h.nd,h.rp,h.fr,fun y r=>h.sub y (by simp [r]),h.sub x (by simp),fun y r z d=>h.cl y r (by simp [z,d]),by simp,by have:=h.ln;simp at this;omega⟩
theorem RJ.skip {s todo:List Int} (h:RJ m t from_ used s todo x j) (r:j<(zo m x).length) (D:(zo m x)[j]∈s\/zg m t (zo m x)[j]=false\/(zo m x)[j]∈used):
  RJ m t from_ used s todo x (j+1):=
 ⟨h.nd,h.rp,h.fr,h.sub,h.xs,h.cl,fun z E hf d=>by
  rcases (zQ r z).1 E with h1 | h1
  ·exact h.cx z h1 hf d
  ·subst h1;rcases D with h2 | h2 | h2
   ·exact h2
   ·rw [hf] at h2;cases h2
   ·exact absurd h2 d,h.ln⟩
theorem RJ.push {s todo:List Int} (h:RJ m t from_ used s todo x j) (I:j<(zo m x).length) (L:(zo m x)[j]∉s) (hf:zg m t (zo m x)[j]=true) (M:(zo m x)[j]∉used):
  RJ m t from_ used (s++[(zo m x)[j]]) (todo++[(zo m x)[j]]) x (j+1):=
 ⟨nodup_snoc h.nd L,fun y hy=>by
   rw [DK,DD] at hy;rcases hy with hy | rfl
   ·exact h.rp y hy
   ·exact (h.rp x h.xs).step (CZ I) hf M,
  fun y hy h0 h1=>by simp [h.fr y hy h0 h1],
  fun y hy=>by
   rw [DK,DD] at hy⊢;rcases hy with hy | hy
   ·exact .inl (h.sub y hy)
   ·exact .inr hy,
  by simp [h.xs],
  fun y hy D E z G d r=>by
   rw [DK,DD] at hy D;rcases hy with hy | hy
   ·simp [h.cl y hy (fun J=>D (.inl J)) E z G d r]
   ·exact absurd (.inr hy) D,
  fun z G d r=>by
   rcases (zQ I z).1 G with h1 | h1
   ·simp [h.cx z h1 d r]
   ·simp [h1],by have:=h.ln;simp;omega⟩
theorem RJ.done {s todo:List Int} (h:RJ m t from_ used s todo x j) (D:(zo m x).length<=j):RO m t from_ used s todo:=
 ⟨h.nd,h.rp,h.fr,h.sub,fun y G E z I hf r=>by
  by_cases d:y=x
  ·subst d;exact h.cx z (by rwa [List.take_of_length_le D]) hf r
  ·exact h.cl y G E d z I hf r,h.ln⟩
theorem RO.end_ {s:List Int} (h:RO m t from_ used s []) (x:Int):x∈s↔RP m t from_ used x:=
 ⟨h.rp x,fun d=>d (·∈s) h.fr (fun y z D E hf r=>h.cl y D (by simp) z E hf r)⟩
theorem own_cap {w:World} {base:Nat} {e:TypeId} {size g cap:Nat} {xs:List Value} (h:w.ownsRow base e size (.slice (some ⟨g,0,none⟩) n cap) n xs):n<=cap:=by
 rcases h.2 with ⟨h0,_⟩ | ⟨g',cap',cur,r,_,_,d,_⟩
 ·cases h0
 ·cases r;exact d
theorem Cl (m:MZ) (x:Int):(zo m x).length<=6:=by
 have h (c:Bool) (y:Int) (l:List Int) (k:Nat) (d:l.length<=k):(ap c y l).length<=k+1:=Da (ap_len c y l) (by omega);unfold zo;exact h _ _ _ 5 (h _ _ _ 4 (h _ _ _ 3 (h _ _ _ 2 (h _ _ _ 1 (h _ _ _ 0 (by simp))))))
theorem reach_calls {ok':Nat->Prop} {vm vf:Value} {gu:Nat} (t:Nat) (w:World) (hm:zL w ok vm m) (d:Dim m) (ht:t<m.free.length) (f3:∀f∈m.free,(f.length:Int)=m.n)
  (hf:zk w ok' vf from_) (hl:from_.length<=20000000000000) (hu:zv w gu used):
  Calls Tryz.prog 124 #[vm,.int .i64 t,vf,.map (some gu)] w fun e w'=>∃s,e=.returned (.map (some (w.heap.size+1)))/\Below w.heap.size w w'/\zv w' (w.heap.size+1) s/\∀x,x∈s↔RP m t from_ used x:=by
 have f6:=hm;obtain ⟨vfr,vup,vts,rfl,a5,_,_⟩:=hm;obtain ⟨vsf,⟨Af,cf,rfl,l3,f9⟩,f2⟩:=a5;obtain ⟨A,c,rfl,hc,hr⟩:=hf;obtain ⟨l6,l7⟩:=d.layer;have D:=zh d;obtain ⟨w1,w2,l4,l5,ll1,ll2,n1,j0⟩:=d;have HM:=zh f6;clear f6;have h5:=zh f9;clear f9;have g9:=zh f2;clear f2;have HR:=zh hr;clear hr;have HU:=zh hu;clear hu;have h4:=zh f3;clear f3 j0;have hN:0<=m.w*m.h*m.l:=by omega
 have l9:=@run_makeMap Tryz.prog
 go_enter Tryz.func124,Tryz.ntmps124
 go_wp2
 have e8:RI w ((w.alloc (.cells #[.int .i64 m.w,.int .i64 m.h,.int .i64 m.l,.slice Af m.free.length cf,vup,vts] 35)).alloc (.map #[] 0)) w.heap.size #[.int .i64 m.w,.int .i64 m.h,.int .i64 m.l,.slice Af m.free.length cf,vup,vts] [] [] (.slice none 0 0):=by
  refine ⟨((Below.refl _ _).alloc (CY _) _).alloc (by simp) _,CY _,?_,?_,World.ownsRow_nil _ _ _ _⟩
  ·exact ze.alloc (DI w _) _
  ·have:=zv.new (w.alloc (.cells #[.int .i64 m.w,.int .i64 m.h,.int .i64 m.l,.slice Af m.free.length cf,vup,vts] 35));simpa using this
 go_loopw [10,19] (fun v i wr=>∃k s,k<=from_.length/\i=.int .i64 (k:Nat)/\Hid (RI w wr w.heap.size #[.int .i64 m.w,.int .i64 m.h,.int .i64 m.l,.slice Af m.free.length cf,vup,vts] s s v)/\Hid (s.Nodup)/\Hid (∀x,x∈s↔x∈from_.take k/\0<=x/\x<m.n)) (fun _ i _=>from_.length - (intOf i).toNat)
 case atStart=>exact ⟨0,[],Do _,rfl,e8,List.nodup_nil,by simp [Hid]⟩
 clear e8
 case round=>
  obtain ⟨k,s,hk,rfl,hI,hnd,hx⟩:=hrel;by_cases r:k<from_.length
  ·obtain ⟨b,off,rfl,_,E⟩:=Am (HR.out.keep (zK.of_below hI.out.below)) r r;obtain ⟨y,hy⟩:=DX (from_[k]);rw [<-hy] at E;have HY:=zh hy;clear hy;obtain ⟨m0,m1,m2,m3,m4,m5⟩:=zt hI.out.box;by_cases g4:0<=y
   ·by_cases j3:y<m.w*m.h*m.l
    ·have c6:∀W:World,Calls Tryz.prog 57 #[.agg #[.int .i64 m.w,.int .i64 m.h,.int .i64 m.l,.slice Af m.free.length cf,vup,vts]] W _:=fun W=>zR m.w m.h m.l _ vup vts W (by omega) (by omega)
     have b9:=zh c6;clear c6;by_cases z:y∈s
     ·go_wp2_with fail
      refine (b9.out _).mono ?_;rintro e w' ⟨rfl,hb⟩;have V:=zh (hI.out.call hb);have a7:=look_t V.out.set z
      go_wp2_with fail
      go_roundw
      case rel=>exact ⟨k+1,s,by omega,by go_num,V,hnd,fun x=>by
       rw [zQ r,hx.out,<-HY.out];constructor
       ·rintro ⟨h1,h2⟩;exact ⟨.inl h1,h2⟩
       ·rintro ⟨h1 | rfl,h2⟩
        ·exact ⟨h1,h2⟩
        ·exact (hx.out x).1 z⟩
      case measure=>simp [intOf];omega
     ·go_wp2_with fail
      refine (b9.out _).mono ?_;rintro e w' ⟨rfl,hb⟩;have V:=zh (hI.out.call hb);have a7:=look_f V.out.set z
      go_wp2_with (at_mapUpdate;refine wpSetAdd rfl _ _ _ _ rfl Tryz.underlying95 (w.heap.size+1) s y rfl rfl rfl V.out.set ?_)
      intro wa b1 M;have J:=zh (V.out.add b1 M);have a0:wa.heap.size=wa.heap.size:=rfl;have i5:w.heap.size+2<=wa.heap.size:=J.out.lt;have c8:=BL hnd.out m.n (fun x j2=>((hx.out x).1 j2).2);have i6:s.length<=300:=by unfold MZ.n at c8;omega
      clear b1 M a7 c8
      go_wp2_with (at_builtin;refine Cf rfl _ _ rfl _ s y (w.heap.size+2) wa.heap.size 1 _ rfl rfl (J.out.own.alloc _) ?c1 ?c2 ?c3 ?_)
      case c2=>(first | omega | (simp;omega))
      case c3=>omega
      intro v' wb a9 O _;have d8:=zh ((J.out.alloc _).app a9 O.out);clear a9 O;go_wp2;go_roundw
      case rel=>exact ⟨k+1,s++[y],by omega,by go_num,by have:=d8.out;rwa [ins_new z] at this,nodup_snoc hnd.out z,fun x=>by
       rw [DK,DD,zQ r,hx.out,<-HY.out];constructor
       ·rintro (⟨h1,h2⟩ | rfl)
        ·exact ⟨.inl h1,h2⟩
        ·exact ⟨.inr rfl,g4,j3⟩
       ·rintro ⟨h1 | rfl,h2⟩
        ·exact .inl ⟨h1,h2⟩
        ·exact .inr rfl⟩
      case measure=>simp [intOf];omega
    ·go_wp2_with (go_at_call 57;refine (zR _ _ _ _ _ _ _ (by omega) (by omega)).mono ?_;rintro e w' ⟨rfl,hb⟩)
     go_roundw
     case rel=>exact ⟨k+1,s,by omega,by go_num,hI.out.call ‹_›,hnd,fun x=>by
      rw [zQ r,hx.out,<-HY.out];constructor
      ·rintro ⟨h1,h2⟩;exact ⟨.inl h1,h2⟩
      ·rintro ⟨h1 | rfl,h2,h3⟩
       ·exact ⟨h1,h2,h3⟩
       ·unfold MZ.n at h3;omega⟩
     case measure=>simp [intOf];omega
   ·go_wp2;go_roundw
    case rel=>exact ⟨k+1,s,by omega,by go_num,hI,hnd,fun x=>by
     rw [zQ r,hx.out,<-HY.out];constructor
     ·rintro ⟨h1,h2⟩;exact ⟨.inl h1,h2⟩
     ·rintro ⟨h1 | rfl,h2,h3⟩
      ·exact ⟨h1,h2,h3⟩
      ·omega⟩
    case measure=>simp [intOf];omega
  ·obtain rfl:k=from_.length:=by omega
   have b3:Hid (∀x,x∈s↔x∈from_/\0<=x/\x<m.n):=fun x=>by have:=hx.out x;rwa [Dl] at this
   clear hx;have hO:Hid (RO m t from_ used s s):=⟨hnd.out,fun x h=>RP.base ((b3.out x).1 h).1 ((b3.out x).1 h).2.1 ((b3.out x).1 h).2.2,fun x h h0 h1=>(b3.out x).2 ⟨h,h0,h1⟩,fun x h=>h,fun y h hn=>absurd h hn,CY _⟩;clear b3 hnd r hk;go_wp2
   go_loopg [10] (2*(m.n.toNat - s.length)+s.length) (fun gk v wr=>∃s todo,gk=2*(m.n.toNat - s.length)+todo.length/\Hid (RI w wr w.heap.size #[.int .i64 m.w,.int .i64 m.h,.int .i64 m.l,.slice Af m.free.length cf,vup,vts] s todo v)/\Hid (RO m t from_ used s todo))
   case atStart=>exact ⟨s,s,rfl,hI,hO⟩
   clear hI hO
   case round=>
    obtain ⟨s,todo,rfl,hI,hO⟩:=hrel;obtain ⟨wo,rfl⟩:∃wo:World,wo=wr:=⟨_,rfl⟩;rcases List.eq_nil_or_concat todo with rfl | ⟨td,x,rfl⟩
    ·obtain ⟨A0,c0,hv⟩:∃A0 c0,u10=.slice A0 0 c0:=by
      obtain ⟨A0,c0,hv,_⟩:=Ay.of_own hI.out.own;exact ⟨A0,c0,hv⟩
     subst hv;go_wp2;go_ret;exact ⟨s,rfl,hI.out.below,hI.out.set,hO.out.end_⟩
    ·rw [List.concat_eq_append] at hI hO;obtain ⟨gt,ct,hv,j7,f4⟩:=hI.out.own.form (by simp);subst hv;have e4:(td++[x]).length=td.length+1:=by simp
     try rw [e4]
     have i4:wo.cell? ⟨gt,td.length,none⟩=some (.int .i64 x):=by
      have:=hI.out.own.cellAt td.length (by simp);rw [this];simp
     have hJ:=zh hO.out.pop;have i3:=own_cap hI.out.own;rw [e4] at i3;have i8:=(hO.out.rp x (hJ.out.xs)).range D.out;have i9:=BL hO.out.nd m.n (fun y hy=>(hO.out.rp y hy).range D.out);have m8:=hJ.out.ln;have k3:s.length<=300:=by unfold MZ.n at i9;omega
     obtain ⟨g1,g3⟩:=i8;obtain ⟨m0,m1,m2,m3,m4,m5⟩:=zt hI.out.box
     have d7:Hid (RI w wo w.heap.size #[.int .i64 m.w,.int .i64 m.h,.int .i64 m.l,.slice Af m.free.length cf,vup,vts] s td (.slice (some ⟨gt,0,none⟩) td.length ct)):=by
      have h:=hI.out.own;refine ⟨hI.out.below,hI.out.ge,hI.out.box,hI.out.set,?_⟩;rw [map_snoc,e4] at h;exact ownsRow_pop (by simp) h
     clear hI hO
     go_wp2_with fail
     refine (Cy m x wo (HM.out.keep (zK.of_below d7.out.below)) D.out g1 g3).mono ?_;rintro e wk ⟨v',rfl,f0,e3⟩;have e7:=zh (d7.out.call f0);have f7:=zh (Ay.of_own e3);have j8:=zh e3;clear e3;obtain ⟨A2,c2,j1,l2,c9⟩:=f7.out;subst j1;clear f7;have m7:=Cl m x;have i7:=HM.out;have e6:=zh c9;clear c9;clear i7 m0 m1 m2 m3 m4 m5 i4;have k7:wo.heap.size<=wk.heap.size:=f0.size;go_wp2;go_loopw [10,62] (fun v i wi=>∃j s' todo',j<=(zo m x).length/\i=.int .i64 (j:Nat)/\Hid (RI w wi w.heap.size #[.int .i64 m.w,.int .i64 m.h,.int .i64 m.l,.slice Af m.free.length cf,vup,vts] s' todo' v)/\Hid (RJ m t from_ used s' todo' x j)/\Hid (zK (fun b=>wo.heap.size<=b/\b<wk.heap.size) wk wi)/\Hid (∀k,v.ownBlock=some k->k<wo.heap.size\/wk.heap.size<=k)/\Hid (wk.heap.size<=wi.heap.size)/\Hid (todo'.length+s.length=td.length+s'.length/\s.length<=s'.length)) (fun _ i _=>(zo m x).length - (intOf i).toNat)
     case atStart=>exact ⟨0,s,td,Do _,rfl,e7,hJ,zK.refl _ _,fun k hk=>by
      have:k=gt:=by simpa [Value.ownBlock] using hk.symm
      subst this;exact .inl f4,CY _,rfl,CY _⟩
     clear d7 e7 hJ
     case round=>
      obtain ⟨j,s',todo',hj,rfl,hI,hJ,hS,a3,a0,a8⟩:=hrel;by_cases a6:j<(zo m x).length
      ·obtain ⟨b2,off2,rfl,i0,G⟩:=Am e6.out a6 a6;have a4:=zA G;have E:=(Ci (hS.out b2 ⟨i0,a4⟩ a4)).trans G;clear G;have g5:=Bc D.out g1 g3 (CZ a6);have I:=zh (hJ.out.skip a6);have b0:=zh (hJ.out.push a6);obtain ⟨y,hy⟩:=DX ((zo m x)[j]);rw [<-hy] at E g5 I b0;clear hy;obtain ⟨g4,m9⟩:=g5;obtain ⟨m0,m1,m2,m3,m4,m5⟩:=zt hI.out.box;obtain ⟨bf,off3,uf,rfl,_,c7,i1⟩:=eachAt (h5.out.keep (zK.of_below hI.out.below)) g9.out ht ht;have L:=h4.out _ (CZ ht);obtain ⟨A4,c4,rfl,i2,f8⟩:=i1;have b7:y.toNat<(m.free[t]).length:=by omega
       obtain ⟨b4,off4,rfl,_,U⟩:=Cr (f8.keep (zK.of_below hI.out.below)) b7 b7;have a5:(m.free[t])[y.toNat]=zg m t y:=by simp [zg,ht,b7]
       rw [a5] at U;have k8:=zh a5;clear a5;obtain ⟨nf,e2⟩:=DX ((m.free[t]).length);rw [<-e2] at c7 b7 L i2;have k9:=zh e2;clear e2;have j5:=zh L;clear L;clear f8;have hset:=hI.out.set;have d6:=HU.out.below hI.out.below;by_cases z:y∈s'
       ·have a7:=look_t hset z;go_wp2;go_roundw
        case rel=>exact ⟨j+1,s',todo',by omega,by go_num,hI,I.out (.inl z),hS,a3,a0,a8⟩
        case measure=>simp [intOf];omega
       ·have a7:=look_f hset z;by_cases hf:zg m t y=true
        ·rw [hf] at U;by_cases b8:y∈used
         ·have f5:=look_t d6 b8;have HF:=zh hf;clear hf;go_wp2;go_roundw
          case rel=>exact ⟨j+1,s',todo',by omega,by go_num,hI,I.out (.inr (.inr b8)),hS,a3,a0,a8⟩
          case measure=>simp [intOf];omega
         ·have f5:=look_f d6 b8;have HF:=zh hf;clear hf;have h6:=zh (b0.out z HF.out b8);have d4:=BL hJ.out.nd m.n (fun y hy=>(hJ.out.rp y hy).range D.out);have k4:=hJ.out.ln;have k5:todo'.length<=300:=by unfold MZ.n at d4;omega
          go_wp2_with (at_mapUpdate;refine wpSetAdd rfl _ _ _ _ rfl Tryz.underlying95 (w.heap.size+1) s' y rfl rfl rfl hI.out.set ?_)
          intro wa b1 M;have J:=zh (hI.out.add b1 M)
          have h8:Hid (zK (fun b=>wo.heap.size<=b/\b<wk.heap.size) wk wa):=fun b hb r=>by
           refine (M.block b (Dz r a0.out) (fun e=>?_)).trans (hS.out b hb r);injection e with e;have:=hb.1;omega
          have e5:Hid (wk.heap.size<=wa.heap.size):=Da a0.out M.size;have i5:w.heap.size+2<=wa.heap.size:=J.out.lt;clear b1 M a7 f5 hset d6 m0 m1 m2 m3 m4 m5 c7 U E
          go_wp2_with (at_builtin;refine Cf rfl _ _ rfl _ todo' y (w.heap.size+2) wa.heap.size 1 _ rfl rfl (J.out.own.alloc _) ?d1 ?d2 ?d3 ?_)
          (try case d1=>simp)
          case d2=>(first | omega | (simp;omega))
          case d3=>omega
          intro v' wb a9 O f1;have d8:=zh ((J.out.alloc _).app a9 O.out)
          have h7:Hid (∀k,v'.ownBlock=some k->k<wo.heap.size\/wk.heap.size<=k):=fun k hk=>by
           rcases f1.out with e | e
           ·exact a3.out k (e ▸ hk)
           ·have:k=wa.heap.size+1 - 1+1:=by
             rw [e] at hk;simpa using hk.symm
            have:=e5.out;omega
          have h9:Hid (zK (fun b=>wo.heap.size<=b/\b<wk.heap.size) wk wb):=fun b hb r=>by
           have hz:=e5.out;refine (O.out.block b (by simp;omega) (fun e=>?_)).trans ((Below.heap_alloc wa _ b (by omega)).trans (h8.out b hb r));have h1:=a3.out b e.symm;have h2:=hb.1;omega
          have j4:Hid (wk.heap.size<=wb.heap.size):=by
           have h1:=O.out.size;have h2:=e5.out;simp at h1;show _<=_;omega
          clear a9 O f1;go_wp2;go_roundw
          case rel=>exact ⟨j+1,s'++[y],todo'++[y],by omega,by go_num,by have:=d8.out;rwa [ins_new z] at this,h6,h9,h7,j4,by have h1:=a8.out;show _/\_;simp only [Dh,DV,DW];omega⟩
          case measure=>simp [intOf];omega
        ·have e0:zg m t y=false:=by simpa using hf
         rw [e0] at U;have HF:=zh e0;clear hf e0;go_wp2;go_roundw
         case rel=>exact ⟨j+1,s',todo',by omega,by go_num,hI,I.out (.inr (.inl HF.out)),hS,a3,a0,a8⟩
         case measure=>simp [intOf];omega
      ·have d9:=zh (hJ.out.done (by omega));have d4:=BL d9.out.nd m.n (fun y hy=>(d9.out.rp y hy).range D.out);have l8:=a8.out;go_wp2
       go_roundg (2*(m.n.toNat - s'.length)+todo'.length)
       case measure=>
        have h1:(td.concat x).length=td.length+1:=by simp
        rw [h1];omega
       case rel=>exact ⟨s',todo',rfl,hI,d9⟩
theorem AV {α:Type} {l:List α} (p:α->Bool) (h:k<l.length):(l.take (k+1)).any p=((l.take k).any p || p l[k]):=by
 rw [Dg h,List.any_append];simp
theorem Ae {P: Program} {n: FuncId} {fn: Func} (h : P.funcs[n]? = some fn) (hn : (fn.name == "runtime.NumGoroutine") = false) (hb : fn.body.isNone = false) (a : Array Value) (w : World) : (callFunc n a).run P w = .ok (.enter n a) w := by
 unfold callFunc;simp only [Sem.run_bind,run_program,Result.andThen_ok,h,hn,hb,Bool.false_eq_true,if_false,Sem.run_pure]
theorem indexFuncI_calls {v:Value} (n:FuncId) (caps:Array Value) (p:Int->Bool) (w:World) (h:zk w ok v l) (hl:l.length<=20000000000000)
  (a5:∀(a:Array Value) (w:World),(callFunc n a).run Tryz.prog w=.ok (.enter n a) w)
  (hp:∀x∈l,∀w1,zM w w1->Calls Tryz.prog n (#[.int .i64 x]++caps) w1 fun e w'=>e=.returned (.bool (p x))/\zM w1 w'):
  Calls Tryz.prog 104 #[v,.func (.func n) #[] caps] w fun e w'=>∃r:Int,e=.returned (.int .i64 r)/\(0<=r↔l.any p=true)/\-1<=r/\zM w w':=by
 obtain ⟨A,c,rfl,hc,hr⟩:=h;have HR:=zh hr;clear hr;have HP:=zh hp;clear hp
 go_enter Tryz.func104,Tryz.ntmps104
 go_wp2_with fail
 go_loopw [8] (fun i wr=>∃k:Nat,k<=l.length/\i=.int .i64 k/\Hid ((l.take k).any p=false)/\Hid (zM w wr)) (fun i _=>l.length - (intOf i).toNat)
 case atStart=>exact ⟨0,Do _,rfl,by simp [Hid],zM.refl _⟩
 case round=>
  obtain ⟨k,hk,rfl,hn,O⟩:=hrel;by_cases L:k<l.length
  ·obtain ⟨b,off,rfl,_,J⟩:=Am (HR.out.keep (O.out.same ok)) L L;obtain ⟨x,V⟩:=DX (l[k]);rw [<-V] at J;have U:x∈l:=by rw [V];exact CZ _
   have E:=zh (AV p L);rw [<-V] at E;clear V;have d:=zh (HP.out x U wr O.out);by_cases D:p x=true
   ·go_wp2_with fail
    refine d.out.mono ?_;rintro e w1 ⟨rfl,z⟩;rw [D];have G:=zh (O.out.trans z);clear z;have I:=zh D;clear D
    go_wp2_with fail
    go_ret;refine ⟨_,rfl,⟨fun _=>?_,fun _=>by omega⟩,by omega,G.out⟩;rw [DS];exact ⟨x,U,I.out⟩
   ·have M:p x=false:=by simpa using D
    clear D
    go_wp2_with fail
    refine d.out.mono ?_;rintro e w1 ⟨rfl,z⟩;rw [M];have G:=zh (O.out.trans z);clear z;have I:=zh M;clear M
    go_wp2_with fail
    go_roundw
    case rel=>exact ⟨k+1,by omega,by go_num,by
     show _=false;rw [E.out,hn.out,I.out];rfl,G⟩
    case measure=>simp [intOf];omega
  ·obtain rfl:k=l.length:=by omega
   go_wp2;go_ret;have h:=hn.out;rw [Dl] at h;refine ⟨_,rfl,⟨fun h'=>by omega,fun h'=>?_⟩,by omega,O.out⟩;rw [h] at h'
   cases h'
theorem indexFuncB_calls {v:Value} {l:List (List Bool)} (n:FuncId) (caps:Array Value) (p:List Bool->Bool) (w:World) (h:Each (AO w ok) w ok v l) (hl:l.length<=20000000000000)
  (a7:∀(a:Array Value) (w:World),(callFunc n a).run Tryz.prog w=.ok (.enter n a) w)
  (hp:∀x∈l,∀u,AO w ok u x->∀w1,zM w w1->Calls Tryz.prog n (#[u]++caps) w1 fun e w'=>e=.returned (.bool (p x))/\zM w1 w'):
  Calls Tryz.prog 103 #[v,.func (.func n) #[] caps] w fun e w'=>∃r:Int,e=.returned (.int .i64 r)/\(0<=r↔l.any p=true)/\-1<=r/\zM w w':=by
 obtain ⟨vs,⟨A,c,rfl,hc,hr⟩,he⟩:=h;have HR:=zh hr;clear hr;have HE:=zh he;clear he;have HP:=zh hp;clear hp
 go_enter Tryz.func103,Tryz.ntmps103
 go_wp2_with fail
 go_loopw [8] (fun i wr=>∃k:Nat,k<=l.length/\i=.int .i64 k/\Hid ((l.take k).any p=false)/\Hid (zM w wr)) (fun i _=>l.length - (intOf i).toNat)
 case atStart=>exact ⟨0,Do _,rfl,by simp [Hid],zM.refl _⟩
 case round=>
  obtain ⟨k,hk,rfl,hn,M⟩:=hrel;by_cases J:k<l.length
  ·obtain ⟨b,off,u,rfl,_,a0,hu⟩:=eachAt (HR.out.keep (M.out.same ok)) HE.out J J;obtain ⟨x,U⟩:=DX (l[k]);rw [<-U] at hu;have O:x∈l:=by rw [U];exact CZ _
   have E:=zh (AV p J);rw [<-U] at E;clear U;have d:=zh (HP.out x O u hu wr M.out);clear hu;by_cases D:p x=true
   ·go_wp2_with fail
    refine d.out.mono ?_;rintro e w1 ⟨rfl,z⟩;rw [D];have G:=zh (M.out.trans z);clear z;have I:=zh D;clear D
    go_wp2_with fail
    go_ret;refine ⟨_,rfl,⟨fun _=>?_,fun _=>by omega⟩,by omega,G.out⟩;rw [DS];exact ⟨x,O,I.out⟩
   ·have L:p x=false:=by simpa using D
    clear D
    go_wp2_with fail
    refine d.out.mono ?_;rintro e w1 ⟨rfl,z⟩;rw [L];have G:=zh (M.out.trans z);clear z;have I:=zh L;clear L
    go_wp2_with fail
    go_roundw
    case rel=>exact ⟨k+1,by omega,by go_num,by
     show _=false;rw [E.out,hn.out,I.out];rfl,G⟩
    case measure=>simp [intOf];omega
  ·obtain rfl:k=l.length:=by omega
   go_wp2;go_ret;have h:=hn.out;rw [Dl] at h;refine ⟨_,rfl,⟨fun V=>by omega,fun V=>?_⟩,by omega,M.out⟩;rw [h] at V
   cases V
theorem AR {v:Value} {l:List (Int)} (n:FuncId) (caps:Array Value) (p:Int->Bool) (w:World) (h:zk w ok v l) (I:l.length<=20000000000000) (z:∀(a:Array Value) (w:World),(callFunc n a).run Tryz.prog w=.ok (.enter n a) w)
  (hp:∀x∈l,∀w1,zM w w1->Calls Tryz.prog n (#[.int .i64 x]++caps) w1 fun e w'=>e=.returned (.bool (p x))/\zM w1 w'):
  Calls Tryz.prog 73 #[v,.func (.func n) #[] caps] w fun e w'=>e=.returned (.bool (l.any p))/\zM w w':=by
 have H:=zh (indexFuncI_calls n caps p w h I z hp);clear hp;obtain ⟨A,c,rfl,L,d⟩:=h;clear d
 go_enter Tryz.func73,Tryz.ntmps73
 go_wp2_with fail
 refine H.out.mono ?_;rintro e w1 ⟨r,rfl,d,J,D⟩;have G:=zh d;clear d;have E:=zh D;clear D
 go_wp2_with fail
 go_ret;refine ⟨zi ?_,E.out⟩;rw [Bool.eq_iff_iff,decide_eq_true_iff];exact G.out
theorem CU {v:Value} {l:List (List Bool)} (n:FuncId) (caps:Array Value) (p:List Bool->Bool) (w:World) (h:Each (AO w ok) w ok v l) (I:l.length<=20000000000000) (z:∀(a:Array Value) (w:World),(callFunc n a).run Tryz.prog w=.ok (.enter n a) w)
  (hp:∀x∈l,∀u,AO w ok u x->∀w1,zM w w1->Calls Tryz.prog n (#[u]++caps) w1 fun e w'=>e=.returned (.bool (p x))/\zM w1 w'):
  Calls Tryz.prog 70 #[v,.func (.func n) #[] caps] w fun e w'=>e=.returned (.bool (l.any p))/\zM w w':=by
 have H:=zh (indexFuncB_calls n caps p w h I z hp);clear hp;obtain ⟨vs,⟨A,c,rfl,L,d⟩,he⟩:=h;clear d he
 go_enter Tryz.func70,Tryz.ntmps70
 go_wp2_with fail
 refine H.out.mono ?_;rintro e w1 ⟨r,rfl,d,J,D⟩;have G:=zh d;clear d;have E:=zh D;clear D
 go_wp2_with fail
 go_ret;refine ⟨zi ?_,E.out⟩;rw [Bool.eq_iff_iff,decide_eq_true_iff];exact G.out
def zX (n x:Int):Bool:=decide (x<0) || decide (n<=x)
def side (x:Int):Bool:=decide (x<1) || decide (300<x)
def Cc (m:MZ):Int:=
 if [m.w,m.h,m.l].any side then 2
 else if 300<m.n\/6<m.tasks.length then 2
 else if m.free.length≠m.tasks.length\/(m.up.length:Int)≠m.n\/m.free.any (fun f=>(f.length:Int) != m.n)=true then 1
 else if m.tasks.any (fun t=>t.1.any (zX m.n) || t.2.any (zX m.n)) then 50
 else 0
theorem cf51 (a:Array Value) (w:World):(callFunc 71 a).run Tryz.prog w=.ok (.enter 71 a) w:=Ae Tryz.func71 (by kernel_rfl) (by kernel_rfl) a w
theorem cf52 (a:Array Value) (w:World):(callFunc 72 a).run Tryz.prog w=.ok (.enter 72 a) w:=Ae Tryz.func72 (by kernel_rfl) (by kernel_rfl) a w
theorem check1_calls {u:Value} {f:List Bool} (g:Nat) (n:Int) (w:World) (z:AO w ok u f) (D:w.cell? ⟨g,0,none⟩=some (.int .i64 n)):
  Calls Tryz.prog 71 #[u,.pointer (some ⟨g,0,none⟩)] w fun e w'=>e=.returned (.bool ((f.length:Int) != n))/\zM w w':=by
 obtain ⟨A,c,rfl,d,r⟩:=z;clear r
 go_enter Tryz.func71,Tryz.ntmps71
 go_wp2;go_ret;exact ⟨rfl,zM.refl _⟩
theorem check2_calls (g:Nat) (n x:Int) (w:World) (r:w.cell? ⟨g,0,none⟩=some (.int .i64 n)):
  Calls Tryz.prog 72 #[.int .i64 x,.pointer (some ⟨g,0,none⟩)] w fun e w'=>e=.returned (.bool (zX n x))/\zM w w':=by
 by_cases d:x<0
 ·go_enter Tryz.func72,Tryz.ntmps72
  go_wp2;go_ret;exact ⟨zi (by simp [zX,d]),zM.refl _⟩
 ·go_enter Tryz.func72,Tryz.ntmps72
  go_wp2;go_ret;refine ⟨zi ?_,zM.refl _⟩;simp [zX];omega
structure Lens (m:MZ):Prop where
 fr:m.free.length<=20000000000000
 up:m.up.length<=20000000000000
 ts:m.tasks.length<=20000000000000
 tl:∀t∈m.tasks,t.1.length<=400000000000/\t.2.length<=400000000000
theorem three_cells {w:World} {g:Nat} {t:TypeId} {a b c:Int} (h:ze w g t #[.int .i64 a,.int .i64 b,.int .i64 c]) (k:Nat) (d:k<3):w.cell? ⟨g,k,none⟩=some (.int .i64 ([a,b,c][k])):=by
 unfold ze at h;unfold World.cell?;simp only [h]
 match k,d with
 | 0,_=>rfl
 | 1,_=>rfl
 | 2,_=>rfl
theorem CC {w:World} {c:Nat} {l:List (List Int×List Int)} (h:Bd w ok (.slice A n c) l) (z:k<l.length):
  ∃b off s u1 u2,A=some ⟨b,off,none⟩/\ok b/\w.cell? ⟨b,off+k*3,none⟩=some (.string s)/\w.cell? ⟨b,off+k*3+1,none⟩=some u1/\w.cell? ⟨b,off+k*3+2,none⟩=some u2/\zk w ok u1 l[k].1/\zk w ok u2 l[k].2:=by
 obtain ⟨vs,⟨A',c',D,_,E,d⟩,he⟩:=h;injection D with e1 e2 e3;subst e1;obtain ⟨b,off,rfl,r,d⟩:=d (by omega);obtain ⟨s,u1,u2,h0,h1,h2,i1,i2⟩:=he k _ (CW z);exact ⟨b,off,s,u1,u2,rfl,r,d _ _ h0,by rw [Nat.add_assoc];exact d _ _ h1,by rw [Nat.add_assoc];exact d _ _ h2,i1,i2⟩
structure CI (w wr:World) (cells:Array Value) (ints:Array Value):Prop where
 below:Below w.heap.size w wr
 box:ze wr w.heap.size 35 cells
 ints:ze wr (w.heap.size+1) 3 ints
theorem CI.call {w wr w':World} (h:CI w wr c i) (d:Below wr.heap.size wr w'):CI w w' c i:=
 ⟨Be h.below d (CY _),h.box.below d (zb h.box),h.ints.below d (zb h.ints)⟩
theorem CI.new (w:World) (c i:Array Value):CI w ((w.alloc (.cells c 35)).alloc (.cells i 3)) c i:=
 ⟨((Below.refl _ _).alloc (CY _) _).alloc (by simp) _,ze.alloc (DI w _) _,by
  have:=DI (w.alloc (.cells c 35)) (.cells i 3);simpa [ze] using this⟩
theorem chk_side (h:[m.w,m.h,m.l].any side=true):Cc m=2:=by
 unfold Cc;rw [if_pos h]
structure CJ (w wr:World) (cells:Array Value) (g:Nat) (n:Int):Prop where
 below:Below w.heap.size w wr
 box:ze wr w.heap.size 35 cells
 all:wr.cell? ⟨g,0,none⟩=some (.int .i64 n)
theorem CJ.call {w wr w':World} {g:Nat} {n:Int} (h:CJ w wr c g n) (d:Below wr.heap.size wr w'):CJ w w' c g n:=
 ⟨Be h.below d (CY _),h.box.below d (zb h.box),(Ci (d.block g (zA h.all))).trans h.all⟩
theorem CJ.new {w w':World} (h:CI w w' c i) (n:Int):CJ w (w'.alloc (.cells #[.int .i64 n] 3)) c w'.heap.size n:=
 ⟨h.below.alloc (Nat.le_of_lt (zb h.box)) _,h.box.alloc _,by
  have:=DI w' (.cells #[.int .i64 n] 3);unfold World.cell?;simp only [this];rfl⟩
theorem CJ.alloc {w wr:World} {c:Array Value} {g:Nat} {n:Int} (h:CJ w wr c g n) (o:Obj):CJ w (wr.alloc o) c g n:=
 ⟨h.below.alloc (Nat.le_of_lt (zb h.box)) _,h.box.alloc _,(Ci (Below.heap_alloc wr o g (zA h.all))).trans h.all⟩
theorem cells3 {w:World} {g:Nat} {t:TypeId} {a0 a1 a2:Value} (h:ze w g t #[a0,a1,a2]):
  w.cell? ⟨g,0,none⟩=some a0/\w.cell? ⟨g,1,none⟩=some a1/\w.cell? ⟨g,2,none⟩=some a2:=by
 unfold ze at h;unfold World.cell?;simp only [h];exact ⟨rfl,rfl,rfl⟩
theorem sides (h:[m.w,m.h,m.l].any side=false):(1<=m.w/\m.w<=300)/\(1<=m.h/\m.h<=300)/\(1<=m.l/\m.l<=300):=by
 simp [side] at h;omega
theorem sides_mul (h:[m.w,m.h,m.l].any side=false):(1<=m.w*m.h/\m.w*m.h<=90000)/\(1<=m.w*m.h*m.l/\m.w*m.h*m.l<=27000000):=by
 obtain ⟨⟨a1,a2⟩,⟨b1,b2⟩,c1,c2⟩:=sides h;have h1:1<=m.w*m.h:=by have:=Int.mul_pos (a:=m.w) (b:=m.h) (by omega) (by omega);omega
 have h2:m.w*m.h<=300*300:=Int.mul_le_mul a2 b2 (by omega) (by omega);have d:1<=m.w*m.h*m.l:=by have:=Int.mul_pos (a:=m.w*m.h) (b:=m.l) (by omega) (by omega);omega
 have r:m.w*m.h*m.l<=300*300*300:=Int.mul_le_mul h2 c2 (by omega) (by omega);omega
theorem Bv {v:Value} (w:World) (hm:zL w ok v m) (hl:Lens m):
  Calls Tryz.prog 31 #[v] w fun e w'=>e=.returned (.int .i64 (Cc m))/\Below w.heap.size w w':=by
 have e9:=hm;obtain ⟨vfr,vup,vts,rfl,e6,f5,f3⟩:=hm;obtain ⟨vsf,⟨Af,cf,rfl,e4,c6⟩,b9⟩:=e6;obtain ⟨Au,cu,rfl,g3,f2⟩:=f5;obtain ⟨vst,⟨At,ct,rfl,e5,c7⟩,c0⟩:=f3;obtain ⟨l1,l2,l3,l4⟩:=hl;have d8:=zh c6;clear c6;have d5:=zh b9;clear b9;have d9:=zh c7;clear c7;have d6:=zh c0;clear c0;have d7:=zh l4;clear l4;clear f2 e9
 go_enter Tryz.func31,Tryz.ntmps31
 go_wp2;have b5:=CI.new w #[.int .i64 m.w,.int .i64 m.h,.int .i64 m.l,.slice Af m.free.length cf,.slice Au m.up.length cu,.slice At m.tasks.length ct] #[.int .i64 m.w,.int .i64 m.h,.int .i64 m.l];go_loopw [17] (fun i wr=>∃k:Nat,k<=3/\i=.int .i64 k/\Hid (([m.w,m.h,m.l].take k).any side=false)/\Hid (CI w wr #[.int .i64 m.w,.int .i64 m.h,.int .i64 m.l,.slice Af m.free.length cf,.slice Au m.up.length cu,.slice At m.tasks.length ct] #[.int .i64 m.w,.int .i64 m.h,.int .i64 m.l])) (fun i _=>3 - (intOf i).toNat)
 case atStart=>exact ⟨0,by omega,rfl,by simp [Hid],b5⟩
 clear b5
 case round=>
  obtain ⟨k,hk,rfl,J,hI⟩:=hrel;by_cases I:k<3
  ·obtain ⟨x,hx⟩:=DX ([m.w,m.h,m.l][k]'I);have a5:=three_cells hI.out.ints k I;rw [<-hx] at a5;have r:=zh (AV (l:=[m.w,m.h,m.l]) side I);rw [<-hx] at r;have HX:=zh (show x∈[m.w,m.h,m.l] by rw [hx];exact CZ _);clear hx;by_cases h1:x<1
   ·go_wp2;go_ret;refine ⟨Bt ?_,hI.out.below⟩;rw [chk_side];exact DS.2 ⟨x,HX.out,by simp [side,h1]⟩
   ·by_cases h2:300<x
    ·go_wp2;go_ret;refine ⟨Bt ?_,hI.out.below⟩;rw [chk_side];exact DS.2 ⟨x,HX.out,by simp [side,h2]⟩
    ·have HS:=zh (show side x=false by simp [side,h1,h2]);go_wp2;go_roundw
     case rel=>exact ⟨k+1,by omega,by go_num,by
      show _=false;rw [r.out,J.out,HS.out];rfl,hI⟩
     case measure=>simp [intOf];omega
  ·obtain rfl:k=3:=by omega
   have HN:Hid ([m.w,m.h,m.l].any side=false):=J.out;clear J;obtain ⟨m0,m1,m2,m3,m4,m5⟩:=zt hI.out.box;obtain ⟨⟨p1,p2⟩,p3,p4⟩:=sides_mul HN.out
   have M:300<m.n\/6<m.tasks.length->Cc m=2:=by
    intro h;unfold Cc;rw [if_neg (by rw [HN.out];simp),if_pos h]
   have b2:=zh M;clear M
   go_wp2_with fail
   refine (zR _ _ _ _ _ _ _ (by omega) (by omega)).mono ?_;rintro e w' ⟨rfl,hb⟩;have d:=zh (hI.out.call hb);clear hI m0 m1 m2 m3 m4 m5 hb;have e0:∀o,_:=fun o=>zt (d.out.box.alloc o)
   by_cases J:300<m.w*m.h*m.l
   ·go_wp2;go_ret;exact ⟨Bt (b2.out (.inl J)).symm,d.out.below.alloc (Nat.le_of_lt (zb d.out.box)) _⟩
   by_cases ht:6<m.tasks.length
   ·go_wp2;go_ret;exact ⟨Bt (b2.out (.inr ht)).symm,d.out.below.alloc (Nat.le_of_lt (zb d.out.box)) _⟩
   have L:(m.free.length≠m.tasks.length\/(m.up.length:Int)≠m.n\/m.free.any (fun f=>(f.length:Int) != m.n)=true)->Cc m=1:=by
    intro h;unfold Cc;rw [if_neg (by rw [HN.out];simp),if_neg (by unfold MZ.n;omega),if_pos h]
   have a1:=zh L;clear L;by_cases hf:m.free.length=m.tasks.length
   case neg=>
    go_wp2;go_ret;exact ⟨Bt (a1.out (.inl hf)).symm,d.out.below.alloc (Nat.le_of_lt (zb d.out.box)) _⟩
   by_cases hu:(m.up.length:Int)=m.w*m.h*m.l
   case neg=>
    go_wp2;go_ret;exact ⟨Bt (a1.out (.inr (.inl hu))).symm,d.out.below.alloc (Nat.le_of_lt (zb d.out.box)) _⟩
   have O:=zh (CJ.new d.out (m.w*m.h*m.l));have g4:w.heap.size<w'.heap.size:=zb d.out.box;clear d
   have b4:AE w ok (.slice Af m.tasks.length cf) m.free:=by
    rw [<-hf];exact ⟨vsf,⟨Af,cf,rfl,e4,d8.out⟩,d5.out⟩
   go_wp2_with fail
   refine (CU (ok:=ok) 71 _ (fun f=>(f.length:Int) != m.w*m.h*m.l) _ (b4.below O.out.below) l1 cf51 ?hp).mono ?_
   case hp=>exact fun x hx u hu w1 D=>check1_calls w'.heap.size _ w1 (hu.keep (D.same ok)) (O.out.call (D.below _)).all
   rintro e w1 ⟨rfl,D⟩;have z:=zh (O.out.call (D.below _));clear O D e0;by_cases ha:m.free.any (fun f=>(f.length:Int) != m.w*m.h*m.l)=true
   ·rw [ha];go_wp2;go_ret;exact ⟨Bt (a1.out (.inr (.inr ha))).symm,z.out.below⟩
   have a4:=zh (show m.free.any (fun f=>(f.length:Int) != m.w*m.h*m.l)=false by simpa using ha);clear ha;rw [a4.out];obtain ⟨m0,m1,m2,m3,m4,m5⟩:=zt z.out.box;have a3:Bd w ok (.slice At m.tasks.length ct) m.tasks:=⟨vst,⟨At,ct,rfl,e5,d9.out⟩,d6.out⟩
   go_wp2_with fail
   go_loopw [62] (fun i wr=>∃k:Nat,k<=m.tasks.length/\i=.int .i64 k/\Hid ((m.tasks.take k).any (fun t=>t.1.any (zX m.n) || t.2.any (zX m.n))=false)/\Hid (CJ w wr #[.int .i64 m.w,.int .i64 m.h,.int .i64 m.l,.slice Af m.free.length cf,.slice Au m.up.length cu,.slice At m.tasks.length ct] w'.heap.size (m.w*m.h*m.l))) (fun i _=>m.tasks.length - (intOf i).toNat)
   case atStart=>exact ⟨0,by omega,rfl,by simp [Hid],z⟩
   clear z m0 m1 m2 m3 m4 m5 b4
   case round=>
    obtain ⟨k,hk,rfl,J,hI⟩:=hrel;by_cases I:k<m.tasks.length
    ·obtain ⟨b,off,sn,u1,u2,rfl,_,g1,e2,e3,a6,a7⟩:=CC (a3.below hI.out.below) I;obtain ⟨A1,c1,rfl,b7,f0⟩:=a6.open;obtain ⟨A2,c2,rfl,b8,f1⟩:=a7.open;obtain ⟨e7,e8⟩:=d7.out _ (CZ I);clear f0 f1;have a9:=zh a6;clear a6;have b0:=zh a7;clear a7;have g0:=zh a3;clear a3;obtain ⟨t,ht⟩:=DX (m.tasks[k]);rw [<-ht] at a9 b0 e2 e3 b7 b8 e7 e8;have r:=zh (AV (fun t=>t.1.any (zX m.n) || t.2.any (zX m.n)) I);rw [<-ht] at r;have HM:=zh (show t∈m.tasks by rw [ht];exact CZ _);clear ht;have z:=zh (hI.out.alloc (.cells #[.string sn,.slice A1 t.1.length c1,.slice A2 t.2.length c2] 101));have a2:=zh (DI wr (.cells #[.string sn,.slice A1 t.1.length c1,.slice A2 t.2.length c2] 101))
     have a0:(t.1.any (zX m.n) || t.2.any (zX m.n))=true->Cc m=50:=by
      intro h;unfold Cc;rw [if_neg (by rw [HN.out];simp),if_neg (by unfold MZ.n;omega),if_neg (by unfold MZ.n;rw [a4.out];simp;omega),if_pos (DS.2 ⟨t,HM.out,h⟩)]
     have V:=zh a0;clear a0
     go_wp2_with fail
     refine (AR (ok:=ok) 72 _ (zX (m.w*m.h*m.l)) _ (a9.out.below ((Below.refl _ _).alloc (CY _) _)) (by omega) cf52 ?hp).mono ?_
     case hp=>exact fun x hx w1 D=>check2_calls w'.heap.size _ x w1 (z.out.call (D.below _)).all
     rintro e w4 ⟨rfl,D⟩;have U:=zh (z.out.call (D.below _));have b3:Hid (ze w4 wr.heap.size 101 _):=ze.below a2.out (D.below _) (zb a2.out);have e1:Hid (Below wr.heap.size wr w4):=((Below.refl _ _).alloc (CY _) _).trans (D.below _);clear D z a2;obtain ⟨q0,q1,q2⟩:=cells3 b3.out;by_cases E:t.1.any (zX (m.w*m.h*m.l))=true
     ·rw [E];go_wp2;go_ret;exact ⟨Bt (V.out (by show (t.1.any (zX (m.w*m.h*m.l)) || _)=true;rw [E];rfl)).symm,U.out.below⟩
     ·have E:t.1.any (zX (m.w*m.h*m.l))=false:=by simpa using E
      rw [E];have c9:=zh E;clear E
      go_wp2_with fail
      refine (AR (ok:=ok) 72 _ (zX (m.w*m.h*m.l)) _ (b0.out.below e1.out) (by omega) cf52 ?hp).mono ?_
      case hp=>exact fun x hx w1 D=>check2_calls w'.heap.size _ x w1 (U.out.call (D.below _)).all
      rintro e w5 ⟨rfl,D⟩;have b6:=zh (U.out.call (D.below _));clear D U b3 q0 q1 q2;by_cases G:t.2.any (zX (m.w*m.h*m.l))=true
      ·rw [G];go_wp2;go_ret;exact ⟨Bt (V.out (by show (_ || t.2.any (zX (m.w*m.h*m.l)))=true;rw [G];simp)).symm,b6.out.below⟩
      ·have G:t.2.any (zX (m.w*m.h*m.l))=false:=by simpa using G
       rw [G];have d4:=zh G;clear G
       go_wp2_with fail
       go_roundw
       case rel=>exact ⟨k+1,by omega,by go_num,by
        show _=false;rw [r.out,J.out];show (_ || (t.1.any (zX (m.w*m.h*m.l)) || t.2.any (zX (m.w*m.h*m.l))))=false;rw [c9.out,d4.out];rfl,b6⟩
       case measure=>simp [intOf];omega
    ·obtain rfl:k=m.tasks.length:=by omega
     go_wp2;go_ret;refine ⟨Bt ?_,hI.out.below⟩;have J:=J.out;rw [Dl] at J;unfold Cc;rw [if_neg (by rw [HN.out];simp),if_neg (by unfold MZ.n;omega),if_neg (by unfold MZ.n;rw [a4.out];simp;omega),if_neg (by rw [J];simp)]
theorem setCells_nil (w:World) (b off:Nat):w.setCells b off []=w:=by
 unfold World.setCells;rfl
theorem CP (w:World) (base:Nat) (t ty e:TypeId) (i:TypeInfo) (z:Value) (bytes:Nat) (ht:Tryz.prog.underlying t=some (.slice e)) (M:Tryz.prog.info? e=some i) (hz:i.zero=some z)
  (d:i.size=1) (J:i.bytes=bytes) (L:z.cells.size=1)
  (v:Value) (n:Nat) (xs:List Value) (E:w.ownsRow base e 1 v n xs) (u:Value) (m:Nat) (news:List Value) (hu:Ay w ok 1 u m news) (h1:∀u∈news,u.oneCell'=true)
  (I:n+m<=maxLen) (r:(n+m)*bytes<=140737488355328) (G:base<=w.heap.size):
  ∃v' w',(Builtin.append_ #[t,t] ty #[v,u]).run Tryz.prog w=.ok v' w'/\w'.ownsRow base e 1 v' (n+m) (xs++news)/\w.grownBy w' v.ownBlock/\(v'.ownBlock=v.ownBlock\/v'.ownBlock=some w.heap.size):=by
 obtain ⟨A,c,rfl,hc,hl,D⟩:=hu;rcases A with _ | a
 ·have hm:m=0:=by
   rcases DG m with h | h
   ·exact h
   ·obtain ⟨b,off,e,_⟩:=D h;cases e
  subst hm;have hn:news=[]:=Dq (by simpa using hl);subst hn;refine ⟨v,w,?_,by simpa using E,⟨rfl,rfl,rfl,CY _,fun _ _ _=>rfl⟩,.inl rfl⟩;rcases E.2 with ⟨rfl,rfl⟩ | ⟨g,cap,cur,rfl,a5,hg,a9,a6,a7,a2⟩
  ·simp [Builtin.append_,run_underlying ht,sizeOf,typeInfo,M,d,Builtin.lenOf,Builtin.firstCells,loadCells,loadCellsFrom]
  ·have h:=run_append_room_src (P:=Tryz.prog) w t t ty e i ht M g 0 n cap (.slice none 0 c) 0 [] (by rw [d];exact Src.ofNil w ht c) (by omega) (by simp) (by simp);rw [setCells_nil] at h;simpa using h
 ·rcases DG m with h0 | hpos
  ·subst h0;have hn:news=[]:=Dq (by simpa using hl);subst hn;obtain ⟨v',w',h1,h2,O,h4,U⟩:=run_append_own_at (P:=Tryz.prog) w base t ty e i z 1 bytes ht M hz d J L (by decide) v n xs E a 0 c [] (by simp) (by simp) (by simp) I r G;exact ⟨v',w',h1,h2,O,U⟩
  ·obtain ⟨b,off,he,_,V⟩:=D hpos;injection he with he;subst he;obtain ⟨v',w',h1,h2,O,h4,U⟩:=run_append_own_at (P:=Tryz.prog) w base t ty e i z 1 bytes ht M hz d J L (by decide) v n xs E ⟨b,off,none⟩ m c news (by simpa using hl) (fun j u hj=>by rw [Addr.add_lit];exact V j u hj) h1 I r G;exact ⟨v',w',h1,h2,O,U⟩
theorem Bh {a:Act} (W:World) (s x:Operand)
  (M:o.op=.call { callee:=.builtin .append,args:=#[s,x],argTypes:=#[24,24] }) (base:Nat) (l l2:List Int) (v u:Value) (U:a.eval s=v) (V:a.eval x=u)
  (r:zT W base v l) (z:zk W ok u l2) (d:base<=W.heap.size) (hl:l.length+l2.length<=1000000000000)
  (h:∀v' w',zT w' base v' (l++l2)->Hid (W.grownBy w' v.ownBlock)->Hid (v'.ownBlock=v.ownBlock\/v'.ownBlock=some W.heap.size)->K (a.put o.dst v') w'):Oper.wp Tryz.prog o a W K Q:=by
 obtain ⟨i0,L,D,E,G⟩:=info_parts Tryz.infoInt
 obtain ⟨v',w',O,h2,I,J⟩:=CP (ok:=ok) W base 24 o.type 3 i0 (.int .i64 0) 8 Tryz.underlying24 L D E G rfl v _ _ r u _ _ z (by
  intro u z;obtain ⟨_,_,rfl⟩:=DQ.1 z;rfl) (by unfold maxLen;omega) (by omega) d
 unfold Oper.wp execOp;simp only [M,resolve,invoke,builtin,Sem.run_bind,Sem.run_pure,Result.andThen_ok,List.map_toArray,List.map_cons,List.map_nil,U,V,O];refine h v' w' ?_ I J;unfold zT;rw [List.map_append,Dh];exact h2
theorem Co {a:Act} {E:Prop} (z:o.guard=none) (W:World) (s x:Operand)
  (G:o.op=.call { callee:=.builtin .append,args:=#[s,x],argTypes:=#[24,24] }) (base:Nat) (l l2:List Int) (v u:Value) (I:a.eval s=v) (M:a.eval x=u)
  (r:zT W base v l) (J:zk W ok u l2) (d:base<=W.heap.size) (D:l.length+l2.length<=1000000000000)
  (h:∀v' w',zT w' base v' (l++l2)->Hid (W.grownBy w' v.ownBlock)->Hid (v'.ownBlock=v.ownBlock\/v'.ownBlock=some W.heap.size)->K (a.put o.dst v') w'):
  if Region.wanted o (yielded ops a.tmps)=true then Oper.wp Tryz.prog o a W K Q else E:=by
 have L:Region.wanted o (yielded ops a.tmps)=true:=by simp [Region.wanted,z]
 rw [if_pos L];exact Bh W s x G base l l2 v u I M r J d D h
theorem Cb {a:Act} (z:o.guard=none) (W:World) (s x:Operand)
  (I:o.op=.call { callee:=.builtin .append,args:=#[s,x],argTypes:=#[24,24] }) (base:Nat) (l l2:List Int) (v u:Value) (J:a.eval s=v) (M:a.eval x=u)
  (r:zT W base v l) (L:zk W ok u l2) (d:base<=W.heap.size) (G:l.length+l2.length<=1000000000000)
  (h:∀v' w',zT w' base v' (l++l2)->Hid (W.grownBy w' v.ownBlock)->Hid (v'.ownBlock=v.ownBlock\/v'.ownBlock=some W.heap.size)->wpList Tryz.prog ops Q rest (a.put o.dst v') w'):wpList Tryz.prog ops Q (o :: rest) a W:=by
 refine wpList_plain z fun K E=>?_
 exact Bh W s x I base l l2 v u J M r L d G fun v' w' h1 h2 D=>E _ _ (h v' w' h1 h2 D)
theorem Cm {v:Value} (h:zT W B v l) (d:v.ownBlock=some k):B<=k:=by
 rcases h.2 with ⟨rfl,_⟩ | ⟨g,cap,cur,rfl,r,_⟩
 ·cases d
 ·have d:some g=some k:=d;injection d with d;omega
theorem own_empty (W:World) (B:Nat) (d:B<=W.heap.size):zT (W.alloc (.cells #[] 3)) B (.slice (some ⟨W.heap.size,0,none⟩) 0 0) []:=
 ⟨rfl,.inr ⟨W.heap.size,0,#[],rfl,d,DI W _,CY _,by decide,rfl,rfl⟩⟩
theorem AM {w':World} {v:Value} (h:Below B a W) (r:Hid (W.grownBy w' v.ownBlock)) (d:B<=W.heap.size) (z:∀k,v.ownBlock=some k->B<=k):Below B a w':=h.grown r.out d z
def za (w w':World):Prop:=Below w.heap.size w w'
theorem za.refl (w:World):za w w:=Below.refl _ _
theorem za.trans {c:World} (h:za a b) (d:za b c):za a c:=Be h d (CY _)
theorem za.alloc {a b:World} (h:za a b) (o:Obj):za a (b.alloc o):=Below.alloc h h.size o
theorem za.drew {a b:World} (h:za a b):za a b.drew:=Below.drew h
theorem za.drewN {a b:World} (h:za a b) (n:Nat):za a (b.drewN n):=CF h n
theorem za.cell {w W:World} {p:Addr} {v:Value} (h:w.cell? p=some v) (hW:za w W):W.cell? p=some v:=(Below.cell hW (zA h)).trans h
theorem za.rule {w:World} {p:Addr} {v:Value} (h:w.cell? p=some v):∀W,za w W->W.cell? p=some v:=fun _ hW=>hW.cell h
theorem za.lt {w:World} (h:za w W) {g:Nat} (d:g<w.heap.size):g<W.heap.size:=Dz d h.size
theorem BT (w:World):∀W o,za w W->za w (W.alloc o):=fun _ o h=>h.alloc o
structure Mk (w1 w:World) (v:Value) (l:List Int):Prop where
 own:zT w w1.heap.size v l
 ext:za w1 w
theorem Mk.nil (w1:World):Mk w1 w1 (.slice none 0 0) []:=⟨World.ownsRow_nil _ _ _ _,za.refl _⟩
theorem Mk.nil' {w:World} (h:za w1 w):Mk w1 w (.slice none 0 0) []:=⟨World.ownsRow_nil _ _ _ _,h⟩
theorem Mk.app {w w':World} {v:Value} (h:Mk w1 w v l) (z:zT w' w1.heap.size v' l') (d:Hid (w.grownBy w' v.ownBlock)):Mk w1 w' v' l':=
 ⟨z,AM h.ext d h.ext.size (fun k r=>Cm h.own r)⟩
theorem Mk.more {w w':World} {v:Value} (h:Mk w1 w v l) (d:za w w'):Mk w1 w' v l:=
 ⟨h.own.kept (row:=none) ⟨d.os,d.tape,d.output,d.size,fun i r _=>d.block i r⟩ (by cases h:v.ownBlock <;> simp),h.ext.trans d⟩
theorem Mk.alloc {w1 w:World} {v:Value} {l:List Int} (h:Mk w1 w v l) (o:Obj):Mk w1 (w.alloc o) v l:=h.more ((za.refl _).alloc o)
theorem Mk.drew {w1 w:World} {v:Value} {l:List Int} (h:Mk w1 w v l):Mk w1 w.drew v l:=⟨h.own,h.ext.drew⟩
theorem Mk.drewN {w1 w:World} {v:Value} {l:List Int} (h:Mk w1 w v l) (n:Nat):Mk w1 (w.drewN n) v l:=⟨h.own,h.ext.drewN n⟩
theorem Mk.cast {w:World} {v:Value} (h:Mk w1 w v l) (e:l'=l):Mk w1 w v l':=e ▸ h
theorem Mk.ints {w:World} {v:Value} (h:Mk w1 w v l):zk w (fun b=>w1.heap.size<=b) v l:=Ay.of_own h.own
theorem Mk.slice {w1 w:World} {v:Value} {l:List Int} (h:Mk w1 w v l):∃A c,v=.slice A l.length c/\l.length<=c:=by
 obtain ⟨A,c,e,d,_⟩:=h.ints;exact ⟨A,c,e,d⟩
theorem za.mono_mk {w w':World} {v:Value} (h:za w w1) (hm:Mk w1 w' v l):Mk w w' v l:=⟨hm.own.mono h.size,h.trans hm.ext⟩
theorem held_ext (h:za w1 a/\za wk a) (d:Below a.heap.size a b):za w1 b/\za wk b:=⟨h.1.trans d,h.2.trans d⟩
theorem held_drew (h:za w1 wk):za w1 wk.drew/\za wk wk.drew:=⟨h.drew,(za.refl wk).drew⟩
theorem Az {w:World} {v:Value} (h:zT w B v l):∃A c,v=.slice A l.length c/\l.length<=c:=by
 obtain ⟨A,c,e,d,_⟩:=Ay.of_own h;exact ⟨A,c,e,d⟩
theorem own_at {w:World} {c:Nat} (h:zT w B (.slice A n c) l) (z:k<l.length):∃b,A=some ⟨b,0,none⟩/\B<=b/\w.cell? ⟨b,k,none⟩=some (.int .i64 l[k]):=by
 obtain ⟨g,cap,E,r,D⟩:=World.ownsRow.form h (by omega);injection E with h1 h2 d;subst h1 h2 d;refine ⟨g,rfl,r,?_⟩;rw [World.ownsRow.cellAt h k (by omega)];simp [z]
theorem zU (W:World) (v:Value) (t:TypeId) {g:Nat} (h:g=W.heap.size):(W.alloc (.cells #[v] t)).cell? ⟨g,0,none⟩=some v:=by
 subst h;unfold World.cell?;simp only [DI];rfl
end
section
open Go.RowKit Go.Shelf
def sStr_ren:Go.Shelf.Ren:=⟨fun | 169=>118 | n=>n,fun | 70=>144 | 9=>9 | 0=>0 | 72=>147 | 37=>145 | 127=>170 | 3=>3 | 5=>5 | n=>n,fun | n=>n⟩
theorem sStr:Go.Proofs.Lays.n169 Tryz.prog sStr_ren:=by
 constructor
 iterate 4 (all_goals first | kernel_rfl | (intro _;kernel_rfl) | exact ⟨_,by decide,by kernel_rfl⟩ | constructor)
def sItoa_ren:Go.Shelf.Ren:=⟨fun | 171=>80 | 243=>115 | 246=>135 | 283=>146 | 284=>147 | 285=>148 | 286=>149 | 129=>158 | 317=>157 | 318=>159 | 319=>160 | 320=>161 | 337=>178 | 338=>179 | n=>n,fun | 3=>3 | 9=>9 | 2=>2 | 4=>4 | 171=>176 | 0=>0 | 53=>177 | 37=>145 | 5=>5 | 173=>180 | 212=>190 | 51=>191 | 20=>20 | 213=>192 | 46=>188 | 232=>221 | 233=>222 | n=>n,fun | 17=>0 | 18=>4 | 19=>5 | n=>n⟩
theorem sItoa:Go.Proofs.LaysM.n171 Tryz.prog sItoa_ren:=by
 constructor
 iterate 4 (all_goals first | kernel_rfl | (intro _;kernel_rfl) | exact ⟨_,by decide,by kernel_rfl⟩ | constructor)
def sAtoi_ren:Go.Shelf.Ren:=⟨fun | 172=>138 | 244=>152 | 245=>153 | 247=>163 | 279=>164 | 280=>165 | 281=>166 | 282=>167 | 287=>184 | 316=>185 | 171=>80 | 205=>186 | 321=>195 | 322=>196 | 243=>115 | 246=>135 | 283=>146 | 284=>147 | 285=>148 | 286=>149 | 129=>158 | 317=>157 | 318=>159 | 319=>160 | 320=>161 | 337=>178 | 338=>179 | n=>n,fun | 9=>9 | 3=>3 | 75=>149 | 76=>151 | 4=>4 | 5=>5 | 167=>194 | 37=>145 | 0=>0 | 85=>195 | 2=>2 | 168=>197 | 53=>177 | 175=>209 | 46=>188 | 210=>213 | 127=>170 | 145=>229 | 143=>227 | 21=>21 | 171=>176 | 173=>180 | 212=>190 | 51=>191 | 20=>20 | 213=>192 | 232=>221 | 233=>222 | 80=>153 | n=>n,fun | 15=>2 | 16=>3 | 17=>0 | 18=>4 | 19=>5 | n=>n⟩
theorem sAtoi:Go.Proofs.LaysC.n172 Tryz.prog sAtoi_ren:=by
 constructor
 iterate 4 (all_goals first | kernel_rfl | (intro _;kernel_rfl) | exact ⟨_,by decide,by kernel_rfl⟩ | constructor)
def sIdx_ren:Go.Shelf.Ren:=⟨fun | 219=>162 | 217=>180 | 225=>181 | 224=>182 | 267=>183 | 266=>193 | 314=>194 | n=>n,fun | 9=>9 | 3=>3 | 4=>4 | 5=>5 | 46=>188 | 146=>223 | 51=>191 | n=>n,fun | 1=>1 | n=>n⟩
theorem sIdx:Go.Proofs.Lays.n219 Tryz.prog sIdx_ren:=by
 constructor
 iterate 4 (all_goals first | kernel_rfl | (intro _;kernel_rfl) | exact ⟨_,by decide,by kernel_rfl⟩ | constructor)
theorem sExt:Builder.Extra Tryz.prog sStr_ren:=by
 constructor
 iterate 4 (all_goals first | kernel_rfl | (intro _;kernel_rfl) | decide | constructor)
end
section
open Go.RowKit
attribute [local go_sem ↓] Go.wp_at_zero Go.wp_at_succ
open Classical in
noncomputable def BX (m:MZ) (t:Nat) (from_ used:List Int):List Int:=((List.range m.n.toNat).map Int.ofNat).filter (fun x=>decide (RP m t from_ used x))
theorem reachL_of {s:List Int} (h:∀x,x∈s↔RP m t from_ used x):((List.range m.n.toNat).map Int.ofNat).filter (fun x=>decide (x∈s))=BX m t from_ used:=by
 unfold BX;apply List.filter_congr;intro x _;rw [decide_eq_decide];exact h x
theorem BW (d:Dim m):x∈BX m t from_ used↔RP m t from_ used x:=by
 unfold BX;simp only [DP,DQ,DR,Dj];constructor
 ·rintro ⟨_,h⟩;exact h
 ·intro h;have r:=h.range d;exact ⟨⟨x.toNat,by omega,by simp;omega⟩,h⟩
end
end Go.Proofs.YtcnaogdgjkpkmaaGreatDoor
