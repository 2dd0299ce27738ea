/- RtD RtE RtF RtApp RtK -/
import Derived.Test.YthbjngbhbbkkgaaGreatHUa
import Derived.Maps.AppendAt
import Derived.WalkSmall
import Derived.Deep.LoopGhost
import Derived.Deep.AppendSrc
import Derived.Deep.AppendLies
set_option linter.unusedVariables false
set_option linter.unusedSimpArgs false
set_option maxRecDepth 100000
set_option maxHeartbeats 16000000
namespace Go.Proofs.YthbjngbhbbkkgaaGreat
open Go.RowKit
theorem za4 {B:Nat} {a w w':World} {g:Nat} (h:Below B a w) (hg:w.grownBy w' (some g)) (hB:B≤w.heap.size) (hBg:B≤g):Below B a w':=
 h.grown hg hB (fun k hk=>by injection hk with hk;omega)
theorem setOf_calls {ok:Nat→Prop} {v:Value} {l:List Int} (w:World) (h:zf w ok v l) (hl:l.length≤20000000000000):
  Calls Tryz.prog 60 #[v] w fun e w'=>∃s,e=.returned (.map (some w.heap.size))∧Below w.heap.size w w'∧zA w' w.heap.size s∧∀x,x∈s↔x∈l:=by
 obtain ⟨A,c,rfl,hc,hr⟩:=h;have HR:=zh hr;clear hr;have hmm:=@run_makeMap Tryz.prog
 go_enter Tryz.func60,Tryz.ntmps60
 go_wp2;go_loopw [9] (fun i wr=>∃k s,k≤l.length∧i=.int .i64 (k:Nat)∧Hid (Below w.heap.size w wr)∧Hid (zA wr w.heap.size s)∧Hid (∀x,x∈s↔x∈l.take k)) (fun i _=>l.length - (intOf i).toNat)
 case atStart=>exact ⟨0,[],Nat.zero_le _,rfl,(Below.refl _ _).alloc (Nat.le_refl _) _,zA.new w,by simp [Hid]⟩
 case round=>
  obtain ⟨k,s,hk,rfl,hb,hs,hx⟩:=hrel;by_cases hlt:k<l.length
  ·obtain ⟨b,off,rfl,_,hcell⟩:=zt (HR.out.keep (zX.of_below hb.out)) hlt hlt;obtain ⟨y,hy⟩:∃y,y=l[k]:=⟨_,rfl⟩;rw [←hy] at hcell;have HY:=zh hy;clear hy
   go_wp2_with (at_mapUpdate;refine zbD rfl _ _ _ _ rfl Tryz.underlying79 w.heap.size s y rfl rfl rfl hs.out ?_)
   intro w1 hs1 hg1;have HS1:=zh hs1;clear hs1;have HG1:=zh hg1;clear hg1;go_wp2;go_roundw
   case rel=>exact ⟨k+1,ins s y,by omega,by go_num,za4 hb.out HG1.out hb.out.size (Nat.le_refl _),HS1.out,fun x=>by
    rw [mem_ins,zW hlt,hx.out,HY.out]⟩
   case measure=>simp [intOf];omega
  ·obtain rfl:k=l.length:=by omega
   go_wp2;go_ret;exact ⟨s,rfl,hb.out,hs.out,fun x=>by have:=hx.out x;rwa [List.take_length] at this⟩
def zy (w:World) (B:Nat) (v:Value) (l:List Int):Prop:=w.ownsRow B 3 1 v l.length (l.map (Value.int .i64))
theorem zan {ops:Array Oper} {rest:List Oper} {o:Oper} {a:Act} {Q:Exit→Act→World→Prop} (hgd:o.guard=none) (s y:Operand)
  (ho:o.op=.call { callee:=.builtin .append,args:=#[s,y],argTypes:=#[23,23] }) (W:World) (l:List Int) (x:Int) (B g c:Nat) (v:Value) (hs:a.eval s=v)
  (hy:a.eval y=.slice (some ⟨g,0,none⟩) 1 c) (hown:W.ownsRow B 3 1 v l.length (l.map (Value.int .i64))) (hc:W.cell? ⟨g,0,none⟩=some (.int .i64 x)) (hB:B≤W.heap.size) (hl:l.length≤1000000000000)
  (h:∀v' w',zy w' B v' (l++[x])→Hid (W.grownBy w' v.ownBlock)→Hid (v'.ownBlock=v.ownBlock∨v'.ownBlock=some W.heap.size)→wpList Tryz.prog ops Q rest (a.put o.dst v') w'):wpList Tryz.prog ops Q (o :: rest) a W:=by
 obtain ⟨i0,hi,hz0,hz1,hz2⟩:=info_parts Tryz.infoInt;refine wpList_append_own_at _ hgd _ _ 23 ho B 3 i0 (.int .i64 0) 1 8 Tryz.underlying23 hi hz0 hz1 hz2 rfl (by decide) _ _ _ hs hown ⟨g,0,none⟩ 1 c [.int .i64 x] hy rfl ?_ ?_ ?_ ?_ hB ?_
 ·intro j u hu
  match j,hu with
  | 0,hu=>
   have:u=.int .i64 x:=by simpa using hu.symm
   rw [this];exact hc
 ·intro u hu;have:u=.int .i64 x:=by simpa using hu
  rw [this];rfl
 ·unfold maxLen;omega
 ·omega
 ·intro v' w' h1 h2 _ h3;refine h v' w' ?_ h2 h3;unfold zy;rw [map_snoc,List.length_append];exact h1
structure RI (w wr:World) (g:Nat) (mv:Array Value) (s todo:List Int) (v:Value):Prop where
 below:Below w.heap.size w wr
 ge:w.heap.size≤g
 box:Blk wr g 32 mv
 set:zA wr (g+1) s
 own:wr.ownsRow (g+2) 3 1 v todo.length (todo.map (Value.int .i64))
section
variable {w wr w':World} {g:Nat} {mv:Array Value} {s todo:List Int} {v:Value}
theorem RI.lt (h:RI w wr g mv s todo v):g+1<wr.heap.size:=zb h.set
theorem RI.call (h:RI w wr g mv s todo v) (hb:Below wr.heap.size wr w'):RI w w' g mv s todo v:=
 ⟨zaR h.below hb (Nat.le_refl _),h.ge,h.box.below hb (by have:=h.lt;omega),h.set.below hb,
  h.own.kept (row:=none) ⟨hb.os,hb.tape,hb.output,hb.size,fun i hi _=>hb.block i hi⟩ (by cases h:v.ownBlock <;> simp)⟩
theorem RI.alloc (h:RI w wr g mv s todo v) (o:Obj):RI w (wr.alloc o) g mv s todo v:=h.call ((Below.refl _ _).alloc (Nat.le_refl _) _)
theorem RI.add {x:Int} (h:RI w wr g mv s todo v) (hs:zA w' (g+1) (ins s x)) (hg:wr.grownBy w' (some (g+1))):RI w w' g mv (ins s x) todo v:=
 ⟨za4 h.below hg h.below.size (by have:=h.ge;omega),h.ge,(hg.block g (by have:=h.lt;omega) (fun e=>by injection e;omega)).trans h.box,hs,
  h.own.kept hg (.inr (fun e=>by have:=(h.own.lt _ e).1;omega))⟩
theorem RI.app {v':Value} {x:Int} (h:RI w wr g mv s todo v) (ho:w'.ownsRow (g+2) 3 1 v' (todo++[x]).length ((todo++[x]).map (Value.int .i64))) (hg:wr.grownBy w' v.ownBlock):RI w w' g mv s (todo++[x]) v':=
 ⟨h.below.grown hg h.below.size (fun k hk=>by have:=(h.own.lt _ hk).1;have:=h.ge;omega),h.ge,
  (hg.block g (by have:=h.lt;omega) (fun e=>by have:=(h.own.lt _ e.symm).1;omega)).trans h.box,
  (hg.block (g+1) h.lt (fun e=>by have:=(h.own.lt _ e.symm).1;omega)).trans h.set,ho⟩
end
theorem look_t {w:World} {g:Nat} {l:List Int} {x:Int} (h:zA w g l) (hx:x∈l):(Instr.lookup 79 (.map (some g)) (.int .i64 x) false).run Tryz.prog w=.ok (.bool true) w:=by
 have:=run_look h x 79 Tryz.underlying79
 rwa [decide_eq_true hx] at this
theorem look_f {w:World} {g:Nat} {l:List Int} {x:Int} (h:zA w g l) (hx:x∉l):(Instr.lookup 79 (.map (some g)) (.int .i64 x) false).run Tryz.prog w=.ok (.bool false) w:=by
 have:=run_look h x 79 Tryz.underlying79
 rwa [decide_eq_false hx] at this
theorem ins_new {l:List Int} {x:Int} (h:x∉l):ins l x=l++[x]:=by simp [ins,h]
theorem nodup_snoc {l:List Int} {x:Int} (h:l.Nodup) (hx:x∉l):(l++[x]).Nodup:=by
 rw [List.nodup_append]
 exact ⟨h,by simp,fun a ha b hb=>by
  have:b=x:=by simpa using hb
  subst this;rintro rfl;exact hx ha⟩
structure RO (m:MZ) (t:Nat) (from_ used s todo:List Int):Prop where
 nd:s.Nodup
 rp:∀x∈s,RP m t from_ used x
 fr:∀x∈from_,0≤x→x<m.n→x∈s
 sub:∀x∈todo,x∈s
 cl:∀y∈s,y∉todo→∀z∈zi m y,ze m t z=true→z∉used→z∈s
 ln:todo.length≤s.length
structure RJ (m:MZ) (t:Nat) (from_ used s todo:List Int) (x:Int) (j:Nat):Prop where
 nd:s.Nodup
 rp:∀x∈s,RP m t from_ used x
 fr:∀x∈from_,0≤x→x<m.n→x∈s
 sub:∀x∈todo,x∈s
 xs:x∈s
 cl:∀y∈s,y∉todo→y≠x→∀z∈zi m y,ze m t z=true→z∉used→z∈s
 cx:∀z∈(zi m x).take j,ze m t z=true→z∉used→z∈s
 ln:todo.length≤s.length
theorem RO.pop {m:MZ} {t:Nat} {from_ used s todo:List Int} {x:Int} (h:RO m t from_ used s (todo++[x])):RJ m t from_ used s todo x 0:=
 ⟨h.nd,h.rp,h.fr,fun y hy=>h.sub y (by simp [hy]),h.sub x (by simp),fun y hy hn hne=>h.cl y hy (by simp [hn,hne]),by simp,by have:=h.ln;simp at this;omega⟩
theorem RJ.skip {m:MZ} {t:Nat} {from_ used s todo:List Int} {x:Int} {j:Nat} (h:RJ m t from_ used s todo x j) (hj:j<(zi m x).length) (hs:(zi m x)[j]∈s∨ze m t (zi m x)[j]=false∨(zi m x)[j]∈used):
  RJ m t from_ used s todo x (j+1):=
 ⟨h.nd,h.rp,h.fr,h.sub,h.xs,h.cl,fun z hz hf hu=>by
  rcases (zW hj z).1 hz with h1 | h1
  ·exact h.cx z h1 hf hu
  ·subst h1;rcases hs with h2 | h2 | h2
   ·exact h2
   ·rw [hf] at h2;cases h2
   ·exact absurd h2 hu,h.ln⟩
theorem RJ.push {m:MZ} {t:Nat} {from_ used s todo:List Int} {x:Int} {j:Nat} (h:RJ m t from_ used s todo x j) (hj:j<(zi m x).length) (hs:(zi m x)[j]∉s) (hf:ze m t (zi m x)[j]=true) (hu:(zi m x)[j]∉used):
  RJ m t from_ used (s++[(zi m x)[j]]) (todo++[(zi m x)[j]]) x (j+1):=
 ⟨nodup_snoc h.nd hs,fun y hy=>by
   rw [List.mem_append,List.mem_singleton] at hy;rcases hy with hy | rfl
   ·exact h.rp y hy
   ·exact (h.rp x h.xs).step (List.getElem_mem hj) hf hu,
  fun y hy h0 h1=>by simp [h.fr y hy h0 h1],
  fun y hy=>by
   rw [List.mem_append,List.mem_singleton] at hy⊢;rcases hy with hy | hy
   ·exact .inl (h.sub y hy)
   ·exact .inr hy,
  by simp [h.xs],
  fun y hy hn hne z hz hf' hu'=>by
   rw [List.mem_append,List.mem_singleton] at hy hn;rcases hy with hy | hy
   ·simp [h.cl y hy (fun h'=>hn (.inl h')) hne z hz hf' hu']
   ·exact absurd (.inr hy) hn,
  fun z hz hf' hu'=>by
   rcases (zW hj z).1 hz with h1 | h1
   ·simp [h.cx z h1 hf' hu']
   ·simp [h1],by have:=h.ln;simp;omega⟩
theorem RJ.done {m:MZ} {t:Nat} {from_ used s todo:List Int} {x:Int} {j:Nat} (h:RJ m t from_ used s todo x j) (hj:(zi m x).length≤j):RO m t from_ used s todo:=
 ⟨h.nd,h.rp,h.fr,h.sub,fun y hy hn z hz hf hu=>by
  by_cases hne:y=x
  ·subst hne;exact h.cx z (by rwa [List.take_of_length_le hj]) hf hu
  ·exact h.cl y hy hn hne z hz hf hu,h.ln⟩
theorem RO.end_ {m:MZ} {t:Nat} {from_ used s:List Int} (h:RO m t from_ used s []) (x:Int):x∈s↔RP m t from_ used x:=
 ⟨h.rp x,fun hr=>hr (·∈s) h.fr (fun y z hy hz hf hu=>h.cl y hy (by simp) z hz hf hu)⟩
theorem zbv {w:World} {base:Nat} {e:TypeId} {size g n cap:Nat} {xs:List Value} (h:w.ownsRow base e size (.slice (some ⟨g,0,none⟩) n cap) n xs):n≤cap:=by
 rcases h.2 with ⟨h0,_⟩ | ⟨g',cap',cur,hv,_,_,hn,_⟩
 ·cases h0
 ·cases hv;exact hn
theorem za5 (m:MZ) (x:Int):(zi m x).length≤6:=by
 have h (c:Bool) (y:Int) (l:List Int) (k:Nat) (hk:l.length≤k):(ap c y l).length≤k+1:=Nat.le_trans (ap_len c y l) (by omega);unfold zi;exact h _ _ _ 5 (h _ _ _ 4 (h _ _ _ 3 (h _ _ _ 2 (h _ _ _ 1 (h _ _ _ 0 (by simp))))))
theorem reach_calls {ok ok':Nat→Prop} {vm vf:Value} {m:MZ} {from_ used:List Int} {gu:Nat} (t:Nat) (w:World) (hm:zr w ok vm m) (d:Dim m) (ht:t<m.free.length) (hfl:∀f∈m.free,(f.length:Int)=m.n)
  (hf:zf w ok' vf from_) (hl:from_.length≤20000000000000) (hu:zA w gu used):
  Calls Tryz.prog 59 #[vm,.int .i64 t,vf,.map (some gu)] w fun e w'=>∃s,e=.returned (.map (some (w.heap.size+1)))∧Below w.heap.size w w'∧zA w' (w.heap.size+1) s∧∀x,x∈s↔RP m t from_ used x:=by
 have hmz:=hm;obtain ⟨vfr,vup,vts,rfl,hfr,_,_⟩:=hm;obtain ⟨vsf,⟨Af,cf,rfl,hcf,hrf⟩,hef⟩:=hfr;obtain ⟨A,c,rfl,hc,hr⟩:=hf;obtain ⟨hl1,hl2⟩:=d.layer;have D:=zh d;obtain ⟨w1,w2,hh1,hh2,ll1,ll2,n1,hup⟩:=d;have HM:=zh hmz;clear hmz;have HRF:=zh hrf;clear hrf;have HEF:=zh hef;clear hef;have HR:=zh hr;clear hr;have HU:=zh hu;clear hu;have HFL:=zh hfl;clear hfl hup;have hN:0≤m.w*m.h*m.l:=by omega
 have hmm:=@run_makeMap Tryz.prog
 go_enter Tryz.func59,Tryz.ntmps59
 go_wp2
 have hRI:RI w ((w.alloc (.cells #[.int .i64 m.w,.int .i64 m.h,.int .i64 m.l,.slice Af m.free.length cf,vup,vts] 32)).alloc (.map #[] 0)) w.heap.size #[.int .i64 m.w,.int .i64 m.h,.int .i64 m.l,.slice Af m.free.length cf,vup,vts] [] [] (.slice none 0 0):=by
  refine ⟨((Below.refl _ _).alloc (Nat.le_refl _) _).alloc (by simp) _,Nat.le_refl _,?_,?_,World.ownsRow_nil _ _ _ _⟩
  ·exact Blk.alloc (heap_alloc_new w _) _
  ·have:=zA.new (w.alloc (.cells #[.int .i64 m.w,.int .i64 m.h,.int .i64 m.l,.slice Af m.free.length cf,vup,vts] 32));simpa using this
 go_loopw [10,19] (fun v i wr=>∃k s,k≤from_.length∧i=.int .i64 (k:Nat)∧Hid (RI w wr w.heap.size #[.int .i64 m.w,.int .i64 m.h,.int .i64 m.l,.slice Af m.free.length cf,vup,vts] s s v)∧Hid (s.Nodup)∧Hid (∀x,x∈s↔x∈from_.take k∧0≤x∧x<m.n)) (fun _ i _=>from_.length - (intOf i).toNat)
 case atStart=>exact ⟨0,[],Nat.zero_le _,rfl,hRI,List.nodup_nil,by simp [Hid]⟩
 clear hRI
 case round=>
  obtain ⟨k,s,hk,rfl,hI,hnd,hx⟩:=hrel;by_cases hlt:k<from_.length
  ·obtain ⟨b,off,rfl,_,hcell⟩:=zt (HR.out.keep (zX.of_below hI.out.below)) hlt hlt;obtain ⟨y,hy⟩:∃y,y=from_[k]:=⟨_,rfl⟩;rw [←hy] at hcell;have HY:=zh hy;clear hy;obtain ⟨m0,m1,m2,m3,m4,m5⟩:=zw hI.out.box;by_cases hy0:0≤y
   ·by_cases hyn:y<m.w*m.h*m.l
    ·have hall:∀W:World,Calls Tryz.prog 43 #[.agg #[.int .i64 m.w,.int .i64 m.h,.int .i64 m.l,.slice Af m.free.length cf,vup,vts]] W _:=fun W=>zal m.w m.h m.l _ vup vts W (by omega) (by omega)
     have HALL:=zh hall;clear hall;by_cases hys:y∈s
     ·go_wp2_with fail
      refine (HALL.out _).mono ?_;rintro e w' ⟨rfl,hb⟩;have hI':=zh (hI.out.call hb);have hlk:=look_t hI'.out.set hys
      go_wp2_with fail
      go_roundw
      case rel=>exact ⟨k+1,s,by omega,by go_num,hI',hnd,fun x=>by
       rw [zW hlt,hx.out,←HY.out];constructor
       ·rintro ⟨h1,h2⟩;exact ⟨.inl h1,h2⟩
       ·rintro ⟨h1 | rfl,h2⟩
        ·exact ⟨h1,h2⟩
        ·exact (hx.out x).1 hys⟩
      case measure=>simp [intOf];omega
     ·go_wp2_with fail
      refine (HALL.out _).mono ?_;rintro e w' ⟨rfl,hb⟩;have hI':=zh (hI.out.call hb);have hlk:=look_f hI'.out.set hys
      go_wp2_with (at_mapUpdate;refine zbD rfl _ _ _ _ rfl Tryz.underlying79 (w.heap.size+1) s y rfl rfl rfl hI'.out.set ?_)
      intro wa hsa hga;have hIa:=zh (hI'.out.add hsa hga);have hsz:wa.heap.size=wa.heap.size:=rfl;have hgB:w.heap.size+2≤wa.heap.size:=hIa.out.lt;have hlen:=zaK hnd.out m.n (fun x hxs=>((hx.out x).1 hxs).2);have hlen2:s.length≤300:=by unfold MZ.n at hlen;omega
      clear hsa hga hlk hlen
      go_wp2_with (at_builtin;refine zan rfl _ _ rfl _ s y (w.heap.size+2) wa.heap.size 1 _ rfl rfl (hIa.out.own.alloc _) ?c1 ?c2 ?c3 ?_)
      case c2=>(first | omega | (simp;omega))
      case c3=>omega
      intro v' wb hob hgb _;have hIb:=zh ((hIa.out.alloc _).app hob hgb.out);clear hob hgb;go_wp2;go_roundw
      case rel=>exact ⟨k+1,s++[y],by omega,by go_num,by have:=hIb.out;rwa [ins_new hys] at this,nodup_snoc hnd.out hys,fun x=>by
       rw [List.mem_append,List.mem_singleton,zW hlt,hx.out,←HY.out];constructor
       ·rintro (⟨h1,h2⟩ | rfl)
        ·exact ⟨.inl h1,h2⟩
        ·exact ⟨.inr rfl,hy0,hyn⟩
       ·rintro ⟨h1 | rfl,h2⟩
        ·exact .inl ⟨h1,h2⟩
        ·exact .inr rfl⟩
      case measure=>simp [intOf];omega
    ·go_wp2_with (go_at_call 43;refine (zal _ _ _ _ _ _ _ (by omega) (by omega)).mono ?_;rintro e w' ⟨rfl,hb⟩)
     go_roundw
     case rel=>exact ⟨k+1,s,by omega,by go_num,hI.out.call ‹_›,hnd,fun x=>by
      rw [zW hlt,hx.out,←HY.out];constructor
      ·rintro ⟨h1,h2⟩;exact ⟨.inl h1,h2⟩
      ·rintro ⟨h1 | rfl,h2,h3⟩
       ·exact ⟨h1,h2,h3⟩
       ·unfold MZ.n at h3;omega⟩
     case measure=>simp [intOf];omega
   ·go_wp2;go_roundw
    case rel=>exact ⟨k+1,s,by omega,by go_num,hI,hnd,fun x=>by
     rw [zW hlt,hx.out,←HY.out];constructor
     ·rintro ⟨h1,h2⟩;exact ⟨.inl h1,h2⟩
     ·rintro ⟨h1 | rfl,h2,h3⟩
      ·exact ⟨h1,h2,h3⟩
      ·omega⟩
    case measure=>simp [intOf];omega
  ·obtain rfl:k=from_.length:=by omega
   have hx':Hid (∀x,x∈s↔x∈from_∧0≤x∧x<m.n):=fun x=>by have:=hx.out x;rwa [List.take_length] at this
   clear hx;have hO:Hid (RO m t from_ used s s):=⟨hnd.out,fun x h=>RP.base ((hx'.out x).1 h).1 ((hx'.out x).1 h).2.1 ((hx'.out x).1 h).2.2,fun x h h0 h1=>(hx'.out x).2 ⟨h,h0,h1⟩,fun x h=>h,fun y h hn=>absurd h hn,Nat.le_refl _⟩;clear hx' hnd hlt hk;go_wp2
   go_loopg [10] (2*(m.n.toNat - s.length)+s.length) (fun gk v wr=>∃s todo,gk=2*(m.n.toNat - s.length)+todo.length∧Hid (RI w wr w.heap.size #[.int .i64 m.w,.int .i64 m.h,.int .i64 m.l,.slice Af m.free.length cf,vup,vts] s todo v)∧Hid (RO m t from_ used s todo))
   case atStart=>exact ⟨s,s,rfl,hI,hO⟩
   clear hI hO
   case round=>
    obtain ⟨s,todo,rfl,hI,hO⟩:=hrel;obtain ⟨wo,rfl⟩:∃wo:World,wo=wr:=⟨_,rfl⟩;rcases List.eq_nil_or_concat todo with rfl | ⟨td,x,rfl⟩
    ·obtain ⟨A0,c0,hv⟩:∃A0 c0,u10=.slice A0 0 c0:=by
      obtain ⟨A0,c0,hv,_⟩:=Row.of_own hI.out.own;exact ⟨A0,c0,hv⟩
     subst hv;go_wp2;go_ret;exact ⟨s,rfl,hI.out.below,hI.out.set,hO.out.end_⟩
    ·rw [List.concat_eq_append] at hI hO;obtain ⟨gt,ct,hv,hgt1,hgt2⟩:=hI.out.own.form (by simp);subst hv;have htl:(td++[x]).length=td.length+1:=by simp
     try rw [htl]
     have hcx:wo.cell? ⟨gt,td.length,none⟩=some (.int .i64 x):=by
      have:=hI.out.own.cellAt td.length (by simp);rw [this];simp
     have hJ:=zh hO.out.pop;have hct:=zbv hI.out.own;rw [htl] at hct;have hrx:=(hO.out.rp x (hJ.out.xs)).range D.out;have hsl:=zaK hO.out.nd m.n (fun y hy=>(hO.out.rp y hy).range D.out);have htd:=hJ.out.ln;have hsl2:s.length≤300:=by unfold MZ.n at hsl;omega
     obtain ⟨hx0,hx1⟩:=hrx;obtain ⟨m0,m1,m2,m3,m4,m5⟩:=zw hI.out.box
     have hI2:Hid (RI w wo w.heap.size #[.int .i64 m.w,.int .i64 m.h,.int .i64 m.l,.slice Af m.free.length cf,vup,vts] s td (.slice (some ⟨gt,0,none⟩) td.length ct)):=by
      have h:=hI.out.own;refine ⟨hI.out.below,hI.out.ge,hI.out.box,hI.out.set,?_⟩;rw [map_snoc,htl] at h;exact ownsRow_pop (by simp) h
     clear hI hO
     go_wp2_with fail
     refine (zcq m x wo (HM.out.keep (zX.of_below hI2.out.below)) D.out hx0 hx1).mono ?_;rintro e wk ⟨v',rfl,hbk,hnx⟩;have hI3:=zh (hI2.out.call hbk);have hnl:=zh (Row.of_own hnx);have hnd2:=zh hnx;clear hnx;obtain ⟨A2,c2,hv',hc2,hrow⟩:=hnl.out;subst hv';clear hnl;have hn6:=za5 m x;have hmw:=HM.out;have HROW:=zh hrow;clear hrow;clear hmw m0 m1 m2 m3 m4 m5 hcx;have hwkr:wo.heap.size≤wk.heap.size:=hbk.size;go_wp2;go_loopw [10,62] (fun v i wi=>∃j s' todo',j≤(zi m x).length∧i=.int .i64 (j:Nat)∧Hid (RI w wi w.heap.size #[.int .i64 m.w,.int .i64 m.h,.int .i64 m.l,.slice Af m.free.length cf,vup,vts] s' todo' v)∧Hid (RJ m t from_ used s' todo' x j)∧Hid (zX (fun b=>wo.heap.size≤b∧b<wk.heap.size) wk wi)∧Hid (∀k,v.ownBlock=some k→k<wo.heap.size∨wk.heap.size≤k)∧Hid (wk.heap.size≤wi.heap.size)∧Hid (todo'.length+s.length=td.length+s'.length∧s.length≤s'.length)) (fun _ i _=>(zi m x).length - (intOf i).toNat)
     case atStart=>exact ⟨0,s,td,Nat.zero_le _,rfl,hI3,hJ,zX.refl _ _,fun k hk=>by
      have:k=gt:=by simpa [Value.ownBlock] using hk.symm
      subst this;exact .inl hgt2,Nat.le_refl _,rfl,Nat.le_refl _⟩
     clear hI2 hI3 hJ
     case round=>
      obtain ⟨j,s',todo',hj,rfl,hI,hJ,hS,hOB,hsz,hln⟩:=hrel;by_cases hjl:j<(zi m x).length
      ·obtain ⟨b2,off2,rfl,hb2,hcell2⟩:=zt HROW.out hjl hjl;have hb2lt:=zl hcell2;have hcell:=(zbI (hS.out b2 ⟨hb2,hb2lt⟩ hb2lt)).trans hcell2;clear hcell2;have hyr:=zab D.out hx0 hx1 (List.getElem_mem hjl);have hskip:=zh (hJ.out.skip hjl);have hpush:=zh (hJ.out.push hjl);obtain ⟨y,hy⟩:∃y,y=(zi m x)[j]:=⟨_,rfl⟩;rw [←hy] at hcell hyr hskip hpush;clear hy;obtain ⟨hy0,hy1⟩:=hyr;obtain ⟨m0,m1,m2,m3,m4,m5⟩:=zw hI.out.box;obtain ⟨bf,off3,uf,rfl,_,hcf1,hbf⟩:=zP (HRF.out.keep (zX.of_below hI.out.below)) HEF.out ht ht;have hflen:=HFL.out _ (List.getElem_mem ht);obtain ⟨A4,c4,rfl,hc4,hr4⟩:=hbf;have hyl:y.toNat<(m.free[t]).length:=by omega
       obtain ⟨b4,off4,rfl,_,hcf2⟩:=zbn (hr4.keep (zX.of_below hI.out.below)) hyl hyl;have hfr:(m.free[t])[y.toNat]=ze m t y:=by simp [ze,ht,hyl]
       rw [hfr] at hcf2;have HFq:=zh hfr;clear hfr;obtain ⟨nf,hnf⟩:∃nf,nf=(m.free[t]).length:=⟨_,rfl⟩;rw [←hnf] at hcf1 hyl hflen hc4;have HNF:=zh hnf;clear hnf;have HFL2:=zh hflen;clear hflen;clear hr4;have hset:=hI.out.set;have hHU:=HU.out.below hI.out.below;by_cases hys:y∈s'
       ·have hlk:=look_t hset hys;go_wp2;go_roundw
        case rel=>exact ⟨j+1,s',todo',by omega,by go_num,hI,hskip.out (.inl hys),hS,hOB,hsz,hln⟩
        case measure=>simp [intOf];omega
       ·have hlk:=look_f hset hys;by_cases hf:ze m t y=true
        ·rw [hf] at hcf2;by_cases hyu:y∈used
         ·have hlu:=look_t hHU hyu;have HF:=zh hf;clear hf;go_wp2;go_roundw
          case rel=>exact ⟨j+1,s',todo',by omega,by go_num,hI,hskip.out (.inr (.inr hyu)),hS,hOB,hsz,hln⟩
          case measure=>simp [intOf];omega
         ·have hlu:=look_f hHU hyu;have HF:=zh hf;clear hf;have hJ':=zh (hpush.out hys HF.out hyu);have hsl3:=zaK hJ.out.nd m.n (fun y hy=>(hJ.out.rp y hy).range D.out);have htl3:=hJ.out.ln;have htl4:todo'.length≤300:=by unfold MZ.n at hsl3;omega
          go_wp2_with (at_mapUpdate;refine zbD rfl _ _ _ _ rfl Tryz.underlying79 (w.heap.size+1) s' y rfl rfl rfl hI.out.set ?_)
          intro wa hsa hga;have hIa:=zh (hI.out.add hsa hga)
          have hSa:Hid (zX (fun b=>wo.heap.size≤b∧b<wk.heap.size) wk wa):=fun b hb hlt=>by
           refine (hga.block b (Nat.lt_of_lt_of_le hlt hsz.out) (fun e=>?_)).trans (hS.out b hb hlt);injection e with e;have:=hb.1;omega
          have hza:Hid (wk.heap.size≤wa.heap.size):=Nat.le_trans hsz.out hga.size;have hgB:w.heap.size+2≤wa.heap.size:=hIa.out.lt;clear hsa hga hlk hlu hset hHU m0 m1 m2 m3 m4 m5 hcf1 hcf2 hcell
          go_wp2_with (at_builtin;refine zan rfl _ _ rfl _ todo' y (w.heap.size+2) wa.heap.size 1 _ rfl rfl (hIa.out.own.alloc _) ?d1 ?d2 ?d3 ?_)
          (try case d1=>simp)
          case d2=>(first | omega | (simp;omega))
          case d3=>omega
          intro v' wb hob hgb hbl;have hIb:=zh ((hIa.out.alloc _).app hob hgb.out)
          have hOb:Hid (∀k,v'.ownBlock=some k→k<wo.heap.size∨wk.heap.size≤k):=fun k hk=>by
           rcases hbl.out with e | e
           ·exact hOB.out k (e ▸ hk)
           ·have:k=wa.heap.size+1 - 1+1:=by
             rw [e] at hk;simpa using hk.symm
            have:=hza.out;omega
          have hSb:Hid (zX (fun b=>wo.heap.size≤b∧b<wk.heap.size) wk wb):=fun b hb hlt=>by
           have hz:=hza.out;refine (hgb.out.block b (by simp;omega) (fun e=>?_)).trans ((Below.heap_alloc wa _ b (by omega)).trans (hSa.out b hb hlt));have h1:=hOB.out b e.symm;have h2:=hb.1;omega
          have hzb:Hid (wk.heap.size≤wb.heap.size):=by
           have h1:=hgb.out.size;have h2:=hza.out;simp at h1;show _≤_;omega
          clear hob hgb hbl;go_wp2;go_roundw
          case rel=>exact ⟨j+1,s'++[y],todo'++[y],by omega,by go_num,by have:=hIb.out;rwa [ins_new hys] at this,hJ',hSb,hOb,hzb,by have h1:=hln.out;show _∧_;simp only [List.length_append,List.length_cons,List.length_nil];omega⟩
          case measure=>simp [intOf];omega
        ·have hf':ze m t y=false:=by simpa using hf
         rw [hf'] at hcf2;have HF:=zh hf';clear hf hf';go_wp2;go_roundw
         case rel=>exact ⟨j+1,s',todo',by omega,by go_num,hI,hskip.out (.inr (.inl HF.out)),hS,hOB,hsz,hln⟩
         case measure=>simp [intOf];omega
      ·have hO':=zh (hJ.out.done (by omega));have hsl3:=zaK hO'.out.nd m.n (fun y hy=>(hO'.out.rp y hy).range D.out);have hl5:=hln.out;go_wp2
       go_roundg (2*(m.n.toNat - s'.length)+todo'.length)
       case measure=>
        have h1:(td.concat x).length=td.length+1:=by simp
        rw [h1];omega
       case rel=>exact ⟨s',todo',rfl,hI,hO'⟩
theorem za3 {α:Type} {l:List α} {k:Nat} (p:α→Bool) (h:k<l.length):(l.take (k+1)).any p=((l.take k).any p || p l[k]):=by
 rw [List.take_succ_eq_append_getElem h,List.any_append];simp
theorem zad {P : Program} {n : FuncId} {fn : Func} (h : P.funcs[n]? = some fn) (hn : (fn.name == "runtime.NumGoroutine") = false) (hb : fn.body.isNone = false) (a : Array Value) (w : World) : (callFunc n a).run P w = .ok (.enter n a) w := by
 unfold callFunc;simp only [Sem.run_bind,run_program,Result.andThen_ok,h,hn,hb,Bool.false_eq_true,if_false,Sem.run_pure]
theorem zc7 {ok:Nat→Prop} {v:Value} {l:List Int} (n:FuncId) (caps:Array Value) (p:Int→Bool) (w:World) (h:zf w ok v l) (hl:l.length≤20000000000000)
  (hcf:∀(a:Array Value) (w:World),(callFunc n a).run Tryz.prog w=.ok (.enter n a) w)
  (hp:∀x∈l,∀w1,zG w w1→Calls Tryz.prog n (#[.int .i64 x]++caps) w1 fun e w'=>e=.returned (.bool (p x))∧zG w1 w'):
  Calls Tryz.prog 82 #[v,.func (.func n) #[] caps] w fun e w'=>∃r:Int,e=.returned (.int .i64 r)∧(0≤r↔l.any p=true)∧-1≤r∧zG w w':=by
 obtain ⟨A,c,rfl,hc,hr⟩:=h;have HR:=zh hr;clear hr;have HP:=zh hp;clear hp
 go_enter Tryz.func82,Tryz.ntmps82
 go_wp2_with fail
 go_loopw [8] (fun i wr=>∃k:Nat,k≤l.length∧i=.int .i64 k∧Hid ((l.take k).any p=false)∧Hid (zG w wr)) (fun i _=>l.length - (intOf i).toNat)
 case atStart=>exact ⟨0,Nat.zero_le _,rfl,by simp [Hid],zG.refl _⟩
 case round=>
  obtain ⟨k,hk,rfl,hn,hd⟩:=hrel;by_cases hlt:k<l.length
  ·obtain ⟨b,off,rfl,_,hcell⟩:=zt (HR.out.keep (hd.out.same ok)) hlt hlt;obtain ⟨x,hx⟩:∃x,x=l[k]:=⟨_,rfl⟩;rw [←hx] at hcell;have hxl:x∈l:=by rw [hx];exact List.getElem_mem _
   have hsucc:=zh (za3 p hlt);rw [←hx] at hsucc;clear hx;have hcall:=zh (HP.out x hxl wr hd.out);by_cases hpx:p x=true
   ·go_wp2_with fail
    refine hcall.out.mono ?_;rintro e w1 ⟨rfl,hd1⟩;rw [hpx];have HD1:=zh (hd.out.trans hd1);clear hd1;have HPX:=zh hpx;clear hpx
    go_wp2_with fail
    go_ret;refine ⟨_,rfl,⟨fun _=>?_,fun _=>by omega⟩,by omega,HD1.out⟩;rw [List.any_eq_true];exact ⟨x,hxl,HPX.out⟩
   ·have hpf:p x=false:=by simpa using hpx
    clear hpx
    go_wp2_with fail
    refine hcall.out.mono ?_;rintro e w1 ⟨rfl,hd1⟩;rw [hpf];have HD1:=zh (hd.out.trans hd1);clear hd1;have HPX:=zh hpf;clear hpf
    go_wp2_with fail
    go_roundw
    case rel=>exact ⟨k+1,by omega,by go_num,by
     show _=false;rw [hsucc.out,hn.out,HPX.out];rfl,HD1⟩
    case measure=>simp [intOf];omega
  ·obtain rfl:k=l.length:=by omega
   go_wp2;go_ret;have h:=hn.out;rw [List.take_length] at h;refine ⟨_,rfl,⟨fun h'=>by omega,fun h'=>?_⟩,by omega,hd.out⟩;rw [h] at h'
   cases h'
theorem indexFuncB_calls {ok:Nat→Prop} {v:Value} {l:List (List Bool)} (n:FuncId) (caps:Array Value) (p:List Bool→Bool) (w:World) (h:Each (zaQ w ok) w ok v l) (hl:l.length≤20000000000000)
  (hcf:∀(a:Array Value) (w:World),(callFunc n a).run Tryz.prog w=.ok (.enter n a) w)
  (hp:∀x∈l,∀u,zaQ w ok u x→∀w1,zG w w1→Calls Tryz.prog n (#[u]++caps) w1 fun e w'=>e=.returned (.bool (p x))∧zG w1 w'):
  Calls Tryz.prog 102 #[v,.func (.func n) #[] caps] w fun e w'=>∃r:Int,e=.returned (.int .i64 r)∧(0≤r↔l.any p=true)∧-1≤r∧zG w w':=by
 obtain ⟨vs,⟨A,c,rfl,hc,hr⟩,he⟩:=h;have HR:=zh hr;clear hr;have HE:=zh he;clear he;have HP:=zh hp;clear hp
 go_enter Tryz.func102,Tryz.ntmps102
 go_wp2_with fail
 go_loopw [8] (fun i wr=>∃k:Nat,k≤l.length∧i=.int .i64 k∧Hid ((l.take k).any p=false)∧Hid (zG w wr)) (fun i _=>l.length - (intOf i).toNat)
 case atStart=>exact ⟨0,Nat.zero_le _,rfl,by simp [Hid],zG.refl _⟩
 case round=>
  obtain ⟨k,hk,rfl,hn,hd⟩:=hrel;by_cases hlt:k<l.length
  ·obtain ⟨b,off,u,rfl,_,hcell,hu⟩:=zP (HR.out.keep (hd.out.same ok)) HE.out hlt hlt;obtain ⟨x,hx⟩:∃x,x=l[k]:=⟨_,rfl⟩;rw [←hx] at hu;have hxl:x∈l:=by rw [hx];exact List.getElem_mem _
   have hsucc:=zh (za3 p hlt);rw [←hx] at hsucc;clear hx;have hcall:=zh (HP.out x hxl u hu wr hd.out);clear hu;by_cases hpx:p x=true
   ·go_wp2_with fail
    refine hcall.out.mono ?_;rintro e w1 ⟨rfl,hd1⟩;rw [hpx];have HD1:=zh (hd.out.trans hd1);clear hd1;have HPX:=zh hpx;clear hpx
    go_wp2_with fail
    go_ret;refine ⟨_,rfl,⟨fun _=>?_,fun _=>by omega⟩,by omega,HD1.out⟩;rw [List.any_eq_true];exact ⟨x,hxl,HPX.out⟩
   ·have hpf:p x=false:=by simpa using hpx
    clear hpx
    go_wp2_with fail
    refine hcall.out.mono ?_;rintro e w1 ⟨rfl,hd1⟩;rw [hpf];have HD1:=zh (hd.out.trans hd1);clear hd1;have HPX:=zh hpf;clear hpf
    go_wp2_with fail
    go_roundw
    case rel=>exact ⟨k+1,by omega,by go_num,by
     show _=false;rw [hsucc.out,hn.out,HPX.out];rfl,HD1⟩
    case measure=>simp [intOf];omega
  ·obtain rfl:k=l.length:=by omega
   go_wp2;go_ret;have h:=hn.out;rw [List.take_length] at h;refine ⟨_,rfl,⟨fun h'=>by omega,fun h'=>?_⟩,by omega,hd.out⟩;rw [h] at h'
   cases h'
theorem za0 {ok:Nat→Prop} {v:Value} {l:List (Int)} (n:FuncId) (caps:Array Value) (p:Int→Bool) (w:World) (h:zf w ok v l) (hl:l.length≤20000000000000) (hcf:∀(a:Array Value) (w:World),(callFunc n a).run Tryz.prog w=.ok (.enter n a) w)
  (hp:∀x∈l,∀w1,zG w w1→Calls Tryz.prog n (#[.int .i64 x]++caps) w1 fun e w'=>e=.returned (.bool (p x))∧zG w1 w'):
  Calls Tryz.prog 54 #[v,.func (.func n) #[] caps] w fun e w'=>e=.returned (.bool (l.any p))∧zG w w':=by
 have H:=zh (zc7 n caps p w h hl hcf hp);clear hp;obtain ⟨A,c,rfl,hc,hr⟩:=h;clear hr
 go_enter Tryz.func54,Tryz.ntmps54
 go_wp2_with fail
 refine H.out.mono ?_;rintro e w1 ⟨r,rfl,hr,hr1,hd⟩;have HR:=zh hr;clear hr;have HD:=zh hd;clear hd
 go_wp2_with fail
 go_ret;refine ⟨zd ?_,HD.out⟩;rw [Bool.eq_iff_iff,decide_eq_true_iff];exact HR.out
theorem zdl {ok:Nat→Prop} {v:Value} {l:List (List Bool)} (n:FuncId) (caps:Array Value) (p:List Bool→Bool) (w:World) (h:Each (zaQ w ok) w ok v l) (hl:l.length≤20000000000000) (hcf:∀(a:Array Value) (w:World),(callFunc n a).run Tryz.prog w=.ok (.enter n a) w)
  (hp:∀x∈l,∀u,zaQ w ok u x→∀w1,zG w w1→Calls Tryz.prog n (#[u]++caps) w1 fun e w'=>e=.returned (.bool (p x))∧zG w1 w'):
  Calls Tryz.prog 76 #[v,.func (.func n) #[] caps] w fun e w'=>e=.returned (.bool (l.any p))∧zG w w':=by
 have H:=zh (indexFuncB_calls n caps p w h hl hcf hp);clear hp;obtain ⟨vs,⟨A,c,rfl,hc,hr⟩,he⟩:=h;clear hr he
 go_enter Tryz.func76,Tryz.ntmps76
 go_wp2_with fail
 refine H.out.mono ?_;rintro e w1 ⟨r,rfl,hr,hr1,hd⟩;have HR:=zh hr;clear hr;have HD:=zh hd;clear hd
 go_wp2_with fail
 go_ret;refine ⟨zd ?_,HD.out⟩;rw [Bool.eq_iff_iff,decide_eq_true_iff];exact HR.out
def zU (n x:Int):Bool:=decide (x<0) || decide (n≤x)
def side (x:Int):Bool:=decide (x<1) || decide (300<x)
def chk (m:MZ):Int:=
 if [m.w,m.h,m.l].any side then 2
 else if 300<m.n∨6<m.tasks.length then 2
 else if m.free.length≠m.tasks.length∨(m.up.length:Int)≠m.n∨m.free.any (fun f=>(f.length:Int) != m.n)=true then 1
 else if m.tasks.any (fun t=>t.1.any (zU m.n) || t.2.any (zU m.n)) then 50
 else 0
theorem cf51 (a:Array Value) (w:World):(callFunc 77 a).run Tryz.prog w=.ok (.enter 77 a) w:=zad Tryz.func77 (by kernel_rfl) (by kernel_rfl) a w
theorem cf52 (a:Array Value) (w:World):(callFunc 78 a).run Tryz.prog w=.ok (.enter 78 a) w:=zad Tryz.func78 (by kernel_rfl) (by kernel_rfl) a w
theorem check1_calls {ok:Nat→Prop} {u:Value} {f:List Bool} (g:Nat) (n:Int) (w:World) (hu:zaQ w ok u f) (hc:w.cell? ⟨g,0,none⟩=some (.int .i64 n)):
  Calls Tryz.prog 77 #[u,.pointer (some ⟨g,0,none⟩)] w fun e w'=>e=.returned (.bool ((f.length:Int) != n))∧zG w w':=by
 obtain ⟨A,c,rfl,hcc,hr⟩:=hu;clear hr
 go_enter Tryz.func77,Tryz.ntmps77
 go_wp2;go_ret;exact ⟨rfl,zG.refl _⟩
theorem check2_calls (g:Nat) (n x:Int) (w:World) (hc:w.cell? ⟨g,0,none⟩=some (.int .i64 n)):
  Calls Tryz.prog 78 #[.int .i64 x,.pointer (some ⟨g,0,none⟩)] w fun e w'=>e=.returned (.bool (zU n x))∧zG w w':=by
 by_cases hx:x<0
 ·go_enter Tryz.func78,Tryz.ntmps78
  go_wp2;go_ret;exact ⟨zd (by simp [zU,hx]),zG.refl _⟩
 ·go_enter Tryz.func78,Tryz.ntmps78
  go_wp2;go_ret;refine ⟨zd ?_,zG.refl _⟩;simp [zU];omega
structure Lens (m:MZ):Prop where
 fr:m.free.length≤20000000000000
 up:m.up.length≤20000000000000
 ts:m.tasks.length≤20000000000000
 tl:∀t∈m.tasks,t.1.length≤400000000000∧t.2.length≤400000000000
theorem three_cells {w:World} {g:Nat} {t:TypeId} {a b c:Int} (h:Blk w g t #[.int .i64 a,.int .i64 b,.int .i64 c]) (k:Nat) (hk:k<3):w.cell? ⟨g,k,none⟩=some (.int .i64 ([a,b,c][k])):=by
 unfold Blk at h;unfold World.cell?;simp only [h]
 match k,hk with
 | 0,_=>rfl
 | 1,_=>rfl
 | 2,_=>rfl
theorem zam {w:World} {ok:Nat→Prop} {A:Option Addr} {n c:Nat} {l:List (List Int×List Int)} (h:zbh w ok (.slice A n c) l) {k:Nat} (hk:k<l.length):
  ∃b off s u1 u2,A=some ⟨b,off,none⟩∧ok b∧w.cell? ⟨b,off+k*3,none⟩=some (.string s)∧w.cell? ⟨b,off+k*3+1,none⟩=some u1∧w.cell? ⟨b,off+k*3+2,none⟩=some u2∧zf w ok u1 l[k].1∧zf w ok u2 l[k].2:=by
 obtain ⟨vs,⟨A',c',hv,_,hl,hc⟩,he⟩:=h;injection hv with e1 e2 e3;subst e1;obtain ⟨b,off,rfl,hb,hc⟩:=hc (by omega);obtain ⟨s,u1,u2,h0,h1,h2,i1,i2⟩:=he k _ (List.getElem?_eq_getElem hk);exact ⟨b,off,s,u1,u2,rfl,hb,hc _ _ h0,by rw [Nat.add_assoc];exact hc _ _ h1,by rw [Nat.add_assoc];exact hc _ _ h2,i1,i2⟩
structure CI (w wr:World) (cells:Array Value) (ints:Array Value):Prop where
 below:Below w.heap.size w wr
 box:Blk wr w.heap.size 32 cells
 ints:Blk wr (w.heap.size+1) 3 ints
theorem CI.call {w wr w':World} {c i:Array Value} (h:CI w wr c i) (hb:Below wr.heap.size wr w'):CI w w' c i:=
 ⟨zaR h.below hb (Nat.le_refl _),h.box.below hb (zb h.box),h.ints.below hb (zb h.ints)⟩
theorem CI.new (w:World) (c i:Array Value):CI w ((w.alloc (.cells c 32)).alloc (.cells i 3)) c i:=
 ⟨((Below.refl _ _).alloc (Nat.le_refl _) _).alloc (by simp) _,Blk.alloc (heap_alloc_new w _) _,by
  have:=heap_alloc_new (w.alloc (.cells c 32)) (.cells i 3);simpa [Blk] using this⟩
theorem chk_side {m:MZ} (h:[m.w,m.h,m.l].any side=true):chk m=2:=by
 unfold chk;rw [if_pos h]
structure CJ (w wr:World) (cells:Array Value) (g:Nat) (n:Int):Prop where
 below:Below w.heap.size w wr
 box:Blk wr w.heap.size 32 cells
 all:wr.cell? ⟨g,0,none⟩=some (.int .i64 n)
theorem CJ.call {w wr w':World} {c:Array Value} {g:Nat} {n:Int} (h:CJ w wr c g n) (hb:Below wr.heap.size wr w'):CJ w w' c g n:=
 ⟨zaR h.below hb (Nat.le_refl _),h.box.below hb (zb h.box),(zbI (hb.block g (zl h.all))).trans h.all⟩
theorem CJ.new {w w':World} {c i:Array Value} (h:CI w w' c i) (n:Int):CJ w (w'.alloc (.cells #[.int .i64 n] 3)) c w'.heap.size n:=
 ⟨h.below.alloc (Nat.le_of_lt (zb h.box)) _,h.box.alloc _,by
  have:=heap_alloc_new w' (.cells #[.int .i64 n] 3);unfold World.cell?;simp only [this];rfl⟩
theorem CJ.alloc {w wr:World} {c:Array Value} {g:Nat} {n:Int} (h:CJ w wr c g n) (o:Obj):CJ w (wr.alloc o) c g n:=
 ⟨h.below.alloc (Nat.le_of_lt (zb h.box)) _,h.box.alloc _,(zbI (Below.heap_alloc wr o g (zl h.all))).trans h.all⟩
theorem cells3 {w:World} {g:Nat} {t:TypeId} {a0 a1 a2:Value} (h:Blk w g t #[a0,a1,a2]):
  w.cell? ⟨g,0,none⟩=some a0∧w.cell? ⟨g,1,none⟩=some a1∧w.cell? ⟨g,2,none⟩=some a2:=by
 unfold Blk at h;unfold World.cell?;simp only [h];exact ⟨rfl,rfl,rfl⟩
theorem sides {m:MZ} (h:[m.w,m.h,m.l].any side=false):(1≤m.w∧m.w≤300)∧(1≤m.h∧m.h≤300)∧(1≤m.l∧m.l≤300):=by
 simp [side] at h;omega
theorem sides_mul {m:MZ} (h:[m.w,m.h,m.l].any side=false):(1≤m.w*m.h∧m.w*m.h≤90000)∧(1≤m.w*m.h*m.l∧m.w*m.h*m.l≤27000000):=by
 obtain ⟨⟨a1,a2⟩,⟨b1,b2⟩,c1,c2⟩:=sides h;have h1:1≤m.w*m.h:=by have:=Int.mul_pos (a:=m.w) (b:=m.h) (by omega) (by omega);omega
 have h2:m.w*m.h≤300*300:=Int.mul_le_mul a2 b2 (by omega) (by omega);have h3:1≤m.w*m.h*m.l:=by have:=Int.mul_pos (a:=m.w*m.h) (b:=m.l) (by omega) (by omega);omega
 have h4:m.w*m.h*m.l≤300*300*300:=Int.mul_le_mul h2 c2 (by omega) (by omega);omega
theorem zaM {ok:Nat→Prop} {v:Value} {m:MZ} (w:World) (hm:zr w ok v m) (hl:Lens m):
  Calls Tryz.prog 41 #[v] w fun e w'=>e=.returned (.int .i64 (chk m))∧Below w.heap.size w w':=by
 have hmz:=hm;obtain ⟨vfr,vup,vts,rfl,hfr,hup,hts⟩:=hm;obtain ⟨vsf,⟨Af,cf,rfl,hcf,hrf⟩,hef⟩:=hfr;obtain ⟨Au,cu,rfl,hcu,hru⟩:=hup;obtain ⟨vst,⟨At,ct,rfl,hct,hrt⟩,het⟩:=hts;obtain ⟨l1,l2,l3,l4⟩:=hl;have HRF:=zh hrf;clear hrf;have HEF:=zh hef;clear hef;have HRT:=zh hrt;clear hrt;have HET:=zh het;clear het;have HL4:=zh l4;clear l4;clear hru hmz
 go_enter Tryz.func41,Tryz.ntmps41
 go_wp2;have hCI:=CI.new w #[.int .i64 m.w,.int .i64 m.h,.int .i64 m.l,.slice Af m.free.length cf,.slice Au m.up.length cu,.slice At m.tasks.length ct] #[.int .i64 m.w,.int .i64 m.h,.int .i64 m.l];go_loopw [17] (fun i wr=>∃k:Nat,k≤3∧i=.int .i64 k∧Hid (([m.w,m.h,m.l].take k).any side=false)∧Hid (CI w wr #[.int .i64 m.w,.int .i64 m.h,.int .i64 m.l,.slice Af m.free.length cf,.slice Au m.up.length cu,.slice At m.tasks.length ct] #[.int .i64 m.w,.int .i64 m.h,.int .i64 m.l])) (fun i _=>3 - (intOf i).toNat)
 case atStart=>exact ⟨0,by omega,rfl,by simp [Hid],hCI⟩
 clear hCI
 case round=>
  obtain ⟨k,hk,rfl,hn,hI⟩:=hrel;by_cases hlt:k<3
  ·obtain ⟨x,hx⟩:∃x,x=[m.w,m.h,m.l][k]'hlt:=⟨_,rfl⟩;have hcell:=three_cells hI.out.ints k hlt;rw [←hx] at hcell;have hsucc:=zh (za3 (l:=[m.w,m.h,m.l]) side hlt);rw [←hx] at hsucc;have HX:=zh (show x∈[m.w,m.h,m.l] by rw [hx];exact List.getElem_mem _);clear hx;by_cases h1:x<1
   ·go_wp2;go_ret;refine ⟨zaz ?_,hI.out.below⟩;rw [chk_side];exact List.any_eq_true.2 ⟨x,HX.out,by simp [side,h1]⟩
   ·by_cases h2:300<x
    ·go_wp2;go_ret;refine ⟨zaz ?_,hI.out.below⟩;rw [chk_side];exact List.any_eq_true.2 ⟨x,HX.out,by simp [side,h2]⟩
    ·have HS:=zh (show side x=false by simp [side,h1,h2]);go_wp2;go_roundw
     case rel=>exact ⟨k+1,by omega,by go_num,by
      show _=false;rw [hsucc.out,hn.out,HS.out];rfl,hI⟩
     case measure=>simp [intOf];omega
  ·obtain rfl:k=3:=by omega
   have HN:Hid ([m.w,m.h,m.l].any side=false):=hn.out;clear hn;obtain ⟨m0,m1,m2,m3,m4,m5⟩:=zw hI.out.box;obtain ⟨⟨p1,p2⟩,p3,p4⟩:=sides_mul HN.out
   have hret2:300<m.n∨6<m.tasks.length→chk m=2:=by
    intro h;unfold chk;rw [if_neg (by rw [HN.out];simp),if_pos h]
   have HR2:=zh hret2;clear hret2
   go_wp2_with fail
   refine (zal _ _ _ _ _ _ _ (by omega) (by omega)).mono ?_;rintro e w' ⟨rfl,hb⟩;have hI1:=zh (hI.out.call hb);clear hI m0 m1 m2 m3 m4 m5 hb;have hal:∀o,_:=fun o=>zw (hI1.out.box.alloc o)
   by_cases hn:300<m.w*m.h*m.l
   ·go_wp2;go_ret;exact ⟨zaz (HR2.out (.inl hn)).symm,hI1.out.below.alloc (Nat.le_of_lt (zb hI1.out.box)) _⟩
   by_cases ht:6<m.tasks.length
   ·go_wp2;go_ret;exact ⟨zaz (HR2.out (.inr ht)).symm,hI1.out.below.alloc (Nat.le_of_lt (zb hI1.out.box)) _⟩
   have hret1:(m.free.length≠m.tasks.length∨(m.up.length:Int)≠m.n∨m.free.any (fun f=>(f.length:Int) != m.n)=true)→chk m=1:=by
    intro h;unfold chk;rw [if_neg (by rw [HN.out];simp),if_neg (by unfold MZ.n;omega),if_pos h]
   have HR1:=zh hret1;clear hret1;by_cases hf:m.free.length=m.tasks.length
   case neg=>
    go_wp2;go_ret;exact ⟨zaz (HR1.out (.inl hf)).symm,hI1.out.below.alloc (Nat.le_of_lt (zb hI1.out.box)) _⟩
   by_cases hu:(m.up.length:Int)=m.w*m.h*m.l
   case neg=>
    go_wp2;go_ret;exact ⟨zaz (HR1.out (.inr (.inl hu))).symm,hI1.out.below.alloc (Nat.le_of_lt (zb hI1.out.box)) _⟩
   have hI2:=zh (CJ.new hI1.out (m.w*m.h*m.l));have hgt:w.heap.size<w'.heap.size:=zb hI1.out.box;clear hI1
   have hBB:zaG w ok (.slice Af m.tasks.length cf) m.free:=by
    rw [←hf];exact ⟨vsf,⟨Af,cf,rfl,hcf,HRF.out⟩,HEF.out⟩
   go_wp2_with fail
   refine (zdl (ok:=ok) 77 _ (fun f=>(f.length:Int) != m.w*m.h*m.l) _ (hBB.below hI2.out.below) l1 cf51 ?hp).mono ?_
   case hp=>exact fun x hx u hu w1 hd=>check1_calls w'.heap.size _ w1 (hu.keep (hd.same ok)) (hI2.out.call (hd.below _)).all
   rintro e w1 ⟨rfl,hd⟩;have hI3:=zh (hI2.out.call (hd.below _));clear hI2 hd hal;by_cases ha:m.free.any (fun f=>(f.length:Int) != m.w*m.h*m.l)=true
   ·rw [ha];go_wp2;go_ret;exact ⟨zaz (HR1.out (.inr (.inr ha))).symm,hI3.out.below⟩
   have ha':=zh (show m.free.any (fun f=>(f.length:Int) != m.w*m.h*m.l)=false by simpa using ha);clear ha;rw [ha'.out];obtain ⟨m0,m1,m2,m3,m4,m5⟩:=zw hI3.out.box;have hTT:zbh w ok (.slice At m.tasks.length ct) m.tasks:=⟨vst,⟨At,ct,rfl,hct,HRT.out⟩,HET.out⟩
   go_wp2_with fail
   go_loopw [62] (fun i wr=>∃k:Nat,k≤m.tasks.length∧i=.int .i64 k∧Hid ((m.tasks.take k).any (fun t=>t.1.any (zU m.n) || t.2.any (zU m.n))=false)∧Hid (CJ w wr #[.int .i64 m.w,.int .i64 m.h,.int .i64 m.l,.slice Af m.free.length cf,.slice Au m.up.length cu,.slice At m.tasks.length ct] w'.heap.size (m.w*m.h*m.l))) (fun i _=>m.tasks.length - (intOf i).toNat)
   case atStart=>exact ⟨0,by omega,rfl,by simp [Hid],hI3⟩
   clear hI3 m0 m1 m2 m3 m4 m5 hBB
   case round=>
    obtain ⟨k,hk,rfl,hn,hI⟩:=hrel;by_cases hlt:k<m.tasks.length
    ·obtain ⟨b,off,sn,u1,u2,rfl,_,hc0,hc1,hc2,hi1,hi2⟩:=zam (hTT.below hI.out.below) hlt;obtain ⟨A1,c1,rfl,hcc1,hr1⟩:=hi1.open;obtain ⟨A2,c2,rfl,hcc2,hr2⟩:=hi2.open;obtain ⟨hl1,hl2⟩:=HL4.out _ (List.getElem_mem hlt);clear hr1 hr2;have HI1:=zh hi1;clear hi1;have HI2:=zh hi2;clear hi2;have HTT:=zh hTT;clear hTT;obtain ⟨t,ht⟩:∃t,t=m.tasks[k]:=⟨_,rfl⟩;rw [←ht] at HI1 HI2 hc1 hc2 hcc1 hcc2 hl1 hl2;have hsucc:=zh (za3 (fun t=>t.1.any (zU m.n) || t.2.any (zU m.n)) hlt);rw [←ht] at hsucc;have HM:=zh (show t∈m.tasks by rw [ht];exact List.getElem_mem _);clear ht;have hI3:=zh (hI.out.alloc (.cells #[.string sn,.slice A1 t.1.length c1,.slice A2 t.2.length c2] 56));have hB3:=zh (heap_alloc_new wr (.cells #[.string sn,.slice A1 t.1.length c1,.slice A2 t.2.length c2] 56))
     have hret:(t.1.any (zU m.n) || t.2.any (zU m.n))=true→chk m=50:=by
      intro h;unfold chk;rw [if_neg (by rw [HN.out];simp),if_neg (by unfold MZ.n;omega),if_neg (by unfold MZ.n;rw [ha'.out];simp;omega),if_pos (List.any_eq_true.2 ⟨t,HM.out,h⟩)]
     have HRET:=zh hret;clear hret
     go_wp2_with fail
     refine (za0 (ok:=ok) 78 _ (zU (m.w*m.h*m.l)) _ (HI1.out.below ((Below.refl _ _).alloc (Nat.le_refl _) _)) (by omega) cf52 ?hp).mono ?_
     case hp=>exact fun x hx w1 hd=>check2_calls w'.heap.size _ x w1 (hI3.out.call (hd.below _)).all
     rintro e w4 ⟨rfl,hd⟩;have hI4:=zh (hI3.out.call (hd.below _));have hB4:Hid (Blk w4 wr.heap.size 56 _):=Blk.below hB3.out (hd.below _) (zb hB3.out);have hb4:Hid (Below wr.heap.size wr w4):=((Below.refl _ _).alloc (Nat.le_refl _) _).trans (hd.below _);clear hd hI3 hB3;obtain ⟨q0,q1,q2⟩:=cells3 hB4.out;by_cases ha1:t.1.any (zU (m.w*m.h*m.l))=true
     ·rw [ha1];go_wp2;go_ret;exact ⟨zaz (HRET.out (by show (t.1.any (zU (m.w*m.h*m.l)) || _)=true;rw [ha1];rfl)).symm,hI4.out.below⟩
     ·have ha1:t.1.any (zU (m.w*m.h*m.l))=false:=by simpa using ha1
      rw [ha1];have HA1:=zh ha1;clear ha1
      go_wp2_with fail
      refine (za0 (ok:=ok) 78 _ (zU (m.w*m.h*m.l)) _ (HI2.out.below hb4.out) (by omega) cf52 ?hp).mono ?_
      case hp=>exact fun x hx w1 hd=>check2_calls w'.heap.size _ x w1 (hI4.out.call (hd.below _)).all
      rintro e w5 ⟨rfl,hd⟩;have hI5:=zh (hI4.out.call (hd.below _));clear hd hI4 hB4 q0 q1 q2;by_cases ha2:t.2.any (zU (m.w*m.h*m.l))=true
      ·rw [ha2];go_wp2;go_ret;exact ⟨zaz (HRET.out (by show (_ || t.2.any (zU (m.w*m.h*m.l)))=true;rw [ha2];simp)).symm,hI5.out.below⟩
      ·have ha2:t.2.any (zU (m.w*m.h*m.l))=false:=by simpa using ha2
       rw [ha2];have HA2:=zh ha2;clear ha2
       go_wp2_with fail
       go_roundw
       case rel=>exact ⟨k+1,by omega,by go_num,by
        show _=false;rw [hsucc.out,hn.out];show (_ || (t.1.any (zU (m.w*m.h*m.l)) || t.2.any (zU (m.w*m.h*m.l))))=false;rw [HA1.out,HA2.out];rfl,hI5⟩
       case measure=>simp [intOf];omega
    ·obtain rfl:k=m.tasks.length:=by omega
     go_wp2;go_ret;refine ⟨zaz ?_,hI.out.below⟩;have hn:=hn.out;rw [List.take_length] at hn;unfold chk;rw [if_neg (by rw [HN.out];simp),if_neg (by unfold MZ.n;omega),if_neg (by unfold MZ.n;rw [ha'.out];simp;omega),if_neg (by rw [hn];simp)]
theorem setCells_nil (w:World) (b off:Nat):w.setCells b off []=w:=by
 unfold World.setCells;rfl
theorem zdi {ok:Nat→Prop} (w:World) (base:Nat) (t ty e:TypeId) (i:TypeInfo) (z:Value) (bytes:Nat) (ht:Tryz.prog.underlying t=some (.slice e)) (hi:Tryz.prog.info? e=some i) (hz:i.zero=some z)
  (hsize:i.size=1) (hby:i.bytes=bytes) (hzs:z.cells.size=1)
  (v:Value) (n:Nat) (xs:List Value) (hown:w.ownsRow base e 1 v n xs) (u:Value) (m:Nat) (news:List Value) (hu:Row w ok 1 u m news) (h1:∀u∈news,u.oneCell'=true)
  (h63:n+m≤maxLen) (hbytes:(n+m)*bytes≤140737488355328) (hbase:base≤w.heap.size):
  ∃v' w',(Builtin.append_ #[t,t] ty #[v,u]).run Tryz.prog w=.ok v' w'∧w'.ownsRow base e 1 v' (n+m) (xs++news)∧w.grownBy w' v.ownBlock∧(v'.ownBlock=v.ownBlock∨v'.ownBlock=some w.heap.size):=by
 obtain ⟨A,c,rfl,hc,hl,hcells⟩:=hu;rcases A with _ | a
 ·have hm:m=0:=by
   rcases Nat.eq_zero_or_pos m with h | h
   ·exact h
   ·obtain ⟨b,off,e,_⟩:=hcells h;cases e
  subst hm;have hn:news=[]:=List.eq_nil_of_length_eq_zero (by simpa using hl);subst hn;refine ⟨v,w,?_,by simpa using hown,⟨rfl,rfl,rfl,Nat.le_refl _,fun _ _ _=>rfl⟩,.inl rfl⟩;rcases hown.2 with ⟨rfl,rfl⟩ | ⟨g,cap,cur,rfl,hbg,hg,hnc,hcm,hcs,htake⟩
  ·simp [Builtin.append_,run_underlying ht,sizeOf,typeInfo,hi,hsize,Builtin.lenOf,Builtin.firstCells,loadCells,loadCellsFrom]
  ·have h:=run_append_room_src (P:=Tryz.prog) w t t ty e i ht hi g 0 n cap (.slice none 0 c) 0 [] (by rw [hsize];exact Src.ofNil w ht c) (by omega) (by simp) (by simp);rw [setCells_nil] at h;simpa using h
 ·rcases Nat.eq_zero_or_pos m with h0 | hpos
  ·subst h0;have hn:news=[]:=List.eq_nil_of_length_eq_zero (by simpa using hl);subst hn;obtain ⟨v',w',h1,h2,h3,h4,h5⟩:=run_append_own_at (P:=Tryz.prog) w base t ty e i z 1 bytes ht hi hz hsize hby hzs (by decide) v n xs hown a 0 c [] (by simp) (by simp) (by simp) h63 hbytes hbase;exact ⟨v',w',h1,h2,h3,h5⟩
  ·obtain ⟨b,off,he,_,hc'⟩:=hcells hpos;injection he with he;subst he;obtain ⟨v',w',h1,h2,h3,h4,h5⟩:=run_append_own_at (P:=Tryz.prog) w base t ty e i z 1 bytes ht hi hz hsize hby hzs (by decide) v n xs hown ⟨b,off,none⟩ m c news (by simpa using hl) (fun j u hj=>by rw [Addr.add_lit];exact hc' j u hj) h1 h63 hbytes hbase;exact ⟨v',w',h1,h2,h3,h5⟩
theorem zbE {ok:Nat→Prop} {o:Oper} {a:Act} {K:Act→World→Prop} {Q:Exit→Act→World→Prop} (W:World) (s x:Operand)
  (ho:o.op=.call { callee:=.builtin .append,args:=#[s,x],argTypes:=#[23,23] }) (base:Nat) (l l2:List Int) (v u:Value) (hs:a.eval s=v) (hx:a.eval x=u)
  (hown:zy W base v l) (hu:zf W ok u l2) (hbase:base≤W.heap.size) (hl:l.length+l2.length≤1000000000000)
  (h:∀v' w',zy w' base v' (l++l2)→Hid (W.grownBy w' v.ownBlock)→Hid (v'.ownBlock=v.ownBlock∨v'.ownBlock=some W.heap.size)→K (a.put o.dst v') w'):Oper.wp Tryz.prog o a W K Q:=by
 obtain ⟨i0,hi,hz0,hz1,hz2⟩:=info_parts Tryz.infoInt
 obtain ⟨v',w',hr,h2,h3,h5⟩:=zdi (ok:=ok) W base 23 o.type 3 i0 (.int .i64 0) 8 Tryz.underlying23 hi hz0 hz1 hz2 rfl v _ _ hown u _ _ hu (by
  intro u hu;obtain ⟨_,_,rfl⟩:=List.mem_map.1 hu;rfl) (by unfold maxLen;omega) (by omega) hbase
 unfold Oper.wp execOp;simp only [ho,resolve,invoke,builtin,Sem.run_bind,Sem.run_pure,Result.andThen_ok,List.map_toArray,List.map_cons,List.map_nil,hs,hx,hr];refine h v' w' ?_ h3 h5;unfold zy;rw [List.map_append,List.length_append];exact h2
theorem za7 {ok:Nat→Prop} {ops:Array Oper} {o:Oper} {a:Act} {K:Act→World→Prop} {Q:Exit→Act→World→Prop} {E:Prop} (hgd:o.guard=none) (W:World) (s x:Operand)
  (ho:o.op=.call { callee:=.builtin .append,args:=#[s,x],argTypes:=#[23,23] }) (base:Nat) (l l2:List Int) (v u:Value) (hs:a.eval s=v) (hx:a.eval x=u)
  (hown:zy W base v l) (hu:zf W ok u l2) (hbase:base≤W.heap.size) (hl:l.length+l2.length≤1000000000000)
  (h:∀v' w',zy w' base v' (l++l2)→Hid (W.grownBy w' v.ownBlock)→Hid (v'.ownBlock=v.ownBlock∨v'.ownBlock=some W.heap.size)→K (a.put o.dst v') w'):
  if Region.wanted o (yielded ops a.tmps)=true then Oper.wp Tryz.prog o a W K Q else E:=by
 have hw:Region.wanted o (yielded ops a.tmps)=true:=by simp [Region.wanted,hgd]
 rw [if_pos hw];exact zbE W s x ho base l l2 v u hs hx hown hu hbase hl h
theorem zaC {ok:Nat→Prop} {ops:Array Oper} {rest:List Oper} {o:Oper} {a:Act} {Q:Exit→Act→World→Prop} (hgd:o.guard=none) (W:World) (s x:Operand)
  (ho:o.op=.call { callee:=.builtin .append,args:=#[s,x],argTypes:=#[23,23] }) (base:Nat) (l l2:List Int) (v u:Value) (hs:a.eval s=v) (hx:a.eval x=u)
  (hown:zy W base v l) (hu:zf W ok u l2) (hbase:base≤W.heap.size) (hl:l.length+l2.length≤1000000000000)
  (h:∀v' w',zy w' base v' (l++l2)→Hid (W.grownBy w' v.ownBlock)→Hid (v'.ownBlock=v.ownBlock∨v'.ownBlock=some W.heap.size)→wpList Tryz.prog ops Q rest (a.put o.dst v') w'):wpList Tryz.prog ops Q (o :: rest) a W:=by
 refine wpList_plain hgd fun K hK=>?_
 exact zbE W s x ho base l l2 v u hs hx hown hu hbase hl fun v' w' h1 h2 h3=>hK _ _ (h v' w' h1 h2 h3)
theorem za8 {W:World} {B k:Nat} {v:Value} {l:List Int} (h:zy W B v l) (hk:v.ownBlock=some k):B≤k:=by
 rcases h.2 with ⟨rfl,_⟩ | ⟨g,cap,cur,rfl,hg,_⟩
 ·cases hk
 ·have hk:some g=some k:=hk;injection hk with hk;omega
theorem zce (W:World) (B:Nat) (hB:B≤W.heap.size):zy (W.alloc (.cells #[] 3)) B (.slice (some ⟨W.heap.size,0,none⟩) 0 0) []:=
 ⟨rfl,.inr ⟨W.heap.size,0,#[],rfl,hB,heap_alloc_new W _,Nat.le_refl _,by decide,rfl,rfl⟩⟩
theorem zT {B:Nat} {a W w':World} {v:Value} (h:Below B a W) (hg:Hid (W.grownBy w' v.ownBlock)) (hB:B≤W.heap.size) (hv:∀k,v.ownBlock=some k→B≤k):Below B a w':=h.grown hg.out hB hv
def Ext (w w':World):Prop:=Below w.heap.size w w'
theorem Ext.refl (w:World):Ext w w:=Below.refl _ _
theorem Ext.trans {a b c:World} (h:Ext a b) (h':Ext b c):Ext a c:=zaR h h' (Nat.le_refl _)
theorem Ext.alloc {a b:World} (h:Ext a b) (o:Obj):Ext a (b.alloc o):=Below.alloc h h.size o
theorem Ext.drew {a b:World} (h:Ext a b):Ext a b.drew:=Below.drew h
theorem Ext.drewN {a b:World} (h:Ext a b) (n:Nat):Ext a (b.drewN n):=zbQ h n
theorem Ext.cell {w W:World} {p:Addr} {v:Value} (h:w.cell? p=some v) (hW:Ext w W):W.cell? p=some v:=(Below.cell hW (zl h)).trans h
theorem Ext.rule {w:World} {p:Addr} {v:Value} (h:w.cell? p=some v):∀W,Ext w W→W.cell? p=some v:=fun _ hW=>hW.cell h
theorem zQ (w:World):∀W o,Ext w W→Ext w (W.alloc o):=fun _ o h=>h.alloc o
structure Mk (w1 w:World) (v:Value) (l:List Int):Prop where
 own:zy w w1.heap.size v l
 ext:Ext w1 w
theorem Mk.nil (w1:World):Mk w1 w1 (.slice none 0 0) []:=⟨World.ownsRow_nil _ _ _ _,Ext.refl _⟩
theorem Mk.nil' {w1 w:World} (h:Ext w1 w):Mk w1 w (.slice none 0 0) []:=⟨World.ownsRow_nil _ _ _ _,h⟩
theorem Mk.app {w1 w w':World} {v v':Value} {l l':List Int} (h:Mk w1 w v l) (ho:zy w' w1.heap.size v' l') (hg:Hid (w.grownBy w' v.ownBlock)):Mk w1 w' v' l':=
 ⟨ho,zT h.ext hg h.ext.size (fun k hk=>za8 h.own hk)⟩
theorem Mk.more {w1 w w':World} {v:Value} {l:List Int} (h:Mk w1 w v l) (hb:Ext w w'):Mk w1 w' v l:=
 ⟨h.own.kept (row:=none) ⟨hb.os,hb.tape,hb.output,hb.size,fun i hi _=>hb.block i hi⟩ (by cases h:v.ownBlock <;> simp),h.ext.trans hb⟩
theorem Mk.alloc {w1 w:World} {v:Value} {l:List Int} (h:Mk w1 w v l) (o:Obj):Mk w1 (w.alloc o) v l:=h.more ((Ext.refl _).alloc o)
theorem Mk.drew {w1 w:World} {v:Value} {l:List Int} (h:Mk w1 w v l):Mk w1 w.drew v l:=⟨h.own,h.ext.drew⟩
theorem Mk.cast {w1 w:World} {v:Value} {l l':List Int} (h:Mk w1 w v l) (e:l'=l):Mk w1 w v l':=e ▸ h
theorem Mk.ints {w1 w:World} {v:Value} {l:List Int} (h:Mk w1 w v l):zf w (fun b=>w1.heap.size≤b) v l:=Row.of_own h.own
theorem Mk.slice {w1 w:World} {v:Value} {l:List Int} (h:Mk w1 w v l):∃A c,v=.slice A l.length c∧l.length≤c:=by
 obtain ⟨A,c,e,hc,_⟩:=h.ints;exact ⟨A,c,e,hc⟩
theorem Ext.mono_mk {w w1 w':World} {v:Value} {l:List Int} (h:Ext w w1) (hm:Mk w1 w' v l):Mk w w' v l:=⟨hm.own.mono h.size,h.trans hm.ext⟩
theorem held_ext {w1 wk a b:World} (h:Ext w1 a∧Ext wk a) (hb:Below a.heap.size a b):Ext w1 b∧Ext wk b:=⟨h.1.trans hb,h.2.trans hb⟩
theorem zc6 {w1 wk:World} (h:Ext w1 wk):Ext w1 wk.drew∧Ext wk wk.drew:=⟨h.drew,(Ext.refl wk).drew⟩
theorem za6 {w:World} {B:Nat} {v:Value} {l:List Int} (h:zy w B v l):∃A c,v=.slice A l.length c∧l.length≤c:=by
 obtain ⟨A,c,e,hc,_⟩:=Row.of_own h;exact ⟨A,c,e,hc⟩
theorem own_at {w:World} {B n c:Nat} {A:Option Addr} {l:List Int} (h:zy w B (.slice A n c) l) {k:Nat} (hk:k<l.length):∃b,A=some ⟨b,0,none⟩∧B≤b∧w.cell? ⟨b,k,none⟩=some (.int .i64 l[k]):=by
 obtain ⟨g,cap,hv,hg,hlt⟩:=World.ownsRow.form h (by omega);injection hv with h1 h2 h3;subst h1 h2 h3;refine ⟨g,rfl,hg,?_⟩;rw [World.ownsRow.cellAt h k (by omega)];simp [hk]
theorem zm (W:World) (v:Value) (t:TypeId) {g:Nat} (h:g=W.heap.size):(W.alloc (.cells #[v] t)).cell? ⟨g,0,none⟩=some v:=by
 subst h;unfold World.cell?;simp only [heap_alloc_new];rfl
end Go.Proofs.YthbjngbhbbkkgaaGreat
