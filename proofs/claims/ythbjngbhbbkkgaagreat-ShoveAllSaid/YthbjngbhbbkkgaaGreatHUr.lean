/- RtVh RtPk RtUd RtMj RtMv -/
import Derived.Test.YthbjngbhbbkkgaaGreatHUa
import Derived.Test.YthbjngbhbbkkgaaGreatHUb
import Derived.Test.YthbjngbhbbkkgaaGreatHUc
import Derived.Test.YthbjngbhbbkkgaaGreatHUd
import Derived.Test.YthbjngbhbbkkgaaGreatHUe
import Derived.Test.YthbjngbhbbkkgaaGreatHUf
import Derived.Test.YthbjngbhbbkkgaaGreatHUg
import Derived.Test.YthbjngbhbbkkgaaGreatHUh
import Derived.Test.YthbjngbhbbkkgaaGreatHUi
import Derived.Test.YthbjngbhbbkkgaaGreatHUj
import Derived.Test.YthbjngbhbbkkgaaGreatHUk
import Derived.Test.YthbjngbhbbkkgaaGreatHUl
import Derived.Test.YthbjngbhbbkkgaaGreatHUm
import Derived.Test.YthbjngbhbbkkgaaGreatHUn
import Derived.Test.YthbjngbhbbkkgaaGreatHUo
import Derived.Test.YthbjngbhbbkkgaaGreatHUp
import Derived.Test.YthbjngbhbbkkgaaGreatHUq
import Derived.StillTailTactics
set_option linter.unusedVariables false
set_option linter.unusedSimpArgs false
set_option maxRecDepth 100000
set_option maxHeartbeats 16000000
namespace Go.Proofs.YthbjngbhbbkkgaaGreat
open Go.RowKit
theorem find_at {p:Nat→Bool} {c n i:Nat} (hi:i<n) (hp:p (c+i)=true) (hn:∀j,j<i→p (c+j)=false):((List.range n).map (c+·)).find? p=some (c+i):=by
 have h:List.range n=List.range i++([i]++(List.range (n - i - 1)).map (i+1+·)):=by
  have h1:n=(i+1)+(n - i - 1):=by omega
  conv=>lhs;rw [h1,List.range_add,List.range_succ,List.append_assoc]
 rw [h,List.map_append,List.find?_append]
 have h0:((List.range i).map (c+·)).find? p=none:=by
  rw [List.find?_eq_none];intro x hx;obtain ⟨j,hj,rfl⟩:=List.mem_map.1 hx;rw [hn j (List.mem_range.1 hj)];simp
 rw [h0];simp [hp]
theorem find_no {p:Nat→Bool} {c n:Nat} (hn:∀j,j<n→p (c+j)=false):((List.range n).map (c+·)).find? p=none:=by
 rw [List.find?_eq_none];intro x hx;obtain ⟨j,hj,rfl⟩:=List.mem_map.1 hx;rw [hn j (List.mem_range.1 hj)];simp
theorem cutT_at {m:MZ} {ch:List Int} {t:Nat} (h0:zO m ch≤t) (h1:t<m.tasks.length) (hp:offB m ch t=true) (hn:∀j,zO m ch≤j→j<t→offB m ch j=false):cutT m ch=some t:=by
 unfold cutT;have:=find_at (p:=offB m ch) (c:=zO m ch) (n:=m.tasks.length - zO m ch) (i:=t - zO m ch) (by omega) (by rw [show zO m ch+(t - zO m ch)=t from by omega];exact hp) (fun j hj=>hn _ (by omega) (by omega));rw [this,show zO m ch+(t - zO m ch)=t from by omega]
theorem cutT_no {m:MZ} {ch:List Int} (hn:∀j,zO m ch≤j→j<m.tasks.length→offB m ch j=false):cutT m ch=none:=by
 unfold cutT;exact find_no fun j hj=>hn _ (by omega) (by omega)
theorem proveP_end {m:MZ} {f k:Nat} {ch:List Int} (h:m.tasks.length≤zO m ch):zq m (f+1) ch k=(51,.zero,k):=by
 conv=>lhs;unfold zq
 rw [if_pos h]
theorem proveP_many {m:MZ} {f k:Nat} {ch:List Int} (h:¬ m.tasks.length≤zO m ch) (hk:3000<k+1):zq m (f+1) ch k=(53,.zero,k+1):=by
 conv=>lhs;unfold zq
 rw [if_neg h,if_pos hk]
theorem proveP_cut {m:MZ} {f k t:Nat} {ch:List Int} (h:¬ m.tasks.length≤zO m ch) (hk:¬ 3000<k+1) (hc:cutT m ch=some t):zq m (f+1) ch k=(0,.node t (zb6 m ch t) [],k+1):=by
 conv=>lhs;unfold zq
 rw [if_neg h,if_neg hk,hc]
theorem proveP_kids {m:MZ} {f k:Nat} {ch:List Int} (h:¬ m.tasks.length≤zO m ch) (hk:¬ 3000<k+1) (hc:cutT m ch=none):zq m (f+1) ch k=if (zV (fun n k=>zq m f (ch++[n]) k) (zM m ch) (k+1) []).1=0 then (0,.node (zO m ch) [] (zV (fun n k=>zq m f (ch++[n]) k) (zM m ch) (k+1) []).2.1,(zV (fun n k=>zq m f (ch++[n]) k) (zM m ch) (k+1) []).2.2) else ((zV (fun n k=>zq m f (ch++[n]) k) (zM m ch) (k+1) []).1,.zero,(zV (fun n k=>zq m f (ch++[n]) k) (zM m ch) (k+1) []).2.2):=by
 conv=>lhs;unfold zq
 rw [if_neg h,if_neg hk,hc]
theorem zcM {f:Int→Nat→Int×PT×Nat} {n:Int} {l:List Int} {k:Nat} {acc:List PT} (h:(f n k).1=0):zV f (n :: l) k acc=zV f l (f n k).2.2 (acc++[(f n k).2.1]):=by
 conv=>lhs;unfold zV
 rw [if_pos h]
theorem kidsR_stop {f:Int→Nat→Int×PT×Nat} {n:Int} {l:List Int} {k:Nat} {acc:List PT} (h:(f n k).1≠0):zV f (n :: l) k acc=((f n k).1,[],(f n k).2.2):=by
 conv=>lhs;unfold zV
 rw [if_neg h]
theorem PrV.bound {w:World} {ok:Nat→Prop} {v:Value} {p:PT} (h:PrV w ok v p):PrV w (fun b=>ok b∧b<w.heap.size) v p:=by
 induction h with
 | mk h1 h2 _ ih=>exact .mk h1.bound (h2.bound (by decide)) ih
theorem own_chg {W W':World} {X:Nat→Prop} {B sz n:Nat} {e:TypeId} {v:Value} {xs:List Value} (h:W.ownsRow B e sz v n xs) (hC:Chg X W W') (hX:∀b,B≤b→¬ X b):W'.ownsRow B e sz v n xs:=by
 refine ⟨h.1,?_⟩;rcases h.2 with h | ⟨g,cap,cur,h1,h2,h3,h4⟩
 ·exact .inl h
 ·exact .inr ⟨g,cap,cur,h1,h2,(hC.block g (zb h3) (hX g h2)).trans h3,h4⟩
structure zbg (W:World) (B:Nat) (v:Value) (acc:List PT) (cs:List Value):Prop where
 own:W.ownsRow B 37 3 v acc.length cs
 each:∀(i:Nat) (hi:i<acc.length),PrV W (fun b=>B≤b∧v.ownBlock≠some b) (.agg #[cs.getD (i*3) undef,cs.getD (i*3+1) undef,cs.getD (i*3+2) undef]) acc[i]
section
variable {W W':World} {B lo:Nat} {v v':Value} {acc:List PT} {cs:List Value} {p:PT} {a b c:Value} {X:Nat→Prop}
theorem zbg.nil (W:World) (B:Nat):zbg W B (.slice none 0 0) [] []:=⟨World.ownsRow_nil _ _ _ _,fun i hi=>absurd hi (by simp)⟩
theorem zbg.chg (h:zbg W B v acc cs) (hC:Chg X W W') (hX:∀b,B≤b→¬ X b):zbg W' B v acc cs:=
 ⟨own_chg h.own hC hX,fun i hi=>(h.each i hi).keepW (fun b hb hlt=>hC.block b hlt (hX b hb.1)) (fun _ h=>h)⟩
theorem zbg.lt (h:zbg W B v acc cs) {k:Nat} (hk:v.ownBlock=some k):B≤k∧k<W.heap.size:=by
 rcases h.own.2 with ⟨rfl,-⟩ | ⟨g,cap,cur,rfl,h1,h2,-⟩
 ·cases hk
 ·have:g=k:=by simpa [Value.ownBlock] using hk
  subst this;exact ⟨h1,zb h2⟩
theorem getD_left {l l2:List Value} {i:Nat} (h:i<l.length):(l++l2).getD i undef=l.getD i undef:=by
 rw [List.getD_eq_getElem?_getD,List.getD_eq_getElem?_getD,List.getElem?_append_left h]
theorem zbg.app (h:zbg W B v acc cs) (hp:PrV W (fun b=>lo≤b) (.agg #[a,b,c]) p) (hlo:∀k,v.ownBlock=some k→k<lo) (hB:B≤lo) (ho:W'.ownsRow B 37 3 v' (acc.length+1) (cs++[a,b,c])) (hg:W.grownBy W' v.ownBlock)
  (hv:v'.ownBlock=v.ownBlock∨v'.ownBlock=some W.heap.size):zbg W' B v' (acc++[p]) (cs++[a,b,c]):=by
 have hcl:cs.length=acc.length*3:=h.own.1
 have hne:∀k,k<W.heap.size→v.ownBlock≠some k→v'.ownBlock≠some k:=fun k hk h1=>by
  rcases hv with h2 | h2
  ·rw [h2];exact h1
  ·rw [h2];intro e;injection e with e;omega
 refine ⟨by rw [List.length_append];exact ho,fun i hi=>?_⟩;by_cases hl:i<acc.length
 ·rw [getD_left (by omega),getD_left (by omega),getD_left (by omega),List.getElem_append_left hl];exact (h.each i hl).bound.keepW (fun k hk hlt=>hg.block k hlt (fun e=>hk.1.2 e.symm)) (fun k hk=>⟨hk.1.1,hne k hk.2 hk.1.2⟩)
 ·have hie:i=acc.length:=by rw [List.length_append,List.length_singleton] at hi;omega
  subst hie;have e0:(cs++[a,b,c]).getD (acc.length*3) undef=a:=by rw [List.getD_eq_getElem?_getD,List.getElem?_append_right (by omega),hcl,Nat.sub_self];rfl
  have e1:(cs++[a,b,c]).getD (acc.length*3+1) undef=b:=by rw [List.getD_eq_getElem?_getD,List.getElem?_append_right (by omega),hcl,Nat.add_sub_cancel_left];rfl
  have e2:(cs++[a,b,c]).getD (acc.length*3+2) undef=c:=by rw [List.getD_eq_getElem?_getD,List.getElem?_append_right (by omega),hcl,Nat.add_sub_cancel_left];rfl
  rw [e0,e1,e2];have:(acc++[p])[acc.length]'hi=p:=by simp
  rw [this];exact hp.bound.keepW (fun k hk hlt=>hg.block k hlt (fun e=>by have:=hlo k e.symm;omega)) (fun k hk=>⟨by omega,hne k hk.2 (fun e=>by have:=hlo k e;omega)⟩)
theorem zbg.kids (h:zbg W B v acc cs) (t:Int):PrV W (fun b=>B≤b) (.agg #[.int .i64 t,.slice none 0 0,v]) (.node t [] acc):=
 .mk (cs:=cs) (zf.nil _ _) (Row.of_own h.own) (fun i hi=>(h.each i hi).keepW (fun _ _ _=>rfl) (fun _ h=>h.1))
end
theorem Chg.wide {X X':Nat→Prop} {a b:World} (h:Chg X a b) (hX:∀k,X k→X' k):Chg X' a b:=⟨h.os,h.tape,h.output,h.size,fun b hb hn=>h.block b hb fun e=>hn (hX b e)⟩
theorem Chg.set {X:Nat→Prop} {a b:World} (h:Chg X a b) (g k:Nat) (v:Value) (hX:X g):Chg X a (b.setCell ⟨g,k,none⟩ v):=
 ⟨h.os,h.tape,h.output,by simpa using h.size,fun i hi hn=>(Below.heap_setCell b ⟨g,k,none⟩ v i (fun e=>hn (by rw [e];exact hX))).trans (h.block i hi hn)⟩
theorem Chg.grown {X:Nat→Prop} {a b c:World} {r:Option Nat} (h:Chg X a b) (hg:b.grownBy c r) (hr:∀k,r=some k→k<a.heap.size→X k):Chg X a c:=
 ⟨hg.os.trans h.os,hg.tape.trans h.tape,hg.output.trans h.output,Nat.le_trans h.size hg.size,fun i hi hn=>(hg.block i (Nat.lt_of_lt_of_le hi h.size) (fun e=>hn (hr i e.symm hi))).trans (h.block i hi hn)⟩
theorem Chg.blk {X:Nat→Prop} {a b:World} {g:Nat} {t:TypeId} {cs:Array Value} (h:Chg X a b) (hb:Blk a g t cs) (hX:¬ X g):Blk b g t cs:=(h.block g (zb hb) hX).trans hb
theorem Chg.cellk {X:Nat→Prop} {a b:World} {p:Addr} {v:Value} (h:Chg X a b) (hb:a.cell? p=some v) (hX:¬ X p.block):b.cell? p=some v:=(zbI (h.block _ (zl hb) hX)).trans hb
theorem Ext.cellB {w W:World} {g:Nat} {t:TypeId} {cs:Array Value} (hE:Ext w W) (h:Blk w g t cs):Blk W g t cs:=h.ext hE
theorem prove_err {F:Int→Nat→Int×PT×Nat} {n:Int} {l L:List Int} {k k0:Nat} {acc:List PT} (h:(F n k).1≠0) (hk:zV F L k0 []=zV F (n :: l) k acc) {a:Int×PT×Nat} {b:PT×Nat}:(if (zV F L k0 []).1=0 then a else ((zV F L k0 []).1,b)).1=(F n k).1:=by
 rw [hk,kidsR_stop h,if_neg h]
theorem prv_row1 {W:World} {g:Nat} {a b c:Value} (hb:Blk W g 37 #[a,b,c]):Row W (fun _=>True) 3 (.slice (some ⟨g,0,none⟩) 1 1) 1 [a,b,c]:=
 ⟨_,1,rfl,Nat.le_refl _,by simp,fun _=>⟨g,0,rfl,trivial,fun j u hu=>by rw [Nat.zero_add];exact hb.cell (by simpa using hu)⟩⟩
end Go.Proofs.YthbjngbhbbkkgaaGreat
namespace Go.Proofs.YthbjngbhbbkkgaaGreat
open Go.RowKit
attribute [local go_sem ↓] Go.wp_at_zero Go.wp_at_succ
theorem zbL {m:MZ} {ps:List (List Int)} (h:zau m ps=true):∀x∈ps,x.length≤300:=by
 obtain ⟨h0,h1,h2,h3⟩:=zC.1 h;intro x hx;obtain ⟨k,hk,rfl⟩:=List.getElem_of_mem hx;have hd:ps.getD k []=ps[k]:=by rw [List.getD_eq_getElem?_getD,List.getElem?_eq_getElem hk];rfl
 by_cases hn:ps[k]=[]
 ·rw [hn];simp
 ·have hp:=h2 k hk (by rw [hd];exact hn);rw [hd] at hp
  have hn2:(ps[k]).Nodup:=by
   have:=h3.1 k
   rwa [hd] at this
  have h4:=zaK hn2 m.n hp.rg;have h5:=(zx.of h0).dim.n1;unfold MZ.n at h4;omega
end Go.Proofs.YthbjngbhbbkkgaaGreat
namespace Go.Proofs.YthbjngbhbbkkgaaGreat
open Go.RowKit
structure J6 (B:Nat) (w0:World) (ge n t:Nat) (e:Nat→Bool) (v:Nat→Value) (W:World):Prop where
 gb:w0.grownBy W (some ge)
 dr:zR B W ge
 v0:e 0=true→∃g a b c,v 0=.slice (some ⟨g,0,none⟩) 3 3∧w0.heap.size≤g∧Blk W g 9 #[.string a,.string b,.string c]
 v1:e 1=true→v 1=.int .i64 (t:Int)
 v2:e 2=true→∃g a b c,v 2=.pointer (some ⟨g,t,none⟩)∧w0.heap.size≤g∧Blk W g 9 #[.string a,.string b,.string c]
 v3:e 3=true→∃s,v 3=.string s
 v4:e 4=true→v 4=.pointer (some ⟨ge,0,none⟩)
 v5:e 5=true→v 5=.int .i64 (n:Int)
 v6:e 6=true→∃x,v 6=.int .i64 x∧0≤x∧x<(n:Int)
 v7:e 7=true→∃g x,v 7=.slice (some ⟨g,0,none⟩) 1 1∧w0.heap.size≤g∧Blk W g 3 #[.int .i64 x]∧0≤x∧x<(n:Int)
 v8:e 8=true→v 8=.pointer (some ⟨ge,0,none⟩)
 v9:e 9=true→v 9=.int .i64 (n:Int)
 v10:e 10=true→∃x,v 10=.int .i64 x∧0≤x∧x<(n:Int)
 v11:e 11=true→∃g x,v 11=.slice (some ⟨g,0,none⟩) 1 1∧w0.heap.size≤g∧Blk W g 3 #[.int .i64 x]∧0≤x∧x<(n:Int)
 ne:e 7=true→e 11=true→(v 7).ownBlock≠(v 11).ownBlock
 v12:e 12=true→v 12=.agg #[v 3,v 7,v 11]∧e 3=true∧e 7=true∧e 11=true
 v13:e 13=true→∃g,v 13=.pointer (some ⟨g,0,none⟩)∧w0.heap.size≤g∧(e 14=false→Blk W g 56 #[.string ⟨#[]⟩,.slice none 0 0,.slice none 0 0])∧(e 14=true→Blk W g 56 #[v 3,v 7,v 11])
 d14:e 14=true→e 12=true∧e 13=true
section
variable {B:Nat} {w0 W W':World} {ge n t:Nat} {e:Nat→Bool} {v:Nat→Value}
theorem J6.init (hd:zR B w0 ge) (he:∀j∈[0,1,2,3,4,5,6,7,8,9,10,11,12,13,14],e j=false):J6 B w0 ge n t e v w0.drew:=
 ⟨⟨rfl,rfl,rfl,Nat.le_refl _,fun _ _ _=>rfl⟩,hd,fun a=>ff (he 0 (by simp)) a,fun a=>ff (he 1 (by simp)) a,fun a=>ff (he 2 (by simp)) a,fun a=>ff (he 3 (by simp)) a,fun a=>ff (he 4 (by simp)) a,fun a=>ff (he 5 (by simp)) a,fun a=>ff (he 6 (by simp)) a,fun a=>ff (he 7 (by simp)) a,fun a=>ff (he 8 (by simp)) a,fun a=>ff (he 9 (by simp)) a,fun a=>ff (he 10 (by simp)) a,fun a=>ff (he 11 (by simp)) a,fun a=>ff (he 7 (by simp)) a,fun a=>ff (he 12 (by simp)) a,fun a=>ff (he 13 (by simp)) a,fun a=>ff (he 14 (by simp)) a⟩
theorem J6.move (h:J6 B w0 ge n t e v W) (gb:W.grownBy W' (some ge)) (dr:zR B W' ge) (hk:∀g ty cs,w0.heap.size≤g→Blk W g ty cs→Blk W' g ty cs):J6 B w0 ge n t e v W':=
 ⟨h.gb.trans gb,dr,fun a=>let ⟨g,x,y,z,h1,h2,h3⟩:=h.v0 a;⟨g,x,y,z,h1,h2,hk _ _ _ h2 h3⟩,h.v1,fun a=>let ⟨g,x,y,z,h1,h2,h3⟩:=h.v2 a;⟨g,x,y,z,h1,h2,hk _ _ _ h2 h3⟩,h.v3,h.v4,h.v5,h.v6,
  fun a=>let ⟨g,x,h1,h2,h3,h4⟩:=h.v7 a;⟨g,x,h1,h2,hk _ _ _ h2 h3,h4⟩,h.v8,h.v9,h.v10,fun a=>let ⟨g,x,h1,h2,h3,h4⟩:=h.v11 a;⟨g,x,h1,h2,hk _ _ _ h2 h3,h4⟩,h.ne,h.v12,
  fun a=>let ⟨g,h1,h2,h3,h4⟩:=h.v13 a;⟨g,h1,h2,fun b=>hk _ _ _ h2 (h3 b),fun b=>hk _ _ _ h2 (h4 b)⟩,h.d14⟩
theorem J6.alloc (h:J6 B w0 ge n t e v W) (hB:B≤w0.heap.size) (o:Obj):J6 B w0 ge n t e v (W.alloc o):=
 h.move ⟨rfl,rfl,rfl,by simp,fun i hi _=>Below.heap_alloc _ _ _ hi⟩ (h.dr.ext ((Ext.refl _).alloc _) (Nat.le_trans hB h.gb.size)) (fun g ty cs _ hb=>hb.alloc o)
theorem J6.call (h:J6 B w0 ge n t e v W) (hl:ge<w0.heap.size) (gb:W.grownBy W' (some ge)) (dr:zR B W' ge):J6 B w0 ge n t e v W':=
 h.move gb dr (fun g ty cs hg hb=>(gb.block g (zb hb) (fun e=>by injection e with e;omega)).trans hb)
theorem J6.n12 (h:J6 B w0 ge n t e v W) (h12:e 12=false):e 14=false:=notT (fun a=>(h.d14 a).1) h12
theorem J6.n13 (h:J6 B w0 ge n t e v W) (h13:e 13=false):e 14=false:=notT (fun a=>(h.d14 a).2) h13
theorem J6.n3 (h:J6 B w0 ge n t e v W) (h3:e 3=false):e 12=false:=notT (fun a=>(h.v12 a).2.1) h3
theorem J6.n7 (h:J6 B w0 ge n t e v W) (h3:e 7=false):e 12=false:=notT (fun a=>(h.v12 a).2.2.1) h3
theorem J6.n11 (h:J6 B w0 ge n t e v W) (h3:e 11=false):e 12=false:=notT (fun a=>(h.v12 a).2.2.2) h3
theorem J6.s0 (h:J6 B w0 ge n t e v W) (hB:B≤w0.heap.size) (a b c:ByteArray):J6 B w0 ge n t (upd e 0 true) (upd v 0 (.slice (some ⟨W.heap.size,0,none⟩) 3 3)) (W.alloc (.cells #[.string a,.string b,.string c] 9)):=
 let k:=h.alloc hB (.cells #[.string a,.string b,.string c] 9)
 ⟨k.gb,k.dr,fun _=>⟨_,a,b,c,rfl,h.gb.size,Blk.new _ _ _ rfl⟩,k.v1,k.v2,k.v3,k.v4,k.v5,k.v6,k.v7,k.v8,k.v9,k.v10,k.v11,k.ne,k.v12,k.v13,k.d14⟩
theorem J6.s1 (h:J6 B w0 ge n t e v W):J6 B w0 ge n t (upd e 1 true) (upd v 1 (.int .i64 (t:Int))) W:=
 ⟨h.gb,h.dr,h.v0,fun _=>rfl,h.v2,h.v3,h.v4,h.v5,h.v6,h.v7,h.v8,h.v9,h.v10,h.v11,h.ne,h.v12,h.v13,h.d14⟩
theorem J6.s2 (h:J6 B w0 ge n t e v W) {g:Nat} {a b c:ByteArray} (hg:w0.heap.size≤g) (hb:Blk W g 9 #[.string a,.string b,.string c]):J6 B w0 ge n t (upd e 2 true) (upd v 2 (.pointer (some ⟨g,t,none⟩))) W:=
 ⟨h.gb,h.dr,h.v0,h.v1,fun _=>⟨g,a,b,c,rfl,hg,hb⟩,h.v3,h.v4,h.v5,h.v6,h.v7,h.v8,h.v9,h.v10,h.v11,h.ne,h.v12,h.v13,h.d14⟩
theorem J6.s3 (h:J6 B w0 ge n t e v W) (h3:e 3=false) (s:ByteArray):J6 B w0 ge n t (upd e 3 true) (upd v 3 (.string s)) W:=
 ⟨h.gb,h.dr,h.v0,h.v1,h.v2,fun _=>⟨s,rfl⟩,h.v4,h.v5,h.v6,h.v7,h.v8,h.v9,h.v10,h.v11,h.ne,fun a=>ff (b:=e 12) (h.n3 h3) a,fun a=>let ⟨g,h1,h2,h3',h4⟩:=h.v13 a;⟨g,h1,h2,h3',fun b=>ff (b:=e 14) (h.n12 (h.n3 h3)) b⟩,h.d14⟩
theorem J6.s4 (h:J6 B w0 ge n t e v W):J6 B w0 ge n t (upd e 4 true) (upd v 4 (.pointer (some ⟨ge,0,none⟩))) W:=
 ⟨h.gb,h.dr,h.v0,h.v1,h.v2,h.v3,fun _=>rfl,h.v5,h.v6,h.v7,h.v8,h.v9,h.v10,h.v11,h.ne,h.v12,h.v13,h.d14⟩
theorem J6.s5 (h:J6 B w0 ge n t e v W):J6 B w0 ge n t (upd e 5 true) (upd v 5 (.int .i64 (n:Int))) W:=
 ⟨h.gb,h.dr,h.v0,h.v1,h.v2,h.v3,h.v4,fun _=>rfl,h.v6,h.v7,h.v8,h.v9,h.v10,h.v11,h.ne,h.v12,h.v13,h.d14⟩
theorem J6.s6 (h:J6 B w0 ge n t e v W) (hl:ge<w0.heap.size) (gb:W.grownBy W' (some ge)) (dr:zR B W' ge) {x:Int} (hx:0≤x) (hx2:x<(n:Int)):J6 B w0 ge n t (upd e 6 true) (upd v 6 (.int .i64 x)) W':=
 let k:=h.call hl gb dr
 ⟨k.gb,k.dr,k.v0,k.v1,k.v2,k.v3,k.v4,k.v5,fun _=>⟨x,rfl,hx,hx2⟩,k.v7,k.v8,k.v9,k.v10,k.v11,k.ne,k.v12,k.v13,k.d14⟩
theorem J6.s7 (h:J6 B w0 ge n t e v W) (hB:B≤w0.heap.size) (h7:e 7=false) {x:Int} (hx:0≤x) (hx2:x<(n:Int)):J6 B w0 ge n t (upd e 7 true) (upd v 7 (.slice (some ⟨W.heap.size,0,none⟩) 1 1)) (W.alloc (.cells #[.int .i64 x] 3)):=
 let k:=h.alloc hB (.cells #[.int .i64 x] 3)
 ⟨k.gb,k.dr,k.v0,k.v1,k.v2,k.v3,k.v4,k.v5,k.v6,fun _=>⟨_,x,rfl,h.gb.size,Blk.new _ _ _ rfl,hx,hx2⟩,k.v8,k.v9,k.v10,k.v11,fun _ b=>by
  obtain ⟨g,y,h1,_,h3,_⟩:=h.v11 b;show (Value.slice (some ⟨W.heap.size,0,none⟩) 1 1).ownBlock≠(v 11).ownBlock;rw [h1];intro e;have:=zb h3;have e:some W.heap.size=some g:=e;injection e with e;omega,fun a=>ff (b:=e 12) (h.n7 h7) a,fun a=>let ⟨g,h1,h2,h3',h4⟩:=k.v13 a;⟨g,h1,h2,h3',fun b=>ff (b:=e 14) (h.n12 (h.n7 h7)) b⟩,k.d14⟩
theorem J6.s8 (h:J6 B w0 ge n t e v W):J6 B w0 ge n t (upd e 8 true) (upd v 8 (.pointer (some ⟨ge,0,none⟩))) W:=
 ⟨h.gb,h.dr,h.v0,h.v1,h.v2,h.v3,h.v4,h.v5,h.v6,h.v7,fun _=>rfl,h.v9,h.v10,h.v11,h.ne,h.v12,h.v13,h.d14⟩
theorem J6.s9 (h:J6 B w0 ge n t e v W):J6 B w0 ge n t (upd e 9 true) (upd v 9 (.int .i64 (n:Int))) W:=
 ⟨h.gb,h.dr,h.v0,h.v1,h.v2,h.v3,h.v4,h.v5,h.v6,h.v7,h.v8,fun _=>rfl,h.v10,h.v11,h.ne,h.v12,h.v13,h.d14⟩
theorem J6.s10 (h:J6 B w0 ge n t e v W) (hl:ge<w0.heap.size) (gb:W.grownBy W' (some ge)) (dr:zR B W' ge) {x:Int} (hx:0≤x) (hx2:x<(n:Int)):J6 B w0 ge n t (upd e 10 true) (upd v 10 (.int .i64 x)) W':=
 let k:=h.call hl gb dr
 ⟨k.gb,k.dr,k.v0,k.v1,k.v2,k.v3,k.v4,k.v5,k.v6,k.v7,k.v8,k.v9,fun _=>⟨x,rfl,hx,hx2⟩,k.v11,k.ne,k.v12,k.v13,k.d14⟩
theorem J6.s11 (h:J6 B w0 ge n t e v W) (hB:B≤w0.heap.size) (h7:e 11=false) {x:Int} (hx:0≤x) (hx2:x<(n:Int)):J6 B w0 ge n t (upd e 11 true) (upd v 11 (.slice (some ⟨W.heap.size,0,none⟩) 1 1)) (W.alloc (.cells #[.int .i64 x] 3)):=
 let k:=h.alloc hB (.cells #[.int .i64 x] 3)
 ⟨k.gb,k.dr,k.v0,k.v1,k.v2,k.v3,k.v4,k.v5,k.v6,k.v7,k.v8,k.v9,k.v10,fun _=>⟨_,x,rfl,h.gb.size,Blk.new _ _ _ rfl,hx,hx2⟩,fun a _=>by
  obtain ⟨g,y,h1,_,h3,_⟩:=h.v7 a;show (v 7).ownBlock≠(Value.slice (some ⟨W.heap.size,0,none⟩) 1 1).ownBlock;rw [h1];intro e;have:=zb h3;have e:some g=some W.heap.size:=e;injection e with e;omega,fun a=>ff (b:=e 12) (h.n11 h7) a,fun a=>let ⟨g,h1,h2,h3',h4⟩:=k.v13 a;⟨g,h1,h2,h3',fun b=>ff (b:=e 14) (h.n12 (h.n11 h7)) b⟩,k.d14⟩
theorem J6.s12 (h:J6 B w0 ge n t e v W) (h3:e 3=true) (h7:e 7=true) (h11:e 11=true):J6 B w0 ge n t (upd e 12 true) (upd v 12 (.agg #[v 3,v 7,v 11])) W:=
 ⟨h.gb,h.dr,h.v0,h.v1,h.v2,h.v3,h.v4,h.v5,h.v6,h.v7,h.v8,h.v9,h.v10,h.v11,h.ne,fun _=>⟨rfl,h3,h7,h11⟩,h.v13,fun a=>⟨rfl,(h.d14 a).2⟩⟩
theorem J6.s13 (h:J6 B w0 ge n t e v W) (hB:B≤w0.heap.size) (h13:e 13=false):J6 B w0 ge n t (upd e 13 true) (upd v 13 (.pointer (some ⟨W.heap.size,0,none⟩))) (W.alloc (.cells #[.string ⟨#[]⟩,.slice none 0 0,.slice none 0 0] 56)):=
 let k:=h.alloc hB (.cells #[.string ⟨#[]⟩,.slice none 0 0,.slice none 0 0] 56)
 ⟨k.gb,k.dr,k.v0,k.v1,k.v2,k.v3,k.v4,k.v5,k.v6,k.v7,k.v8,k.v9,k.v10,k.v11,k.ne,k.v12,fun _=>⟨_,rfl,h.gb.size,fun _=>Blk.new _ _ _ rfl,fun b=>ff (b:=e 14) (h.n13 h13) b⟩,fun a=>ff (b:=e 14) (h.n13 h13) a⟩
theorem J6.s14 (h:J6 B w0 ge n t e v W) (hB:B≤w0.heap.size) (h12:e 12=true) (h13:e 13=true) {g:Nat} {x:Value} (hv:v 13=.pointer (some ⟨g,0,none⟩)) (hg:w0.heap.size≤g) (hb:Blk W g 56 #[.string ⟨#[]⟩,.slice none 0 0,.slice none 0 0]) (hl:ge<w0.heap.size):
  J6 B w0 ge n t (upd e 14 true) (upd v 14 x) (((W.setCell ⟨g,0,none⟩ (v 3)).setCell ⟨g,1,none⟩ (v 7)).setCell ⟨g,2,none⟩ (v 11)):=by
 have hne:∀g',g'≠g→(((W.setCell ⟨g,0,none⟩ (v 3)).setCell ⟨g,1,none⟩ (v 7)).setCell ⟨g,2,none⟩ (v 11)).heap[g']?=W.heap[g']?:=fun g' hg'=>
  (Below.heap_setCell _ ⟨g,2,none⟩ _ g' hg').trans ((Below.heap_setCell _ ⟨g,1,none⟩ _ g' hg').trans (Below.heap_setCell _ ⟨g,0,none⟩ _ g' hg'))
 have hk:∀g' ty cs,ty≠56→Blk W g' ty cs→Blk (((W.setCell ⟨g,0,none⟩ (v 3)).setCell ⟨g,1,none⟩ (v 7)).setCell ⟨g,2,none⟩ (v 11)) g' ty cs:=fun g' ty cs hty hb'=>(hne g' (Blk.ne_ hb' hb hty)).trans hb'
 have hbel:Below B W (((W.setCell ⟨g,0,none⟩ (v 3)).setCell ⟨g,1,none⟩ (v 7)).setCell ⟨g,2,none⟩ (v 11)):=(((Below.refl B W).setCell (p:=⟨g,0,none⟩) (by show B≤g;omega) _).setCell (p:=⟨g,1,none⟩) (by show B≤g;omega) _).setCell (p:=⟨g,2,none⟩) (by show B≤g;omega) _;refine ⟨⟨h.gb.os,h.gb.tape,h.gb.output,Nat.le_trans h.gb.size hbel.size,fun i hi hne'=>(hne i (by omega)).trans (h.gb.block i hi hne')⟩,h.dr.keep hbel (hne ge (by omega)),fun a=>?_,h.v1,fun a=>?_,h.v3,h.v4,h.v5,h.v6,fun a=>?_,h.v8,h.v9,h.v10,fun a=>?_,h.ne,h.v12,fun _=>⟨g,hv,hg,fun a=>(by cases a),fun _=>?_⟩,fun _=>⟨h12,h13⟩⟩
 ·obtain ⟨g',a1,b1,c1,h1,h2,h3⟩:=h.v0 a;exact ⟨g',a1,b1,c1,h1,h2,hk _ _ _ (by decide) h3⟩
 ·obtain ⟨g',a1,b1,c1,h1,h2,h3⟩:=h.v2 a;exact ⟨g',a1,b1,c1,h1,h2,hk _ _ _ (by decide) h3⟩
 ·obtain ⟨g',x',h1,h2,h3,h4⟩:=h.v7 a;exact ⟨g',x',h1,h2,hk _ _ _ (by decide) h3,h4⟩
 ·obtain ⟨g',x',h1,h2,h3,h4⟩:=h.v11 a;exact ⟨g',x',h1,h2,hk _ _ _ (by decide) h3,h4⟩
 ·exact ((hb.set (k:=0) (v 3)).set (k:=1) (v 7)).set (k:=2) (v 11)
theorem own1 {W:World} {S g:Nat} {x:Int} (hb:Blk W g 3 #[.int .i64 x]) (hg:S≤g):zy W S (.slice (some ⟨g,0,none⟩) 1 1) [x]:=
 ⟨rfl,.inr ⟨g,1,#[.int .i64 x],rfl,hg,hb,Nat.le_refl _,by unfold maxLen;omega,rfl,rfl⟩⟩
theorem J6.fin {S:Nat} (h:J6 B w0 ge n t (fun _=>true) v W) (hB:B≤S) (hS:S≤w0.heap.size) (hge:S≤ge):∃s g7 g11 gt x1 x2,v 3=.string s∧v 7=.slice (some ⟨g7,0,none⟩) 1 1∧v 11=.slice (some ⟨g11,0,none⟩) 1 1∧v 13=.pointer (some ⟨gt,0,none⟩)∧
  R1 B W S ge gt n s (.slice (some ⟨g7,0,none⟩) 1 1) (.slice (some ⟨g11,0,none⟩) 1 1) [x1] [x2]:=by
 obtain ⟨s,hs⟩:=h.v3 rfl;obtain ⟨g7,x1,h71,h72,h73,h74⟩:=h.v7 rfl;obtain ⟨g11,x2,h81,h82,h83,h84⟩:=h.v11 rfl;obtain ⟨gt,h131,h132,_,h134⟩:=h.v13 rfl;have h134:=h134 rfl;have hne:=h.ne rfl rfl;rw [hs,h71,h81] at h134;rw [h71,h81] at hne;refine ⟨s,g7,g11,gt,x1,x2,hs,h71,h81,h131,hB,Nat.le_trans hS h.gb.size,h.dr,hge,h134,by omega,own1 h73 (by omega),own1 h83 (by omega),.inr hne,by simp,by simp,fun y hy=>?_⟩;rcases hy with hy | hy
 ·rw [List.mem_singleton] at hy;rw [hy];exact h74
 ·rw [List.mem_singleton] at hy;rw [hy];exact h84
end
structure MadeM (m:MZ):Prop where
 good:zx m
 w:2≤m.w∧m.w≤4
 h:1≤m.h∧m.h≤4
 l:1≤m.l∧m.l≤2
 n:2≤m.n∧m.n≤16
 tk:1≤m.tasks.length∧m.tasks.length≤3
 te:∀t∈m.tasks,(t.1≠[]∧t.2≠[])∧t.1.length≤2∧t.2.length≤2
 lens:Lens m
theorem dims {W H L:Int} (hW:2≤W∧W≤4) (hH:1≤H∧H≤4) (hL:L=1∨(L=2∧W≤3∧H≤2)):2≤W*H∧W*H≤16∧2≤W*H*L∧W*H*L≤16:=by
 have h1:W=2∨W=3∨W=4:=by omega
 have h2:H=1∨H=2∨H=3∨H=4:=by omega
 rcases h1 with rfl | rfl | rfl <;> rcases h2 with rfl | rfl | rfl | rfl <;> rcases hL with rfl | ⟨rfl,h3,h4⟩ <;> omega
theorem chooseL {β:Type} {p:Nat→β→Prop}:∀(n:Nat),(∀i,i<n→∃b,p i b)→∃l:List β,l.length=n∧∀i b,l[i]?=some b→p i b
 | 0,_=>⟨[],rfl,fun i b h=>by simp at h⟩
 | n+1,h=>by
  obtain ⟨l,hl,h1⟩:=chooseL n (fun i hi=>h i (by omega));obtain ⟨b,hb⟩:=h n (by omega);refine ⟨l++[b],by simp [hl],fun i x hx=>?_⟩;rcases Nat.lt_or_ge i l.length with hi | hi
  ·rw [List.getElem?_append_left hi] at hx;exact h1 i x hx
  ·have hi2:i=l.length:=by
    rcases Nat.lt_or_ge i (l++[b]).length with h2 | h2
    ·simp at h2;omega
    ·rw [List.getElem?_eq_none h2] at hx;cases hx
   subst hi2;rw [List.getElem?_append_right (Nat.le_refl _),Nat.sub_self] at hx;have:b=x:=by simpa using hx
   subst this;rw [hl];exact hb
structure RU (w1:World) (B:Nat) (w:World) (S gm gd:Nat) (W H L:Int) (n tF tT:Nat) (vF vU vT:Value) (fs ts:List Value) (us:List Bool):Prop where
 hB:B=w1.heap.size
 hBS:B≤S
 ms:MS B w S gm gd W H L n tF tT vF vU vT fs ts
 ow:OwnB w S vU us
 ex:Ext w1 w
section
variable {w1 w w':World} {B S gm gd:Nat} {W H L:Int} {n tF tT:Nat} {vF vU vU' vT:Value} {fs ts:List Value} {us:List Bool}
theorem RU.ext (h:RU w1 B w S gm gd W H L n tF tT vF vU vT fs ts us) (hE:Ext w w'):RU w1 B w' S gm gd W H L n tF tT vF vU vT fs ts us:=
 ⟨h.hB,h.hBS,h.ms.extS hE,zaj h.ow fun g hg=>hE.block g (World.ownsRow.lt h.ow g hg).2,h.ex.trans hE⟩
theorem RU.drawn (h:RU w1 B w S gm gd W H L n tF tT vF vU vT fs ts us) (hd:zR B w' gd) (hg:w.grownBy w' (some gd)):RU w1 B w' S gm gd W H L n tF tT vF vU vT fs ts us:=by
 obtain ⟨cs,hb⟩:=h.ms.dr.blk;refine ⟨h.hB,h.hBS,h.ms.drawn hd hg,zaj h.ow fun g hg'=>hg.block g (World.ownsRow.lt h.ow g hg').2 (fun e=>?_),Below.grown h.ex hg h.ex.size (fun k hk=>by injection hk with hk;have:=h.ms.dr.1;have:=h.hB;omega)⟩;injection e with e;exact zj h.ow hb (by decide) (hg'.trans (congrArg some e))
theorem RU.add (h:RU w1 B w S gm gd W H L n tF tT vF vU vT fs ts us) {x:Bool} {w5:World} {o:Obj} (ho:w5.ownsRow S 4 1 vU' (us.length+1) (us.map Value.bool++[.bool x])) (hg:(w.alloc o).grownBy w5 vU.ownBlock):
  RU w1 B (w5.setCell ⟨gm,4,none⟩ vU') S gm gd W H L n tF tT vF vU' vT fs ts (us++[x]):=by
 obtain ⟨h1,h2,h3⟩:=h.ms.addU h.hBS h.ow ho hg;exact ⟨h.hB,h.hBS,h1,h2,Below.trans h.ex (h.hB ▸ h3)⟩
theorem RU.maze {t:Nat} (h:RU w1 B w S gm gd W H L n t t vF vU vT fs ts us) (hW:2≤W∧W≤4) (hH:1≤H∧H≤4) (hL:L=1∨(L=2∧W≤3∧H≤2)) (hn:(n:Int)=W*H*L) (ht:1≤t∧t≤3) (hu:us.length=n):
  ∃m,zr w (fun b=>B≤b) (.agg #[.int .i64 W,.int .i64 H,.int .i64 L,vF,vU,vT]) m∧MadeM m:=by
 obtain ⟨d1,d2,d3,d4⟩:=dims hW hH hL
 obtain ⟨fr,hfl,hfp⟩:=chooseL (p:=fun j (l:List Bool)=>∃u,fs[j]?=some u∧zaQ w (fun b=>B≤b) u l∧l.length=n) t (fun j hj=>by
  obtain ⟨u,h1,l,h2,h3,_⟩:=h.ms.fd j hj;exact ⟨l,u,h1,h2.bools,h3⟩)
 obtain ⟨tk,htl,htp⟩:=chooseL (p:=fun j (l:List Int×List Int)=>∃s u1 u2,ts[j*3]?=some (.string s)∧ts[j*3+1]?=some u1∧ts[j*3+2]?=some u2∧zf w (fun b=>B≤b) u1 l.1∧zf w (fun b=>B≤b) u2 l.2∧(l.1≠[]∧l.2≠[])∧(l.1.length≤2∧l.2.length≤2)∧(∀x,x∈l.1∨x∈l.2→0≤x∧x<(n:Int))) t (fun j hj=>by
  obtain ⟨s,u1,u2,h1,h2,h3,l1,l2,h4,h5,h6,h7,h8,_⟩:=h.ms.td j hj;exact ⟨(l1,l2),s,u1,u2,h1,h2,h3,Row.of_own h4,Row.of_own h5,h6,h7,h8⟩)
 have hte:∀x∈tk,∃j,tk[j]?=some x:=fun x hx=>by
  obtain ⟨j,hj,rfl⟩:=List.getElem_of_mem hx;exact ⟨j,List.getElem?_eq_getElem hj⟩
 have hg:zx ⟨W,H,L,fr,us,tk⟩:=by
  refine ⟨⟨by show 1≤W;omega,by show W≤300;omega,by show 1≤H;omega,by show H≤300;omega,by show 1≤L;omega,by show L≤300;omega,by show W*H*L≤300;omega,?_⟩,?_,?_,?_,?_⟩
  ·show (us.length:Int)=W*H*L;rw [hu,hn]
  ·show fr.length=tk.length;omega
  ·intro f hf;obtain ⟨j,hj,rfl⟩:=List.getElem_of_mem hf;obtain ⟨u,_,_,h3⟩:=hfp j _ (List.getElem?_eq_getElem hj);show ((fr[j]).length:Int)=W*H*L;rw [h3,hn]
  ·show tk.length≤6;omega
  ·intro x hx y hy;obtain ⟨j,hj⟩:=hte x hx;obtain ⟨s,u1,u2,h1,h2,h3,h4,h5,h6,h7,h8⟩:=htp j x hj;have:=h8 y hy;show 0≤y∧y<W*H*L;rw [←hn];exact this
 refine ⟨⟨W,H,L,fr,us,tk⟩,⟨vF,vU,vT,rfl,?_,?_,?_⟩,⟨hg,hW,hH,by show 1≤L∧L≤2;omega,by show 2≤W*H*L∧W*H*L≤16;omega,by show 1≤tk.length∧tk.length≤3;omega,fun x hx=>?_,⟨by show fr.length≤_;omega,by show us.length≤_;omega,by show tk.length≤_;omega,fun x hx=>?_⟩⟩⟩
 ·refine ⟨fs,by show Row w _ 1 vF fr.length fs;rw [hfl];exact Row.of_own h.ms.F,fun i x hx=>?_⟩;obtain ⟨u,h1,h2,_⟩:=hfp i x hx;exact ⟨u,h1,h2⟩
 ·exact (OwnB.bools h.ow).weaken fun b hb=>Nat.le_trans h.hBS hb
 ·refine ⟨ts,by show Row w _ 3 vT tk.length ts;rw [htl];exact Row.of_own h.ms.T,fun i x hx=>?_⟩;obtain ⟨s,u1,u2,h1,h2,h3,h4,h5,_⟩:=htp i x hx;exact ⟨s,u1,u2,h1,h2,h3,h4,h5⟩
 ·obtain ⟨j,hj⟩:=hte x hx;obtain ⟨s,u1,u2,h1,h2,h3,h4,h5,h6,h7,h8⟩:=htp j x hj;exact ⟨h6,h7⟩
 ·obtain ⟨j,hj⟩:=hte x hx;obtain ⟨s,u1,u2,h1,h2,h3,h4,h5,h6,h7,h8⟩:=htp j x hj;exact ⟨by omega,by omega⟩
end
theorem zc4 {P:World→Prop} {W:World} {g2:Nat} {t:TypeId} {a b c d e f z0 z1 z2 z3 z4 z5:Value} (h:∀WZ,Blk WZ g2 t #[a,b,c,d,e,f]→Below g2 W WZ→(∀k,k<W.heap.size→k≠g2→WZ.heap[k]?=W.heap[k]?)→P WZ) (hb:Blk W g2 t #[z0,z1,z2,z3,z4,z5]):
  P ((((((W.setCell ⟨g2,0,none⟩ a).setCell ⟨g2,1,none⟩ b).setCell ⟨g2,2,none⟩ c).setCell ⟨g2,3,none⟩ d).setCell ⟨g2,4,none⟩ e).setCell ⟨g2,5,none⟩ f):=by
 refine h _ ?_ ((((((Below.refl g2 W).setCell (p:=⟨g2,0,none⟩) (Nat.le_refl _) _).setCell (p:=⟨g2,1,none⟩) (Nat.le_refl _) _).setCell (p:=⟨g2,2,none⟩) (Nat.le_refl _) _).setCell (p:=⟨g2,3,none⟩) (Nat.le_refl _) _).setCell (p:=⟨g2,4,none⟩) (Nat.le_refl _) _ |>.setCell (p:=⟨g2,5,none⟩) (Nat.le_refl _) _) (fun k _ hne=>?_)
 ·have h6:=(((((hb.set (k:=0) a).set (k:=1) b).set (k:=2) c).set (k:=3) d).set (k:=4) e).set (k:=5) f;exact h6
 ·exact (Below.heap_setCell _ ⟨g2,5,none⟩ _ k hne).trans ((Below.heap_setCell _ ⟨g2,4,none⟩ _ k hne).trans ((Below.heap_setCell _ ⟨g2,3,none⟩ _ k hne).trans ((Below.heap_setCell _ ⟨g2,2,none⟩ _ k hne).trans ((Below.heap_setCell _ ⟨g2,1,none⟩ _ k hne).trans (Below.heap_setCell _ ⟨g2,0,none⟩ _ k hne)))))
def SB (w W:World):Prop:=∀g ty cs,Blk w g ty cs→ty≠4→W.heap[g]?=w.heap[g]?
theorem SB.rule {w:World} {g k:Nat} {ty:TypeId} {cs:Array Value} {v:Value} (hb:Blk w g ty cs) (hty:ty≠4) (hc:w.cell? ⟨g,k,none⟩=some v):∀W,SB w W→W.cell? ⟨g,k,none⟩=some v:=
 fun W h=>(World.cell?_of_block (a:=⟨g,k,none⟩) (h g ty cs hb hty)).trans hc
theorem SB.set {w W:World} {g k:Nat} {cs:Array Value} (h:SB w W) (hb:Blk w g 4 cs) (x:Value):SB w (W.setCell ⟨g,k,none⟩ x):=
 fun g' ty' cs' hb' hty=>(Below.heap_setCell W ⟨g,k,none⟩ x g' (Blk.ne_ hb' hb hty)).trans (h g' ty' cs' hb' hty)
theorem SB.drew (w:World):SB w w.drew:=fun _ _ _ _ _=>rfl
def zaL (w:World) (e:Ending) (w':World):Prop:=∃v' m,e=.returned v'∧Ext w w'∧zr w' (fun b=>w.heap.size≤b) v' m∧MadeM m
end Go.Proofs.YthbjngbhbbkkgaaGreat
