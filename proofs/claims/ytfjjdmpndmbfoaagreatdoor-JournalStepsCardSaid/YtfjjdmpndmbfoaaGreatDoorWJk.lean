import Derived.Test.YtfjjdmpndmbfoaaGreatDoorWJi
import Derived.StillTailTactics
set_option linter.unusedVariables false
set_option linter.unusedSimpArgs false
set_option maxRecDepth 100000
set_option maxHeartbeats 16000000
namespace Go.Proofs.YtfjjdmpndmbfoaaGreatDoor
variable {cs:Array Value} {x:Int} {g k:Nat}
section
open Go.RowKit
structure J6 (B:Nat) (w0:World) (ge n t:Nat) (e:Nat->Bool) (v:Nat->Value) (W:World):Prop where
 gb:w0.grownBy W (some ge)
 dr:zA B W ge
 v0:e 0=true->∃(g:Nat) (a b c:NetS),v 0=.slice (some ⟨g,0,none⟩) 3 3/\w0.heap.size<=g/\zj W g 9 #[.string a,.string b,.string c]
 v1:e 1=true->v 1=.int .i64 (t:Int)
 v2:e 2=true->∃(g:Nat) (a b c:NetS),v 2=.pointer (some ⟨g,t,none⟩)/\w0.heap.size<=g/\zj W g 9 #[.string a,.string b,.string c]
 v3:e 3=true->∃s:NetS,v 3=.string s
 v4:e 4=true->v 4=.pointer (some ⟨ge,0,none⟩)
 v5:e 5=true->v 5=.int .i64 (n:Int)
 v6:e 6=true->∃x,v 6=.int .i64 x/\0<=x/\x<(n:Int)
 v7:e 7=true->∃g x,v 7=.slice (some ⟨g,0,none⟩) 1 1/\w0.heap.size<=g/\zj W g 3 #[.int .i64 x]/\0<=x/\x<(n:Int)
 v8:e 8=true->v 8=.pointer (some ⟨ge,0,none⟩)
 v9:e 9=true->v 9=.int .i64 (n:Int)
 v10:e 10=true->∃x,v 10=.int .i64 x/\0<=x/\x<(n:Int)
 v11:e 11=true->∃g x,v 11=.slice (some ⟨g,0,none⟩) 1 1/\w0.heap.size<=g/\zj W g 3 #[.int .i64 x]/\0<=x/\x<(n:Int)
 ne:e 7=true->e 11=true->(v 7).ownBlock≠(v 11).ownBlock
 v12:e 12=true->v 12=.agg #[v 3,v 7,v 11]/\e 3=true/\e 7=true/\e 11=true
 v13:e 13=true->∃g,v 13=.pointer (some ⟨g,0,none⟩)/\w0.heap.size<=g/\(e 14=false->zj W g 72 #[.string ⟨#[]⟩,.slice none 0 0,.slice none 0 0])/\(e 14=true->zj W g 72 #[v 3,v 7,v 11])
 d14:e 14=true->e 12=true/\e 13=true
section
variable {B:Nat} {w0 W W':World} {ge n t:Nat} {e:Nat->Bool} {v:Nat->Value}
theorem J6.init (d:zA B w0 ge) (he:∀j∈[0,1,2,3,4,5,6,7,8,9,10,11,12,13,14],e j=false):J6 B w0 ge n t e v w0.drew:=
 ⟨⟨rfl,rfl,rfl,CS _,fun _ _ _=>rfl⟩,d,fun a=>ff (he 0 (by simp)) a,fun a=>ff (he 1 (by simp)) a,fun a=>ff (he 2 (by simp)) a,fun a=>ff (he 3 (by simp)) a,fun a=>ff (he 4 (by simp)) a,fun a=>ff (he 5 (by simp)) a,fun a=>ff (he 6 (by simp)) a,fun a=>ff (he 7 (by simp)) a,fun a=>ff (he 8 (by simp)) a,fun a=>ff (he 9 (by simp)) a,fun a=>ff (he 10 (by simp)) a,fun a=>ff (he 11 (by simp)) a,fun a=>ff (he 7 (by simp)) a,fun a=>ff (he 12 (by simp)) a,fun a=>ff (he 13 (by simp)) a,fun a=>ff (he 14 (by simp)) a⟩
theorem J6.move (h:J6 B w0 ge n t e v W) (gb:W.grownBy W' (some ge)) (dr:zA B W' ge) (D:∀g ty cs,w0.heap.size<=g->zj W g ty cs->zj W' g ty cs):J6 B w0 ge n t e v W':=
 ⟨h.gb.trans gb,dr,fun a=>let ⟨g,x,y,z,h1,d,o⟩:=h.v0 a;⟨g,x,y,z,h1,d,D _ _ _ d o⟩,h.v1,fun a=>let ⟨g,x,y,z,h1,d,o⟩:=h.v2 a;⟨g,x,y,z,h1,d,D _ _ _ d o⟩,h.v3,h.v4,h.v5,h.v6,
  fun a=>let ⟨g,x,h1,d,o,E⟩:=h.v7 a;⟨g,x,h1,d,D _ _ _ d o,E⟩,h.v8,h.v9,h.v10,fun a=>let ⟨g,x,h1,d,o,E⟩:=h.v11 a;⟨g,x,h1,d,D _ _ _ d o,E⟩,h.ne,h.v12,
  fun a=>let ⟨g,h1,d,o,E⟩:=h.v13 a;⟨g,h1,d,fun b=>D _ _ _ d (o b),fun b=>D _ _ _ d (E b)⟩,h.d14⟩
theorem J6.hge (h:J6 B w0 ge n t e v W) (d:ge<w0.heap.size):w0.heap.size<=W.heap.size:=h.gb.size
theorem J6.alloc (h:J6 B w0 ge n t e v W) (d:B<=w0.heap.size) (o:Obj):J6 B w0 ge n t e v (W.alloc o):=
 h.move ⟨rfl,rfl,rfl,by simp,fun i E _=>Dk _ _ _ E⟩ (h.dr.ext ((zc.refl _).alloc _) (CU d h.gb.size)) (fun g ty cs _ D=>D.alloc o)
theorem J6.call (h:J6 B w0 ge n t e v W) (D:ge<w0.heap.size) (gb:W.grownBy W' (some ge)) (dr:zA B W' ge):J6 B w0 ge n t e v W':=
 h.move gb dr (fun g ty cs o d=>(gb.block g (za d) (fun e=>by injection e with e;omega)).trans d)
theorem J6.n12 (h:J6 B w0 ge n t e v W) (d:e 12=false):e 14=false:=notT (fun a=>(h.d14 a).1) d
theorem J6.n13 (h:J6 B w0 ge n t e v W) (d:e 13=false):e 14=false:=notT (fun a=>(h.d14 a).2) d
theorem J6.n3 (h:J6 B w0 ge n t e v W) (d:e 3=false):e 12=false:=notT (fun a=>(h.v12 a).2.1) d
theorem J6.n7 (h:J6 B w0 ge n t e v W) (d:e 7=false):e 12=false:=notT (fun a=>(h.v12 a).2.2.1) d
theorem J6.n11 (h:J6 B w0 ge n t e v W) (d:e 11=false):e 12=false:=notT (fun a=>(h.v12 a).2.2.2) d
theorem J6.s0 (h:J6 B w0 ge n t e v W) (d:B<=w0.heap.size) (a b c:NetS):J6 B w0 ge n t (zO e 0 true) (zO v 0 (.slice (some ⟨W.heap.size,0,none⟩) 3 3)) (W.alloc (.cells #[.string a,.string b,.string c] 9)):=
 let k:=h.alloc d (.cells #[.string a,.string b,.string c] 9)
 ⟨k.gb,k.dr,fun _=>⟨_,a,b,c,rfl,h.gb.size,zj.new _ _ _ rfl⟩,k.v1,k.v2,k.v3,k.v4,k.v5,k.v6,k.v7,k.v8,k.v9,k.v10,k.v11,k.ne,k.v12,k.v13,k.d14⟩
theorem J6.s1 (h:J6 B w0 ge n t e v W):J6 B w0 ge n t (zO e 1 true) (zO v 1 (.int .i64 (t:Int))) W:=
 ⟨h.gb,h.dr,h.v0,fun _=>rfl,h.v2,h.v3,h.v4,h.v5,h.v6,h.v7,h.v8,h.v9,h.v10,h.v11,h.ne,h.v12,h.v13,h.d14⟩
theorem J6.s2 (h:J6 B w0 ge n t e v W) {a b c:NetS} (o:w0.heap.size<=g) (d:zj W g 9 #[.string a,.string b,.string c]):J6 B w0 ge n t (zO e 2 true) (zO v 2 (.pointer (some ⟨g,t,none⟩))) W:=
 ⟨h.gb,h.dr,h.v0,h.v1,fun _=>⟨g,a,b,c,rfl,o,d⟩,h.v3,h.v4,h.v5,h.v6,h.v7,h.v8,h.v9,h.v10,h.v11,h.ne,h.v12,h.v13,h.d14⟩
theorem J6.s3 (h:J6 B w0 ge n t e v W) (o:e 3=false) (s:NetS):J6 B w0 ge n t (zO e 3 true) (zO v 3 (.string s)) W:=
 ⟨h.gb,h.dr,h.v0,h.v1,h.v2,fun _=>⟨s,rfl⟩,h.v4,h.v5,h.v6,h.v7,h.v8,h.v9,h.v10,h.v11,h.ne,fun a=>ff (b:=e 12) (h.n3 o) a,fun a=>let ⟨g,h1,D,d,E⟩:=h.v13 a;⟨g,h1,D,d,fun b=>ff (b:=e 14) (h.n12 (h.n3 o)) b⟩,h.d14⟩
theorem J6.s4 (h:J6 B w0 ge n t e v W):J6 B w0 ge n t (zO e 4 true) (zO v 4 (.pointer (some ⟨ge,0,none⟩))) W:=
 ⟨h.gb,h.dr,h.v0,h.v1,h.v2,h.v3,fun _=>rfl,h.v5,h.v6,h.v7,h.v8,h.v9,h.v10,h.v11,h.ne,h.v12,h.v13,h.d14⟩
theorem J6.s5 (h:J6 B w0 ge n t e v W):J6 B w0 ge n t (zO e 5 true) (zO v 5 (.int .i64 (n:Int))) W:=
 ⟨h.gb,h.dr,h.v0,h.v1,h.v2,h.v3,h.v4,fun _=>rfl,h.v6,h.v7,h.v8,h.v9,h.v10,h.v11,h.ne,h.v12,h.v13,h.d14⟩
theorem J6.s6 (h:J6 B w0 ge n t e v W) (o:ge<w0.heap.size) (gb:W.grownBy W' (some ge)) (dr:zA B W' ge) (D:0<=x) (d:x<(n:Int)):J6 B w0 ge n t (zO e 6 true) (zO v 6 (.int .i64 x)) W':=
 let k:=h.call o gb dr
 ⟨k.gb,k.dr,k.v0,k.v1,k.v2,k.v3,k.v4,k.v5,fun _=>⟨x,rfl,D,d⟩,k.v7,k.v8,k.v9,k.v10,k.v11,k.ne,k.v12,k.v13,k.d14⟩
theorem J6.s7 (h:J6 B w0 ge n t e v W) (I:B<=w0.heap.size) (D:e 7=false) (J:0<=x) (o:x<(n:Int)):J6 B w0 ge n t (zO e 7 true) (zO v 7 (.slice (some ⟨W.heap.size,0,none⟩) 1 1)) (W.alloc (.cells #[.int .i64 x] 3)):=
 let k:=h.alloc I (.cells #[.int .i64 x] 3)
 ⟨k.gb,k.dr,k.v0,k.v1,k.v2,k.v3,k.v4,k.v5,k.v6,fun _=>⟨_,x,rfl,h.gb.size,zj.new _ _ _ rfl,J,o⟩,k.v8,k.v9,k.v10,k.v11,fun _ b=>by
  obtain ⟨g,y,h1,_,G,_⟩:=h.v11 b;show (Value.slice (some ⟨W.heap.size,0,none⟩) 1 1).ownBlock≠(v 11).ownBlock;rw [h1];intro e;have:=za G;have e:some W.heap.size=some g:=e;injection e with e;omega,fun a=>ff (b:=e 12) (h.n7 D) a,fun a=>let ⟨g,h1,E,d,K⟩:=k.v13 a;⟨g,h1,E,d,fun b=>ff (b:=e 14) (h.n12 (h.n7 D)) b⟩,k.d14⟩
theorem J6.s8 (h:J6 B w0 ge n t e v W):J6 B w0 ge n t (zO e 8 true) (zO v 8 (.pointer (some ⟨ge,0,none⟩))) W:=
 ⟨h.gb,h.dr,h.v0,h.v1,h.v2,h.v3,h.v4,h.v5,h.v6,h.v7,fun _=>rfl,h.v9,h.v10,h.v11,h.ne,h.v12,h.v13,h.d14⟩
theorem J6.s9 (h:J6 B w0 ge n t e v W):J6 B w0 ge n t (zO e 9 true) (zO v 9 (.int .i64 (n:Int))) W:=
 ⟨h.gb,h.dr,h.v0,h.v1,h.v2,h.v3,h.v4,h.v5,h.v6,h.v7,h.v8,fun _=>rfl,h.v10,h.v11,h.ne,h.v12,h.v13,h.d14⟩
theorem J6.s10 (h:J6 B w0 ge n t e v W) (o:ge<w0.heap.size) (gb:W.grownBy W' (some ge)) (dr:zA B W' ge) (D:0<=x) (d:x<(n:Int)):J6 B w0 ge n t (zO e 10 true) (zO v 10 (.int .i64 x)) W':=
 let k:=h.call o gb dr
 ⟨k.gb,k.dr,k.v0,k.v1,k.v2,k.v3,k.v4,k.v5,k.v6,k.v7,k.v8,k.v9,fun _=>⟨x,rfl,D,d⟩,k.v11,k.ne,k.v12,k.v13,k.d14⟩
theorem J6.s11 (h:J6 B w0 ge n t e v W) (I:B<=w0.heap.size) (D:e 11=false) (J:0<=x) (o:x<(n:Int)):J6 B w0 ge n t (zO e 11 true) (zO v 11 (.slice (some ⟨W.heap.size,0,none⟩) 1 1)) (W.alloc (.cells #[.int .i64 x] 3)):=
 let k:=h.alloc I (.cells #[.int .i64 x] 3)
 ⟨k.gb,k.dr,k.v0,k.v1,k.v2,k.v3,k.v4,k.v5,k.v6,k.v7,k.v8,k.v9,k.v10,fun _=>⟨_,x,rfl,h.gb.size,zj.new _ _ _ rfl,J,o⟩,fun a _=>by
  obtain ⟨g,y,h1,_,G,_⟩:=h.v7 a;show (v 7).ownBlock≠(Value.slice (some ⟨W.heap.size,0,none⟩) 1 1).ownBlock;rw [h1];intro e;have:=za G;have e:some g=some W.heap.size:=e;injection e with e;omega,fun a=>ff (b:=e 12) (h.n11 D) a,fun a=>let ⟨g,h1,E,d,K⟩:=k.v13 a;⟨g,h1,E,d,fun b=>ff (b:=e 14) (h.n12 (h.n11 D)) b⟩,k.d14⟩
theorem J6.s12 (h:J6 B w0 ge n t e v W) (o:e 3=true) (D:e 7=true) (d:e 11=true):J6 B w0 ge n t (zO e 12 true) (zO v 12 (.agg #[v 3,v 7,v 11])) W:=
 ⟨h.gb,h.dr,h.v0,h.v1,h.v2,h.v3,h.v4,h.v5,h.v6,h.v7,h.v8,h.v9,h.v10,h.v11,h.ne,fun _=>⟨rfl,o,D,d⟩,h.v13,fun a=>⟨rfl,(h.d14 a).2⟩⟩
theorem J6.s13 (h:J6 B w0 ge n t e v W) (o:B<=w0.heap.size) (d:e 13=false):J6 B w0 ge n t (zO e 13 true) (zO v 13 (.pointer (some ⟨W.heap.size,0,none⟩))) (W.alloc (.cells #[.string ⟨#[]⟩,.slice none 0 0,.slice none 0 0] 72)):=
 let k:=h.alloc o (.cells #[.string ⟨#[]⟩,.slice none 0 0,.slice none 0 0] 72)
 ⟨k.gb,k.dr,k.v0,k.v1,k.v2,k.v3,k.v4,k.v5,k.v6,k.v7,k.v8,k.v9,k.v10,k.v11,k.ne,k.v12,fun _=>⟨_,rfl,h.gb.size,fun _=>zj.new _ _ _ rfl,fun b=>ff (b:=e 14) (h.n13 d) b⟩,fun a=>ff (b:=e 14) (h.n13 d) a⟩
theorem J6.s14 (h:J6 B w0 ge n t e v W) (hB:B<=w0.heap.size) (M:e 12=true) (O:e 13=true) {x:Value} (hv:v 13=.pointer (some ⟨g,0,none⟩)) (hg:w0.heap.size<=g) (V:zj W g 72 #[.string ⟨#[]⟩,.slice none 0 0,.slice none 0 0]) (hl:ge<w0.heap.size):
  J6 B w0 ge n t (zO e 14 true) (zO v 14 x) (((W.setCell ⟨g,0,none⟩ (v 3)).setCell ⟨g,1,none⟩ (v 7)).setCell ⟨g,2,none⟩ (v 11)):=by
 have G:∀g',g'≠g->(((W.setCell ⟨g,0,none⟩ (v 3)).setCell ⟨g,1,none⟩ (v 7)).setCell ⟨g,2,none⟩ (v 11)).heap[g']?=W.heap[g']?:=fun g' E=>
  (Db _ ⟨g,2,none⟩ _ g' E).trans ((Db _ ⟨g,1,none⟩ _ g' E).trans (Db _ ⟨g,0,none⟩ _ g' E))
 have K:∀g' ty cs,ty≠72->zj W g' ty cs->zj (((W.setCell ⟨g,0,none⟩ (v 3)).setCell ⟨g,1,none⟩ (v 7)).setCell ⟨g,2,none⟩ (v 11)) g' ty cs:=fun g' ty cs U I=>(G g' (zj.ne_ I V U)).trans I
 have d:Below B W (((W.setCell ⟨g,0,none⟩ (v 3)).setCell ⟨g,1,none⟩ (v 7)).setCell ⟨g,2,none⟩ (v 11)):=(((Below.refl B W).setCell (p:=⟨g,0,none⟩) (by show B<=g;omega) _).setCell (p:=⟨g,1,none⟩) (by show B<=g;omega) _).setCell (p:=⟨g,2,none⟩) (by show B<=g;omega) _;refine ⟨⟨h.gb.os,h.gb.tape,h.gb.output,CU h.gb.size d.size,fun i hi J=>(G i (by omega)).trans (h.gb.block i hi J)⟩,h.dr.keep d (G ge (by omega)),fun a=>?_,h.v1,fun a=>?_,h.v3,h.v4,h.v5,h.v6,fun a=>?_,h.v8,h.v9,h.v10,fun a=>?_,h.ne,h.v12,fun _=>⟨g,hv,hg,fun a=>(by cases a),fun _=>?_⟩,fun _=>⟨M,O⟩⟩
 ·obtain ⟨g',a1,b1,c1,h1,o,D⟩:=h.v0 a;exact ⟨g',a1,b1,c1,h1,o,K _ _ _ (by decide) D⟩
 ·obtain ⟨g',a1,b1,c1,h1,o,D⟩:=h.v2 a;exact ⟨g',a1,b1,c1,h1,o,K _ _ _ (by decide) D⟩
 ·obtain ⟨g',x',h1,o,D,Q⟩:=h.v7 a;exact ⟨g',x',h1,o,K _ _ _ (by decide) D,Q⟩
 ·obtain ⟨g',x',h1,o,D,Q⟩:=h.v11 a;exact ⟨g',x',h1,o,K _ _ _ (by decide) D,Q⟩
 ·exact ((V.set (k:=0) (v 3)).set (k:=1) (v 7)).set (k:=2) (v 11)
theorem own1 {W:World} {S:Nat} (d:zj W g 3 #[.int .i64 x]) (o:S<=g):zK W S (.slice (some ⟨g,0,none⟩) 1 1) [x]:=
 ⟨rfl,.inr ⟨g,1,#[.int .i64 x],rfl,o,d,CS _,by unfold maxLen;omega,rfl,rfl⟩⟩
theorem J6.fin {S:Nat} (h:J6 B w0 ge n t (fun _=>true) v W) (hB:B<=S) (hS:S<=w0.heap.size) (O:S<=ge):∃(s:NetS) (g7 g11 gt:Nat) (x1 x2:Int),v 3=.string s/\v 7=.slice (some ⟨g7,0,none⟩) 1 1/\v 11=.slice (some ⟨g11,0,none⟩) 1 1/\v 13=.pointer (some ⟨gt,0,none⟩)/\
  R1 B W S ge gt n s (.slice (some ⟨g7,0,none⟩) 1 1) (.slice (some ⟨g11,0,none⟩) 1 1) [x1] [x2]:=by
 obtain ⟨s,U⟩:=h.v3 rfl;obtain ⟨g7,x1,o,V,I,J⟩:=h.v7 rfl;obtain ⟨g11,x2,D,a0,K,M⟩:=h.v11 rfl;obtain ⟨gt,E,Q,_,d⟩:=h.v13 rfl;have d:=d rfl;have G:=h.ne rfl rfl;rw [U,o,D] at d;rw [o,D] at G;refine ⟨s,g7,g11,gt,x1,x2,U,o,D,E,hB,CU hS h.gb.size,h.dr,O,d,by omega,own1 I (by omega),own1 K (by omega),.inr G,by simp,by simp,fun y hy=>?_⟩;rcases hy with hy | hy
 ·rw [Dy] at hy;rw [hy];exact J
 ·rw [Dy] at hy;rw [hy];exact M
end
structure MadeM (m:MZ):Prop where
 good:Al m
 w:2<=m.w/\m.w<=4
 h:1<=m.h/\m.h<=4
 l:1<=m.l/\m.l<=2
 n:2<=m.n/\m.n<=16
 tk:1<=m.tasks.length/\m.tasks.length<=3
 te:∀t∈m.tasks,(t.1≠[]/\t.2≠[])/\t.1.length<=2/\t.2.length<=2
 lens:Lens m
theorem dims {W H L:Int} (hW:2<=W/\W<=4) (E:1<=H/\H<=4) (hL:L=1\/(L=2/\W<=3/\H<=2)):2<=W*H/\W*H<=16/\2<=W*H*L/\W*H*L<=16:=by
 have h1:W=2\/W=3\/W=4:=by omega
 have d:H=1\/H=2\/H=3\/H=4:=by omega
 rcases h1 with rfl | rfl | rfl <;> rcases d with rfl | rfl | rfl | rfl <;> rcases hL with rfl | ⟨rfl,o,D⟩ <;> omega
theorem chooseL {β:Type} {p:Nat->β->Prop}:∀(n:Nat),(∀i,i<n->∃b,p i b)->∃l:List β,l.length=n/\∀i b,l[i]?=some b->p i b
 | 0,_=>⟨[],rfl,fun i b h=>by simp at h⟩
 | n+1,h=>by
  obtain ⟨l,D,h1⟩:=chooseL n (fun i hi=>h i (by omega));obtain ⟨b,E⟩:=h n (by omega);refine ⟨l++[b],by simp [D],fun i x d=>?_⟩;rcases Do i l.length with hi | hi
  ·rw [CX hi] at d;exact h1 i x d
  ·have o:i=l.length:=by
    rcases Do i (l++[b]).length with h2 | h2
    ·simp at h2;omega
    ·rw [Dl h2] at d;cases d
   subst o;rw [CY (CS _),Nat.sub_self] at d;have:b=x:=by simpa using d
   subst this;rw [D];exact E
structure RU (w1:World) (B:Nat) (w:World) (S gm gd:Nat) (W H L:Int) (n tF tT:Nat) (vF vU vT:Value) (fs ts:List Value) (us:List Bool):Prop where
 hB:B=w1.heap.size
 hBS:B<=S
 ms:MS B w S gm gd W H L n tF tT vF vU vT fs ts
 ow:OwnB w S vU us
 ex:zc w1 w
section
variable {w1 w w':World} {B S gm gd:Nat} {W H L:Int} {n tF tT:Nat} {vF vU vU' vT:Value} {fs ts:List Value} {us:List Bool}
theorem RU.ext (h:RU w1 B w S gm gd W H L n tF tT vF vU vT fs ts us) (d:zc w w'):RU w1 B w' S gm gd W H L n tF tT vF vU vT fs ts us:=
 ⟨h.hB,h.hBS,h.ms.extS d,zY h.ow fun g o=>d.block g (World.ownsRow.lt h.ow g o).2,h.ex.trans d⟩
theorem RU.drawn (h:RU w1 B w S gm gd W H L n tF tT vF vU vT fs ts us) (G:zA B w' gd) (o:w.grownBy w' (some gd)):RU w1 B w' S gm gd W H L n tF tT vF vU vT fs ts us:=by
 obtain ⟨cs,E⟩:=h.ms.dr.blk;refine ⟨h.hB,h.hBS,h.ms.drawn G o,zY h.ow fun g d=>o.block g (World.ownsRow.lt h.ow g d).2 (fun e=>?_),Below.grown h.ex o h.ex.size (fun k D=>by injection D with D;have:=h.ms.dr.1;have:=h.hB;omega)⟩;injection e with e;exact zf h.ow E (by decide) (d.trans (congrArg some e))
theorem RU.add (h:RU w1 B w S gm gd W H L n tF tT vF vU vT fs ts us) {x:Bool} {w5:World} {o:Obj} (G:w5.ownsRow S 4 1 vU' (us.length+1) (us.map Value.bool++[.bool x])) (E:(w.alloc o).grownBy w5 vU.ownBlock):
  RU w1 B (w5.setCell ⟨gm,4,none⟩ vU') S gm gd W H L n tF tT vF vU' vT fs ts (us++[x]):=by
 obtain ⟨h1,d,D⟩:=h.ms.addU h.hBS h.ow G E;exact ⟨h.hB,h.hBS,h1,d,Below.trans h.ex (h.hB ▸ D)⟩
theorem RU.maze {t:Nat} (h:RU w1 B w S gm gd W H L n t t vF vU vT fs ts us) (hW:2<=W/\W<=4) (hH:1<=H/\H<=4) (hL:L=1\/(L=2/\W<=3/\H<=2)) (hn:(n:Int)=W*H*L) (ht:1<=t/\t<=3) (hu:us.length=n):
  ∃m ns,Be w (fun b=>B<=b) (.agg #[.int .i64 W,.int .i64 H,.int .i64 L,vF,vU,vT]) m ns/\MadeM m/\∀s∈ns,s.size<=1:=by
 obtain ⟨d1,d2,d3,d4⟩:=dims hW hH hL
 obtain ⟨fr,V,U⟩:=chooseL (p:=fun j (l:List Bool)=>∃u,fs[j]?=some u/\AA w (fun b=>B<=b) u l/\l.length=n) t (fun j d=>by
  obtain ⟨u,h1,l,D,E,_⟩:=h.ms.fd j d;exact ⟨l,u,h1,D.bools,E⟩)
 obtain ⟨tk,a2,G⟩:=chooseL (p:=fun j (l:List Int×List Int)=>∃(s:NetS) (u1 u2:Value),ts[j*3]?=some (.string s)/\ts[j*3+1]?=some u1/\ts[j*3+2]?=some u2/\zk w (fun b=>B<=b) u1 l.1/\zk w (fun b=>B<=b) u2 l.2/\(l.1≠[]/\l.2≠[])/\(l.1.length<=2/\l.2.length<=2)/\(∀x,x∈l.1\/x∈l.2->0<=x/\x<(n:Int))) t (fun j d=>by
  obtain ⟨s,u1,u2,h1,D,E,l1,l2,J,K,M,O,Q,_⟩:=h.ms.td j d;exact ⟨(l1,l2),s,u1,u2,h1,D,E,Bd.of_own J,Bd.of_own K,M,O,Q⟩)
 obtain ⟨nl,a8,a1⟩:=chooseL (p:=fun j (s:NetS)=>ts[j*3]?=some (.string s)) t (fun j d=>by
  obtain ⟨s,u1,u2,h1,_⟩:=h.ms.td j d;exact ⟨s,h1⟩)
 have I:∀x∈tk,∃j,tk[j]?=some x:=fun x o=>by
  obtain ⟨j,d,rfl⟩:=Dx o;exact ⟨j,CQ d⟩
 have hg:Al ⟨W,H,L,fr,us,tk⟩:=by
  refine ⟨⟨by show 1<=W;omega,by show W<=300;omega,by show 1<=H;omega,by show H<=300;omega,by show 1<=L;omega,by show L<=300;omega,by show W*H*L<=300;omega,?_⟩,?_,?_,?_,?_⟩
  ·show (us.length:Int)=W*H*L;rw [hu,hn]
  ·show fr.length=tk.length;omega
  ·intro f hf;obtain ⟨j,d,rfl⟩:=Dx hf;obtain ⟨u,_,_,E⟩:=U j _ (CQ d);show ((fr[j]).length:Int)=W*H*L;rw [E,hn]
  ·show tk.length<=6;omega
  ·intro x o y hy;obtain ⟨j,d⟩:=I x o;obtain ⟨s,u1,u2,h1,D,E,J,K,M,O,Q⟩:=G j x d;have:=Q y hy;show 0<=y/\y<W*H*L;rw [<-hn];exact this
 refine ⟨⟨W,H,L,fr,us,tk⟩,nl.map (fun s=>s.1),⟨vF,vU,vT,rfl,?_,?_,?_⟩,⟨hg,hW,hH,by show 1<=L/\L<=2;omega,by show 2<=W*H*L/\W*H*L<=16;omega,by show 1<=tk.length/\tk.length<=3;omega,fun x o=>?_,⟨by show fr.length<=_;omega,by show us.length<=_;omega,by show tk.length<=_;omega,fun x o=>?_⟩⟩,fun x o=>?_⟩
 ·refine ⟨fs,by show Bd w _ 1 vF fr.length fs;rw [V];exact Bd.of_own h.ms.F,fun i x o=>?_⟩;obtain ⟨u,h1,D,_⟩:=U i x o;exact ⟨u,h1,D⟩
 ·exact (OwnB.bools h.ow).weaken fun b hb=>CU h.hBS hb
 ·refine ⟨by rw [DA];show nl.length=tk.length;omega,ts,by show Bd w _ 3 vT tk.length ts;rw [a2];exact Bd.of_own h.ms.T,fun i x s o hs=>?_⟩;obtain ⟨s',u1,u2,-,D,E,J,K,_⟩:=G i x o;rw [Dz] at hs;obtain ⟨y,hy,rfl⟩:=Option.map_eq_some_iff.1 hs;exact ⟨u1,u2,a1 i y hy,D,E,J,K⟩
 ·obtain ⟨j,d⟩:=I x o;obtain ⟨s,u1,u2,h1,D,E,J,K,M,O,Q⟩:=G j x d;exact ⟨M,O⟩
 ·obtain ⟨j,d⟩:=I x o;obtain ⟨s,u1,u2,h1,D,E,J,K,M,O,Q⟩:=G j x d;exact ⟨by omega,by omega⟩
 ·obtain ⟨y,-,rfl⟩:=List.mem_map.1 o;exact y.2
end
theorem case_fin {P:World->Prop} {W:World} {g2:Nat} {t:TypeId} {a b c d e f z0 z1 z2 z3 z4 z5:Value} (h:∀WZ,zj WZ g2 t #[a,b,c,d,e,f]->Below g2 W WZ->(∀k,k<W.heap.size->k≠g2->WZ.heap[k]?=W.heap[k]?)->P WZ) (E:zj W g2 t #[z0,z1,z2,z3,z4,z5]):
  P ((((((W.setCell ⟨g2,0,none⟩ a).setCell ⟨g2,1,none⟩ b).setCell ⟨g2,2,none⟩ c).setCell ⟨g2,3,none⟩ d).setCell ⟨g2,4,none⟩ e).setCell ⟨g2,5,none⟩ f):=by
 refine h _ ?_ ((((((Below.refl g2 W).setCell (p:=⟨g2,0,none⟩) (CS _) _).setCell (p:=⟨g2,1,none⟩) (CS _) _).setCell (p:=⟨g2,2,none⟩) (CS _) _).setCell (p:=⟨g2,3,none⟩) (CS _) _).setCell (p:=⟨g2,4,none⟩) (CS _) _ |>.setCell (p:=⟨g2,5,none⟩) (CS _) _) fun k _ o=>?_
 ·have D:=(((((E.set (k:=0) a).set (k:=1) b).set (k:=2) c).set (k:=3) d).set (k:=4) e).set (k:=5) f;exact D
 ·exact (Db _ ⟨g2,5,none⟩ _ k o).trans ((Db _ ⟨g2,4,none⟩ _ k o).trans ((Db _ ⟨g2,3,none⟩ _ k o).trans ((Db _ ⟨g2,2,none⟩ _ k o).trans ((Db _ ⟨g2,1,none⟩ _ k o).trans (Db _ ⟨g2,0,none⟩ _ k o)))))
def SB (w W:World):Prop:=∀g ty cs,zj w g ty cs->ty≠4->W.heap[g]?=w.heap[g]?
theorem SB.rule {w:World} {ty:TypeId} {v:Value} (o:zj w g ty cs) (d:ty≠4) (D:w.cell? ⟨g,k,none⟩=some v):∀W,SB w W->W.cell? ⟨g,k,none⟩=some v:=
 fun W h=>(Dh (a:=⟨g,k,none⟩) (h g ty cs o d)).trans D
theorem SB.set {w W:World} (h:SB w W) (D:zj w g 4 cs) (x:Value):SB w (W.setCell ⟨g,k,none⟩ x):=
 fun g' ty' cs' d o=>(Db W ⟨g,k,none⟩ x g' (zj.ne_ d D o)).trans (h g' ty' cs' d o)
theorem SB.drew (w:World):SB w w.drew:=fun _ _ _ _ _=>rfl
def zT (w:World) (e:Ending) (w':World):Prop:=∃v' m ns,e=.returned v'/\zc w w'/\Be w' (fun b=>w.heap.size<=b) v' m ns/\MadeM m/\∀s∈ns,s.size<=1
end
end Go.Proofs.YtfjjdmpndmbfoaaGreatDoor
