import Derived.Test.YthbjngbhbbkkgaaGreatHPh
import Derived.StillTailTactics
import Derived.Deep.AppendLies
import Derived.Deep.LoopGhost
set_option linter.unusedVariables false
set_option linter.unusedSimpArgs false
set_option maxRecDepth 100000
set_option maxHeartbeats 16000000
namespace Go.Proofs.YthbjngbhbbkkgaaGreat
variable {cs:Array Value} {a b c s:ByteArray} {Q:Exit->Act->World->Prop} {x x2:Int} {cF cT g g11 gF gT gt k:Nat} {u0 u1 u10 u100 u101 u102 u103 u104 u105 u106 u107 u108 u109 u11 u110 u111 u112 u113 u114 u115 u116 u117 u118 u119 u12 u120 u121 u122 u123 u124 u125 u126 u127 u128 u129 u13 u130 u131 u132 u133 u134 u135 u136 u137 u138 u139 u14 u140 u141 u142 u143 u144 u145 u146 u147 u148 u149 u15 u150 u151 u152 u153 u154 u155 u156 u157 u158 u159 u16 u160 u161 u162 u163 u164 u165 u166 u167 u168 u169 u17 u170 u171 u172 u173 u174 u175 u176 u177 u178 u179 u18 u180 u181 u182 u183 u184 u185 u186 u187 u188 u189 u19 u190 u191 u192 u193 u194 u195 u196 u197 u198 u199 u2 u20 u200 u201 u202 u203 u204 u205 u206 u207 u208 u209 u21 u210 u211 u212 u213 u214 u215 u216 u217 u218 u219 u22 u23 u24 u25 u26 u27 u28 u29 u3 u30 u31 u32 u33 u34 u35 u36 u37 u38 u39 u4 u40 u41 u42 u43 u44 u45 u46 u47 u48 u49 u5 u50 u51 u52 u53 u54 u55 u56 u57 u58 u59 u6 u60 u61 u62 u63 u64 u65 u66 u67 u68 u69 u7 u70 u71 u72 u73 u74 u75 u76 u77 u78 u79 u8 u80 u81 u82 u83 u84 u85 u86 u87 u88 u89 u9 u90 u91 u92 u93 u94 u95 u96 u97 u98 u99:Value} {wR:World}
section
open Go.RowKit
structure J6 (B:Nat) (w0:World) (ge n t:Nat) (e:Nat->Bool) (v:Nat->Value) (W:World):Prop where
 gb:w0.grownBy W (some ge)
 dr:zZ B W ge
 v0:e 0=true->∃g a b c,v 0=.slice (some ⟨g,0,none⟩) 3 3/\w0.heap.size<=g/\zg W g 9 #[.string a,.string b,.string c]
 v1:e 1=true->v 1=.int .i64 (t:Int)
 v2:e 2=true->∃g a b c,v 2=.pointer (some ⟨g,t,none⟩)/\w0.heap.size<=g/\zg W g 9 #[.string a,.string b,.string c]
 v3:e 3=true->∃s,v 3=.string s
 v4:e 4=true->v 4=.pointer (some ⟨ge,0,none⟩)
 v5:e 5=true->v 5=.int .i64 (n:Int)
 v6:e 6=true->∃x,v 6=.int .i64 x/\0<=x/\x<(n:Int)
 v7:e 7=true->∃g x,v 7=.slice (some ⟨g,0,none⟩) 1 1/\w0.heap.size<=g/\zg W g 3 #[.int .i64 x]/\0<=x/\x<(n:Int)
 v8:e 8=true->v 8=.pointer (some ⟨ge,0,none⟩)
 v9:e 9=true->v 9=.int .i64 (n:Int)
 v10:e 10=true->∃x,v 10=.int .i64 x/\0<=x/\x<(n:Int)
 v11:e 11=true->∃g x,v 11=.slice (some ⟨g,0,none⟩) 1 1/\w0.heap.size<=g/\zg W g 3 #[.int .i64 x]/\0<=x/\x<(n:Int)
 ne:e 7=true->e 11=true->(v 7).ownBlock≠(v 11).ownBlock
 v12:e 12=true->v 12=.agg #[v 3,v 7,v 11]/\e 3=true/\e 7=true/\e 11=true
 v13:e 13=true->∃g,v 13=.pointer (some ⟨g,0,none⟩)/\w0.heap.size<=g/\(e 14=false->zg W g 56 #[.string ⟨#[]⟩,.slice none 0 0,.slice none 0 0])/\(e 14=true->zg W g 56 #[v 3,v 7,v 11])
 d14:e 14=true->e 12=true/\e 13=true
section
variable {B:Nat} {w0 W W':World} {ge n t:Nat} {e:Nat->Bool} {v:Nat->Value}
theorem J6.init (o:zZ B w0 ge) (he:∀j∈[0,1,2,3,4,5,6,7,8,9,10,11,12,13,14],e j=false):J6 B w0 ge n t e v w0.drew:=
 ⟨⟨rfl,rfl,rfl,EN _,fun _ _ _=>rfl⟩,o,fun a=>ff (he 0 (by simp)) a,fun a=>ff (he 1 (by simp)) a,fun a=>ff (he 2 (by simp)) a,fun a=>ff (he 3 (by simp)) a,fun a=>ff (he 4 (by simp)) a,fun a=>ff (he 5 (by simp)) a,fun a=>ff (he 6 (by simp)) a,fun a=>ff (he 7 (by simp)) a,fun a=>ff (he 8 (by simp)) a,fun a=>ff (he 9 (by simp)) a,fun a=>ff (he 10 (by simp)) a,fun a=>ff (he 11 (by simp)) a,fun a=>ff (he 7 (by simp)) a,fun a=>ff (he 12 (by simp)) a,fun a=>ff (he 13 (by simp)) a,fun a=>ff (he 14 (by simp)) a⟩
theorem J6.move (h:J6 B w0 ge n t e v W) (gb:W.grownBy W' (some ge)) (dr:zZ B W' ge) (o:∀g ty cs,w0.heap.size<=g->zg W g ty cs->zg W' g ty cs):J6 B w0 ge n t e v W':=
 ⟨h.gb.trans gb,dr,fun a=>let ⟨g,x,y,z,h1,h2,h3⟩:=h.v0 a;⟨g,x,y,z,h1,h2,o _ _ _ h2 h3⟩,h.v1,fun a=>let ⟨g,x,y,z,h1,h2,h3⟩:=h.v2 a;⟨g,x,y,z,h1,h2,o _ _ _ h2 h3⟩,h.v3,h.v4,h.v5,h.v6,
  fun a=>let ⟨g,x,h1,h2,h3,D⟩:=h.v7 a;⟨g,x,h1,h2,o _ _ _ h2 h3,D⟩,h.v8,h.v9,h.v10,fun a=>let ⟨g,x,h1,h2,h3,D⟩:=h.v11 a;⟨g,x,h1,h2,o _ _ _ h2 h3,D⟩,h.ne,h.v12,
  fun a=>let ⟨g,h1,h2,h3,D⟩:=h.v13 a;⟨g,h1,h2,fun b=>o _ _ _ h2 (h3 b),fun b=>o _ _ _ h2 (D b)⟩,h.d14⟩
theorem J6.hge (h:J6 B w0 ge n t e v W) (o:ge<w0.heap.size):w0.heap.size<=W.heap.size:=h.gb.size
theorem J6.alloc (h:J6 B w0 ge n t e v W) (z:B<=w0.heap.size) (o:Obj):J6 B w0 ge n t e v (W.alloc o):=
 h.move ⟨rfl,rfl,rfl,by simp,fun i E _=>Ff _ _ _ E⟩ (h.dr.ext ((zb.refl _).alloc _) (EP z h.gb.size)) (fun g ty cs _ D=>D.alloc o)
theorem J6.call (h:J6 B w0 ge n t e v W) (D:ge<w0.heap.size) (gb:W.grownBy W' (some ge)) (dr:zZ B W' ge):J6 B w0 ge n t e v W':=
 h.move gb dr (fun g ty cs z o=>(gb.block g (zd o) (fun e=>by injection e with e;omega)).trans o)
theorem J6.n12 (h:J6 B w0 ge n t e v W) (o:e 12=false):e 14=false:=notT (fun a=>(h.d14 a).1) o
theorem J6.n13 (h:J6 B w0 ge n t e v W) (o:e 13=false):e 14=false:=notT (fun a=>(h.d14 a).2) o
theorem J6.n3 (h:J6 B w0 ge n t e v W) (h3:e 3=false):e 12=false:=notT (fun a=>(h.v12 a).2.1) h3
theorem J6.n7 (h:J6 B w0 ge n t e v W) (h3:e 7=false):e 12=false:=notT (fun a=>(h.v12 a).2.2.1) h3
theorem J6.n11 (h:J6 B w0 ge n t e v W) (h3:e 11=false):e 12=false:=notT (fun a=>(h.v12 a).2.2.2) h3
theorem J6.s0 (h:J6 B w0 ge n t e v W) (o:B<=w0.heap.size) (a b c:ByteArray):J6 B w0 ge n t (AI e 0 true) (AI v 0 (.slice (some ⟨W.heap.size,0,none⟩) 3 3)) (W.alloc (.cells #[.string a,.string b,.string c] 9)):=
 let k:=h.alloc o (.cells #[.string a,.string b,.string c] 9)
 ⟨k.gb,k.dr,fun _=>⟨_,a,b,c,rfl,h.gb.size,zg.new _ _ _ rfl⟩,k.v1,k.v2,k.v3,k.v4,k.v5,k.v6,k.v7,k.v8,k.v9,k.v10,k.v11,k.ne,k.v12,k.v13,k.d14⟩
theorem J6.s1 (h:J6 B w0 ge n t e v W):J6 B w0 ge n t (AI e 1 true) (AI v 1 (.int .i64 (t:Int))) W:=
 ⟨h.gb,h.dr,h.v0,fun _=>rfl,h.v2,h.v3,h.v4,h.v5,h.v6,h.v7,h.v8,h.v9,h.v10,h.v11,h.ne,h.v12,h.v13,h.d14⟩
theorem J6.s2 (h:J6 B w0 ge n t e v W) (z:w0.heap.size<=g) (o:zg W g 9 #[.string a,.string b,.string c]):J6 B w0 ge n t (AI e 2 true) (AI v 2 (.pointer (some ⟨g,t,none⟩))) W:=
 ⟨h.gb,h.dr,h.v0,h.v1,fun _=>⟨g,a,b,c,rfl,z,o⟩,h.v3,h.v4,h.v5,h.v6,h.v7,h.v8,h.v9,h.v10,h.v11,h.ne,h.v12,h.v13,h.d14⟩
theorem J6.s3 (h:J6 B w0 ge n t e v W) (h3:e 3=false) (s:ByteArray):J6 B w0 ge n t (AI e 3 true) (AI v 3 (.string s)) W:=
 ⟨h.gb,h.dr,h.v0,h.v1,h.v2,fun _=>⟨s,rfl⟩,h.v4,h.v5,h.v6,h.v7,h.v8,h.v9,h.v10,h.v11,h.ne,fun a=>ff (b:=e 12) (h.n3 h3) a,fun a=>let ⟨g,h1,h2,o,z⟩:=h.v13 a;⟨g,h1,h2,o,fun b=>ff (b:=e 14) (h.n12 (h.n3 h3)) b⟩,h.d14⟩
theorem J6.s4 (h:J6 B w0 ge n t e v W):J6 B w0 ge n t (AI e 4 true) (AI v 4 (.pointer (some ⟨ge,0,none⟩))) W:=
 ⟨h.gb,h.dr,h.v0,h.v1,h.v2,h.v3,fun _=>rfl,h.v5,h.v6,h.v7,h.v8,h.v9,h.v10,h.v11,h.ne,h.v12,h.v13,h.d14⟩
theorem J6.s5 (h:J6 B w0 ge n t e v W):J6 B w0 ge n t (AI e 5 true) (AI v 5 (.int .i64 (n:Int))) W:=
 ⟨h.gb,h.dr,h.v0,h.v1,h.v2,h.v3,h.v4,fun _=>rfl,h.v6,h.v7,h.v8,h.v9,h.v10,h.v11,h.ne,h.v12,h.v13,h.d14⟩
theorem J6.s6 (h:J6 B w0 ge n t e v W) (z:ge<w0.heap.size) (gb:W.grownBy W' (some ge)) (dr:zZ B W' ge) (D:0<=x) (o:x<(n:Int)):J6 B w0 ge n t (AI e 6 true) (AI v 6 (.int .i64 x)) W':=
 let k:=h.call z gb dr
 ⟨k.gb,k.dr,k.v0,k.v1,k.v2,k.v3,k.v4,k.v5,fun _=>⟨x,rfl,D,o⟩,k.v7,k.v8,k.v9,k.v10,k.v11,k.ne,k.v12,k.v13,k.d14⟩
theorem J6.s7 (h:J6 B w0 ge n t e v W) (E:B<=w0.heap.size) (D:e 7=false) (G:0<=x) (z:x<(n:Int)):J6 B w0 ge n t (AI e 7 true) (AI v 7 (.slice (some ⟨W.heap.size,0,none⟩) 1 1)) (W.alloc (.cells #[.int .i64 x] 3)):=
 let k:=h.alloc E (.cells #[.int .i64 x] 3)
 ⟨k.gb,k.dr,k.v0,k.v1,k.v2,k.v3,k.v4,k.v5,k.v6,fun _=>⟨_,x,rfl,h.gb.size,zg.new _ _ _ rfl,G,z⟩,k.v8,k.v9,k.v10,k.v11,fun _ b=>by
  obtain ⟨g,y,h1,_,h3,_⟩:=h.v11 b;show (Value.slice (some ⟨W.heap.size,0,none⟩) 1 1).ownBlock≠(v 11).ownBlock;rw [h1];intro e;have:=zd h3;have e:some W.heap.size=some g:=e;injection e with e;omega,fun a=>ff (b:=e 12) (h.n7 D) a,fun a=>let ⟨g,h1,h2,o,I⟩:=k.v13 a;⟨g,h1,h2,o,fun b=>ff (b:=e 14) (h.n12 (h.n7 D)) b⟩,k.d14⟩
theorem J6.s8 (h:J6 B w0 ge n t e v W):J6 B w0 ge n t (AI e 8 true) (AI v 8 (.pointer (some ⟨ge,0,none⟩))) W:=
 ⟨h.gb,h.dr,h.v0,h.v1,h.v2,h.v3,h.v4,h.v5,h.v6,h.v7,fun _=>rfl,h.v9,h.v10,h.v11,h.ne,h.v12,h.v13,h.d14⟩
theorem J6.s9 (h:J6 B w0 ge n t e v W):J6 B w0 ge n t (AI e 9 true) (AI v 9 (.int .i64 (n:Int))) W:=
 ⟨h.gb,h.dr,h.v0,h.v1,h.v2,h.v3,h.v4,h.v5,h.v6,h.v7,h.v8,fun _=>rfl,h.v10,h.v11,h.ne,h.v12,h.v13,h.d14⟩
theorem J6.s10 (h:J6 B w0 ge n t e v W) (z:ge<w0.heap.size) (gb:W.grownBy W' (some ge)) (dr:zZ B W' ge) (D:0<=x) (o:x<(n:Int)):J6 B w0 ge n t (AI e 10 true) (AI v 10 (.int .i64 x)) W':=
 let k:=h.call z gb dr
 ⟨k.gb,k.dr,k.v0,k.v1,k.v2,k.v3,k.v4,k.v5,k.v6,k.v7,k.v8,k.v9,fun _=>⟨x,rfl,D,o⟩,k.v11,k.ne,k.v12,k.v13,k.d14⟩
theorem J6.s11 (h:J6 B w0 ge n t e v W) (E:B<=w0.heap.size) (D:e 11=false) (G:0<=x) (z:x<(n:Int)):J6 B w0 ge n t (AI e 11 true) (AI v 11 (.slice (some ⟨W.heap.size,0,none⟩) 1 1)) (W.alloc (.cells #[.int .i64 x] 3)):=
 let k:=h.alloc E (.cells #[.int .i64 x] 3)
 ⟨k.gb,k.dr,k.v0,k.v1,k.v2,k.v3,k.v4,k.v5,k.v6,k.v7,k.v8,k.v9,k.v10,fun _=>⟨_,x,rfl,h.gb.size,zg.new _ _ _ rfl,G,z⟩,fun a _=>by
  obtain ⟨g,y,h1,_,h3,_⟩:=h.v7 a;show (v 7).ownBlock≠(Value.slice (some ⟨W.heap.size,0,none⟩) 1 1).ownBlock;rw [h1];intro e;have:=zd h3;have e:some g=some W.heap.size:=e;injection e with e;omega,fun a=>ff (b:=e 12) (h.n11 D) a,fun a=>let ⟨g,h1,h2,o,I⟩:=k.v13 a;⟨g,h1,h2,o,fun b=>ff (b:=e 14) (h.n12 (h.n11 D)) b⟩,k.d14⟩
theorem J6.s12 (h:J6 B w0 ge n t e v W) (h3:e 3=true) (z:e 7=true) (o:e 11=true):J6 B w0 ge n t (AI e 12 true) (AI v 12 (.agg #[v 3,v 7,v 11])) W:=
 ⟨h.gb,h.dr,h.v0,h.v1,h.v2,h.v3,h.v4,h.v5,h.v6,h.v7,h.v8,h.v9,h.v10,h.v11,h.ne,fun _=>⟨rfl,h3,z,o⟩,h.v13,fun a=>⟨rfl,(h.d14 a).2⟩⟩
theorem J6.s13 (h:J6 B w0 ge n t e v W) (z:B<=w0.heap.size) (o:e 13=false):J6 B w0 ge n t (AI e 13 true) (AI v 13 (.pointer (some ⟨W.heap.size,0,none⟩))) (W.alloc (.cells #[.string ⟨#[]⟩,.slice none 0 0,.slice none 0 0] 56)):=
 let k:=h.alloc z (.cells #[.string ⟨#[]⟩,.slice none 0 0,.slice none 0 0] 56)
 ⟨k.gb,k.dr,k.v0,k.v1,k.v2,k.v3,k.v4,k.v5,k.v6,k.v7,k.v8,k.v9,k.v10,k.v11,k.ne,k.v12,fun _=>⟨_,rfl,h.gb.size,fun _=>zg.new _ _ _ rfl,fun b=>ff (b:=e 14) (h.n13 o) b⟩,fun a=>ff (b:=e 14) (h.n13 o) a⟩
theorem J6.s14 (h:J6 B w0 ge n t e v W) (hB:B<=w0.heap.size) (J:e 12=true) (M:e 13=true) {x:Value} (hv:v 13=.pointer (some ⟨g,0,none⟩)) (V:w0.heap.size<=g) (U:zg W g 56 #[.string ⟨#[]⟩,.slice none 0 0,.slice none 0 0]) (hl:ge<w0.heap.size):
  J6 B w0 ge n t (AI e 14 true) (AI v 14 x) (((W.setCell ⟨g,0,none⟩ (v 3)).setCell ⟨g,1,none⟩ (v 7)).setCell ⟨g,2,none⟩ (v 11)):=by
 have D:∀g',g'≠g->(((W.setCell ⟨g,0,none⟩ (v 3)).setCell ⟨g,1,none⟩ (v 7)).setCell ⟨g,2,none⟩ (v 11)).heap[g']?=W.heap[g']?:=fun g' z=>
  (EW _ ⟨g,2,none⟩ _ g' z).trans ((EW _ ⟨g,1,none⟩ _ g' z).trans (EW _ ⟨g,0,none⟩ _ g' z))
 have I:∀g' ty cs,ty≠56->zg W g' ty cs->zg (((W.setCell ⟨g,0,none⟩ (v 3)).setCell ⟨g,1,none⟩ (v 7)).setCell ⟨g,2,none⟩ (v 11)) g' ty cs:=fun g' ty cs T E=>(D g' (zg.ne_ E U T)).trans E
 have o:Below B W (((W.setCell ⟨g,0,none⟩ (v 3)).setCell ⟨g,1,none⟩ (v 7)).setCell ⟨g,2,none⟩ (v 11)):=(((Below.refl B W).setCell (p:=⟨g,0,none⟩) (by show B<=g;omega) _).setCell (p:=⟨g,1,none⟩) (by show B<=g;omega) _).setCell (p:=⟨g,2,none⟩) (by show B<=g;omega) _;refine ⟨⟨h.gb.os,h.gb.tape,h.gb.output,EP h.gb.size o.size,fun i Z G=>(D i (by omega)).trans (h.gb.block i Z G)⟩,h.dr.keep o (D ge (by omega)),fun a=>?_,h.v1,fun a=>?_,h.v3,h.v4,h.v5,h.v6,fun a=>?_,h.v8,h.v9,h.v10,fun a=>?_,h.ne,h.v12,fun _=>⟨g,hv,V,fun a=>(by cases a),fun _=>?_⟩,fun _=>⟨J,M⟩⟩
 ·obtain ⟨g',a1,b1,c1,h1,h2,h3⟩:=h.v0 a;exact ⟨g',a1,b1,c1,h1,h2,I _ _ _ (by decide) h3⟩
 ·obtain ⟨g',a1,b1,c1,h1,h2,h3⟩:=h.v2 a;exact ⟨g',a1,b1,c1,h1,h2,I _ _ _ (by decide) h3⟩
 ·obtain ⟨g',x',h1,h2,h3,O⟩:=h.v7 a;exact ⟨g',x',h1,h2,I _ _ _ (by decide) h3,O⟩
 ·obtain ⟨g',x',h1,h2,h3,O⟩:=h.v11 a;exact ⟨g',x',h1,h2,I _ _ _ (by decide) h3,O⟩
 ·exact ((U.set (k:=0) (v 3)).set (k:=1) (v 7)).set (k:=2) (v 11)
theorem own1 {W:World} {S:Nat} (o:zg W g 3 #[.int .i64 x]) (z:S<=g):zA W S (.slice (some ⟨g,0,none⟩) 1 1) [x]:=
 ⟨rfl,.inr ⟨g,1,#[.int .i64 x],rfl,z,o,EN _,by unfold maxLen;omega,rfl,rfl⟩⟩
theorem J6.fin {S:Nat} (h:J6 B w0 ge n t (fun _=>true) v W) (hB:B<=S) (hS:S<=w0.heap.size) (T:S<=ge):∃s g7 g11 gt x1 x2,v 3=.string s/\v 7=.slice (some ⟨g7,0,none⟩) 1 1/\v 11=.slice (some ⟨g11,0,none⟩) 1 1/\v 13=.pointer (some ⟨gt,0,none⟩)/\
  R1 B W S ge gt n s (.slice (some ⟨g7,0,none⟩) 1 1) (.slice (some ⟨g11,0,none⟩) 1 1) [x1] [x2]:=by
 obtain ⟨s,V⟩:=h.v3 rfl;obtain ⟨g7,x1,z,Z,I,J⟩:=h.v7 rfl;obtain ⟨g11,x2,D,a0,M,O⟩:=h.v11 rfl;obtain ⟨gt,E,U,_,o⟩:=h.v13 rfl;have o:=o rfl;have G:=h.ne rfl rfl;rw [V,z,D] at o;rw [z,D] at G;refine ⟨s,g7,g11,gt,x1,x2,V,z,D,E,hB,EP hS h.gb.size,h.dr,T,o,by omega,own1 I (by omega),own1 M (by omega),.inr G,by simp,by simp,fun y hy=>?_⟩;rcases hy with hy | hy
 ·rw [Fv] at hy;rw [hy];exact J
 ·rw [Fv] at hy;rw [hy];exact O
end
structure MadeM (m:MZ):Prop where
 good:zI m
 w:2<=m.w/\m.w<=4
 h:1<=m.h/\m.h<=4
 l:1<=m.l/\m.l<=2
 n:2<=m.n/\m.n<=16
 tk:1<=m.tasks.length/\m.tasks.length<=3
 te:∀t∈m.tasks,(t.1≠[]/\t.2≠[])/\t.1.length<=2/\t.2.length<=2
 lens:Lens m
theorem dims {W H L:Int} (hW:2<=W/\W<=4) (D:1<=H/\H<=4) (o:L=1\/(L=2/\W<=3/\H<=2)):2<=W*H/\W*H<=16/\2<=W*H*L/\W*H*L<=16:=by
 have h1:W=2\/W=3\/W=4:=by omega
 have h2:H=1\/H=2\/H=3\/H=4:=by omega
 rcases h1 with rfl | rfl | rfl <;> rcases h2 with rfl | rfl | rfl | rfl <;> rcases o with rfl | ⟨rfl,h3,z⟩ <;> omega
theorem chooseL {β:Type} {p:Nat->β->Prop}:∀(n:Nat),(∀i,i<n->∃b,p i b)->∃l:List β,l.length=n/\∀i b,l[i]?=some b->p i b
 | 0,_=>⟨[],rfl,fun i b h=>by simp at h⟩
 | n+1,h=>by
  obtain ⟨l,D,h1⟩:=chooseL n (fun i hi=>h i (by omega));obtain ⟨b,E⟩:=h n (by omega);refine ⟨l++[b],by simp [D],fun i x o=>?_⟩;rcases Fk i l.length with hi | hi
  ·rw [ES hi] at o;exact h1 i x o
  ·have z:i=l.length:=by
    rcases Fk i (l++[b]).length with h2 | h2
    ·simp at h2;omega
    ·rw [Fg h2] at o;cases o
   subst z;rw [ET (EN _),Nat.sub_self] at o;have:b=x:=by simpa using o
   subst this;rw [D];exact E
structure RU (w1:World) (B:Nat) (w:World) (S gm gd:Nat) (W H L:Int) (n tF tT:Nat) (vF vU vT:Value) (fs ts:List Value) (us:List Bool):Prop where
 hB:B=w1.heap.size
 hBS:B<=S
 ms:MS B w S gm gd W H L n tF tT vF vU vT fs ts
 ow:BW w S vU us
 ex:zb w1 w
section
variable {w1 w w':World} {B S gm gd:Nat} {W H L:Int} {n tF tT:Nat} {vF vU vU' vT:Value} {fs ts:List Value} {us:List Bool}
theorem RU.ext (h:RU w1 B w S gm gd W H L n tF tT vF vU vT fs ts us) (o:zb w w'):RU w1 B w' S gm gd W H L n tF tT vF vU vT fs ts us:=
 ⟨h.hB,h.hBS,h.ms.extS o,Ai h.ow fun g z=>o.block g (World.ownsRow.lt h.ow g z).2,h.ex.trans o⟩
theorem RU.drawn (h:RU w1 B w S gm gd W H L n tF tT vF vU vT fs ts us) (G:zZ B w' gd) (z:w.grownBy w' (some gd)):RU w1 B w' S gm gd W H L n tF tT vF vU vT fs ts us:=by
 obtain ⟨cs,E⟩:=h.ms.dr.blk;refine ⟨h.hB,h.hBS,h.ms.drawn G z,Ai h.ow fun g o=>z.block g (World.ownsRow.lt h.ow g o).2 (fun e=>?_),Below.grown h.ex z h.ex.size (fun k D=>by injection D with D;have:=h.ms.dr.1;have:=h.hB;omega)⟩;injection e with e;exact zj h.ow E (by decide) (o.trans (congrArg some e))
theorem RU.add (h:RU w1 B w S gm gd W H L n tF tT vF vU vT fs ts us) {x:Bool} {w5:World} {o:Obj} (D:w5.ownsRow S 4 1 vU' (us.length+1) (us.map Value.bool++[.bool x])) (z:(w.alloc o).grownBy w5 vU.ownBlock):
  RU w1 B (w5.setCell ⟨gm,4,none⟩ vU') S gm gd W H L n tF tT vF vU' vT fs ts (us++[x]):=by
 obtain ⟨h1,h2,h3⟩:=h.ms.addU h.hBS h.ow D z;exact ⟨h.hB,h.hBS,h1,h2,Below.trans h.ex (h.hB ▸ h3)⟩
theorem RU.maze {t:Nat} (h:RU w1 B w S gm gd W H L n t t vF vU vT fs ts us) (hW:2<=W/\W<=4) (hH:1<=H/\H<=4) (hL:L=1\/(L=2/\W<=3/\H<=2)) (Z:(n:Int)=W*H*L) (ht:1<=t/\t<=3) (hu:us.length=n):
  ∃m,zt w (fun b=>B<=b) (.agg #[.int .i64 W,.int .i64 H,.int .i64 L,vF,vU,vT]) m/\MadeM m:=by
 obtain ⟨d1,d2,d3,d4⟩:=dims hW hH hL
 obtain ⟨fr,V,U⟩:=chooseL (p:=fun j (l:List Bool)=>∃u,fs[j]?=some u/\An w (fun b=>B<=b) u l/\l.length=n) t (fun j o=>by
  obtain ⟨u,h1,l,h2,h3,_⟩:=h.ms.fd j o;exact ⟨l,u,h1,h2.bools,h3⟩)
 obtain ⟨tk,a0,D⟩:=chooseL (p:=fun j (l:List Int×List Int)=>∃s u1 u2,ts[j*3]?=some (.string s)/\ts[j*3+1]?=some u1/\ts[j*3+2]?=some u2/\zi w (fun b=>B<=b) u1 l.1/\zi w (fun b=>B<=b) u2 l.2/\(l.1≠[]/\l.2≠[])/\(l.1.length<=2/\l.2.length<=2)/\(∀x,x∈l.1\/x∈l.2->0<=x/\x<(n:Int))) t (fun j o=>by
  obtain ⟨s,u1,u2,h1,h2,h3,l1,l2,G,I,J,M,O,_⟩:=h.ms.td j o;exact ⟨(l1,l2),s,u1,u2,h1,h2,h3,zV.of_own G,zV.of_own I,J,M,O⟩)
 have E:∀x∈tk,∃j,tk[j]?=some x:=fun x z=>by
  obtain ⟨j,o,rfl⟩:=Fu z;exact ⟨j,EL o⟩
 have hg:zI ⟨W,H,L,fr,us,tk⟩:=by
  refine ⟨⟨by show 1<=W;omega,by show W<=300;omega,by show 1<=H;omega,by show H<=300;omega,by show 1<=L;omega,by show L<=300;omega,by show W*H*L<=300;omega,?_⟩,?_,?_,?_,?_⟩
  ·show (us.length:Int)=W*H*L;rw [hu,Z]
  ·show fr.length=tk.length;omega
  ·intro f hf;obtain ⟨j,o,rfl⟩:=Fu hf;obtain ⟨u,_,_,h3⟩:=U j _ (EL o);show ((fr[j]).length:Int)=W*H*L;rw [h3,Z]
  ·show tk.length<=6;omega
  ·intro x z y hy;obtain ⟨j,o⟩:=E x z;obtain ⟨s,u1,u2,h1,h2,h3,G,I,J,M,O⟩:=D j x o;have:=O y hy;show 0<=y/\y<W*H*L;rw [<-Z];exact this
 refine ⟨⟨W,H,L,fr,us,tk⟩,⟨vF,vU,vT,rfl,?_,?_,?_⟩,⟨hg,hW,hH,by show 1<=L/\L<=2;omega,by show 2<=W*H*L/\W*H*L<=16;omega,by show 1<=tk.length/\tk.length<=3;omega,fun x z=>?_,⟨by show fr.length<=_;omega,by show us.length<=_;omega,by show tk.length<=_;omega,fun x z=>?_⟩⟩⟩
 ·refine ⟨fs,by show zV w _ 1 vF fr.length fs;rw [V];exact zV.of_own h.ms.F,fun i x z=>?_⟩;obtain ⟨u,h1,h2,_⟩:=U i x z;exact ⟨u,h1,h2⟩
 ·exact (BW.bools h.ow).weaken fun b hb=>EP h.hBS hb
 ·refine ⟨ts,by show zV w _ 3 vT tk.length ts;rw [a0];exact zV.of_own h.ms.T,fun i x z=>?_⟩;obtain ⟨s,u1,u2,h1,h2,h3,G,I,_⟩:=D i x z;exact ⟨s,u1,u2,h1,h2,h3,G,I⟩
 ·obtain ⟨j,o⟩:=E x z;obtain ⟨s,u1,u2,h1,h2,h3,G,I,J,M,O⟩:=D j x o;exact ⟨J,M⟩
 ·obtain ⟨j,o⟩:=E x z;obtain ⟨s,u1,u2,h1,h2,h3,G,I,J,M,O⟩:=D j x o;exact ⟨by omega,by omega⟩
end
theorem zX {P:World->Prop} {W:World} {g2:Nat} {t:TypeId} {a b c d e f z0 z1 z2 z3 z4 z5:Value} (h:∀WZ,zg WZ g2 t #[a,b,c,d,e,f]->Below g2 W WZ->(∀k,k<W.heap.size->k≠g2->WZ.heap[k]?=W.heap[k]?)->P WZ) (D:zg W g2 t #[z0,z1,z2,z3,z4,z5]):
  P ((((((W.setCell ⟨g2,0,none⟩ a).setCell ⟨g2,1,none⟩ b).setCell ⟨g2,2,none⟩ c).setCell ⟨g2,3,none⟩ d).setCell ⟨g2,4,none⟩ e).setCell ⟨g2,5,none⟩ f):=by
 refine h _ ?_ ((((((Below.refl g2 W).setCell (p:=⟨g2,0,none⟩) (EN _) _).setCell (p:=⟨g2,1,none⟩) (EN _) _).setCell (p:=⟨g2,2,none⟩) (EN _) _).setCell (p:=⟨g2,3,none⟩) (EN _) _).setCell (p:=⟨g2,4,none⟩) (EN _) _ |>.setCell (p:=⟨g2,5,none⟩) (EN _) _) fun k _ o=>?_
 ·have z:=(((((D.set (k:=0) a).set (k:=1) b).set (k:=2) c).set (k:=3) d).set (k:=4) e).set (k:=5) f;exact z
 ·exact (EW _ ⟨g2,5,none⟩ _ k o).trans ((EW _ ⟨g2,4,none⟩ _ k o).trans ((EW _ ⟨g2,3,none⟩ _ k o).trans ((EW _ ⟨g2,2,none⟩ _ k o).trans ((EW _ ⟨g2,1,none⟩ _ k o).trans (EW _ ⟨g2,0,none⟩ _ k o)))))
def SB (w W:World):Prop:=∀g ty cs,zg w g ty cs->ty≠4->W.heap[g]?=w.heap[g]?
theorem SB.rule {w:World} {ty:TypeId} {v:Value} (z:zg w g ty cs) (o:ty≠4) (D:w.cell? ⟨g,k,none⟩=some v):∀W,SB w W->W.cell? ⟨g,k,none⟩=some v:=
 fun W h=>(Fc (a:=⟨g,k,none⟩) (h g ty cs z o)).trans D
theorem SB.set {w W:World} (h:SB w W) (D:zg w g 4 cs) (x:Value):SB w (W.setCell ⟨g,k,none⟩ x):=
 fun g' ty' cs' o z=>(EW W ⟨g,k,none⟩ x g' (zg.ne_ o D z)).trans (h g' ty' cs' o z)
theorem SB.drew (w:World):SB w w.drew:=fun _ _ _ _ _=>rfl
def BA (w:World) (e:Ending) (w':World):Prop:=∃v' m,e=.returned v'/\zb w w'/\zt w' (fun b=>w.heap.size<=b) v' m/\MadeM m
end
section
open Go.RowKit
attribute [local go_sem ↓] Go.wp_at_zero Go.wp_at_succ
theorem strAt {W:World} {t:Nat} (o:zg W g 9 #[.string a,.string b,.string c]) (z:t<3):∃s,W.cell? ⟨g,t,none⟩=some (.string s):=by
 match t,z with
 | 0,_=>exact ⟨_,o.cell (k:=0) rfl⟩
 | 1,_=>exact ⟨_,o.cell (k:=1) rfl⟩
 | 2,_=>exact ⟨_,o.cell (k:=2) rfl⟩
def CN (n:Nat):Code->Option Code
 | .region id ops d=>if id=n then some (.region id ops d) else none
 | .seq a b=>match CN n a with
  | some c=>some c
  | none=>CN n b
 | .cond _ a b=>match CN n a with
  | some c=>some c
  | none=>CN n b
 | .block _ c=>CN n c
 | .loop c=>CN n c
 | _=>none
noncomputable def code38:Code:=(Tryz.f31.body.bind (CN 38)).getD .skip
noncomputable def code16:Code:=(Tryz.f31.body.bind (CN 16)).getD .skip
noncomputable def code18:Code:=(Tryz.f31.body.bind (CN 18)).getD .skip
noncomputable def code20:Code:=(Tryz.f31.body.bind (CN 20)).getD .skip
noncomputable def code42:Code:=(Tryz.f31.body.bind (CN 42)).getD .skip
theorem r38_wp {wr:World} {gm gb a t n lfn cb:Nat} {v1 v2:Value} {b3 b4 bo:Bool}
  (U:(0:Int)<=(a:Int)/\(a:Int)<(t:Int)) (a0:(0:Int)<=(k:Int)/\(k:Int)<(n:Int)) (V:t<=cF) (Z:lfn<=cb) (T:(k:Int)<(lfn:Int))
  (r5:∀W,SB wr W->W.cell? ⟨gm,5,none⟩=some (.slice (some ⟨gT,0,none⟩) t cT)) (r3:∀W,SB wr W->W.cell? ⟨gm,3,none⟩=some (.slice (some ⟨gF,0,none⟩) t cF))
  (ra1:∀W,SB wr W->W.cell? ⟨gT,a*3+1,none⟩=some v1) (ra2:∀W,SB wr W->W.cell? ⟨gT,a*3+2,none⟩=some v2) (rf1:∀W,SB wr W->W.cell? ⟨gF,a,none⟩=some (.slice (some ⟨gb,0,none⟩) lfn cb))
  (D:wr.cell? ⟨gb,k,none⟩=some (.bool bo)) (E:∀j,wr.frozen? ⟨gb,j,none⟩=false)
  (J:Hid (∀W,zb wr W->Calls Tryz.prog 12 #[v1,.int .i64 (k:Int)] W fun e w'=>e=.returned (.bool b3)/\W=w')) (O:Hid (∀W,zb wr W->Calls Tryz.prog 12 #[v2,.int .i64 (k:Int)] W fun e w'=>e=.returned (.bool b4)/\W=w'))
  (M:Hid (∀W x,SB wr W->SB wr (W.setCell ⟨gb,k,none⟩ x)))
  (o:∀c (a a':Act) w,a.defers=a'.defers->Q (.panic c) a w->Q (.panic c) a' w)
  (hQ:∀(b':Bool) (x181 x182 x183 x184 x185 x186 x187 x188 x189 x190 x191 x192 x193 x194 x195 x196 x197 x198 x199 x200 x201 x202 x203 x204 x205:Value),Q .normal ⟨(u0 :: u1 :: u2 :: u3 :: Value.pointer (some ⟨gm,0,none⟩) :: u5 :: u6 :: u7 :: u8 :: u9 :: u10 :: u11 :: Value.int .i64 (a:Nat) :: u13 :: Value.int .i64 (k:Nat) :: u15 :: u16 :: u17 :: u18 :: u19 :: u20 :: u21 :: u22 :: u23 :: u24 :: u25 :: u26 :: u27 :: u28 :: u29 :: u30 :: u31 :: u32 :: u33 :: u34 :: u35 :: u36 :: u37 :: u38 :: u39 :: u40 :: u41 :: u42 :: u43 :: u44 :: u45 :: u46 :: u47 :: u48 :: u49 :: u50 :: u51 :: u52 :: u53 :: u54 :: u55 :: u56 :: u57 :: u58 :: u59 :: u60 :: u61 :: u62 :: u63 :: u64 :: u65 :: u66 :: u67 :: u68 :: u69 :: u70 :: u71 :: u72 :: u73 :: u74 :: u75 :: u76 :: u77 :: u78 :: u79 :: u80 :: u81 :: u82 :: u83 :: u84 :: u85 :: u86 :: u87 :: u88 :: u89 :: u90 :: u91 :: u92 :: u93 :: u94 :: u95 :: u96 :: u97 :: u98 :: u99 :: u100 :: u101 :: u102 :: u103 :: u104 :: u105 :: u106 :: u107 :: u108 :: u109 :: u110 :: u111 :: u112 :: u113 :: u114 :: u115 :: u116 :: u117 :: u118 :: u119 :: u120 :: u121 :: u122 :: u123 :: u124 :: u125 :: u126 :: u127 :: u128 :: u129 :: u130 :: u131 :: u132 :: u133 :: u134 :: u135 :: u136 :: u137 :: u138 :: u139 :: u140 :: u141 :: u142 :: u143 :: u144 :: u145 :: u146 :: u147 :: u148 :: u149 :: u150 :: u151 :: u152 :: u153 :: u154 :: u155 :: u156 :: u157 :: u158 :: u159 :: u160 :: u161 :: u162 :: u163 :: u164 :: u165 :: u166 :: u167 :: u168 :: u169 :: u170 :: u171 :: u172 :: u173 :: u174 :: u175 :: u176 :: u177 :: u178 :: u179 :: u180 :: x181 :: x182 :: x183 :: x184 :: x185 :: x186 :: x187 :: x188 :: x189 :: x190 :: x191 :: x192 :: x193 :: x194 :: x195 :: x196 :: x197 :: x198 :: x199 :: x200 :: x201 :: x202 :: x203 :: x204 :: x205 :: u206 :: u207 :: u208 :: u209 :: u210 :: u211 :: u212 :: u213 :: u214 :: u215 :: u216 :: u217 :: u218 :: u219 :: []).toArray,[]⟩ (wr.drew.setCell ⟨gb,k,none⟩ (.bool b'))):
  code38.wp Tryz.prog Q ⟨(u0 :: u1 :: u2 :: u3 :: Value.pointer (some ⟨gm,0,none⟩) :: u5 :: u6 :: u7 :: u8 :: u9 :: u10 :: u11 :: Value.int .i64 (a:Nat) :: u13 :: Value.int .i64 (k:Nat) :: u15 :: u16 :: u17 :: u18 :: u19 :: u20 :: u21 :: u22 :: u23 :: u24 :: u25 :: u26 :: u27 :: u28 :: u29 :: u30 :: u31 :: u32 :: u33 :: u34 :: u35 :: u36 :: u37 :: u38 :: u39 :: u40 :: u41 :: u42 :: u43 :: u44 :: u45 :: u46 :: u47 :: u48 :: u49 :: u50 :: u51 :: u52 :: u53 :: u54 :: u55 :: u56 :: u57 :: u58 :: u59 :: u60 :: u61 :: u62 :: u63 :: u64 :: u65 :: u66 :: u67 :: u68 :: u69 :: u70 :: u71 :: u72 :: u73 :: u74 :: u75 :: u76 :: u77 :: u78 :: u79 :: u80 :: u81 :: u82 :: u83 :: u84 :: u85 :: u86 :: u87 :: u88 :: u89 :: u90 :: u91 :: u92 :: u93 :: u94 :: u95 :: u96 :: u97 :: u98 :: u99 :: u100 :: u101 :: u102 :: u103 :: u104 :: u105 :: u106 :: u107 :: u108 :: u109 :: u110 :: u111 :: u112 :: u113 :: u114 :: u115 :: u116 :: u117 :: u118 :: u119 :: u120 :: u121 :: u122 :: u123 :: u124 :: u125 :: u126 :: u127 :: u128 :: u129 :: u130 :: u131 :: u132 :: u133 :: u134 :: u135 :: u136 :: u137 :: u138 :: u139 :: u140 :: u141 :: u142 :: u143 :: u144 :: u145 :: u146 :: u147 :: u148 :: u149 :: u150 :: u151 :: u152 :: u153 :: u154 :: u155 :: u156 :: u157 :: u158 :: u159 :: u160 :: u161 :: u162 :: u163 :: u164 :: u165 :: u166 :: u167 :: u168 :: u169 :: u170 :: u171 :: u172 :: u173 :: u174 :: u175 :: u176 :: u177 :: u178 :: u179 :: u180 :: u181 :: u182 :: u183 :: u184 :: u185 :: u186 :: u187 :: u188 :: u189 :: u190 :: u191 :: u192 :: u193 :: u194 :: u195 :: u196 :: u197 :: u198 :: u199 :: u200 :: u201 :: u202 :: u203 :: u204 :: u205 :: u206 :: u207 :: u208 :: u209 :: u210 :: u211 :: u212 :: u213 :: u214 :: u215 :: u216 :: u217 :: u218 :: u219 :: []).toArray,[]⟩ wr:=by
 conv=>arg 2;whnf
 cases b3 with
 | true=>
  refine Fd (S:=fun W=>SB wr W) zU (SB.drew wr) fun zH=>?_;refine ze 0 zH ?_ (hQ:=fun _ _ _ h=>o _ _ _ _ (by rfl) h);simp only [za,EK];refine ze 1 zH ?_ (hQ:=fun _ _ _ h=>o _ _ _ _ (by rfl) h);simp only [za,EK];refine ze 2 zH ?_ (hQ:=fun _ _ _ h=>o _ _ _ _ (by rfl) h);simp only [za,EK];refine ze 3 zH ?_ (hQ:=fun _ _ _ h=>o _ _ _ _ (by rfl) h);simp only [za,EK];refine ze 4 zH ?_ (hQ:=fun _ _ _ h=>o _ _ _ _ (by rfl) h);simp only [za,EK];refine ze 5 zH ?_ (hQ:=fun _ _ _ h=>o _ _ _ _ (by rfl) h);simp only [za,EK];refine ze 6 zH ?_ (hQ:=fun _ _ _ h=>o _ _ _ _ (by rfl) h);simp only [za,EK];refine ze 7 zH ?_ (hQ:=fun _ _ _ h=>o _ _ _ _ (by rfl) h);simp only [za,EK];refine ze 8 zH ?_ (hQ:=fun _ _ _ h=>o _ _ _ _ (by rfl) h);simp only [za,EK];refine ze 9 zH ?_ (hQ:=fun _ _ _ h=>o _ _ _ _ (by rfl) h);simp only [za,EK];refine ze 10 zH ?_ (hQ:=fun _ _ _ h=>o _ _ _ _ (by rfl) h);simp only [za,EK];refine ze 11 zH ?_ (hQ:=fun _ _ _ h=>o _ _ _ _ (by rfl) h);simp only [za,EK];refine ze 12 zH ?_ (hQ:=fun _ _ _ h=>o _ _ _ _ (by rfl) h);simp only [za,EK];refine zx 13 fun K z=>?_;go_simp;go_at_call 12;refine (J.out _ ((zb.refl wr).drew)).mono ?_;rintro e w' ⟨rfl,rfl⟩;go_simp;refine zal z zH fun zH=>?_;clear z K;try simp only [za,EK]
  refine ze 14 zH ?_ (hQ:=fun _ _ _ h=>o _ _ _ _ (by rfl) h);simp only [za,EK];refine AC 15 zH ?_ (hQ:=fun _ _ _ h=>o _ _ _ _ (by rfl) h);simp only [za,EK];refine AC 16 zH ?_ (hQ:=fun _ _ _ h=>o _ _ _ _ (by rfl) h);simp only [za,EK];refine AC 17 zH ?_ (hQ:=fun _ _ _ h=>o _ _ _ _ (by rfl) h);simp only [za,EK];refine AC 18 zH ?_ (hQ:=fun _ _ _ h=>o _ _ _ _ (by rfl) h);simp only [za,EK];refine AC 19 zH ?_ (hQ:=fun _ _ _ h=>o _ _ _ _ (by rfl) h);simp only [za,EK];refine AC 20 zH ?_ (hQ:=fun _ _ _ h=>o _ _ _ _ (by rfl) h);simp only [za,EK];refine AC 21 zH ?_ (hQ:=fun _ _ _ h=>o _ _ _ _ (by rfl) h);simp only [za,EK];refine AC 22 zH ?_ (hQ:=fun _ _ _ h=>o _ _ _ _ (by rfl) h);simp only [za,EK];refine ze 23 zH ?_ (hQ:=fun _ _ _ h=>o _ _ _ _ (by rfl) h);simp only [za,EK];refine ze 24 zH ?_ (hQ:=fun _ _ _ h=>o _ _ _ _ (by rfl) h);simp only [za,EK];refine zx 25 fun K z=>?_;have G:wr.drew.cell? ⟨gb,k,none⟩=some (.bool bo):=D;have I:wr.drew.frozen? ⟨gb,k,none⟩=false:=E k;go_simp;refine zal z (M.out _ _ zH) fun zH=>?_;clear z K G I D E;try simp only [za,EK]
  refine Fs (by kernel_rfl) ?_ _;exact hQ _ _ _ _ _ _ _ _ _ _ _ _ _ _ _ _ _ _ _ _ _ _ _ _ _ _
 | false=>
  refine Fd (S:=fun W=>SB wr W) zU (SB.drew wr) fun zH=>?_;refine ze 0 zH ?_ (hQ:=fun _ _ _ h=>o _ _ _ _ (by rfl) h);simp only [za,EK];refine ze 1 zH ?_ (hQ:=fun _ _ _ h=>o _ _ _ _ (by rfl) h);simp only [za,EK];refine ze 2 zH ?_ (hQ:=fun _ _ _ h=>o _ _ _ _ (by rfl) h);simp only [za,EK];refine ze 3 zH ?_ (hQ:=fun _ _ _ h=>o _ _ _ _ (by rfl) h);simp only [za,EK];refine ze 4 zH ?_ (hQ:=fun _ _ _ h=>o _ _ _ _ (by rfl) h);simp only [za,EK];refine ze 5 zH ?_ (hQ:=fun _ _ _ h=>o _ _ _ _ (by rfl) h);simp only [za,EK];refine ze 6 zH ?_ (hQ:=fun _ _ _ h=>o _ _ _ _ (by rfl) h);simp only [za,EK];refine ze 7 zH ?_ (hQ:=fun _ _ _ h=>o _ _ _ _ (by rfl) h);simp only [za,EK];refine ze 8 zH ?_ (hQ:=fun _ _ _ h=>o _ _ _ _ (by rfl) h);simp only [za,EK];refine ze 9 zH ?_ (hQ:=fun _ _ _ h=>o _ _ _ _ (by rfl) h);simp only [za,EK];refine ze 10 zH ?_ (hQ:=fun _ _ _ h=>o _ _ _ _ (by rfl) h);simp only [za,EK];refine ze 11 zH ?_ (hQ:=fun _ _ _ h=>o _ _ _ _ (by rfl) h);simp only [za,EK];refine ze 12 zH ?_ (hQ:=fun _ _ _ h=>o _ _ _ _ (by rfl) h);simp only [za,EK];refine zx 13 fun K z=>?_;go_simp;go_at_call 12;refine (J.out _ ((zb.refl wr).drew)).mono ?_;rintro e w' ⟨rfl,rfl⟩;go_simp;refine zal z zH fun zH=>?_;clear z K;try simp only [za,EK]
  refine ze 14 zH ?_ (hQ:=fun _ _ _ h=>o _ _ _ _ (by rfl) h);simp only [za,EK];refine ze 15 zH ?_ (hQ:=fun _ _ _ h=>o _ _ _ _ (by rfl) h);simp only [za,EK];refine ze 16 zH ?_ (hQ:=fun _ _ _ h=>o _ _ _ _ (by rfl) h);simp only [za,EK];refine ze 17 zH ?_ (hQ:=fun _ _ _ h=>o _ _ _ _ (by rfl) h);simp only [za,EK];refine ze 18 zH ?_ (hQ:=fun _ _ _ h=>o _ _ _ _ (by rfl) h);simp only [za,EK];refine ze 19 zH ?_ (hQ:=fun _ _ _ h=>o _ _ _ _ (by rfl) h);simp only [za,EK];refine ze 20 zH ?_ (hQ:=fun _ _ _ h=>o _ _ _ _ (by rfl) h);simp only [za,EK];refine ze 21 zH ?_ (hQ:=fun _ _ _ h=>o _ _ _ _ (by rfl) h);simp only [za,EK];refine zx 22 fun K z=>?_;go_simp;go_at_call 12;refine (O.out _ ((zb.refl wr).drew)).mono ?_;rintro e w' ⟨rfl,rfl⟩;go_simp;refine zal z zH fun zH=>?_;clear z K;try simp only [za,EK]
  refine ze 23 zH ?_ (hQ:=fun _ _ _ h=>o _ _ _ _ (by rfl) h);simp only [za,EK];refine ze 24 zH ?_ (hQ:=fun _ _ _ h=>o _ _ _ _ (by rfl) h);simp only [za,EK];refine zx 25 fun K z=>?_;have G:wr.drew.cell? ⟨gb,k,none⟩=some (.bool bo):=D;have I:wr.drew.frozen? ⟨gb,k,none⟩=false:=E k;go_simp;refine zal z (M.out _ _ zH) fun zH=>?_;clear z K G I D E;try simp only [za,EK]
  refine Fs (by kernel_rfl) ?_ _;exact hQ _ _ _ _ _ _ _ _ _ _ _ _ _ _ _ _ _ _ _ _ _ _ _ _ _ _
theorem r42_wp {wU w1:World} {gm gd B S n a:Nat} {W H L:Int} {vF vU vT:Value} {fs ts:List Value} {us:List Bool}
  (hR:Hid (RU w1 B wU S gm gd W H L n a a vF vU vT fs ts us)) (b0:us.length<=16)
  (hP:∀c (a a':Act) w,a.defers=a'.defers->Q (.panic c) a w->Q (.panic c) a' w)
  (hQ:∀(vU':Value) (x:Bool) (w2:World),RU w1 B w2 S gm gd W H L n a a vF vU' vT fs ts (us++[x])->∀(x211 x212 x213 x214 x215 x216 x217 x218:Value),Q .normal ⟨(u0 :: u1 :: u2 :: Value.pointer (some ⟨gd,0,none⟩) :: Value.pointer (some ⟨gm,0,none⟩) :: u5 :: u6 :: u7 :: u8 :: u9 :: u10 :: u11 :: u12 :: u13 :: u14 :: u15 :: u16 :: u17 :: u18 :: u19 :: u20 :: u21 :: u22 :: u23 :: u24 :: u25 :: u26 :: u27 :: u28 :: u29 :: u30 :: u31 :: u32 :: u33 :: u34 :: u35 :: u36 :: u37 :: u38 :: u39 :: u40 :: u41 :: u42 :: u43 :: u44 :: u45 :: u46 :: u47 :: u48 :: u49 :: u50 :: u51 :: u52 :: u53 :: u54 :: u55 :: u56 :: u57 :: u58 :: u59 :: u60 :: u61 :: u62 :: u63 :: u64 :: u65 :: u66 :: u67 :: u68 :: u69 :: u70 :: u71 :: u72 :: u73 :: u74 :: u75 :: u76 :: u77 :: u78 :: u79 :: u80 :: u81 :: u82 :: u83 :: u84 :: u85 :: u86 :: u87 :: u88 :: u89 :: u90 :: u91 :: u92 :: u93 :: u94 :: u95 :: u96 :: u97 :: u98 :: u99 :: u100 :: u101 :: u102 :: u103 :: u104 :: u105 :: u106 :: u107 :: u108 :: u109 :: u110 :: u111 :: u112 :: u113 :: u114 :: u115 :: u116 :: u117 :: u118 :: u119 :: u120 :: u121 :: u122 :: u123 :: u124 :: u125 :: u126 :: u127 :: u128 :: u129 :: u130 :: u131 :: u132 :: u133 :: u134 :: u135 :: u136 :: u137 :: u138 :: u139 :: u140 :: u141 :: u142 :: u143 :: u144 :: u145 :: u146 :: u147 :: u148 :: u149 :: u150 :: u151 :: u152 :: u153 :: u154 :: u155 :: u156 :: u157 :: u158 :: u159 :: u160 :: u161 :: u162 :: u163 :: u164 :: u165 :: u166 :: u167 :: u168 :: u169 :: u170 :: u171 :: u172 :: u173 :: u174 :: u175 :: u176 :: u177 :: u178 :: u179 :: u180 :: u181 :: u182 :: u183 :: u184 :: u185 :: u186 :: u187 :: u188 :: u189 :: u190 :: u191 :: u192 :: u193 :: u194 :: u195 :: u196 :: u197 :: u198 :: u199 :: u200 :: u201 :: u202 :: u203 :: u204 :: u205 :: u206 :: u207 :: u208 :: u209 :: u210 :: x211 :: x212 :: x213 :: x214 :: x215 :: x216 :: x217 :: x218 :: u219 :: []).toArray,[]⟩ w2):
  code42.wp Tryz.prog Q ⟨(u0 :: u1 :: u2 :: Value.pointer (some ⟨gd,0,none⟩) :: Value.pointer (some ⟨gm,0,none⟩) :: u5 :: u6 :: u7 :: u8 :: u9 :: u10 :: u11 :: u12 :: u13 :: u14 :: u15 :: u16 :: u17 :: u18 :: u19 :: u20 :: u21 :: u22 :: u23 :: u24 :: u25 :: u26 :: u27 :: u28 :: u29 :: u30 :: u31 :: u32 :: u33 :: u34 :: u35 :: u36 :: u37 :: u38 :: u39 :: u40 :: u41 :: u42 :: u43 :: u44 :: u45 :: u46 :: u47 :: u48 :: u49 :: u50 :: u51 :: u52 :: u53 :: u54 :: u55 :: u56 :: u57 :: u58 :: u59 :: u60 :: u61 :: u62 :: u63 :: u64 :: u65 :: u66 :: u67 :: u68 :: u69 :: u70 :: u71 :: u72 :: u73 :: u74 :: u75 :: u76 :: u77 :: u78 :: u79 :: u80 :: u81 :: u82 :: u83 :: u84 :: u85 :: u86 :: u87 :: u88 :: u89 :: u90 :: u91 :: u92 :: u93 :: u94 :: u95 :: u96 :: u97 :: u98 :: u99 :: u100 :: u101 :: u102 :: u103 :: u104 :: u105 :: u106 :: u107 :: u108 :: u109 :: u110 :: u111 :: u112 :: u113 :: u114 :: u115 :: u116 :: u117 :: u118 :: u119 :: u120 :: u121 :: u122 :: u123 :: u124 :: u125 :: u126 :: u127 :: u128 :: u129 :: u130 :: u131 :: u132 :: u133 :: u134 :: u135 :: u136 :: u137 :: u138 :: u139 :: u140 :: u141 :: u142 :: u143 :: u144 :: u145 :: u146 :: u147 :: u148 :: u149 :: u150 :: u151 :: u152 :: u153 :: u154 :: u155 :: u156 :: u157 :: u158 :: u159 :: u160 :: u161 :: u162 :: u163 :: u164 :: u165 :: u166 :: u167 :: u168 :: u169 :: u170 :: u171 :: u172 :: u173 :: u174 :: u175 :: u176 :: u177 :: u178 :: u179 :: u180 :: u181 :: u182 :: u183 :: u184 :: u185 :: u186 :: u187 :: u188 :: u189 :: u190 :: u191 :: u192 :: u193 :: u194 :: u195 :: u196 :: u197 :: u198 :: u199 :: u200 :: u201 :: u202 :: u203 :: u204 :: u205 :: u206 :: u207 :: u208 :: u209 :: u210 :: u211 :: u212 :: u213 :: u214 :: u215 :: u216 :: u217 :: u218 :: u219 :: []).toArray,[]⟩ wU:=by
 obtain ⟨iB,bi,bz0,bz1,bz2⟩:=info_parts Tryz.infoBool;have BF:=zh bi;have BZ0:=zh bz0;have BZ1:=zh bz1;have BZ2:=zh bz2;clear bi bz0 bz1 bz2;have b1:Hid (zb w1 wU):=hR.out.ex
 conv=>arg 2;whnf
 refine Fd (S:=fun _=>True) zU trivial fun zH=>?_;have M:=zh (hR.out.ext ((zb.refl wU).drew));have a6:Hid (zb w1 wU.drew):=hR.out.ex.drew;refine ze 0 zH ?_ (hQ:=fun _ _ _ h=>hP _ _ _ _ (by rfl) h);simp only [za,EK];refine ze 2 zH ?_ (hQ:=fun _ _ _ h=>hP _ _ _ _ (by rfl) h);simp only [za,EK];refine rdA [1,3] ?_;refine Fp rfl (fun K z=>?_) ?_
 ·have T:wU.drew.cell? ⟨gm,4,none⟩=some vU:=M.out.ms.mz.cell (k:=4) rfl;go_simp;clear T;refine zal z trivial fun zH=>?_;clear z K;try simp only [za,EK]
  refine zx 3 fun K z=>?_;go_simp;go_at_call 68;refine (zW 3 M.out.ms.dr (by omega) (by omega)).mono ?_;rintro e wd2 ⟨xq,rfl,a4,a5,U,V⟩;have E:=zh (M.out.drawn U V);have a7:Hid (zb w1 wd2):=(M.out.drawn U V).ex;clear U V;go_simp;refine zal z trivial fun zH=>?_;clear z K;try simp only [za,EK]
  refine zx 4 fun K z=>?_;go_simp;refine zal z trivial fun zH=>?_;clear z K;try simp only [za,EK]
  refine zx 5 fun K z=>?_;go_simp;refine zal z trivial fun zH=>?_;clear z K;try simp only [za,EK]
  refine zx 6 fun K z=>?_;have G:wd2.cell? ⟨gm,4,none⟩=some vU:=E.out.ms.mz.cell (k:=4) rfl;have I:wd2.frozen? ⟨gm,4,none⟩=false:=E.out.ms.mz.frozen 4;refine step_append_lies (P:=Tryz.prog) _ (by rfl) _ _ 29 (by rfl) S 4 iB (.bool false) 1 1 Tryz.underlying29 BF.out BZ0.out BZ1.out BZ2.out rfl (by decide) vU us.length _ (by rfl) (World.ownsRow.alloc E.out.ow _) ⟨wd2.heap.size,0,none⟩ 1 1 [.bool (decide (0<xq))] (by rfl) rfl (cell_one_new _ _ _) (by simp [Value.oneCell']) (by decide) (by unfold maxLen;omega) (by omega) (EP E.out.ms.hS (by simp)) (wd2.heap.size+1) (by simp) ?_;intro gq cq w9 D J hv _;have O:=zh (E.out.add D J);have Z:w9.cell? ⟨gm,4,none⟩=some vU:=(Fc (a:=⟨gm,4,none⟩) (J.block gm (by have:=zd E.out.ms.mz;simp;omega) (fun e=>zj E.out.ow E.out.ms.mz (by decide) e.symm))).trans ((Fc (a:=⟨gm,4,none⟩) (Ff _ _ _ (zd E.out.ms.mz))).trans G);have a0:w9.frozen? ⟨gm,4,none⟩=false:=(Fm (a:=⟨gm,4,none⟩) (J.block gm (by have:=zd E.out.ms.mz;simp;omega) (fun e=>zj E.out.ow E.out.ms.mz (by decide) e.symm))).trans ((Fm (a:=⟨gm,4,none⟩) (Ff _ _ _ (zd E.out.ms.mz))).trans I);clear D J hv G I;refine zal z trivial fun zH=>?_;clear z K;try simp only [za,EK]
  refine zx 7 fun K z=>?_;go_simp;refine zal z trivial fun zH=>?_;clear z K;try simp only [za,EK]
  refine zx 8 fun K z=>?_;go_simp;refine zal z trivial fun zH=>?_;clear z K;try simp only [za,EK]
  refine Fs (by kernel_rfl) ?_ _;exact hQ _ _ _ O.out _ _ _ _ _ _ _ _
 refine Fp rfl (fun K z=>?_) .nil;go_simp;go_at_call 68;refine (zW 3 M.out.ms.dr (by omega) (by omega)).mono ?_;rintro e wd8 ⟨xq,rfl,a4,a5,U,V⟩;have o:=zh (M.out.drawn U V);have a8:Hid (zb w1 wd8):=(M.out.drawn U V).ex;clear U V;go_simp;refine zal z trivial fun zH=>?_;clear z K;try simp only [za,EK]
 refine rdA [1,4] ?_;refine Fp rfl (fun K z=>?_) ?_
 ·have T:wd8.cell? ⟨gm,4,none⟩=some vU:=o.out.ms.mz.cell (k:=4) rfl;go_simp;clear T;refine zal z trivial fun zH=>?_;clear z K;try simp only [za,EK]
  refine zx 4 fun K z=>?_;go_simp;refine zal z trivial fun zH=>?_;clear z K;try simp only [za,EK]
  refine zx 5 fun K z=>?_;go_simp;refine zal z trivial fun zH=>?_;clear z K;try simp only [za,EK]
  refine zx 6 fun K z=>?_;have G:wd8.cell? ⟨gm,4,none⟩=some vU:=o.out.ms.mz.cell (k:=4) rfl;have I:wd8.frozen? ⟨gm,4,none⟩=false:=o.out.ms.mz.frozen 4;refine step_append_lies (P:=Tryz.prog) _ (by rfl) _ _ 29 (by rfl) S 4 iB (.bool false) 1 1 Tryz.underlying29 BF.out BZ0.out BZ1.out BZ2.out rfl (by decide) vU us.length _ (by rfl) (World.ownsRow.alloc o.out.ow _) ⟨wd8.heap.size,0,none⟩ 1 1 [.bool (decide (0<xq))] (by rfl) rfl (cell_one_new _ _ _) (by simp [Value.oneCell']) (by decide) (by unfold maxLen;omega) (by omega) (EP o.out.ms.hS (by simp)) (wd8.heap.size+1) (by simp) ?_;intro gq cq w9 D J hv _;have O:=zh (o.out.add D J);have Z:w9.cell? ⟨gm,4,none⟩=some vU:=(Fc (a:=⟨gm,4,none⟩) (J.block gm (by have:=zd o.out.ms.mz;simp;omega) (fun e=>zj o.out.ow o.out.ms.mz (by decide) e.symm))).trans ((Fc (a:=⟨gm,4,none⟩) (Ff _ _ _ (zd o.out.ms.mz))).trans G);have a0:w9.frozen? ⟨gm,4,none⟩=false:=(Fm (a:=⟨gm,4,none⟩) (J.block gm (by have:=zd o.out.ms.mz;simp;omega) (fun e=>zj o.out.ow o.out.ms.mz (by decide) e.symm))).trans ((Fm (a:=⟨gm,4,none⟩) (Ff _ _ _ (zd o.out.ms.mz))).trans I);clear D J hv G I;refine zal z trivial fun zH=>?_;clear z K;try simp only [za,EK]
  refine zx 7 fun K z=>?_;go_simp;refine zal z trivial fun zH=>?_;clear z K;try simp only [za,EK]
  refine zx 8 fun K z=>?_;go_simp;refine zal z trivial fun zH=>?_;clear z K;try simp only [za,EK]
  refine Fs (by kernel_rfl) ?_ _;exact hQ _ _ _ O.out _ _ _ _ _ _ _ _
 refine Fp rfl (fun K z=>?_) .nil;go_simp;refine zal z trivial fun zH=>?_;clear z K;try simp only [za,EK]
 refine rdA [1,5] ?_;refine Fp rfl (fun K z=>?_) ?_
 ·have T:wd8.cell? ⟨gm,4,none⟩=some vU:=o.out.ms.mz.cell (k:=4) rfl;go_simp;clear T;refine zal z trivial fun zH=>?_;clear z K;try simp only [za,EK]
  refine zx 5 fun K z=>?_;go_simp;refine zal z trivial fun zH=>?_;clear z K;try simp only [za,EK]
  refine zx 6 fun K z=>?_;have G:wd8.cell? ⟨gm,4,none⟩=some vU:=o.out.ms.mz.cell (k:=4) rfl;have I:wd8.frozen? ⟨gm,4,none⟩=false:=o.out.ms.mz.frozen 4;refine step_append_lies (P:=Tryz.prog) _ (by rfl) _ _ 29 (by rfl) S 4 iB (.bool false) 1 1 Tryz.underlying29 BF.out BZ0.out BZ1.out BZ2.out rfl (by decide) vU us.length _ (by rfl) (World.ownsRow.alloc o.out.ow _) ⟨wd8.heap.size,0,none⟩ 1 1 [.bool (decide (0<xq))] (by rfl) rfl (cell_one_new _ _ _) (by simp [Value.oneCell']) (by decide) (by unfold maxLen;omega) (by omega) (EP o.out.ms.hS (by simp)) (wd8.heap.size+1) (by simp) ?_;intro gq cq w9 D J hv _;have O:=zh (o.out.add D J);have Z:w9.cell? ⟨gm,4,none⟩=some vU:=(Fc (a:=⟨gm,4,none⟩) (J.block gm (by have:=zd o.out.ms.mz;simp;omega) (fun e=>zj o.out.ow o.out.ms.mz (by decide) e.symm))).trans ((Fc (a:=⟨gm,4,none⟩) (Ff _ _ _ (zd o.out.ms.mz))).trans G);have a0:w9.frozen? ⟨gm,4,none⟩=false:=(Fm (a:=⟨gm,4,none⟩) (J.block gm (by have:=zd o.out.ms.mz;simp;omega) (fun e=>zj o.out.ow o.out.ms.mz (by decide) e.symm))).trans ((Fm (a:=⟨gm,4,none⟩) (Ff _ _ _ (zd o.out.ms.mz))).trans I);clear D J hv G I;refine zal z trivial fun zH=>?_;clear z K;try simp only [za,EK]
  refine zx 7 fun K z=>?_;go_simp;refine zal z trivial fun zH=>?_;clear z K;try simp only [za,EK]
  refine zx 8 fun K z=>?_;go_simp;refine zal z trivial fun zH=>?_;clear z K;try simp only [za,EK]
  refine Fs (by kernel_rfl) ?_ _;exact hQ _ _ _ O.out _ _ _ _ _ _ _ _
 refine Fp rfl (fun K z=>?_) .nil;go_simp;refine zal z trivial fun zH=>?_;clear z K;try simp only [za,EK]
 refine zx 1 fun K z=>?_;have T:(wd8.alloc (.cells #[.bool (decide (0<xq))] 4)).cell? ⟨gm,4,none⟩=some vU:=(o.out.ext ((zb.refl _).alloc (.cells #[.bool (decide (0<xq))] 4))).ms.mz.cell (k:=4) rfl;go_simp;clear T;refine zal z trivial fun zH=>?_;clear z K;try simp only [za,EK]
 refine zx 6 fun K z=>?_;have G:wd8.cell? ⟨gm,4,none⟩=some vU:=o.out.ms.mz.cell (k:=4) rfl;have I:wd8.frozen? ⟨gm,4,none⟩=false:=o.out.ms.mz.frozen 4;refine step_append_lies (P:=Tryz.prog) _ (by rfl) _ _ 29 (by rfl) S 4 iB (.bool false) 1 1 Tryz.underlying29 BF.out BZ0.out BZ1.out BZ2.out rfl (by decide) vU us.length _ (by rfl) (World.ownsRow.alloc o.out.ow _) ⟨wd8.heap.size,0,none⟩ 1 1 [.bool (decide (0<xq))] (by rfl) rfl (cell_one_new _ _ _) (by simp [Value.oneCell']) (by decide) (by unfold maxLen;omega) (by omega) (EP o.out.ms.hS (by simp)) (wd8.heap.size+1) (by simp) ?_;intro gq cq w9 D J hv _;have O:=zh (o.out.add D J);have Z:w9.cell? ⟨gm,4,none⟩=some vU:=(Fc (a:=⟨gm,4,none⟩) (J.block gm (by have:=zd o.out.ms.mz;simp;omega) (fun e=>zj o.out.ow o.out.ms.mz (by decide) e.symm))).trans ((Fc (a:=⟨gm,4,none⟩) (Ff _ _ _ (zd o.out.ms.mz))).trans G);have a0:w9.frozen? ⟨gm,4,none⟩=false:=(Fm (a:=⟨gm,4,none⟩) (J.block gm (by have:=zd o.out.ms.mz;simp;omega) (fun e=>zj o.out.ow o.out.ms.mz (by decide) e.symm))).trans ((Fm (a:=⟨gm,4,none⟩) (Ff _ _ _ (zd o.out.ms.mz))).trans I);clear D J hv G I;refine zal z trivial fun zH=>?_;clear z K;try simp only [za,EK]
 refine zx 7 fun K z=>?_;go_simp;refine zal z trivial fun zH=>?_;clear z K;try simp only [za,EK]
 refine zx 8 fun K z=>?_;go_simp;refine zal z trivial fun zH=>?_;clear z K;try simp only [za,EK]
 refine Fs (by kernel_rfl) ?_ _;exact hQ _ _ _ O.out _ _ _ _ _ _ _ _
theorem r16_wp {w6:World} {ge B n t:Nat}
  (b6:Hid (zZ B w6 ge)) (M:B<=w6.heap.size) (a6:ge<w6.heap.size) (b7:t<3) (c4:(t:Int)<3) (c5:(0:Int)<=(t:Int)) (c9:2<=n/\n<=16)
  (hQ:∀(v:Nat->Value) (W:World),J6 B w6 ge n t (fun _=>true) v W->True->Q .normal ⟨(u0 :: u1 :: u2 :: u3 :: u4 :: Value.int .i64 (n:Nat) :: u6 :: Value.int .i64 (t:Nat) :: Value.pointer (some ⟨ge,0,none⟩) :: (v 13) :: u10 :: u11 :: u12 :: u13 :: u14 :: u15 :: u16 :: u17 :: u18 :: u19 :: u20 :: u21 :: u22 :: u23 :: u24 :: u25 :: u26 :: u27 :: u28 :: u29 :: u30 :: u31 :: u32 :: u33 :: u34 :: u35 :: u36 :: u37 :: u38 :: u39 :: u40 :: u41 :: u42 :: u43 :: u44 :: u45 :: u46 :: u47 :: u48 :: u49 :: u50 :: u51 :: u52 :: u53 :: u54 :: u55 :: u56 :: u57 :: u58 :: u59 :: u60 :: u61 :: u62 :: u63 :: u64 :: u65 :: u66 :: u67 :: u68 :: u69 :: u70 :: u71 :: u72 :: (v 0) :: (v 1) :: (v 2) :: (v 3) :: (v 4) :: (v 5) :: (v 6) :: (v 7) :: (v 8) :: (v 9) :: (v 10) :: (v 11) :: (v 12) :: u86 :: u87 :: u88 :: u89 :: u90 :: u91 :: u92 :: u93 :: u94 :: u95 :: u96 :: u97 :: u98 :: u99 :: u100 :: u101 :: u102 :: u103 :: u104 :: u105 :: u106 :: u107 :: u108 :: u109 :: u110 :: u111 :: u112 :: u113 :: u114 :: u115 :: u116 :: u117 :: u118 :: u119 :: u120 :: u121 :: u122 :: u123 :: u124 :: u125 :: u126 :: u127 :: u128 :: u129 :: u130 :: u131 :: u132 :: u133 :: u134 :: u135 :: u136 :: u137 :: u138 :: u139 :: u140 :: u141 :: u142 :: u143 :: u144 :: u145 :: u146 :: u147 :: u148 :: u149 :: u150 :: u151 :: u152 :: u153 :: u154 :: u155 :: u156 :: u157 :: u158 :: u159 :: u160 :: u161 :: u162 :: u163 :: u164 :: u165 :: u166 :: u167 :: u168 :: u169 :: u170 :: u171 :: u172 :: u173 :: u174 :: u175 :: u176 :: u177 :: u178 :: u179 :: u180 :: u181 :: u182 :: u183 :: u184 :: u185 :: u186 :: u187 :: u188 :: u189 :: u190 :: u191 :: u192 :: u193 :: u194 :: u195 :: u196 :: u197 :: u198 :: u199 :: u200 :: u201 :: u202 :: u203 :: u204 :: u205 :: u206 :: u207 :: u208 :: u209 :: u210 :: u211 :: u212 :: u213 :: u214 :: u215 :: u216 :: u217 :: u218 :: u219 :: []).toArray,[]⟩ W):
  code16.wp Tryz.prog Q ⟨(u0 :: u1 :: u2 :: u3 :: u4 :: Value.int .i64 (n:Nat) :: u6 :: Value.int .i64 (t:Nat) :: Value.pointer (some ⟨ge,0,none⟩) :: u9 :: u10 :: u11 :: u12 :: u13 :: u14 :: u15 :: u16 :: u17 :: u18 :: u19 :: u20 :: u21 :: u22 :: u23 :: u24 :: u25 :: u26 :: u27 :: u28 :: u29 :: u30 :: u31 :: u32 :: u33 :: u34 :: u35 :: u36 :: u37 :: u38 :: u39 :: u40 :: u41 :: u42 :: u43 :: u44 :: u45 :: u46 :: u47 :: u48 :: u49 :: u50 :: u51 :: u52 :: u53 :: u54 :: u55 :: u56 :: u57 :: u58 :: u59 :: u60 :: u61 :: u62 :: u63 :: u64 :: u65 :: u66 :: u67 :: u68 :: u69 :: u70 :: u71 :: u72 :: u73 :: u74 :: u75 :: u76 :: u77 :: u78 :: u79 :: u80 :: u81 :: u82 :: u83 :: u84 :: u85 :: u86 :: u87 :: u88 :: u89 :: u90 :: u91 :: u92 :: u93 :: u94 :: u95 :: u96 :: u97 :: u98 :: u99 :: u100 :: u101 :: u102 :: u103 :: u104 :: u105 :: u106 :: u107 :: u108 :: u109 :: u110 :: u111 :: u112 :: u113 :: u114 :: u115 :: u116 :: u117 :: u118 :: u119 :: u120 :: u121 :: u122 :: u123 :: u124 :: u125 :: u126 :: u127 :: u128 :: u129 :: u130 :: u131 :: u132 :: u133 :: u134 :: u135 :: u136 :: u137 :: u138 :: u139 :: u140 :: u141 :: u142 :: u143 :: u144 :: u145 :: u146 :: u147 :: u148 :: u149 :: u150 :: u151 :: u152 :: u153 :: u154 :: u155 :: u156 :: u157 :: u158 :: u159 :: u160 :: u161 :: u162 :: u163 :: u164 :: u165 :: u166 :: u167 :: u168 :: u169 :: u170 :: u171 :: u172 :: u173 :: u174 :: u175 :: u176 :: u177 :: u178 :: u179 :: u180 :: u181 :: u182 :: u183 :: u184 :: u185 :: u186 :: u187 :: u188 :: u189 :: u190 :: u191 :: u192 :: u193 :: u194 :: u195 :: u196 :: u197 :: u198 :: u199 :: u200 :: u201 :: u202 :: u203 :: u204 :: u205 :: u206 :: u207 :: u208 :: u209 :: u210 :: u211 :: u212 :: u213 :: u214 :: u215 :: u216 :: u217 :: u218 :: u219 :: []).toArray,[]⟩ w6:=by
 conv=>arg 2;whnf
 refine Fd (S:=(fun _=>True)) (by kernel_rfl) (trivial) fun zH=>?_;refine BL [0,1,2,3,4,5,6,7,8,9,10,11,12,13,14] (fun e v W=>J6 B w6 ge n t e v W) (F:=?F204) (by kernel_rfl) (by kernel_rfl) (by decide) zH (fun v=>?hF204) ?init204 (by kernel_rfl) ?steps204 ?fin204
 case hF204=>(simp only [zS,Co,List.getElem?_toArray,List.getElem?_cons_succ,List.getElem?_cons_zero,Option.bind,Act.put,List.setIfInBounds_toArray,List.set_cons_succ,List.set_cons_zero];rfl)
 case init204=>
  intro e v he;exact J6.init b6.out he
 case steps204=>
  refine zk.cons rfl (fun e v W K o hW he D z=>?_) ?_
  ·simp only [za] at D z⊢;go_simp;exact z.out _ _ _ (by rfl) trivial (o.s0 M _ _ _)
  refine zk.cons rfl (fun e v W K o hW he D z=>?_) ?_
  ·simp only [za] at D z⊢;go_simp;exact z.out _ _ _ (by rfl) trivial o.s1
  refine zk.cons rfl (fun e v W K o hW he D z=>?_) ?_
  ·simp only [za] at D z⊢;obtain ⟨g,a,b,c,b8,b3,a3⟩:=o.v0 (zo D [0,1] (by kernel_rfl) 0 (by simp));have b9:=o.v1 (zo D [0,1] (by kernel_rfl) 1 (by simp));go_simp;exact z.out _ _ _ (by simp [Act.put,b8,b9]) trivial (o.s2 b3 a3)
  refine zk.cons rfl (fun e v W K o hW he D z=>?_) ?_
  ·simp only [za] at D z⊢;obtain ⟨g,a,b,c,c0,b3,a3⟩:=o.v2 (zo D [2] (by kernel_rfl) 2 (by simp));obtain ⟨s,hs⟩:=strAt a3 b7;go_simp;exact z.out _ _ _ (by simp [Act.put,c0]) trivial (o.s3 he s)
  refine zk.cons rfl (fun e v W K o hW he D z=>?_) ?_
  ·simp only [za] at D z⊢;go_simp;exact z.out _ _ _ (by rfl) trivial o.s4
  refine zk.cons rfl (fun e v W K o hW he D z=>?_) ?_
  ·simp only [za] at D z⊢;go_simp;exact z.out _ _ _ (by rfl) trivial o.s5
  refine zk.cons rfl (fun e v W K o hW he D z=>?_) ?_
  ·simp only [za] at D z⊢;have a8:=o.v4 (zo D [4,5] (by kernel_rfl) 4 (by simp));have a9:=o.v5 (zo D [4,5] (by kernel_rfl) 5 (by simp));go_simp;go_at_call 68;refine (zW (n:Int) o.dr (by omega) (by omega)).mono ?_;rintro e9 w9 ⟨x,rfl,G,I,a4,a5⟩;go_simp;exact z.out _ _ _ (by simp [Act.put,a8,a9]) trivial (o.s6 a6 a5 a4 G I)
  refine zk.cons rfl (fun e v W K o hW he D z=>?_) ?_
  ·simp only [za] at D z⊢;obtain ⟨x,a7,G,I⟩:=o.v6 (zo D [6] (by kernel_rfl) 6 (by simp));go_simp;exact z.out _ _ _ (by simp [Act.put,a7]) trivial (o.s7 M he G I)
  refine zk.cons rfl (fun e v W K o hW he D z=>?_) ?_
  ·simp only [za] at D z⊢;go_simp;exact z.out _ _ _ (by rfl) trivial o.s8
  refine zk.cons rfl (fun e v W K o hW he D z=>?_) ?_
  ·simp only [za] at D z⊢;go_simp;exact z.out _ _ _ (by rfl) trivial o.s9
  refine zk.cons rfl (fun e v W K o hW he D z=>?_) ?_
  ·simp only [za] at D z⊢;have a8:=o.v8 (zo D [8,9] (by kernel_rfl) 8 (by simp));have a9:=o.v9 (zo D [8,9] (by kernel_rfl) 9 (by simp));go_simp;go_at_call 68;refine (zW (n:Int) o.dr (by omega) (by omega)).mono ?_;rintro e9 w9 ⟨x,rfl,G,I,a4,a5⟩;go_simp;exact z.out _ _ _ (by simp [Act.put,a8,a9]) trivial (o.s10 a6 a5 a4 G I)
  refine zk.cons rfl (fun e v W K o hW he D z=>?_) ?_
  ·simp only [za] at D z⊢;obtain ⟨x,a7,G,I⟩:=o.v10 (zo D [10] (by kernel_rfl) 10 (by simp));go_simp;exact z.out _ _ _ (by simp [Act.put,a7]) trivial (o.s11 M he G I)
  refine zk.cons rfl (fun e v W K o hW he D z=>?_) ?_
  ·simp only [za] at D z⊢;have h3:=(zo D [3,7,11] (by kernel_rfl) 3 (by simp));have h7:=(zo D [3,7,11] (by kernel_rfl) 7 (by simp));have U:=(zo D [3,7,11] (by kernel_rfl) 11 (by simp));obtain ⟨s,V⟩:=o.v3 h3;obtain ⟨g7,x7,Z,-,-,-⟩:=o.v7 h7;obtain ⟨g11,x11,J,-,-,-⟩:=o.v11 U;go_simp;exact z.out _ (.agg #[v 3,v 7,v 11]) _ (by simp [Act.put,V,Z,J]) trivial (o.s12 h3 h7 U)
  refine zk.cons rfl (fun e v W K o hW he D z=>?_) ?_
  ·simp only [za] at D z⊢;go_simp;exact z.out _ _ _ (by rfl) trivial (o.s13 M he)
  refine zk.cons rfl (fun e v W K o hW he D z=>?_) ?_
  ·simp only [za] at D z⊢;have b1:=(zo D [12,13] (by kernel_rfl) 12 (by simp));have b2:=(zo D [12,13] (by kernel_rfl) 13 (by simp));obtain ⟨a0,h3,h7,U⟩:=o.v12 b1;obtain ⟨s,V⟩:=o.v3 h3;obtain ⟨g7,x7,Z,-,-,-⟩:=o.v7 h7;obtain ⟨g11,x11,J,-,-,-⟩:=o.v11 U;obtain ⟨g,a1,b4,E,-⟩:=o.v13 b2;have E:=E he;have c6:W.cell? ⟨g,0,none⟩=some (.string ⟨#[]⟩):=E.cell (k:=0) rfl;have c7:W.cell? ⟨g,1,none⟩=some (.slice none 0 0):=E.cell (k:=1) rfl;have c8:W.cell? ⟨g,2,none⟩=some (.slice none 0 0):=E.cell (k:=2) rfl;have hf:=fun k=>E.frozen k
   have O:=o.s14 (x:=undef) M b1 b2 a1 b4 E a6;have T:=a0;rw [V,Z,J] at T O;have b0:=zh O;clear O a0 E;go_simp;exact z.out _ undef _ (by simp [Act.put,T,a1,V,Z,J]) trivial b0.out
  exact zk.nil
 case fin204=>
  intro v W o _;exact hQ v W o trivial
theorem r18_wp {wb:World} {ge B n g7:Nat} {x1:Int}
  (a9:Hid (R1 B wb wR.heap.size ge gt n s (.slice (some ⟨g7,0,none⟩) 1 1) (.slice (some ⟨g11,0,none⟩) 1 1) [x1] [x2])) (a8:Hid (zb wR wb)) (b3:2<=n/\n<=16)
  (hP:∀c (a a':Act) w,a.defers=a'.defers->Q (.panic c) a w->Q (.panic c) a' w)
  (hQ:∀(u:Value) (l:List Int) (W:World),Hid (R1 B W wR.heap.size ge gt n s u (.slice (some ⟨g11,0,none⟩) 1 1) l [x2]/\zb wR W/\l.length<=2)->∀(x89 x90 x91 x92 x93 x94 x95 x96:Value),Q .normal ⟨(u0 :: u1 :: u2 :: u3 :: u4 :: Value.int .i64 (n:Nat) :: u6 :: u7 :: Value.pointer (some ⟨ge,0,none⟩) :: Value.pointer (some ⟨gt,0,none⟩) :: u10 :: u11 :: u12 :: u13 :: u14 :: u15 :: u16 :: u17 :: u18 :: u19 :: u20 :: u21 :: u22 :: u23 :: u24 :: u25 :: u26 :: u27 :: u28 :: u29 :: u30 :: u31 :: u32 :: u33 :: u34 :: u35 :: u36 :: u37 :: u38 :: u39 :: u40 :: u41 :: u42 :: u43 :: u44 :: u45 :: u46 :: u47 :: u48 :: u49 :: u50 :: u51 :: u52 :: u53 :: u54 :: u55 :: u56 :: u57 :: u58 :: u59 :: u60 :: u61 :: u62 :: u63 :: u64 :: u65 :: u66 :: u67 :: u68 :: u69 :: u70 :: u71 :: u72 :: u73 :: u74 :: u75 :: u76 :: u77 :: u78 :: u79 :: u80 :: u81 :: u82 :: u83 :: u84 :: u85 :: u86 :: u87 :: u88 :: x89 :: x90 :: x91 :: x92 :: x93 :: x94 :: x95 :: x96 :: u97 :: u98 :: u99 :: u100 :: u101 :: u102 :: u103 :: u104 :: u105 :: u106 :: u107 :: u108 :: u109 :: u110 :: u111 :: u112 :: u113 :: u114 :: u115 :: u116 :: u117 :: u118 :: u119 :: u120 :: u121 :: u122 :: u123 :: u124 :: u125 :: u126 :: u127 :: u128 :: u129 :: u130 :: u131 :: u132 :: u133 :: u134 :: u135 :: u136 :: u137 :: u138 :: u139 :: u140 :: u141 :: u142 :: u143 :: u144 :: u145 :: u146 :: u147 :: u148 :: u149 :: u150 :: u151 :: u152 :: u153 :: u154 :: u155 :: u156 :: u157 :: u158 :: u159 :: u160 :: u161 :: u162 :: u163 :: u164 :: u165 :: u166 :: u167 :: u168 :: u169 :: u170 :: u171 :: u172 :: u173 :: u174 :: u175 :: u176 :: u177 :: u178 :: u179 :: u180 :: u181 :: u182 :: u183 :: u184 :: u185 :: u186 :: u187 :: u188 :: u189 :: u190 :: u191 :: u192 :: u193 :: u194 :: u195 :: u196 :: u197 :: u198 :: u199 :: u200 :: u201 :: u202 :: u203 :: u204 :: u205 :: u206 :: u207 :: u208 :: u209 :: u210 :: u211 :: u212 :: u213 :: u214 :: u215 :: u216 :: u217 :: u218 :: u219 :: []).toArray,[]⟩ W):
  code18.wp Tryz.prog Q ⟨(u0 :: u1 :: u2 :: u3 :: u4 :: Value.int .i64 (n:Nat) :: u6 :: u7 :: Value.pointer (some ⟨ge,0,none⟩) :: Value.pointer (some ⟨gt,0,none⟩) :: u10 :: u11 :: u12 :: u13 :: u14 :: u15 :: u16 :: u17 :: u18 :: u19 :: u20 :: u21 :: u22 :: u23 :: u24 :: u25 :: u26 :: u27 :: u28 :: u29 :: u30 :: u31 :: u32 :: u33 :: u34 :: u35 :: u36 :: u37 :: u38 :: u39 :: u40 :: u41 :: u42 :: u43 :: u44 :: u45 :: u46 :: u47 :: u48 :: u49 :: u50 :: u51 :: u52 :: u53 :: u54 :: u55 :: u56 :: u57 :: u58 :: u59 :: u60 :: u61 :: u62 :: u63 :: u64 :: u65 :: u66 :: u67 :: u68 :: u69 :: u70 :: u71 :: u72 :: u73 :: u74 :: u75 :: u76 :: u77 :: u78 :: u79 :: u80 :: u81 :: u82 :: u83 :: u84 :: u85 :: u86 :: u87 :: u88 :: u89 :: u90 :: u91 :: u92 :: u93 :: u94 :: u95 :: u96 :: u97 :: u98 :: u99 :: u100 :: u101 :: u102 :: u103 :: u104 :: u105 :: u106 :: u107 :: u108 :: u109 :: u110 :: u111 :: u112 :: u113 :: u114 :: u115 :: u116 :: u117 :: u118 :: u119 :: u120 :: u121 :: u122 :: u123 :: u124 :: u125 :: u126 :: u127 :: u128 :: u129 :: u130 :: u131 :: u132 :: u133 :: u134 :: u135 :: u136 :: u137 :: u138 :: u139 :: u140 :: u141 :: u142 :: u143 :: u144 :: u145 :: u146 :: u147 :: u148 :: u149 :: u150 :: u151 :: u152 :: u153 :: u154 :: u155 :: u156 :: u157 :: u158 :: u159 :: u160 :: u161 :: u162 :: u163 :: u164 :: u165 :: u166 :: u167 :: u168 :: u169 :: u170 :: u171 :: u172 :: u173 :: u174 :: u175 :: u176 :: u177 :: u178 :: u179 :: u180 :: u181 :: u182 :: u183 :: u184 :: u185 :: u186 :: u187 :: u188 :: u189 :: u190 :: u191 :: u192 :: u193 :: u194 :: u195 :: u196 :: u197 :: u198 :: u199 :: u200 :: u201 :: u202 :: u203 :: u204 :: u205 :: u206 :: u207 :: u208 :: u209 :: u210 :: u211 :: u212 :: u213 :: u214 :: u215 :: u216 :: u217 :: u218 :: u219 :: []).toArray,[]⟩ wb:=by
 obtain ⟨iI,ji,jz0,jz1,jz2⟩:=info_parts Tryz.infoInt;have JF:=zh ji;have JZ0:=zh jz0;have JZ1:=zh jz1;have JZ2:=zh jz2;clear ji jz0 jz1 jz2
 conv=>arg 2;whnf
 refine Fd (S:=fun _=>True) zU trivial fun zH=>?_;have O:=zh (a9.out.ext ((zb.refl wb).drew));have a6:Hid (zb wR wb.drew):=a8.out.drew;refine ze 0 zH ?_ (hQ:=fun _ _ _ h=>hP _ _ _ _ (by rfl) h);simp only [za,EK];refine ze 2 zH ?_ (hQ:=fun _ _ _ h=>hP _ _ _ _ (by rfl) h);simp only [za,EK];refine ze 3 zH ?_ (hQ:=fun _ _ _ h=>hP _ _ _ _ (by rfl) h);simp only [za,EK];refine rdA [1,4] ?_;refine Fp rfl (fun K z=>?_) ?_
 ·have a1:wb.drew.cell? ⟨gt,1,none⟩=some (.slice (some ⟨g7,0,none⟩) 1 1):=O.out.tk.cell (k:=1) rfl;go_simp;clear a1;refine zal z trivial fun zH=>?_;clear z K;try simp only [za,EK]
  refine zx 4 fun K z=>?_;go_simp;go_at_call 68;refine (zW (n:Int) O.out.dr (by omega) (by omega)).mono ?_;rintro e wd2 ⟨xq,rfl,a4,a5,a3,T⟩;have E:=zh (O.out.drawn a3 T);have a7:Hid (zb wR wd2):=O.out.drawnExt a6.out T;clear a3 T;go_simp;refine zal z trivial fun zH=>?_;clear z K;try simp only [za,EK]
  refine zx 5 fun K z=>?_;go_simp;refine zal z trivial fun zH=>?_;clear z K;try simp only [za,EK]
  refine zx 6 fun K z=>?_;have I:wd2.cell? ⟨gt,1,none⟩=some (.slice (some ⟨g7,0,none⟩) 1 1):=E.out.tk.cell (k:=1) rfl;have J:wd2.frozen? ⟨gt,1,none⟩=false:=E.out.tk.frozen 1
  skip
  refine step_append_lies (P:=Tryz.prog) _ (by rfl) _ _ 23 (by rfl) wR.heap.size 3 iI (.int .i64 0) 1 8 Tryz.underlying23 JF.out JZ0.out JZ1.out JZ2.out rfl (by decide) (.slice (some ⟨g7,0,none⟩) 1 1) [x1].length _ (by rfl) (World.ownsRow.alloc E.out.o1 _) ⟨wd2.heap.size,0,none⟩ 1 1 [.int .i64 xq] (by rfl) rfl (cell_one_new _ _ _) (by simp [Value.oneCell']) (by decide) (by unfold maxLen;simp) (by simp) (EP a7.out.size (by simp)) (wd2.heap.size+1) (by simp) ?_;intro gq cq w9 D V hv _;obtain ⟨M,G⟩:=E.out.add1 ⟨a4,a5⟩ D V (by rcases hv with hv | hv;exact .inl hv.symm;exact .inr (congrArg some hv));have b0:w9.cell? ⟨gt,1,none⟩=some (.slice (some ⟨g7,0,none⟩) 1 1):=(Fc (a:=⟨gt,1,none⟩) (V.block gt (by have:=zd E.out.tk;simp;omega) (fun e=>zj E.out.o1 E.out.tk (by decide) e.symm))).trans ((Fc (a:=⟨gt,1,none⟩) (Ff _ _ _ (zd E.out.tk))).trans I);have b1:w9.frozen? ⟨gt,1,none⟩=false:=(Fm (a:=⟨gt,1,none⟩) (V.block gt (by have:=zd E.out.tk;simp;omega) (fun e=>zj E.out.o1 E.out.tk (by decide) e.symm))).trans ((Fm (a:=⟨gt,1,none⟩) (Ff _ _ _ (zd E.out.tk))).trans J);have a0:=zh M;have Z:Hid (zb wR _):=Below.trans a7.out G;clear M G D V hv I J;refine zal z trivial fun zH=>?_;clear z K;try simp only [za,EK]
  refine zx 7 fun K z=>?_;go_simp;refine zal z trivial fun zH=>?_;clear z K;try simp only [za,EK]
  refine zx 8 fun K z=>?_;go_simp;refine zal z trivial fun zH=>?_;clear z K;try simp only [za,EK]
  refine Fs (by kernel_rfl) ?_ _;exact hQ _ _ _ ⟨a0.out,Z.out,by simp⟩ _ _ _ _ _ _ _ _
 refine Fp rfl (fun K z=>?_) .nil;go_simp;go_at_call 68;refine (zW (n:Int) O.out.dr (by omega) (by omega)).mono ?_;rintro e wd7 ⟨xq,rfl,a4,a5,a3,T⟩;have o:=zh (O.out.drawn a3 T);have U:Hid (zb wR wd7):=O.out.drawnExt a6.out T;clear a3 T;go_simp;refine zal z trivial fun zH=>?_;clear z K;try simp only [za,EK]
 refine rdA [1,5] ?_;refine Fp rfl (fun K z=>?_) ?_
 ·have a1:wd7.cell? ⟨gt,1,none⟩=some (.slice (some ⟨g7,0,none⟩) 1 1):=o.out.tk.cell (k:=1) rfl;go_simp;clear a1;refine zal z trivial fun zH=>?_;clear z K;try simp only [za,EK]
  refine zx 5 fun K z=>?_;go_simp;refine zal z trivial fun zH=>?_;clear z K;try simp only [za,EK]
  refine zx 6 fun K z=>?_;have I:wd7.cell? ⟨gt,1,none⟩=some (.slice (some ⟨g7,0,none⟩) 1 1):=o.out.tk.cell (k:=1) rfl;have J:wd7.frozen? ⟨gt,1,none⟩=false:=o.out.tk.frozen 1
  skip
  refine step_append_lies (P:=Tryz.prog) _ (by rfl) _ _ 23 (by rfl) wR.heap.size 3 iI (.int .i64 0) 1 8 Tryz.underlying23 JF.out JZ0.out JZ1.out JZ2.out rfl (by decide) (.slice (some ⟨g7,0,none⟩) 1 1) [x1].length _ (by rfl) (World.ownsRow.alloc o.out.o1 _) ⟨wd7.heap.size,0,none⟩ 1 1 [.int .i64 xq] (by rfl) rfl (cell_one_new _ _ _) (by simp [Value.oneCell']) (by decide) (by unfold maxLen;simp) (by simp) (EP U.out.size (by simp)) (wd7.heap.size+1) (by simp) ?_;intro gq cq w9 D V hv _;obtain ⟨M,G⟩:=o.out.add1 ⟨a4,a5⟩ D V (by rcases hv with hv | hv;exact .inl hv.symm;exact .inr (congrArg some hv));have b0:w9.cell? ⟨gt,1,none⟩=some (.slice (some ⟨g7,0,none⟩) 1 1):=(Fc (a:=⟨gt,1,none⟩) (V.block gt (by have:=zd o.out.tk;simp;omega) (fun e=>zj o.out.o1 o.out.tk (by decide) e.symm))).trans ((Fc (a:=⟨gt,1,none⟩) (Ff _ _ _ (zd o.out.tk))).trans I);have b1:w9.frozen? ⟨gt,1,none⟩=false:=(Fm (a:=⟨gt,1,none⟩) (V.block gt (by have:=zd o.out.tk;simp;omega) (fun e=>zj o.out.o1 o.out.tk (by decide) e.symm))).trans ((Fm (a:=⟨gt,1,none⟩) (Ff _ _ _ (zd o.out.tk))).trans J);have a0:=zh M;have Z:Hid (zb wR _):=Below.trans U.out G;clear M G D V hv I J;refine zal z trivial fun zH=>?_;clear z K;try simp only [za,EK]
  refine zx 7 fun K z=>?_;go_simp;refine zal z trivial fun zH=>?_;clear z K;try simp only [za,EK]
  refine zx 8 fun K z=>?_;go_simp;refine zal z trivial fun zH=>?_;clear z K;try simp only [za,EK]
  refine Fs (by kernel_rfl) ?_ _;exact hQ _ _ _ ⟨a0.out,Z.out,by simp⟩ _ _ _ _ _ _ _ _
 refine Fp rfl (fun K z=>?_) .nil;go_simp;refine zal z trivial fun zH=>?_;clear z K;try simp only [za,EK]
 refine zx 1 fun K z=>?_;have a1:(wd7.alloc (.cells #[.int .i64 xq] 3)).cell? ⟨gt,1,none⟩=some (.slice (some ⟨g7,0,none⟩) 1 1):=(o.out.ext ((zb.refl _).alloc (.cells #[.int .i64 xq] 3))).tk.cell (k:=1) rfl;go_simp;clear a1;refine zal z trivial fun zH=>?_;clear z K;try simp only [za,EK]
 refine zx 6 fun K z=>?_;have I:wd7.cell? ⟨gt,1,none⟩=some (.slice (some ⟨g7,0,none⟩) 1 1):=o.out.tk.cell (k:=1) rfl;have J:wd7.frozen? ⟨gt,1,none⟩=false:=o.out.tk.frozen 1
 skip
 refine step_append_lies (P:=Tryz.prog) _ (by rfl) _ _ 23 (by rfl) wR.heap.size 3 iI (.int .i64 0) 1 8 Tryz.underlying23 JF.out JZ0.out JZ1.out JZ2.out rfl (by decide) (.slice (some ⟨g7,0,none⟩) 1 1) [x1].length _ (by rfl) (World.ownsRow.alloc o.out.o1 _) ⟨wd7.heap.size,0,none⟩ 1 1 [.int .i64 xq] (by rfl) rfl (cell_one_new _ _ _) (by simp [Value.oneCell']) (by decide) (by unfold maxLen;simp) (by simp) (EP U.out.size (by simp)) (wd7.heap.size+1) (by simp) ?_;intro gq cq w9 D V hv _;obtain ⟨M,G⟩:=o.out.add1 ⟨a4,a5⟩ D V (by rcases hv with hv | hv;exact .inl hv.symm;exact .inr (congrArg some hv));have b0:w9.cell? ⟨gt,1,none⟩=some (.slice (some ⟨g7,0,none⟩) 1 1):=(Fc (a:=⟨gt,1,none⟩) (V.block gt (by have:=zd o.out.tk;simp;omega) (fun e=>zj o.out.o1 o.out.tk (by decide) e.symm))).trans ((Fc (a:=⟨gt,1,none⟩) (Ff _ _ _ (zd o.out.tk))).trans I);have b1:w9.frozen? ⟨gt,1,none⟩=false:=(Fm (a:=⟨gt,1,none⟩) (V.block gt (by have:=zd o.out.tk;simp;omega) (fun e=>zj o.out.o1 o.out.tk (by decide) e.symm))).trans ((Fm (a:=⟨gt,1,none⟩) (Ff _ _ _ (zd o.out.tk))).trans J);have a0:=zh M;have Z:Hid (zb wR _):=Below.trans U.out G;clear M G D V hv I J;refine zal z trivial fun zH=>?_;clear z K;try simp only [za,EK]
 refine zx 7 fun K z=>?_;go_simp;refine zal z trivial fun zH=>?_;clear z K;try simp only [za,EK]
 refine zx 8 fun K z=>?_;go_simp;refine zal z trivial fun zH=>?_;clear z K;try simp only [za,EK]
 refine Fs (by kernel_rfl) ?_ _;exact hQ _ _ _ ⟨a0.out,Z.out,by simp⟩ _ _ _ _ _ _ _ _
theorem r20_wp {wq:World} {ge B n:Nat} {l1:List Int} {u1':Value}
  (a9:Hid (R1 B wq wR.heap.size ge gt n s u1' (.slice (some ⟨g11,0,none⟩) 1 1) l1 [x2])) (a8:Hid (zb wR wq)) (b3:2<=n/\n<=16)
  (hP:∀c (a a':Act) w,a.defers=a'.defers->Q (.panic c) a w->Q (.panic c) a' w)
  (hQ:∀(u:Value) (l:List Int) (W:World),Hid (R1 B W wR.heap.size ge gt n s u1' u l1 l/\zb wR W/\l.length<=2)->∀(x100 x101 x102 x103 x104 x105 x106 x107:Value),Q .normal ⟨(u0 :: u1 :: u2 :: u3 :: u4 :: Value.int .i64 (n:Nat) :: u6 :: u7 :: Value.pointer (some ⟨ge,0,none⟩) :: Value.pointer (some ⟨gt,0,none⟩) :: u10 :: u11 :: u12 :: u13 :: u14 :: u15 :: u16 :: u17 :: u18 :: u19 :: u20 :: u21 :: u22 :: u23 :: u24 :: u25 :: u26 :: u27 :: u28 :: u29 :: u30 :: u31 :: u32 :: u33 :: u34 :: u35 :: u36 :: u37 :: u38 :: u39 :: u40 :: u41 :: u42 :: u43 :: u44 :: u45 :: u46 :: u47 :: u48 :: u49 :: u50 :: u51 :: u52 :: u53 :: u54 :: u55 :: u56 :: u57 :: u58 :: u59 :: u60 :: u61 :: u62 :: u63 :: u64 :: u65 :: u66 :: u67 :: u68 :: u69 :: u70 :: u71 :: u72 :: u73 :: u74 :: u75 :: u76 :: u77 :: u78 :: u79 :: u80 :: u81 :: u82 :: u83 :: u84 :: u85 :: u86 :: u87 :: u88 :: u89 :: u90 :: u91 :: u92 :: u93 :: u94 :: u95 :: u96 :: u97 :: u98 :: u99 :: x100 :: x101 :: x102 :: x103 :: x104 :: x105 :: x106 :: x107 :: u108 :: u109 :: u110 :: u111 :: u112 :: u113 :: u114 :: u115 :: u116 :: u117 :: u118 :: u119 :: u120 :: u121 :: u122 :: u123 :: u124 :: u125 :: u126 :: u127 :: u128 :: u129 :: u130 :: u131 :: u132 :: u133 :: u134 :: u135 :: u136 :: u137 :: u138 :: u139 :: u140 :: u141 :: u142 :: u143 :: u144 :: u145 :: u146 :: u147 :: u148 :: u149 :: u150 :: u151 :: u152 :: u153 :: u154 :: u155 :: u156 :: u157 :: u158 :: u159 :: u160 :: u161 :: u162 :: u163 :: u164 :: u165 :: u166 :: u167 :: u168 :: u169 :: u170 :: u171 :: u172 :: u173 :: u174 :: u175 :: u176 :: u177 :: u178 :: u179 :: u180 :: u181 :: u182 :: u183 :: u184 :: u185 :: u186 :: u187 :: u188 :: u189 :: u190 :: u191 :: u192 :: u193 :: u194 :: u195 :: u196 :: u197 :: u198 :: u199 :: u200 :: u201 :: u202 :: u203 :: u204 :: u205 :: u206 :: u207 :: u208 :: u209 :: u210 :: u211 :: u212 :: u213 :: u214 :: u215 :: u216 :: u217 :: u218 :: u219 :: []).toArray,[]⟩ W):
  code20.wp Tryz.prog Q ⟨(u0 :: u1 :: u2 :: u3 :: u4 :: Value.int .i64 (n:Nat) :: u6 :: u7 :: Value.pointer (some ⟨ge,0,none⟩) :: Value.pointer (some ⟨gt,0,none⟩) :: u10 :: u11 :: u12 :: u13 :: u14 :: u15 :: u16 :: u17 :: u18 :: u19 :: u20 :: u21 :: u22 :: u23 :: u24 :: u25 :: u26 :: u27 :: u28 :: u29 :: u30 :: u31 :: u32 :: u33 :: u34 :: u35 :: u36 :: u37 :: u38 :: u39 :: u40 :: u41 :: u42 :: u43 :: u44 :: u45 :: u46 :: u47 :: u48 :: u49 :: u50 :: u51 :: u52 :: u53 :: u54 :: u55 :: u56 :: u57 :: u58 :: u59 :: u60 :: u61 :: u62 :: u63 :: u64 :: u65 :: u66 :: u67 :: u68 :: u69 :: u70 :: u71 :: u72 :: u73 :: u74 :: u75 :: u76 :: u77 :: u78 :: u79 :: u80 :: u81 :: u82 :: u83 :: u84 :: u85 :: u86 :: u87 :: u88 :: u89 :: u90 :: u91 :: u92 :: u93 :: u94 :: u95 :: u96 :: u97 :: u98 :: u99 :: u100 :: u101 :: u102 :: u103 :: u104 :: u105 :: u106 :: u107 :: u108 :: u109 :: u110 :: u111 :: u112 :: u113 :: u114 :: u115 :: u116 :: u117 :: u118 :: u119 :: u120 :: u121 :: u122 :: u123 :: u124 :: u125 :: u126 :: u127 :: u128 :: u129 :: u130 :: u131 :: u132 :: u133 :: u134 :: u135 :: u136 :: u137 :: u138 :: u139 :: u140 :: u141 :: u142 :: u143 :: u144 :: u145 :: u146 :: u147 :: u148 :: u149 :: u150 :: u151 :: u152 :: u153 :: u154 :: u155 :: u156 :: u157 :: u158 :: u159 :: u160 :: u161 :: u162 :: u163 :: u164 :: u165 :: u166 :: u167 :: u168 :: u169 :: u170 :: u171 :: u172 :: u173 :: u174 :: u175 :: u176 :: u177 :: u178 :: u179 :: u180 :: u181 :: u182 :: u183 :: u184 :: u185 :: u186 :: u187 :: u188 :: u189 :: u190 :: u191 :: u192 :: u193 :: u194 :: u195 :: u196 :: u197 :: u198 :: u199 :: u200 :: u201 :: u202 :: u203 :: u204 :: u205 :: u206 :: u207 :: u208 :: u209 :: u210 :: u211 :: u212 :: u213 :: u214 :: u215 :: u216 :: u217 :: u218 :: u219 :: []).toArray,[]⟩ wq:=by
 obtain ⟨iI,ji,jz0,jz1,jz2⟩:=info_parts Tryz.infoInt;have JF:=zh ji;have JZ0:=zh jz0;have JZ1:=zh jz1;have JZ2:=zh jz2;clear ji jz0 jz1 jz2
 conv=>arg 2;whnf
 refine Fd (S:=fun _=>True) zU trivial fun zH=>?_;have O:=zh (a9.out.ext ((zb.refl wq).drew));have a6:Hid (zb wR wq.drew):=a8.out.drew;refine ze 0 zH ?_ (hQ:=fun _ _ _ h=>hP _ _ _ _ (by rfl) h);simp only [za,EK];refine ze 2 zH ?_ (hQ:=fun _ _ _ h=>hP _ _ _ _ (by rfl) h);simp only [za,EK];refine ze 3 zH ?_ (hQ:=fun _ _ _ h=>hP _ _ _ _ (by rfl) h);simp only [za,EK];refine rdA [1,4] ?_;refine Fp rfl (fun K z=>?_) ?_
 ·have a1:wq.drew.cell? ⟨gt,2,none⟩=some (.slice (some ⟨g11,0,none⟩) 1 1):=O.out.tk.cell (k:=2) rfl;go_simp;clear a1;refine zal z trivial fun zH=>?_;clear z K;try simp only [za,EK]
  refine zx 4 fun K z=>?_;go_simp;go_at_call 68;refine (zW (n:Int) O.out.dr (by omega) (by omega)).mono ?_;rintro e wd2 ⟨xq,rfl,a4,a5,a3,T⟩;have E:=zh (O.out.drawn a3 T);have a7:Hid (zb wR wd2):=O.out.drawnExt a6.out T;clear a3 T;go_simp;refine zal z trivial fun zH=>?_;clear z K;try simp only [za,EK]
  refine zx 5 fun K z=>?_;go_simp;refine zal z trivial fun zH=>?_;clear z K;try simp only [za,EK]
  refine zx 6 fun K z=>?_;have I:wd2.cell? ⟨gt,2,none⟩=some (.slice (some ⟨g11,0,none⟩) 1 1):=E.out.tk.cell (k:=2) rfl;have J:wd2.frozen? ⟨gt,2,none⟩=false:=E.out.tk.frozen 2
  skip
  refine step_append_lies (P:=Tryz.prog) _ (by rfl) _ _ 23 (by rfl) wR.heap.size 3 iI (.int .i64 0) 1 8 Tryz.underlying23 JF.out JZ0.out JZ1.out JZ2.out rfl (by decide) (.slice (some ⟨g11,0,none⟩) 1 1) [x2].length _ (by rfl) (World.ownsRow.alloc E.out.o2 _) ⟨wd2.heap.size,0,none⟩ 1 1 [.int .i64 xq] (by rfl) rfl (cell_one_new _ _ _) (by simp [Value.oneCell']) (by decide) (by unfold maxLen;simp) (by simp) (EP a7.out.size (by simp)) (wd2.heap.size+1) (by simp) ?_;intro gq cq w9 D V hv _;obtain ⟨M,G⟩:=E.out.add2 ⟨a4,a5⟩ D V (by rcases hv with hv | hv;exact .inl hv.symm;exact .inr (congrArg some hv));have b0:w9.cell? ⟨gt,2,none⟩=some (.slice (some ⟨g11,0,none⟩) 1 1):=(Fc (a:=⟨gt,2,none⟩) (V.block gt (by have:=zd E.out.tk;simp;omega) (fun e=>zj E.out.o2 E.out.tk (by decide) e.symm))).trans ((Fc (a:=⟨gt,2,none⟩) (Ff _ _ _ (zd E.out.tk))).trans I);have b1:w9.frozen? ⟨gt,2,none⟩=false:=(Fm (a:=⟨gt,2,none⟩) (V.block gt (by have:=zd E.out.tk;simp;omega) (fun e=>zj E.out.o2 E.out.tk (by decide) e.symm))).trans ((Fm (a:=⟨gt,2,none⟩) (Ff _ _ _ (zd E.out.tk))).trans J);have a0:=zh M;have Z:Hid (zb wR _):=Below.trans a7.out G;clear M G D V hv I J;refine zal z trivial fun zH=>?_;clear z K;try simp only [za,EK]
  refine zx 7 fun K z=>?_;go_simp;refine zal z trivial fun zH=>?_;clear z K;try simp only [za,EK]
  refine zx 8 fun K z=>?_;go_simp;refine zal z trivial fun zH=>?_;clear z K;try simp only [za,EK]
  refine Fs (by kernel_rfl) ?_ _;exact hQ _ _ _ ⟨a0.out,Z.out,by simp⟩ _ _ _ _ _ _ _ _
 refine Fp rfl (fun K z=>?_) .nil;go_simp;go_at_call 68;refine (zW (n:Int) O.out.dr (by omega) (by omega)).mono ?_;rintro e wd7 ⟨xq,rfl,a4,a5,a3,T⟩;have o:=zh (O.out.drawn a3 T);have U:Hid (zb wR wd7):=O.out.drawnExt a6.out T;clear a3 T;go_simp;refine zal z trivial fun zH=>?_;clear z K;try simp only [za,EK]
 refine rdA [1,5] ?_;refine Fp rfl (fun K z=>?_) ?_
 ·have a1:wd7.cell? ⟨gt,2,none⟩=some (.slice (some ⟨g11,0,none⟩) 1 1):=o.out.tk.cell (k:=2) rfl;go_simp;clear a1;refine zal z trivial fun zH=>?_;clear z K;try simp only [za,EK]
  refine zx 5 fun K z=>?_;go_simp;refine zal z trivial fun zH=>?_;clear z K;try simp only [za,EK]
  refine zx 6 fun K z=>?_;have I:wd7.cell? ⟨gt,2,none⟩=some (.slice (some ⟨g11,0,none⟩) 1 1):=o.out.tk.cell (k:=2) rfl;have J:wd7.frozen? ⟨gt,2,none⟩=false:=o.out.tk.frozen 2
  skip
  refine step_append_lies (P:=Tryz.prog) _ (by rfl) _ _ 23 (by rfl) wR.heap.size 3 iI (.int .i64 0) 1 8 Tryz.underlying23 JF.out JZ0.out JZ1.out JZ2.out rfl (by decide) (.slice (some ⟨g11,0,none⟩) 1 1) [x2].length _ (by rfl) (World.ownsRow.alloc o.out.o2 _) ⟨wd7.heap.size,0,none⟩ 1 1 [.int .i64 xq] (by rfl) rfl (cell_one_new _ _ _) (by simp [Value.oneCell']) (by decide) (by unfold maxLen;simp) (by simp) (EP U.out.size (by simp)) (wd7.heap.size+1) (by simp) ?_;intro gq cq w9 D V hv _;obtain ⟨M,G⟩:=o.out.add2 ⟨a4,a5⟩ D V (by rcases hv with hv | hv;exact .inl hv.symm;exact .inr (congrArg some hv));have b0:w9.cell? ⟨gt,2,none⟩=some (.slice (some ⟨g11,0,none⟩) 1 1):=(Fc (a:=⟨gt,2,none⟩) (V.block gt (by have:=zd o.out.tk;simp;omega) (fun e=>zj o.out.o2 o.out.tk (by decide) e.symm))).trans ((Fc (a:=⟨gt,2,none⟩) (Ff _ _ _ (zd o.out.tk))).trans I);have b1:w9.frozen? ⟨gt,2,none⟩=false:=(Fm (a:=⟨gt,2,none⟩) (V.block gt (by have:=zd o.out.tk;simp;omega) (fun e=>zj o.out.o2 o.out.tk (by decide) e.symm))).trans ((Fm (a:=⟨gt,2,none⟩) (Ff _ _ _ (zd o.out.tk))).trans J);have a0:=zh M;have Z:Hid (zb wR _):=Below.trans U.out G;clear M G D V hv I J;refine zal z trivial fun zH=>?_;clear z K;try simp only [za,EK]
  refine zx 7 fun K z=>?_;go_simp;refine zal z trivial fun zH=>?_;clear z K;try simp only [za,EK]
  refine zx 8 fun K z=>?_;go_simp;refine zal z trivial fun zH=>?_;clear z K;try simp only [za,EK]
  refine Fs (by kernel_rfl) ?_ _;exact hQ _ _ _ ⟨a0.out,Z.out,by simp⟩ _ _ _ _ _ _ _ _
 refine Fp rfl (fun K z=>?_) .nil;go_simp;refine zal z trivial fun zH=>?_;clear z K;try simp only [za,EK]
 refine zx 1 fun K z=>?_;have a1:(wd7.alloc (.cells #[.int .i64 xq] 3)).cell? ⟨gt,2,none⟩=some (.slice (some ⟨g11,0,none⟩) 1 1):=(o.out.ext ((zb.refl _).alloc (.cells #[.int .i64 xq] 3))).tk.cell (k:=2) rfl;go_simp;clear a1;refine zal z trivial fun zH=>?_;clear z K;try simp only [za,EK]
 refine zx 6 fun K z=>?_;have I:wd7.cell? ⟨gt,2,none⟩=some (.slice (some ⟨g11,0,none⟩) 1 1):=o.out.tk.cell (k:=2) rfl;have J:wd7.frozen? ⟨gt,2,none⟩=false:=o.out.tk.frozen 2
 skip
 refine step_append_lies (P:=Tryz.prog) _ (by rfl) _ _ 23 (by rfl) wR.heap.size 3 iI (.int .i64 0) 1 8 Tryz.underlying23 JF.out JZ0.out JZ1.out JZ2.out rfl (by decide) (.slice (some ⟨g11,0,none⟩) 1 1) [x2].length _ (by rfl) (World.ownsRow.alloc o.out.o2 _) ⟨wd7.heap.size,0,none⟩ 1 1 [.int .i64 xq] (by rfl) rfl (cell_one_new _ _ _) (by simp [Value.oneCell']) (by decide) (by unfold maxLen;simp) (by simp) (EP U.out.size (by simp)) (wd7.heap.size+1) (by simp) ?_;intro gq cq w9 D V hv _;obtain ⟨M,G⟩:=o.out.add2 ⟨a4,a5⟩ D V (by rcases hv with hv | hv;exact .inl hv.symm;exact .inr (congrArg some hv));have b0:w9.cell? ⟨gt,2,none⟩=some (.slice (some ⟨g11,0,none⟩) 1 1):=(Fc (a:=⟨gt,2,none⟩) (V.block gt (by have:=zd o.out.tk;simp;omega) (fun e=>zj o.out.o2 o.out.tk (by decide) e.symm))).trans ((Fc (a:=⟨gt,2,none⟩) (Ff _ _ _ (zd o.out.tk))).trans I);have b1:w9.frozen? ⟨gt,2,none⟩=false:=(Fm (a:=⟨gt,2,none⟩) (V.block gt (by have:=zd o.out.tk;simp;omega) (fun e=>zj o.out.o2 o.out.tk (by decide) e.symm))).trans ((Fm (a:=⟨gt,2,none⟩) (Ff _ _ _ (zd o.out.tk))).trans J);have a0:=zh M;have Z:Hid (zb wR _):=Below.trans U.out G;clear M G D V hv I J;refine zal z trivial fun zH=>?_;clear z K;try simp only [za,EK]
 refine zx 7 fun K z=>?_;go_simp;refine zal z trivial fun zH=>?_;clear z K;try simp only [za,EK]
 refine zx 8 fun K z=>?_;go_simp;refine zal z trivial fun zH=>?_;clear z K;try simp only [za,EK]
 refine Fs (by kernel_rfl) ?_ _;exact hQ _ _ _ ⟨a0.out,Z.out,by simp⟩ _ _ _ _ _ _ _ _
def startsReg (n:Nat):Code->Bool
 | .region id _ _=>decide (id=n)
 | .seq a _=>startsReg n a
 | .block _ c=>startsReg n c
 | _=>false
def Dy (n:Nat):Code->Option Code
 | .loop c=>if startsReg n c=true then some (.loop c) else Dy n c
 | .seq a b=>match Dy n a with
  | some c=>some c
  | none=>Dy n b
 | .cond _ a b=>match Dy n a with
  | some c=>some c
  | none=>Dy n b
 | .block _ c=>Dy n c
 | _=>none
noncomputable def code12:Code:=(Tryz.f31.body.bind (Dy 29)).getD .skip
theorem loop12_wp {w1 wr0:World} {B gm gd n t:Nat} {W H L:Int} {fs ts:List Value}
  (HB:Hid (B=w1.heap.size)) (e9:B<=gT) (e8:B<=gF) (HcT:Hid (t<=cT)) (HcF:Hid (t<=cF)) (f5:2<=n/\n<=16) (f4:1<=t/\t<=3)
  (hA0:Hid (MS B wr0 wr0.heap.size gm gd W H L n t t (.slice (some ⟨gF,0,none⟩) t cF) (.slice none 0 0) (.slice (some ⟨gT,0,none⟩) t cT) fs ts/\zb w1 wr0))
  (hP:∀c (a a':Act) w,a.defers=a'.defers->Q (.panic c) a w->Q (.panic c) a' w)
  (G:∀(w2:World),Hid (MS B w2 w2.heap.size gm gd W H L n t t (.slice (some ⟨gF,0,none⟩) t cF) (.slice none 0 0) (.slice (some ⟨gT,0,none⟩) t cT) fs ts/\zb w1 w2)->∀(x13 x14 x143 x144 x145 x146 x147 x148 x149 x150 x151 x152 x153 x154 x155 x156 x157 x158 x159 x160 x161 x162 x163 x164 x165 x166 x167 x168 x169 x170 x171 x172 x173 x174 x175 x176 x177 x178 x179 x180 x181 x182 x183 x184 x185 x186 x187 x188 x189 x190 x191 x192 x193 x194 x195 x196 x197 x198 x199 x200 x201 x202 x203 x204 x205:Value),Q (.exit 4) ⟨(u0 :: u1 :: u2 :: u3 :: Value.pointer (some ⟨gm,0,none⟩) :: Value.int .i64 (n:Nat) :: Value.int .i64 (t:Nat) :: u7 :: u8 :: u9 :: u10 :: u11 :: Value.int .i64 (t:Nat) :: x13 :: x14 :: u15 :: u16 :: u17 :: u18 :: u19 :: u20 :: u21 :: u22 :: u23 :: u24 :: u25 :: u26 :: u27 :: u28 :: u29 :: u30 :: u31 :: u32 :: u33 :: u34 :: u35 :: u36 :: u37 :: u38 :: u39 :: u40 :: u41 :: u42 :: u43 :: u44 :: u45 :: u46 :: u47 :: u48 :: u49 :: u50 :: u51 :: u52 :: u53 :: u54 :: u55 :: u56 :: u57 :: u58 :: u59 :: u60 :: u61 :: u62 :: u63 :: u64 :: u65 :: u66 :: u67 :: u68 :: u69 :: u70 :: u71 :: u72 :: u73 :: u74 :: u75 :: u76 :: u77 :: u78 :: u79 :: u80 :: u81 :: u82 :: u83 :: u84 :: u85 :: u86 :: u87 :: u88 :: u89 :: u90 :: u91 :: u92 :: u93 :: u94 :: u95 :: u96 :: u97 :: u98 :: u99 :: u100 :: u101 :: u102 :: u103 :: u104 :: u105 :: u106 :: u107 :: u108 :: u109 :: u110 :: u111 :: u112 :: u113 :: u114 :: u115 :: u116 :: u117 :: u118 :: u119 :: u120 :: u121 :: u122 :: u123 :: u124 :: u125 :: u126 :: u127 :: u128 :: u129 :: u130 :: u131 :: u132 :: u133 :: u134 :: u135 :: u136 :: u137 :: u138 :: u139 :: u140 :: u141 :: u142 :: x143 :: x144 :: x145 :: x146 :: x147 :: x148 :: x149 :: x150 :: x151 :: x152 :: x153 :: x154 :: x155 :: x156 :: x157 :: x158 :: x159 :: x160 :: x161 :: x162 :: x163 :: x164 :: x165 :: x166 :: x167 :: x168 :: x169 :: x170 :: x171 :: x172 :: x173 :: x174 :: x175 :: x176 :: x177 :: x178 :: x179 :: x180 :: x181 :: x182 :: x183 :: x184 :: x185 :: x186 :: x187 :: x188 :: x189 :: x190 :: x191 :: x192 :: x193 :: x194 :: x195 :: x196 :: x197 :: x198 :: x199 :: x200 :: x201 :: x202 :: x203 :: x204 :: x205 :: u206 :: u207 :: u208 :: u209 :: u210 :: u211 :: u212 :: u213 :: u214 :: u215 :: u216 :: u217 :: u218 :: u219 :: []).toArray,[]⟩ w2):
  code12.wp Tryz.prog Q ⟨(u0 :: u1 :: u2 :: u3 :: Value.pointer (some ⟨gm,0,none⟩) :: Value.int .i64 (n:Nat) :: Value.int .i64 (t:Nat) :: u7 :: u8 :: u9 :: u10 :: u11 :: Value.int .i64 0 :: u13 :: u14 :: u15 :: u16 :: u17 :: u18 :: u19 :: u20 :: u21 :: u22 :: u23 :: u24 :: u25 :: u26 :: u27 :: u28 :: u29 :: u30 :: u31 :: u32 :: u33 :: u34 :: u35 :: u36 :: u37 :: u38 :: u39 :: u40 :: u41 :: u42 :: u43 :: u44 :: u45 :: u46 :: u47 :: u48 :: u49 :: u50 :: u51 :: u52 :: u53 :: u54 :: u55 :: u56 :: u57 :: u58 :: u59 :: u60 :: u61 :: u62 :: u63 :: u64 :: u65 :: u66 :: u67 :: u68 :: u69 :: u70 :: u71 :: u72 :: u73 :: u74 :: u75 :: u76 :: u77 :: u78 :: u79 :: u80 :: u81 :: u82 :: u83 :: u84 :: u85 :: u86 :: u87 :: u88 :: u89 :: u90 :: u91 :: u92 :: u93 :: u94 :: u95 :: u96 :: u97 :: u98 :: u99 :: u100 :: u101 :: u102 :: u103 :: u104 :: u105 :: u106 :: u107 :: u108 :: u109 :: u110 :: u111 :: u112 :: u113 :: u114 :: u115 :: u116 :: u117 :: u118 :: u119 :: u120 :: u121 :: u122 :: u123 :: u124 :: u125 :: u126 :: u127 :: u128 :: u129 :: u130 :: u131 :: u132 :: u133 :: u134 :: u135 :: u136 :: u137 :: u138 :: u139 :: u140 :: u141 :: u142 :: u143 :: u144 :: u145 :: u146 :: u147 :: u148 :: u149 :: u150 :: u151 :: u152 :: u153 :: u154 :: u155 :: u156 :: u157 :: u158 :: u159 :: u160 :: u161 :: u162 :: u163 :: u164 :: u165 :: u166 :: u167 :: u168 :: u169 :: u170 :: u171 :: u172 :: u173 :: u174 :: u175 :: u176 :: u177 :: u178 :: u179 :: u180 :: u181 :: u182 :: u183 :: u184 :: u185 :: u186 :: u187 :: u188 :: u189 :: u190 :: u191 :: u192 :: u193 :: u194 :: u195 :: u196 :: u197 :: u198 :: u199 :: u200 :: u201 :: u202 :: u203 :: u204 :: u205 :: u206 :: u207 :: u208 :: u209 :: u210 :: u211 :: u212 :: u213 :: u214 :: u215 :: u216 :: u217 :: u218 :: u219 :: []).toArray,[]⟩ wr0:=by
 have a4:=zh hA0.out.1;have a5:=zh hA0.out.2;clear hA0;have M:=zh G;clear G
 conv=>arg 2;whnf
 go_loopg [12] t (fun gk v wr=>∃(a:Nat),v=.int .i64 a/\a<=t/\gk=t - a/\Hid (MS B wr wr.heap.size gm gd W H L n t t (.slice (some ⟨gF,0,none⟩) t cF) (.slice none 0 0) (.slice (some ⟨gT,0,none⟩) t cT) fs ts/\zb w1 wr))
 case atStart=>exact ⟨0,rfl,Fb _,rfl,a4.out,a5.out⟩
 clear a4 a5
 case round=>
  obtain ⟨a,rfl,ha,rfl,hA⟩:=hrel;obtain ⟨wA,rfl⟩:∃wA:World,wA=wr:=⟨_,rfl⟩;rcases Fk a t with D | hage
  ·skip
   go_wp2_with fail
   go_loopg [13] t (fun gk v wr=>∃(b:Nat),v=.int .i64 b/\b<=t/\gk=t - b/\Hid (MS B wr wr.heap.size gm gd W H L n t t (.slice (some ⟨gF,0,none⟩) t cF) (.slice none 0 0) (.slice (some ⟨gT,0,none⟩) t cT) fs ts/\zb w1 wr))
   case atStart=>exact ⟨0,rfl,Fb _,rfl,hA.out⟩
   clear hA
   case round=>
    obtain ⟨b,rfl,hb,rfl,hA⟩:=hrel;obtain ⟨wB,rfl⟩:∃wB:World,wB=wr:=⟨_,rfl⟩;rcases Fk b t with E | hbge
    ·go_wp2_with fail
     go_loopg [14] n (fun gk v wr=>∃(k:Nat),v=.int .i64 k/\k<=n/\gk=n - k/\Hid (MS B wr wr.heap.size gm gd W H L n t t (.slice (some ⟨gF,0,none⟩) t cF) (.slice none 0 0) (.slice (some ⟨gT,0,none⟩) t cT) fs ts/\zb w1 wr))
     case atStart=>exact ⟨0,rfl,Fb _,rfl,hA.out⟩
     clear hA
     case round=>
      obtain ⟨k,rfl,hk,rfl,hA⟩:=hrel;by_cases U:k<n/\b≠a
      ·obtain ⟨V,o⟩:=U;have I:decide (k<n)=true:=EQ V;have e5:decide ((k:Int)<(n:Int))=true:=EQ (by omega);have a6:((b:Int)==(a:Int))=false:=by rw [Fa];omega
       have a7:((b:Int) != (a:Int))=true:=by rw [bne_iff_ne];omega
       have c9:(b==a)=false:=by rw [Fa];exact o
       have d4:(b != a)=true:=by rw [bne_iff_ne];exact o
       have d5:decide (b=a)=false:=ER o;have d9:=HcT.out;have d8:=HcF.out;have f3:(0:Int)<=(b:Int)/\(b:Int)<(t:Int):=by omega
       have c7:(0:Int)<=(a:Int)/\(a:Int)<(t:Int):=by omega
       have e4:(0:Int)<=(k:Int)/\(k:Int)<(n:Int):=by omega
       have hm:=hA.out.1;have m5:wr.cell? ⟨gm,5,none⟩=some (.slice (some ⟨gT,0,none⟩) t cT):=hm.mz.cell (k:=5) rfl;have m3:wr.cell? ⟨gm,3,none⟩=some (.slice (some ⟨gF,0,none⟩) t cF):=hm.mz.cell (k:=3) rfl;obtain ⟨sb,u1,u2,e0,e1,e2,l1,l2,o1,o2,-,⟨k1,k2⟩,-,-⟩:=hm.td b E;obtain ⟨sa,v1,v2,d0,d1,d2,p1,p2,q1,q2,-,⟨j1,j2⟩,-,-⟩:=hm.td a D;obtain ⟨uf,b0,lf,z,b5,-⟩:=hm.fd a D;have b9:0<lf.length:=by omega
       obtain ⟨gb,cb,rfl,b7,-⟩:=World.ownsRow.form z b9;have T1:wr.cell? ⟨gT,b*3+1,none⟩=some u1:=(hm.T.cellAt (b*3+1) (by omega)).trans e1;have T2:wr.cell? ⟨gT,b*3+2,none⟩=some u2:=(hm.T.cellAt (b*3+2) (by omega)).trans e2;have A1:wr.cell? ⟨gT,a*3+1,none⟩=some v1:=(hm.T.cellAt (a*3+1) (by omega)).trans d1;have A2:wr.cell? ⟨gT,a*3+2,none⟩=some v2:=(hm.T.cellAt (a*3+2) (by omega)).trans d2;have F1:wr.cell? ⟨gF,a,none⟩=some (.slice (some ⟨gb,0,none⟩) lf.length cb):=(hm.F.cellAt a (by omega)).trans b0;have e3:=BG z;have b6:∀j,wr.frozen? ⟨gb,j,none⟩=false:=fun j=>World.ownsRow.frozenAt z j
       have J:∃bo,wr.cell? ⟨gb,k,none⟩=some (.bool bo):=by
        have h1:=World.ownsRow.cellAt z k (by omega);rw [Fx,EL (by omega)] at h1;exact ⟨_,h1⟩
       obtain ⟨bo,J⟩:=J;have a1:Hid (∃cs,zg wr gb 4 cs):=DU z;have f1:=zh b5;have b8:(k:Int)<(lf.length:Int):=by omega
       obtain ⟨b1,B1⟩:=hasB (k:Int) o1 (by omega);obtain ⟨b2,B2⟩:=hasB (k:Int) o2 (by omega);obtain ⟨b3,B3⟩:=hasB (k:Int) q1 (by omega);obtain ⟨b4,B4⟩:=hasB (k:Int) q2 (by omega);have Z:=zh B1;have a0:=zh B2;have c0:=zh B3;have c4:=zh B4;clear B1 B2 B3 B4 e0 e1 e2 o1 o2 d0 d1 d2 q1 q2 b0 z b5 hm o;go_upto_region 37 with fail;go_cut [180] from 163 to 180 (fun s wx=>(∃bb,s=.bool bb)/\wr=wx)
       case first=>
        go_wp2_with fail
        refine (Z.out wr (zb.refl _)).mono ?_;rintro e w' ⟨rfl,rfl⟩
        cases b1 with
        | true=>
         go_wp2_with fail
         go_meet;exact ⟨⟨_,rfl⟩,rfl⟩
        | false=>
         go_wp2_with fail
         refine (a0.out wr (zb.refl _)).mono ?_;rintro e w' ⟨rfl,rfl⟩
         go_wp2_with fail
         go_meet;exact ⟨⟨_,rfl⟩,rfl⟩
       case rest=>
        obtain ⟨⟨bb,rfl⟩,rfl⟩:=hcut
        cases bb with
        | true=>
         clear I e5 a6 a7 c9 d4 d5 T1 T2 b9 d9
         go_wp2_with fail
         have a3:Hid (∀x,MS B ((wr.drew).setCell ⟨gb,k,none⟩ (.bool x)) ((wr.drew).setCell ⟨gb,k,none⟩ (.bool x)).heap.size gm gd W H L n t t (.slice (some ⟨gF,0,none⟩) t cF) (.slice none 0 0) (.slice (some ⟨gT,0,none⟩) t cT) fs ts/\zb w1 ((wr.drew).setCell ⟨gb,k,none⟩ (.bool x))):=fun x=>hA.out.1.stored (k:=k) hA.out.2 HB.out a1.out b7 x
         obtain ⟨csT,O⟩:=DU hA.out.1.T;obtain ⟨csF,a9⟩:=DU hA.out.1.F;obtain ⟨csB,a8⟩:=a1.out;have r5:=SB.rule hA.out.1.mz (by decide) m5;have r3:=SB.rule hA.out.1.mz (by decide) m3;have ra1:=SB.rule O (by decide) A1;have ra2:=SB.rule O (by decide) A2;have rf1:=SB.rule a9 (by decide) F1;have c6:Hid (∀W x,SB wr W->SB wr (W.setCell ⟨gb,k,none⟩ x)):=fun W x h=>h.set a8 x
         clear Z a0 m5 m3 A1 A2 F1 O a9 a8;refine r38_wp (n:=n) c7 e4 d8 e3 b8 r5 r3 ra1 ra2 rf1 J b6 c0 c4 c6 (fun c a a' W he h=>hP c a a' W he h) fun b' x181 x182 x183 x184 x185 x186 x187 x188 x189 x190 x191 x192 x193 x194 x195 x196 x197 x198 x199 x200 x201 x202 x203 x204 x205=>?_;have c5:=zh (a3.out b');clear J b6 a3 r5 r3 ra1 ra2 rf1
         go_wp2_with fail
         go_roundg (n - (k+1))
         case measure=>omega
         case rel=>exact ⟨k+1,by go_num,V,rfl,c5.out⟩
        | false=>
         go_wp2_with fail
         go_roundg (n - (k+1))
         case measure=>omega
         case rel=>exact ⟨k+1,by go_num,V,rfl,hA.out⟩
      ·have e7:decide (k<n)=false\/(decide (k<n)=true/\b=a):=by
        by_cases h1:k<n
        ·exact .inr ⟨EQ h1,by by_cases h2:b=a;exact h2;exact absurd ⟨h1,h2⟩ U⟩
        ·exact .inl (ER h1)
       clear U;rcases e7 with I | ⟨I,o⟩
       ·have e6:¬ k<n:=of_decide_eq_false I
        go_wp2_with fail
        go_roundg (t - (b+1))
        case measure=>omega
        case rel=>exact ⟨b+1,by go_num,E,rfl,hA.out⟩
       ·subst o;have e6:k<n:=zah I;have a6:((b:Int)==(b:Int))=true:=by simp
        have a7:((b:Int) != (b:Int))=false:=by simp
        go_wp2_with fail
        go_roundg (t - (b+1))
        case measure=>omega
        case rel=>exact ⟨b+1,by go_num,E,rfl,hA.out⟩
    ·have d7:b=t:=by omega
     subst d7;have d6:decide (b<b)=false:=ER (by omega);clear hbge
     go_wp2_with fail
     go_roundg (b - (a+1))
     case measure=>omega
     case rel=>exact ⟨a+1,by go_num,D,rfl,hA.out⟩
  ·have c8:a=t:=by omega
   subst c8;have d6:decide (a<a)=false:=ER (by omega);clear hage
   go_wp2_with fail
   exact M.out wA hA _ _ _ _ _ _ _ _ _ _ _ _ _ _ _ _ _ _ _ _ _ _ _ _ _ _ _ _ _ _ _ _ _ _ _ _ _ _ _ _ _ _ _ _ _ _ _ _ _ _ _ _ _ _ _ _ _ _ _ _ _ _ _ _ _
def exFree:List Bool:=[true,true,true,true,false,true,true,true,true]
theorem DZ:∀(os:List Obj) (w:World),zb w (os.foldl World.alloc w)
 | [],w=>zb.refl w
 | o :: os,w=>((zb.refl w).alloc o).trans (DZ os (w.alloc o))
theorem allocs_at:∀(os:List Obj) (w:World) (i:Nat) (o:Obj),os[i]?=some o->(os.foldl World.alloc w).heap[w.heap.size+i]?=some o
 | o :: os,w,0,o',h=>by
  have:o=o':=by simpa using h
  subst this;exact ((DZ os (w.alloc o)).block _ (by simp)).trans (FB w o)
 | o :: os,w,i+1,o',h=>by
  have:=allocs_at os (w.alloc o) i o' (by simpa using h);rw [show w.heap.size+(i+1)=(w.alloc o).heap.size+i from by simp;omega];exact this
end
end Go.Proofs.YthbjngbhbbkkgaaGreat
