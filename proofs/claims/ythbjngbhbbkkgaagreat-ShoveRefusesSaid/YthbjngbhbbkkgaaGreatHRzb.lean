import Derived.Test.YthbjngbhbbkkgaaGreatHRza
set_option linter.unusedVariables false
set_option linter.unusedSimpArgs false
set_option maxRecDepth 100000
set_option maxHeartbeats 16000000
namespace Go.Proofs.YthbjngbhbbkkgaaGreat
section
open Go.RowKit
attribute [local go_sem ↓] Go.wp_at_zero Go.wp_at_succ
theorem kmade_calls {okm okl:Nat->Prop} {vm vl o0 o1 o2:Value} {ls:List (List Int)} {l:List Int} {tk:Nat} (w:World) (hm:zv w okm vm ls) (d9:ls.length<=9223372036854775807) (e0:∀x∈ls,x.length<=9223372036854775807) (hl:zj w okl vl l) (d8:l.length<=9223372036854775807) (f0:tk<256):
  Calls Tryz.prog 9 #[.agg #[vm,vl,o0,o1,o2,.int .u8 tk]] w fun e w'=>∃vz vp z ps t,e=.returned (.tuple #[vz,vp,.int .i64 (t:Nat)])/\zb w w'/\zw w' (fun b=>w.heap.size<=b) vz z/\MadeM z/\zv w' (fun b=>w.heap.size<=b) vp ps/\By z ps=true/\t<z.tasks.length/\ps.getD t []=[]:=by
 have HM:=zh hm;have HL:=zh hl
 go_enter Tryz.func9,Tryz.ntmps9
 go_upto_region 1 with fail;obtain ⟨W2,a0⟩:=zad ((w.alloc (.cells #[vm,vl,o0,o1,o2,.int .u8 tk] 26)).alloc (.cells #[.int .i64 0,.int .i64 0,.int .i64 0,.slice none 0 0,.slice none 0 0,.slice none 0 0] 32));rw [<-a0];have b5:zb w W2:=by rw [a0];exact DO [_,_] w
 have U:∀(i:Nat) o,[Obj.cells #[vm,vl,o0,o1,o2,.int .u8 tk] 26,Obj.cells #[.int .i64 0,.int .i64 0,.int .i64 0,.slice none 0 0,.slice none 0 0,.slice none 0 0] 32][i]?=some o->W2.heap[w.heap.size+i]?=some o:=fun i o h=>by rw [a0];exact allocs_at _ w i o h
 clear a0;obtain ⟨gc,b7⟩:=zad w.heap.size;rw [<-b7] at U⊢;have bc:zk W2 gc 26 _:=U 0 _ rfl;have L:Hid (zk W2 (gc+1) 32 _):=U 1 _ rfl;have k0:=zb.rule (bc.cell (k:=0) rfl);have k1:=zb.rule (bc.cell (k:=1) rfl);have k5:=zb.rule (bc.cell (k:=5) rfl);obtain ⟨gz,a5⟩:=zad (gc+1);rw [<-a5] at L⊢;have a2:Hid (gz=w.heap.size+1):=by (show _=_);omega
 have b3:=zh b5;have hx:zb W2 W2:=zb.refl W2;obtain ⟨_,⟨Am,cm,rfl,-,-⟩,-⟩:=id hm;obtain ⟨Al,cl,rfl,-,-⟩:=id hl;have c4:Hid (gz=gc+1):=a5;clear b7 U bc b5 a5
 go_wp2_with fail
 refine (made_calls W2 (HM.out.below b3.out) d9 e0).mono ?_;rintro e w3 a7;obtain ⟨v',z,rfl,V,a8,a6⟩:=a7;obtain ⟨Bf,df,Bu,du,Bt,dt,rfl,-,-,-⟩:=a8.parts;have a3:=zh a6;have c9:=zh a8;have T:=zh V;have hn:=a6.tk;clear a8 a6 hm hl;have e1:=fun W h=>k1 W (V.trans h)
 have e5:=fun W h=>k5 W (V.trans h)
 clear k0 k1 k5 V;go_upto_region 2 with fail;obtain ⟨G,r0,r1,r2,r3,r4,r5⟩:=box6 w3 (.int .i64 z.w) (.int .i64 z.h) (.int .i64 z.l) (.slice Bf z.free.length df) (.slice Bu z.up.length du) (.slice Bt z.tasks.length dt)
 have O:gz<(w3.alloc (.cells #[.int .i64 z.w,.int .i64 z.h,.int .i64 z.l,.slice Bf z.free.length df,.slice Bu z.up.length du,.slice Bt z.tasks.length dt] 32)).heap.size:=by
  have h1:=zd L.out;have h2:=T.out.size;simp;omega
 generalize w3.alloc _=w4 at G r0 r1 r2 r3 r4 r5 O⊢;obtain ⟨gm,b8⟩:=zad w3.heap.size;rw [<-b8] at r0 r1 r2 r3 r4 r5⊢;have k1:=fun W h=>e1 W (G.trans h)
 have k5:=fun W h=>e5 W (G.trans h)
 have d4:Hid (zk w4 gz 32 _):=((L.out.ext T.out).ext G);have b4:Hid (zb w w4):=((b3.out.trans T.out).trans G);have b0:Hid (gz<w4.heap.size):=O
 have b2:Hid (zw w4 (fun b=>gz+1<=b) _ z):=(c9.out.below G).weaken (fun b hb=>by
  have h1:=zd L.out;omega)
 have hx:zb w4 w4:=zb.refl w4
 have I:Hid (gm≠gz):=by
  show _≠_;have h1:=zd L.out;have h2:=T.out.size;omega
 have c6:Hid (gc≠gz):=by show _≠_;have:=c4.out;omega
 clear b8 G e1 e5 O
 obtain ⟨t,ht,f1,f2⟩:∃t:Nat,t<z.tasks.length/\((tk:Nat):Int).tmod (z.tasks.length:Int)=(t:Int)/\IntKind.i64.wrap (((tk:Nat):Int).tmod (z.tasks.length:Int))=(t:Int):=by
  have h:=rem_idx (n:=z.tasks.length) (k:=tk) (x:=0) (by omega) (by omega) (by omega);simpa using h
 have f3:IntKind.i64.wrap ((tk:Nat):Int)=(tk:Nat):=by rw [Fb];omega
 have e8:¬ ((z.tasks.length:Nat):Int)=0:=by omega
 have c7:Hid (t<z.tasks.length):=ht;have c5:Hid (∀W,zb w4 W->_):=fun W (hE:zb w4 W)=>made31_calls (vl:=.slice Al l.length cl) (m:=z) ((t:Nat):Int) W (b2.out.below hE) (a3.out.lens) (Dq a3.out.good) (by omega) (HL.out.below ((b4.out.trans hE))) d8
 go_upto_region 3 with fail;have l1:=fun W (h:zp (fun b=>b=gz) w4 W)=>h.cellk (k1 w4 hx) c6.out
 have q0:=fun W (h:zp (fun b=>b=gz) w4 W)=>h.cellk (r0 w4 hx) I.out
 have q1:=fun W (h:zp (fun b=>b=gz) w4 W)=>h.cellk (r1 w4 hx) I.out
 have q2:=fun W (h:zp (fun b=>b=gz) w4 W)=>h.cellk (r2 w4 hx) I.out
 have q3:=fun W (h:zp (fun b=>b=gz) w4 W)=>h.cellk (r3 w4 hx) I.out
 have q4:=fun W (h:zp (fun b=>b=gz) w4 W)=>h.cellk (r4 w4 hx) I.out
 have q5:=fun W (h:zp (fun b=>b=gz) w4 W)=>h.cellk (r5 w4 hx) I.out
 clear r0 r1 r2 r3 r4 r5 k1 k5;refine EW (S:=(fun W=>zp (fun b=>b=gz) w4 W)) Ag (zp.of_ext (zb.refl w4).drew) fun zH=>?_;have B:zb w4 w4.drew:=(zb.refl w4).drew;generalize w4.drew=wd at zH B⊢;refine zf 0 zH ?_;refine zf 1 zH ?_;simp only [za,ED];refine zf 2 zH ?_;refine zf 3 zH ?_;simp only [za,ED];refine zf 4 zH ?_;refine zf 6 zH ?_;simp only [za,ED];refine zE 5 fun K M=>?_;go_simp;go_at_call 36;refine (c5.out wd B).mono ?_;rintro e w6 ⟨go,ps,rfl,a4,b6,hW⟩;have E:Hid (zb wd w6):=a4.ext;have c0:=zh a4;have b1:=zh b6;have c8:=zh hW;clear a4 b6 hW;refine zae M (zp.of_ext (X:=fun b=>b=gz) (B.trans E.out)) fun zH=>?_;clear M K;try simp only [za,ED]
 refine zE 7 fun K M=>?_;have D:=zh ((d4.out.ext B).ext E.out);have z0:=D.out.cell (k:=0) rfl;have z1:=D.out.cell (k:=1) rfl;have z2:=D.out.cell (k:=2) rfl;have z3:=D.out.cell (k:=3) rfl;have z4:=D.out.cell (k:=4) rfl;have z5:=D.out.cell (k:=5) rfl;have hfz:∀j,w6.frozen? ⟨gz,j,none⟩=false:=fun j=>D.out.frozen j
 go_simp;refine zae M (zp.set (zp.set (zp.set (zp.set (zp.set (zp.set (zp.of_ext (X:=fun b=>b=gz) (B.trans E.out)) gz 0 (.int .i64 z.w) rfl) gz 1 (.int .i64 z.h) rfl) gz 2 (.int .i64 z.l) rfl) gz 3 (.slice Bf z.free.length df) rfl) gz 4 (.slice Bu z.up.length du) rfl) gz 5 (.slice Bt z.tasks.length dt) rfl) fun zH=>?_;clear M K;try simp only [za,ED]
 refine zE 8 fun K M=>?_;go_simp;refine zae M (zp.set (zp.set (zp.set (zp.set (zp.set (zp.set (zp.of_ext (X:=fun b=>b=gz) (B.trans E.out)) gz 0 (.int .i64 z.w) rfl) gz 1 (.int .i64 z.h) rfl) gz 2 (.int .i64 z.l) rfl) gz 3 (.slice Bf z.free.length df) rfl) gz 4 (.slice Bu z.up.length du) rfl) gz 5 (.slice Bt z.tasks.length dt) rfl) fun zH=>?_;clear M K;try simp only [za,ED]
 refine zE 9 fun K M=>?_;go_simp;refine zae M (zp.set (zp.set (zp.set (zp.set (zp.set (zp.set (zp.of_ext (X:=fun b=>b=gz) (B.trans E.out)) gz 0 (.int .i64 z.w) rfl) gz 1 (.int .i64 z.h) rfl) gz 2 (.int .i64 z.l) rfl) gz 3 (.slice Bf z.free.length df) rfl) gz 4 (.slice Bu z.up.length du) rfl) gz 5 (.slice Bt z.tasks.length dt) rfl) fun zH=>?_;clear M K;try simp only [za,ED]
 refine Fk (by kernel_rfl) ?_ _;go_wp2;refine DF (P:=fun W=>bodyPost Tryz.prog Tryz.f9 _ Exit.ret _ W) (g2:=gz) ?_ D.out;intro WZ J d5 d6;have y0:=J.cell (k:=0) rfl;have y1:=J.cell (k:=1) rfl;have y2:=J.cell (k:=2) rfl;have y3:=J.cell (k:=3) rfl;have y4:=J.cell (k:=4) rfl;have y5:=J.cell (k:=5) rfl;refine FC (v:=.tuple #[.agg #[.int .i64 z.w,.int .i64 z.h,.int .i64 z.l,.slice Bf z.free.length df,.slice Bu z.up.length du,.slice Bt z.tasks.length dt],.slice (some ⟨go,0,none⟩) z.tasks.length z.tasks.length,.int .i64 (t:Nat)]) (by simp [results,Tryz.results9,go_sem,y0,y1,y2,y3,y4,y5]) rfl ?_;have b9:=(AN.1 b1.out).2.1;have hS:∀b,gz+1<=b->b<w6.heap.size->WZ.heap[b]?=w6.heap[b]?:=fun b hb Q=>d6 b Q (by omega)
 refine ⟨_,_,z,ps,t,rfl,Below.trans ((b4.out.trans B).trans E.out) (d5.mono (by have:=a2.out;omega)),?_,a3.out,?_,b1.out,c7.out,c8.out t rfl⟩
 ·exact (((b2.out.below B).below E.out).keep fun b hb Q=>hS b hb Q).weaken fun b hb=>by have:=a2.out;omega
 ·have h:=(c0.out.intss z.tasks.length (by rw [b9];exact EG _));rw [b9] at h;exact (h.keep fun b hb Q=>hS b (by have h1:=b0.out;have h2:=B.size;omega) Q).weaken fun b hb=>by have h1:=b0.out;have h2:=B.size;have h3:=a2.out;omega
end
end Go.Proofs.YthbjngbhbbkkgaaGreat
