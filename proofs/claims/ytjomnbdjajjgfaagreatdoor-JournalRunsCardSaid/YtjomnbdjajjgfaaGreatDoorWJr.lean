import Derived.Test.YtjomnbdjajjgfaaGreatDoorWJq
import Derived.Scope
import Derived.LoopIn
set_option linter.unusedVariables false
set_option linter.unusedSimpArgs false
set_option maxRecDepth 100000
set_option maxHeartbeats 16000000
namespace Go.Proofs.YtjomnbdjajjgfaaGreatDoor
variable {x:JS} {ns:List ByteArray} {id:List UInt8} {bs xs:List Value} {B base c n size:Nat} {K X:Nat->Prop} {A:Option Addr} {P:Program} {v:Value} {W:World}
section
open Go.RowKit Go.Shelf
attribute [local go_sem ↓] Go.wp_at_zero Go.wp_at_succ
attribute [local go_sem] Oper.semAt_some
theorem Ba.apartJ {w:World} {ok:Nat->Prop} {b:Nat} (h:Ba w ok size A n xs) (I:0<size) (G:∀off,w.cell? ⟨b,off,none⟩=none):Ba w (fun k=>ok k/\k≠b) size A n xs:=by
 refine ⟨h.1,fun D=>?_⟩;obtain ⟨k,off,e,E,o⟩:=h.2 D;have h0:0<xs.length:=by rw [h.1];exact Nat.mul_pos D I
 refine ⟨k,off,e,⟨E,?_⟩,o⟩;rintro rfl;have h1:=o 0 _ (Fw h0);rw [G] at h1;cases h1
theorem zg.apartJ {w:World} {ok:Nat->Prop} {v:Value} {l:List Int} {b:Nat} (h:zg w ok v l) (D:∀off,w.cell? ⟨b,off,none⟩=none):zg w (fun k=>ok k/\k≠b) v l:=by
 obtain ⟨A,c,e,o,E⟩:=h;exact ⟨A,c,e,o,E.apartJ (by decide) D⟩
theorem jStates_calls {R:Nat->Prop} {cf cu ct:Nat} {Af Au At:Option Addr} {m:MZ} (id s:List UInt8) (w:World) (D:zv w) (hm:zL w R (.agg (Fr m Af cf Au cu At ct)) m):
  Calls Tryz.prog 145 #[.agg #[.int .i64 m.w,.int .i64 m.h,.int .i64 m.l,.slice Af m.free.length cf,.slice Au m.up.length cu,.slice At m.tasks.length ct],.string ⟨s.toArray⟩,.string ⟨id.toArray⟩] w fun e w'=>∃gi gs gm,e=.returned (.func (.func 197) #[] #[.pointer (some ⟨gi,0,none⟩),.pointer (some ⟨gs,0,none⟩),.pointer (some ⟨gm,0,none⟩)])/\za w w'/\w.heap.size<=gi/\w.heap.size<=gs/\w.heap.size<=gm/\JCtx w' gi gs gm id s (Fr m Af cf Au cu At ct) m R:=by
 have E:=zh hm;have G:=zh D;clear hm D
 go_enter Tryz.func145,Tryz.ntmps145
 go_wp2_with fail
 go_ret;have h1:za w (w.alloc (.cells (Fr m Af cf Au cu At ct) 32)):=(za.refl w).alloc _;have o:=(h1.alloc (.cells #[.string ⟨s.toArray⟩] 9)).alloc (.cells #[.string ⟨id.toArray⟩] 9);refine ⟨_,_,_,rfl,o,by omega,by omega,by omega,?_,?_,?_,E.out.below o,G.out.ext o⟩
 ·exact ze.new _ _ _ (by simp)
 ·exact (ze.new (w.alloc (.cells (Fr m Af cf Au cu At ct) 32)) #[.string ⟨s.toArray⟩] 9 (by simp)).alloc _
 ·exact ((ze.new w (Fr m Af cf Au cu At ct) 32 rfl).alloc _).alloc _
def OpenPost (w:World) (m:MZ) (id s:List UInt8) (e:Ending) (w':World):Prop:=
 ∃vc x er,e=.returned (.tuple #[.agg (jsc vc x),.int .i64 er])/\za w w'/\zg w' (fun b=>w.heap.size<=b) vc x.ch/\(Aa m (zx id) id s=none->er=4/\x=⟨[],0,0,[]⟩)/\(∀y,Aa m (zx id) id s=some y->er=0/\x=y)
def OpI (wp:World) (g4:Nat) (L:List JS) (gx k:Nat) (W:World):Prop:=
 zu (fun b=>b=g4) wp W/\∃a b c d,ze W g4 126 #[a,b,c,d]/\∀j,k=j+1->∃y vc,L[j]?=some y/\#[a,b,c,d]=jsc vc y/\zg W (fun b=>wp.heap.size+2<=b/\b≠gx) vc y.ch
theorem jOpen_calls {ok:Nat->Prop} {m:MZ} {s:List UInt8} (w:World) (hv:zv w) (hm:Bx w ok v m ns) (hs:CP m ns) (hl:Lens m) (hc:AV m=0) (g5:s.length<=40000000):
  Calls Tryz.prog 79 #[v,.string ⟨s.toArray⟩] w (OpenPost w m (BB (zr m ns)) s):=by
 refine (callsIn_wide (n:=6)).1 ?_;have HM:=zh hm;have HV:=zh hv;have HS:=zh hs;have HL:=zh hl;have HC:=zh hc;have i9:=zh g5;obtain ⟨f,u,t,rfl,⟨_,⟨Af,cf,rfl,-,-⟩,-⟩,⟨Au,cu,rfl,-,-⟩,⟨-,_,⟨At,ct,rfl,-,-⟩,-⟩⟩:=hm;obtain ⟨id,hid⟩:∃x,x=BB (zr m ns):=⟨_,rfl⟩;rw [<-hid];have i4:=zh hid;have a9:id.length=8:=by rw [hid];exact Aw _
 have e7:=zh a9;clear hv hs hl hc g5 hid a9;refine callsIn_of_wp_marks Tryz.func79 rfl trivial ?_ rfl;simp only [Tryz.ntmps79,List.size_toArray,zaG,zaH,Nat.reduceAdd,Nat.reduceSub,Array.replicate_succ,Array.replicate_zero,List.push_toArray,List.append_toArray,List.nil_append,List.cons_append]
 gi_upto_region 1 with fail
 have a3:=ze.new w #[.int .i64 m.w,.int .i64 m.h,.int .i64 m.l,.slice Af m.free.length cf,.slice Au m.up.length cu,.slice At m.tasks.length ct] 32 (g:=w.heap.size) rfl;have b5:za w (w.alloc (.cells #[.int .i64 m.w,.int .i64 m.h,.int .i64 m.l,.slice Af m.free.length cf,.slice Au m.up.length cu,.slice At m.tasks.length ct] 32)):=(za.refl w).alloc _;have a7:(w.alloc (.cells #[.int .i64 m.w,.int .i64 m.h,.int .i64 m.l,.slice Af m.free.length cf,.slice Au m.up.length cu,.slice At m.tasks.length ct] 32)).heap.size=w.heap.size+1:=by simp
 generalize w.alloc _=w1 at a3 b5 a7⊢;have Q:=ze.new w1 #[.slice none 0 0,.int .i64 0,.int .i64 0,.string ⟨#[]⟩] 126 (g:=w1.heap.size) rfl;have a4:za w1 (w1.alloc (.cells #[.slice none 0 0,.int .i64 0,.int .i64 0,.string ⟨#[]⟩] 126)):=(za.refl w1).alloc _;have d6:(w1.alloc (.cells #[.slice none 0 0,.int .i64 0,.int .i64 0,.string ⟨#[]⟩] 126)).heap.size=w.heap.size+2:=by simp [a7]
 generalize w1.alloc _=w2 at Q a4 d6⊢;rw [a7] at Q;obtain ⟨gm,b9⟩:∃g,g=w.heap.size:=⟨_,rfl⟩;obtain ⟨g4,b8⟩:∃g,g=w.heap.size+1:=⟨_,rfl⟩;rw [<-b8] at Q⊢;rw [<-b9] at a3⊢;have HG:Hid (gm=w.heap.size/\g4=w.heap.size+1/\w2.heap.size=w.heap.size+2):=⟨b9,b8,d6⟩;have i0:=zh (a3.ext a4);have b1:=zh Q;have E:Hid (za w w2):=b5.trans a4;obtain ⟨r0,r1,r2,r3,r4,r5⟩:=zt i0.out;have r0:=za.rule r0;have r1:=za.rule r1;have r2:=za.rule r2;have r3:=za.rule r3;have r4:=za.rule r4;have r5:=za.rule r5;obtain ⟨k0,k1,k2,k3⟩:=zR b1.out;have k0:=za.rule k0;have k1:=za.rule k1;have k2:=za.rule k2;have k3:=za.rule k3;have m3:za w2 w2:=za.refl w2;clear a3 b5 a7 Q a4 d6 b9 b8;have e1:Hid (Calls Tryz.prog 62 #[.agg #[.int .i64 m.w,.int .i64 m.h,.int .i64 m.l,.slice Af m.free.length cf,.slice Au m.up.length cu,.slice At m.tasks.length ct]] w2 fun e w'=>e=.returned (.int .i64 0)/\za w2 w'):=by have h:=BQ w2 (HM.out.maze.below E.out) HL.out;rw [HC.out] at h;exact h
 gi_wp2_with fail
 refine ⟨trivial,?_⟩;refine (callsIn_wide.2 e1.out).mono ?_;rintro e w3 ⟨rfl,f7⟩;have c8:za w2 w3:=f7;have HD:Hid (∀W,za w2 W->Calls Tryz.prog 76 #[.agg #[.int .i64 m.w,.int .i64 m.h,.int .i64 m.l,.slice Af m.free.length cf,.slice Au m.up.length cu,.slice At m.tasks.length ct]] W fun e w'=>e=.returned (.string ⟨id.toArray⟩)/\za W w'):=fun W h=>by have:=ET W (HV.out.ext (E.out.trans h)) (HM.out.below (E.out.trans h)) HS.out;rw [<-i4.out] at this;exact this
 clear f7 e1
 gi_wp2_with fail
 refine ⟨trivial,?_⟩;refine (callsIn_wide.2 (HD.out _ c8)).mono ?_;rintro e w4 ⟨rfl,f8⟩;have c9:za w2 w4:=c8.trans f8;clear f8 HD c8;have e5:Hid (∀W,za w2 W->Calls Tryz.prog 75 #[.string ⟨id.toArray⟩] W fun e w'=>e=.returned (.string ⟨(zx id).toArray⟩)/\za W w'):=fun W h=>Eh W (HV.out.ext (E.out.trans h)) (by have:=e7.out;omega)
 gi_wp2_with fail
 refine ⟨trivial,?_⟩;refine (callsIn_wide.2 (e5.out _ c9)).mono ?_;rintro e w5 ⟨rfl,f9⟩;have J:za w2 w5:=c9.trans f9;clear f9 e5 c9;have O:=zh (pre_calls s (zx id) w5);by_cases hp:zx id <+: s
 ·have U:(zx id).isPrefixOf s=true:=List.isPrefixOf_iff_prefix.2 hp;rw [U] at O;have HP:=zh hp;have e9:=zh (jStates_calls (R:=fun b=>b<w.heap.size) id s w5 (HV.out.ext (E.out.trans J)) (((HM.out.maze.bound).weaken fun b G=>G.2).below (E.out.trans J)));clear hp U
  gi_wp2_with fail
  refine ⟨trivial,?_⟩;refine (callsIn_wide.2 O.out).mono ?_;rintro e wb ⟨rfl,rfl⟩
  gi_wp2_with fail
  refine ⟨trivial,?_⟩;refine (callsIn_wide.2 e9.out).mono ?_;rintro e wp ⟨gi,gs,gq,rfl,g0,j5,j8,j7,g1⟩;have d5:za w2 wp:=J.trans g0;have f1:=zh d5;have i1:=zh (b1.out.ext d5);have j2:=J.size;have I:Hid (w2.heap.size<=wp.heap.size):=d5.size
  have e4:=zh (fun n=>jStates_gives (Z:=fun b=>b=g4) wp g1 HL.out HC.out e7.out i9.out HP.out.length_le (fun b G=>by have h1:=HG.out;have h2:=I.out;exact ⟨by omega,by omega⟩) (by have h1:=HG.out;exact ⟨by omega,by omega,by omega⟩)
   (fun b G=>by have h1:=HG.out;have h2:=I.out;exact ⟨by omega,var_new HV.out (by omega)⟩) n)
  obtain ⟨L,hL⟩:=zaI (allJ m s s.length (j0 id));rw [<-hL] at e4;have e8:=zh hL;clear g0 j5 j8 j7 g1 J e9 O j2 hL k0 k1 k2 k3
  gi_wp2_with fail
  refine wpIn_loopJ (gf:=197) (lb:=#[.pointer (some ⟨gi,0,none⟩),.pointer (some ⟨gs,0,none⟩),.pointer (some ⟨gq,0,none⟩)]) rfl (enters_of Tryz.func197 (by kernel_rfl) rfl) (Z:=fun b=>b=g4) (fun b G=>by have h1:=HG.out;have h2:=I.out;omega) (e4.out _) (za.refl wp) (fun _=>rfl)
   (OpI wp g4 L) ?hI (fun gx k x a W'=>∃y vc g8 u0 u1 u2 u3 u5 u6 u7 u9 u10 u11 u12 u13 u14 u15 u16 u17 u18 u19 u20 u21 u22 u23 u24 u25 u26 u27 u28 u29,L[k]?=some y/\x=.agg (jsc vc y)/\a={ tmps:=#[u0,u1,u2,u3,.pointer (some ⟨g4,0,none⟩),u5,u6,u7,.pointer (some ⟨g8,0,none⟩),u9,u10,u11,u12,u13,u14,u15,u16,u17,u18,u19,u20,u21,u22,u23,u24,u25,u26,u27,u28,u29],defers:=[] }/\ze W' g8 126 (jsc vc y)/\wp.heap.size<=g8/\zg W' (fun b=>wp.heap.size+2<=b/\b≠gx) vc y.ch) ?hAx ?hI0 ?hassign ?hbody ?hdone
  case hI=>
   rintro gx k A B c6 ⟨h1,a,b,c,d,h2,h3⟩ b2;have h4:=HG.out;have h5:=I.out;refine ⟨zu.trans h1 b2 (fun k hk hX=>by omega),a,b,c,d,b2.blk h2 (by omega),fun j hj=>?_⟩;obtain ⟨y,vc,h6,h7,h8⟩:=h3 j hj;exact ⟨y,vc,h6,h7,h8.keep (b2.same fun b G e=>by omega)⟩
  case hAx=>
   rintro gx k x a A l ⟨y,vc,g8,u0,u1,u2,u3,u5,u6,u7,u9,u10,u11,u12,u13,u14,u15,u16,u17,u18,u19,u20,u21,u22,u23,u24,u25,u26,u27,u28,u29,h1,h2,h3,h4,h5,h6⟩ h7 h8 ⟨r,hr⟩ o;have k6:∀off,A.cell? ⟨l,off,none⟩=none:=fun off=>by unfold World.cell?;simp only [hr]
   have j6:g8≠l:=by
    rintro rfl;unfold ze at h4;rw [hr] at h4;cases h4
   refine ⟨y,vc,g8,u0,u1,u2,u3,u5,u6,u7,u9,u10,u11,u12,u13,u14,u15,u16,u17,u18,u19,u20,u21,u22,u23,u24,u25,u26,u27,u28,u29,h1,h2,h3,(World.putObj_heap_other j6).trans h4,h5,?_⟩;exact ((h6.apartJ k6).keep (fun b G _=>World.putObj_heap_other G.2)).weaken fun b G=>G.1
  case hI0=>
   intro gx W hE;exact ⟨zu.of_ext hE,_,_,_,_,i1.out.ext hE,fun j hj=>by omega⟩
  case hassign=>
   rintro l gx k x W0 K c6 k5 - ⟨y,vc,a5,rfl,hi⟩ hs hK;obtain ⟨Av,cv,rfl,-,-⟩:=_root_.id hi;rw [fold_one];simp only [jsc];have i5:=zh hi;clear hi
   gi_wp2_with fail
   have hE:=(za.refl W0).alloc (.cells (jsc (.slice Av y.ch.length cv) y) 126);exact hK _ _ hE ⟨y,.slice Av y.ch.length cv,_,_,_,_,_,_,_,_,_,_,_,_,_,_,_,_,_,_,_,_,_,_,_,_,_,_,_,_,_,a5,rfl,rfl,ze.new _ _ _ rfl,Nat.le_of_lt hs,i5.out.below hE⟩
  case hbody=>
   rintro l gx k x a W0 c6 k5 ⟨f2,a0,b0,c0,d0,a2,-⟩ ⟨y,vc,g8,u0,u1,u2,u3,u5,u6,u7,u9,u10,u11,u12,u13,u14,u15,u16,u17,u18,u19,u20,u21,u22,u23,u24,u25,u26,u27,u28,u29,a5,rfl,rfl,b3,j4,b6⟩ hs ⟨rl,k7⟩;obtain ⟨Av,cv,rfl,-,-⟩:=_root_.id b6;simp only [jsc] at b3;obtain ⟨p0,p1,p2,p3⟩:=zR b3;obtain ⟨q0,q1,q2,q3⟩:=zR a2;have fz:∀j,W0.frozen? ⟨g4,j,none⟩=false:=fun j=>a2.frozen j
   have h9:=zh a2;have i2:=zh f2;have i3:=zh b6;have i6:=zh a5;clear b3 a2 f2 b6 a5 k7 hs j4
   gi_wp2_with fail
   have h1:=HG.out;have h2:=I.out;have hC:zu (fun b=>b=g4) W0 ((((W0.setCell ⟨g4,0,none⟩ (.slice Av y.ch.length cv)).setCell ⟨g4,1,none⟩ (.int .i64 y.steps)).setCell ⟨g4,2,none⟩ (.int .i64 y.fin)).setCell ⟨g4,3,none⟩ (.string ⟨y.sg.toArray⟩)):=((((zu.refl (fun b=>b=g4) W0).set g4 0 _ rfl).set g4 1 _ rfl).set g4 2 _ rfl).set g4 3 _ rfl;refine ⟨hC,i2.out.tr hC,_,_,_,_,(((h9.out.set (k:=0) _).set (k:=1) _).set (k:=2) _).set (k:=3) _,fun j hj=>?_⟩;obtain rfl:k=j:=by omega
   exact ⟨y,.slice Av y.ch.length cv,i6.out,rfl,i3.out.keep (hC.same fun b G e=>by omega)⟩
  case hdone=>
   rintro D gx W3 f4 f5 c6 ⟨f3,a0,b0,c0,d0,M,V⟩ b7;have g3:0<L.length:=by rw [e8.out];exact allJ_pos _ _ _ _
   obtain ⟨y,vc,hy,he,hi⟩:=V (L.length - 1) (by omega)
   have g6:y=endJ m s (j0 id):=by
    have h:=allJ_last m s s.length (j0 id);rw [<-e8.out,hy] at h;injection h
   obtain ⟨Av,cv,rfl,-,-⟩:=_root_.id hi;rw [he] at M;simp only [jsc] at M;obtain ⟨q0,q1,q2,q3⟩:=zR M;have fz:∀j,W3.frozen? ⟨g4,j,none⟩=false:=fun j=>M.frozen j
   have h1:=HG.out;have h2:=I.out;have hC:zu (fun b=>b=g4) wp ((((W3.setCell ⟨g4,0,none⟩ (.slice Av y.ch.length cv)).setCell ⟨g4,1,none⟩ (.int .i64 y.steps)).setCell ⟨g4,2,none⟩ (.int .i64 y.fin)).setCell ⟨g4,3,none⟩ (.string ⟨y.sg.toArray⟩)):=(((f3.set g4 0 _ rfl).set g4 1 _ rfl).set g4 2 _ rfl).set g4 3 _ rfl;have hB:ze ((((W3.setCell ⟨g4,0,none⟩ (.slice Av y.ch.length cv)).setCell ⟨g4,1,none⟩ (.int .i64 y.steps)).setCell ⟨g4,2,none⟩ (.int .i64 y.fin)).setCell ⟨g4,3,none⟩ (.string ⟨y.sg.toArray⟩)) g4 126 #[.slice Av y.ch.length cv,.int .i64 y.steps,.int .i64 y.fin,.string ⟨y.sg.toArray⟩]:=(((M.set (k:=0) _).set (k:=1) _).set (k:=2) _).set (k:=3) _;have b4:zu (fun b=>b=g4) W3 ((((W3.setCell ⟨g4,0,none⟩ (.slice Av y.ch.length cv)).setCell ⟨g4,1,none⟩ (.int .i64 y.steps)).setCell ⟨g4,2,none⟩ (.int .i64 y.fin)).setCell ⟨g4,3,none⟩ (.string ⟨y.sg.toArray⟩)):=((((zu.refl (fun b=>b=g4) W3).set g4 0 _ rfl).set g4 1 _ rfl).set g4 2 _ rfl).set g4 3 _ rfl;have e0:=zh hC;have d9:=zh hB;have e6:=zh (hi.keep (b4.same fun b G e=>by omega));have e3:Hid (((((W3.setCell ⟨g4,0,none⟩ (.slice Av y.ch.length cv)).setCell ⟨g4,1,none⟩ (.int .i64 y.steps)).setCell ⟨g4,2,none⟩ (.int .i64 y.fin)).setCell ⟨g4,3,none⟩ (.string ⟨y.sg.toArray⟩)).heap[D]?=some (.deferred (some []))):=(b4.block D (zd b7) (by omega)).trans b7;have j1:=zh g6;have e2:Hid (wp.heap.size<=D/\D<=wp.heap.size):=⟨f4,f5⟩;clear hC hB b4 g6 f3 M V b7 hy he hi g3 h1 h2 f4 f5
   gi_wp2_with fail
   generalize ((((W3.setCell ⟨g4,0,none⟩ (.slice Av y.ch.length cv)).setCell ⟨g4,1,none⟩ (.int .i64 y.steps)).setCell ⟨g4,2,none⟩ (.int .i64 y.fin)).setCell ⟨g4,3,none⟩ (.string ⟨y.sg.toArray⟩))=wf at e0 d9 e6 e3⊢;refine ⟨by simp,.inl ⟨_,_,rfl,run_takeDeferred e3.out,?_⟩⟩;have h1:=HG.out;have h2:=I.out;have h3:=e2.out;have hS:∀b,b≠D->(wf.putObj D (.deferred none)).heap[b]?=wf.heap[b]?:=fun b G=>World.putObj_heap_other G
   obtain ⟨y0,y1,y2,y3⟩:=zR (show ze (wf.putObj D (.deferred none)) g4 _ _ from (hS g4 (by omega)).trans d9.out);refine ⟨.tuple #[.agg #[.slice Av y.ch.length cv,.int .i64 y.steps,.int .i64 y.fin,.string ⟨y.sg.toArray⟩],.int .i64 0],by simp [results,Tryz.results79,go_sem,y0,y1,y2,y3],?_⟩;refine ⟨.slice Av y.ch.length cv,y,0,rfl,?_,?_,fun h=>?_,fun z hz=>⟨rfl,?_⟩⟩
   ·have h4:=(e0.out.grown (grownBy_putObj' _ D (.deferred none)) (fun k e hk=>absurd hk (by have e':D=k:=Option.some.inj e;omega)));exact Below.trans (E.out.trans f1.out) (h4.below (E.out.trans f1.out).size (fun b G=>by omega))
   ·exact (e6.out.keep (fun b G _=>hS b (by omega))).weaken fun b G=>by omega
   ·unfold Aa at h;rw [if_pos HP.out] at h;cases h
   ·unfold Aa at hz;rw [if_pos HP.out] at hz;injection hz with hz;rw [j1.out];exact hz
 ·have U:(zx id).isPrefixOf s=false:=by
   cases h:(zx id).isPrefixOf s with
   | false=>rfl
   | true=>exact absurd (List.isPrefixOf_iff_prefix.1 h) hp
  rw [U] at O;have HP:=zh hp;have d8:=zh (b1.out.ext J);have fz:∀j,w5.frozen? ⟨g4,j,none⟩=false:=fun j=>d8.out.frozen j
  have f0:Hid (za w w5):=E.out.trans J;clear hp U
  gi_wp2_with fail
  refine ⟨trivial,?_⟩;refine (callsIn_wide.2 O.out).mono ?_;rintro e wb ⟨rfl,rfl⟩
  gi_wp2_with fail
  have h1:=HG.out;have hC:zu (fun b=>b=g4) w5 ((((w5.setCell ⟨g4,0,none⟩ (.slice none 0 0)).setCell ⟨g4,1,none⟩ (.int .i64 0)).setCell ⟨g4,2,none⟩ (.int .i64 0)).setCell ⟨g4,3,none⟩ (.string ⟨#[]⟩)):=((((zu.refl (fun b=>b=g4) w5).set g4 0 _ rfl).set g4 1 _ rfl).set g4 2 _ rfl).set g4 3 _ rfl;have hB:ze ((((w5.setCell ⟨g4,0,none⟩ (.slice none 0 0)).setCell ⟨g4,1,none⟩ (.int .i64 0)).setCell ⟨g4,2,none⟩ (.int .i64 0)).setCell ⟨g4,3,none⟩ (.string ⟨#[]⟩)) g4 126 #[.slice none 0 0,.int .i64 0,.int .i64 0,.string ⟨#[]⟩]:=(((d8.out.set (k:=0) _).set (k:=1) _).set (k:=2) _).set (k:=3) _;obtain ⟨y0,y1,y2,y3⟩:=zR hB;refine ⟨.tuple #[.agg #[.slice none 0 0,.int .i64 0,.int .i64 0,.string ⟨#[]⟩],.int .i64 4],by simp [results,Tryz.results79,go_sem,y0,y1,y2,y3],?_⟩;refine ⟨_,⟨[],0,0,[]⟩,4,rfl,?_,zg.nil _ _,fun _=>⟨rfl,rfl⟩,fun z hz=>?_⟩
  ·exact Below.trans f0.out (hC.below f0.out.size (fun b G=>by omega))
  ·unfold Aa at hz;rw [if_neg HP.out] at hz;cases hz
theorem jOpenBad_calls {ok:Nat->Prop} {m:MZ} {s:List UInt8} (w:World) (hm:zL w ok v m) (hl:Lens m) (hc:AV m≠0):
  Calls Tryz.prog 79 #[v,.string ⟨s.toArray⟩] w fun e w'=>e=.returned (.tuple #[.agg #[.slice none 0 0,.int .i64 0,.int .i64 0,.string ⟨#[]⟩],.int .i64 (AV m)])/\za w w':=by
 refine (callsIn_wide (n:=6)).1 ?_;have HM:=zh hm;have HL:=zh hl;obtain ⟨Af,cf,Au,cu,At,ct,rfl,-,-,-⟩:=hm.parts;obtain ⟨ck,M⟩:∃c,c=AV m:=⟨_,rfl⟩;rw [<-M] at hc⊢;have b2:(ck != 0)=true:=by simp [hc]
 have a3:=zh M;clear hm hl M;refine callsIn_of_wp_marks Tryz.func79 rfl trivial ?_ rfl;simp only [Tryz.ntmps79,List.size_toArray,zaG,zaH,Nat.reduceAdd,Nat.reduceSub,Array.replicate_succ,Array.replicate_zero,List.push_toArray,List.append_toArray,List.nil_append,List.cons_append]
 gi_upto_region 1 with fail
 have D:=ze.new w #[.int .i64 m.w,.int .i64 m.h,.int .i64 m.l,.slice Af m.free.length cf,.slice Au m.up.length cu,.slice At m.tasks.length ct] 32 (g:=w.heap.size) rfl;have I:za w (w.alloc (.cells #[.int .i64 m.w,.int .i64 m.h,.int .i64 m.l,.slice Af m.free.length cf,.slice Au m.up.length cu,.slice At m.tasks.length ct] 32)):=(za.refl w).alloc _;have O:(w.alloc (.cells #[.int .i64 m.w,.int .i64 m.h,.int .i64 m.l,.slice Af m.free.length cf,.slice Au m.up.length cu,.slice At m.tasks.length ct] 32)).heap.size=w.heap.size+1:=by simp
 generalize w.alloc _=w1 at D I O⊢;have o:=ze.new w1 #[.slice none 0 0,.int .i64 0,.int .i64 0,.string ⟨#[]⟩] 126 (g:=w1.heap.size) rfl;have E:za w1 (w1.alloc (.cells #[.slice none 0 0,.int .i64 0,.int .i64 0,.string ⟨#[]⟩] 126)):=(za.refl w1).alloc _;generalize w1.alloc _=w2 at o E⊢;rw [O] at o;obtain ⟨gm,a1⟩:∃g,g=w.heap.size:=⟨_,rfl⟩;obtain ⟨g4,a0⟩:∃g,g=w.heap.size+1:=⟨_,rfl⟩;rw [<-a0] at o⊢;rw [<-a1] at D⊢;have HG:Hid (w.heap.size<=g4):=by (show _<=_);omega
 have a2:=zh o;have U:Hid (za w w2):=I.trans E;obtain ⟨r0,r1,r2,r3,r4,r5⟩:=zt (D.ext E);have r0:=za.rule r0;have r1:=za.rule r1;have r2:=za.rule r2;have r3:=za.rule r3;have r4:=za.rule r4;have r5:=za.rule r5;have a4:za w2 w2:=za.refl w2;clear D I O o E a1 a0;have Q:Hid (Calls Tryz.prog 62 #[.agg #[.int .i64 m.w,.int .i64 m.h,.int .i64 m.l,.slice Af m.free.length cf,.slice Au m.up.length cu,.slice At m.tasks.length ct]] w2 fun e w'=>e=.returned (.int .i64 ck)/\za w2 w'):=by rw [a3.out];exact BQ w2 (HM.out.below U.out) HL.out
 gi_wp2_with fail
 refine ⟨trivial,?_⟩;refine (callsIn_wide.2 Q.out).mono ?_;rintro e w5 ⟨rfl,J⟩;have G:=zh (a2.out.ext J);have fz:∀j,w5.frozen? ⟨g4,j,none⟩=false:=fun j=>G.out.frozen j
 obtain ⟨k0,k1,k2,k3⟩:=zR G.out;have V:Hid (za w w5):=U.out.trans J;clear J Q r0 r1 r2 r3 r4 r5 a4
 gi_wp2_with fail
 have h1:=HG.out;have hC:zu (fun b=>b=g4) w5 ((((w5.setCell ⟨g4,0,none⟩ (.slice none 0 0)).setCell ⟨g4,1,none⟩ (.int .i64 0)).setCell ⟨g4,2,none⟩ (.int .i64 0)).setCell ⟨g4,3,none⟩ (.string ⟨#[]⟩)):=((((zu.refl (fun b=>b=g4) w5).set g4 0 _ rfl).set g4 1 _ rfl).set g4 2 _ rfl).set g4 3 _ rfl;have hB:ze ((((w5.setCell ⟨g4,0,none⟩ (.slice none 0 0)).setCell ⟨g4,1,none⟩ (.int .i64 0)).setCell ⟨g4,2,none⟩ (.int .i64 0)).setCell ⟨g4,3,none⟩ (.string ⟨#[]⟩)) g4 126 #[.slice none 0 0,.int .i64 0,.int .i64 0,.string ⟨#[]⟩]:=(((G.out.set (k:=0) _).set (k:=1) _).set (k:=2) _).set (k:=3) _;obtain ⟨y0,y1,y2,y3⟩:=zR hB;refine ⟨.tuple #[.agg #[.slice none 0 0,.int .i64 0,.int .i64 0,.string ⟨#[]⟩],.int .i64 ck],by simp [results,Tryz.results79,go_sem,y0,y1,y2,y3],rfl,?_⟩;exact Below.trans V.out (hC.below V.out.size (fun b hb=>by omega))
noncomputable def opT (m:MZ) (id s:List UInt8):JS×Int:=
 if AV m=0 then (match Aa m (zx id) id s with
  | none=>(⟨[],0,0,[]⟩,4)
  | some x=>(x,0)) else (⟨[],0,0,[]⟩,AV m)
theorem opT_ok {m:MZ} {s:List UInt8} (h:opT m id s=(x,0)):AV m=0/\Aa m (zx id) id s=some x:=by
 unfold opT at h
 split at h
 ·rename_i o
  cases D:Aa m (zx id) id s with
  | none=>rw [D] at h;simp at h
  | some y=>rw [D] at h;simp at h;exact ⟨o,by rw [h]⟩
 ·rename_i o
  simp at h;exact absurd h.2 o
theorem opT_err {m:MZ} {s:List UInt8} {er:Int} (h:opT m id s=(x,er)) (he:er≠0):x=⟨[],0,0,[]⟩/\(AV m=0/\Aa m (zx id) id s=none/\er=4\/AV m≠0/\er=AV m):=by
 unfold opT at h
 split at h
 ·rename_i o
  cases D:Aa m (zx id) id s with
  | none=>rw [D] at h;simp at h;exact ⟨h.1.symm,.inl ⟨o,rfl,h.2.symm⟩⟩
  | some y=>rw [D] at h;simp at h;exact absurd h.2.symm he
 ·rename_i o
  simp at h;exact ⟨h.1.symm,.inr ⟨o,h.2.symm⟩⟩
def OpX (w:World) (p:JS×Int) (e:Ending) (w':World):Prop:=∃vc,e=.returned (.tuple #[.agg (jsc vc p.1),.int .i64 p.2])/\za w w'/\zg w' (fun b=>w.heap.size<=b) vc p.1.ch
structure JP (w:World) (ok:Nat->Prop) (v:Value) (m:MZ) (ns:List ByteArray):Prop where
 hm:Bx w ok v m ns
 hl:Lens m
 hs:AV m=0->CP m ns
theorem JP.below {w w':World} {ok:Nat->Prop} {v:Value} {m:MZ} {ns:List ByteArray} (h:JP w ok v m ns) (o:za w w'):JP w' ok v m ns:=⟨h.hm.below o,h.hl,h.hs⟩
theorem ED {ok:Nat->Prop} {m:MZ} {s:List UInt8} (w:World) (I:zv w) (h:JP w ok v m ns) (E:s.length<=40000000):
  Calls Tryz.prog 79 #[v,.string ⟨s.toArray⟩] w (OpX w (opT m (BB (zr m ns)) s)):=by
 by_cases o:AV m=0
 ·refine (jOpen_calls w I h.hm (h.hs o) h.hl o E).mono ?_;rintro e w' ⟨vc,x,er,rfl,D,hI,h1,h2⟩;unfold opT;rw [if_pos o]
  cases G:Aa m (zx (BB (zr m ns))) (BB (zr m ns)) s with
  | none=>
   obtain ⟨rfl,rfl⟩:=h1 G;exact ⟨vc,rfl,D,hI⟩
  | some y=>
   obtain ⟨rfl,rfl⟩:=h2 y G;exact ⟨vc,rfl,D,hI⟩
 ·refine (jOpenBad_calls w h.hm.maze h.hl o).mono ?_;rintro e w' ⟨rfl,D⟩;unfold opT;rw [if_neg o];exact ⟨_,rfl,D,zg.nil _ _⟩
end
section
open Go.RowKit Go.Shelf
attribute [local go_sem ↓] Go.wp_at_zero Go.wp_at_succ
theorem own_next {w w':World} {t u ty e:TypeId} {i:TypeInfo} (ht:P.underlying t=some (.slice e)) (hu:P.underlying u=some .string) (U:P.info? e=some i) (hz:i.zero=some (.int .u8 0)) (o:i.size=1) (J:i.bytes=1)
  {v':Value} (D:w.ownsRowF base e 1 v n xs) (s:ByteArray) (I:n+s.size<=maxLen) (E:n+s.size<=140737488355328) (V:(Builtin.append_ #[t,u] ty #[v,.string s]).run P w=.ok v' w'):
  v'.ownBlock=v.ownBlock\/∀g,v'.ownBlock=some g->w.heap.size<=g:=by
 rcases D.2 with ⟨rfl,rfl⟩ | ⟨g,cap,cur,fz,rfl,a5,Q,hfz,a8,a6,O,a0⟩
 ·obtain ⟨v2,w2,h1,h2,-,-⟩:=Lib.run_append_own_string (P:=P) w w.heap.size t u ty e i ht hu U hz o J (.slice none 0 0) 0 xs ⟨D.1,.inl ⟨rfl,rfl⟩⟩ s I E (Fy _);rw [V] at h1;injection h1 with e1 e2;subst e1;exact .inr fun g Q=>(World.ownsRow.lt h2 g Q).1
 ·have M:n+s.size<=9223372036854775807:=by simp only [maxLen] at I;omega
  have a2:xs.length=n:=by simpa using D.1
  by_cases G:n+s.size<=cap
  ·have a3:cur.size=cap:=by simpa using O
   have h1:=Lib.run_append_room_stringF (P:=P) w t u ty e i ht hu U o g n cap cur fz Q (by simpa using hfz) s G (by omega);rw [V] at h1;injection h1 with e1 e2;subst e1;exact .inl rfl
  ·have h1:=Lib.run_append_grow_string (P:=P) w t u ty e i (.int .u8 0) ht hu U hz ⟨g,0,none⟩ n cap xs (by rw [o];simpa using a2) (D.cells (g:=g) rfl) s (by omega) (by omega) (by rw [J];exact growslice_fits (by omega) (by omega));rw [V] at h1;injection h1 with e1 e2;subst e1;refine .inr fun k hk=>?_
   simp [Value.ownBlock] at hk;omega
theorem ownF_chg {w w':World} {e:TypeId} (h:w.ownsRowF base e size v n xs) (D:zu X w w') (E:∀g,v.ownBlock=some g->¬ X g):w'.ownsRowF base e size v n xs:=by
 refine ⟨h.1,?_⟩;rcases h.2 with I | ⟨g,cap,cur,fz,rfl,G,o,rest⟩
 ·exact .inl I
 ·exact .inr ⟨g,cap,cur,fz,rfl,G,(D.block g (DG o) (E g rfl)).trans o,rest⟩
def BuiK (K:Nat->Prop) (B:Nat) (bs:List Value) (w:World):Prop:=
 K B/\∃p v,(p=.pointer none\/p=.pointer (some ⟨B,0,none⟩))/\w.heap[B]?=some (.cells #[p,v] 134 (0,0))/\w.ownsRowF B 5 1 v bs.length bs/\v.ownBlock≠some B/\∀g,v.ownBlock=some g->K g
theorem BuiK.bui {w:World} (h:BuiK K B bs w):Fs B bs w:=by
 obtain ⟨-,p,v,rfl | rfl,h1,h2,h3,-⟩:=h
 ·exact .inl ⟨Fy _,v,h1,h2,h3⟩
 ·exact .inr ⟨Fy _,v,h1,h2,h3⟩
theorem BuiK.chg {w w':World} (h:BuiK K B bs w) (o:zu X w w') (E:∀k,K k->¬ X k):BuiK K B bs w':=by
 obtain ⟨D,p,v,hp,h1,h2,h3,h4⟩:=h;exact ⟨D,p,v,hp,(o.block B (DG h1) (E B D)).trans h1,ownF_chg h2 o (fun g G=>E g (h4 g G)),h3,h4⟩
theorem BuiK.lt {w:World} (h:BuiK K B bs w):B<w.heap.size:=by
 obtain ⟨-,p,v,-,h1,-⟩:=h;exact DG h1
theorem BuiK.wide {K':Nat->Prop} {w:World} (h:BuiK K B bs w) (o:∀k,K k->K' k):BuiK K' B bs w:=by
 obtain ⟨h0,p,v,hp,h1,h2,h3,h4⟩:=h;exact ⟨o _ h0,p,v,hp,h1,h2,h3,fun g D=>o _ (h4 g D)⟩
theorem BuiK.new (w:World):BuiK (fun b=>b=w.heap.size) w.heap.size [] (w.alloc (.cells #[.pointer none,.slice none 0 0] 134)):=
 ⟨rfl,_,_,.inl rfl,zax w _,World.ownsRowF_nil _ _ _ _,by simp [Value.ownBlock],fun g o=>by simp [Value.ownBlock] at o⟩
theorem wpApp_K {ops:Array Oper} {rest:List Oper} {o:Oper} {a:Act} {w:World} {Q:Exit->Act->World->Prop} (O:o.guard=none) (sl x:Operand) (t u:TypeId)
  (ho:o.op=.call { callee:=.builtin .append,args:=#[sl,x],argTypes:=#[t,u] })
  (base:Nat) (e:TypeId) (i:TypeInfo) (ht:P.underlying t=some (.slice e)) (hu:P.underlying u=some .string) (U:P.info? e=some i) (hz:i.zero=some (.int .u8 0)) (E:i.size=1) (M:i.bytes=1)
  (v:Value) (n:Nat) (xs:List Value) (hs:a.eval sl=v) (G:w.ownsRowF base e 1 v n xs) (s:ByteArray) (hx:a.eval x=.string s)
  (J:n+s.size<=maxLen) (D:n+s.size<=140737488355328) (I:base<=w.heap.size)
  (h:∀v' w',w'.ownsRowF base e 1 v' (n+s.size) (xs++Lib.strCells s)->w.grownBy w' v.ownBlock->(v'.ownBlock=v.ownBlock\/∀g,v'.ownBlock=some g->w.heap.size<=g)->wpList P ops Q rest (a.put o.dst v') w'):wpList P ops Q (o :: rest) a w:=by
 obtain ⟨v',w',V,h2,h3,-⟩:=Lib.run_append_own_stringF (P:=P) w base t u o.type e i ht hu U hz E M v n xs G s J D I;have hn:=own_next ht hu U hz E M G s J D V;refine wpList_plain O fun K hK=>?_
 unfold Oper.wp execOp;simp only [ho,resolve,invoke,builtin,Sem.run_bind,Sem.run_pure,Result.andThen_ok,List.map_toArray,List.map_cons,List.map_nil,hs,hx,V];exact hK _ _ (h v' w' h2 h3 hn)
theorem cc_K {w:World} (h:BuiK K B bs w):Calls Tryz.prog 152 #[.pointer (some ⟨B,0,none⟩)] w fun e w'=>e=.returned (.tuple #[])/\zu K w w'/\w'.heap.size=w.heap.size/\
  ∃v,w'.heap[B]?=some (.cells #[.pointer (some ⟨B,0,none⟩),v] 134 (0,0))/\w'.ownsRowF B 5 1 v bs.length bs/\v.ownBlock≠some B/\∀g,v.ownBlock=some g->K g:=by
 obtain ⟨E,p,v,rfl | rfl,h1,h2,h3,h4⟩:=h
 ·have o:Lib.BuilderAtF 134 5 B B (.pointer none) bs w:=⟨Fy _,v,h1,h2,h3⟩;refine (ccNew B w o.cell0 o.shape o.frozen0).mono ?_;rintro e w' ⟨rfl,rfl⟩;have D:zu (fun b=>b=B) w (w.setCell ⟨B,0,none⟩ (.pointer (some ⟨B,0,none⟩))):=(zu.refl (fun b=>b=B) w).set B 0 _ rfl;exact ⟨rfl,D.wide fun k e=>e ▸ E,by simp [World.setCell],v,(show ze w B 134 #[.pointer none,v] from h1).set (k:=0) _,ownF_chg h2 D (fun g G e=>h3 (by rw [G,e])),h3,h4⟩
 ·have o:Lib.BuilderAtF 134 5 B B (.pointer (some ⟨B,0,none⟩)) bs w:=⟨Fy _,v,h1,h2,h3⟩;refine (ccUsed B w o.cell0).mono ?_;rintro e w' ⟨rfl,rfl⟩;exact ⟨rfl,zu.refl _ _,rfl,v,h1,h2,h3,h4⟩
theorem wString_K {w:World} (s:ByteArray) (h:BuiK K B bs w) (hl:bs.length+s.size<=140737488355328):
  Calls Tryz.prog 81 #[.pointer (some ⟨B,0,none⟩),.string s] w fun e w'=>e=.returned (.tuple #[.int .i64 s.size,.nilIface])/\zu K w w'/\BuiK (fun b=>K b\/(w.heap.size<=b/\b<w'.heap.size)) B (bs++Lib.strCells s) w':=by
 obtain ⟨i0,hi,a6,a7,a8⟩:=info_parts sExt.infoByte;have O:=h.1;have H:=zh h;clear h
 go_enter Tryz.func81,Tryz.ntmps81
 go_wp2_with fail
 refine (cc_K H.out).mono ?_;rintro e w1 ⟨rfl,M,a1,v,I,a0,U,J⟩;have c1:w1.cell? ⟨B,1,none⟩=some v:=by rw [Lib.cell_of_heap I];rfl
 have a4:=DG I;have a3:=zh a1;clear a1
 go_wp2_with (at_builtin;refine wpApp_K rfl _ _ 76 9 rfl B 5 i0 Tryz.underlying76 Tryz.underlying9 hi a6 a7 a8 _ _ _ rfl a0 s rfl ?c3 ?c4 ?c5 ?_)
 case c3=>unfold maxLen;omega
 case c4=>omega
 case c5=>omega
 intro v' w2 D hg V
 have G:w2.heap[B]?=some (.cells #[.pointer (some ⟨B,0,none⟩),v] 134 (0,0)):=by
  rw [hg.block B a4 (fun e=>U e.symm)];exact I
 have d1:w2.cell? ⟨B,1,none⟩=some v:=by rw [Lib.cell_of_heap G];rfl
 have f1:w2.frozen? ⟨B,1,none⟩=false:=Lib.frozen_of_heap G 1
 obtain ⟨ao,n',cap,rfl⟩:∃ao n' cap,v'=.slice ao n' cap:=by
  rcases D.2 with ⟨hv,_⟩ | ⟨g,cap,cur,fz,hv,_⟩
  ·exact ⟨_,_,_,hv⟩
  ·exact ⟨_,_,_,hv⟩
 have E:Hid (∀g,(Value.slice ao n' cap).ownBlock=some g->(K g\/(w.heap.size<=g/\g<w2.heap.size))/\g≠B):=fun g o=>by
  have Q:=(D.lt g o).2;rcases V with hn | hn
  ·rw [hn] at o;exact ⟨.inl (J g o),fun e=>U (e ▸ o)⟩
  ·have:=hn g o;exact ⟨.inr ⟨by rw [<-a3.out];exact this,Q⟩,fun e=>by omega⟩
 have a2:Hid (zu K w w2):=M.grown hg (fun k hk _=>J k hk);clear V M J;go_wp2
 go_ret2
 refine ⟨rfl,a2.out.set B 1 _ O,.inl O,_,.slice ao n' cap,.inr rfl,(show ze w2 B 134 #[.pointer (some ⟨B,0,none⟩),v] from G).set (k:=1) _,?_,?_,fun g o=>?_⟩
 ·refine ownF_chg (X:=fun b=>b=B) ?_ ((zu.refl (fun b=>b=B) w2).set B 1 _ rfl) (fun g o e=>(E.out g o).2 e);simpa [Lib.strCells_length] using D
 ·exact fun e=>(E.out B e).2 rfl
 ·have h1:=(E.out g o).1;simpa [World.setCell] using h1
theorem buiK_app {x y z:List UInt8} {w:World} (h:BuiK K B (Lib.byteCells x++Lib.strCells ⟨y.toArray⟩) w) (e:z=x++y):BuiK K B (Lib.byteCells z) w:=by
 rw [bui_str] at h;rw [e];exact h
end
section
open Go.RowKit Go.Shelf
attribute [local go_sem ↓] Go.wp_at_zero Go.wp_at_succ
attribute [local go_sem] Oper.semAt_some
theorem CO (w:World) (m:MZ) (Af:Option Addr) (cf:Nat) (Au:Option Addr) (cu:Nat) (At:Option Addr) (ct:Nat):za w (w.alloc (.cells (Fr m Af cf Au cu At ct) 32))/\
  (∀W,za (w.alloc (.cells (Fr m Af cf Au cu At ct) 32)) W->W.cell? ⟨w.heap.size,0,none⟩=some (.int .i64 m.w))/\(∀W,za (w.alloc (.cells (Fr m Af cf Au cu At ct) 32)) W->W.cell? ⟨w.heap.size,1,none⟩=some (.int .i64 m.h))/\
  (∀W,za (w.alloc (.cells (Fr m Af cf Au cu At ct) 32)) W->W.cell? ⟨w.heap.size,2,none⟩=some (.int .i64 m.l))/\(∀W,za (w.alloc (.cells (Fr m Af cf Au cu At ct) 32)) W->W.cell? ⟨w.heap.size,3,none⟩=some (.slice Af m.free.length cf))/\
  (∀W,za (w.alloc (.cells (Fr m Af cf Au cu At ct) 32)) W->W.cell? ⟨w.heap.size,4,none⟩=some (.slice Au m.up.length cu))/\(∀W,za (w.alloc (.cells (Fr m Af cf Au cu At ct) 32)) W->W.cell? ⟨w.heap.size,5,none⟩=some (.slice At m.tasks.length ct)):=by
 obtain ⟨r0,r1,r2,r3,r4,r5⟩:=zt (ze.new w (Fr m Af cf Au cu At ct) 32 (g:=w.heap.size) rfl);exact ⟨(za.refl w).alloc _,za.rule r0,za.rule r1,za.rule r2,za.rule r3,za.rule r4,za.rule r5⟩
theorem jBegin_calls {ok:Nat->Prop} {m:MZ} (w:World) (hv:zv w) (hm:Bx w ok v m ns) (hs:CP m ns) (hl:Lens m) (hc:AV m=0):
  Calls Tryz.prog 28 #[v] w fun e w'=>e=.returned (.tuple #[.string ⟨(zx (BB (zr m ns))).toArray⟩,.int .i64 0])/\za w w':=by
 have HM:=zh hm;have HV:=zh hv;have HS:=zh hs;have HL:=zh hl;have HC:=zh hc;obtain ⟨f,u,t,rfl,⟨_,⟨Af,cf,rfl,-,-⟩,-⟩,⟨Au,cu,rfl,-,-⟩,⟨-,_,⟨At,ct,rfl,-,-⟩,-⟩⟩:=hm;obtain ⟨id,hid⟩:∃x,x=BB (zr m ns):=⟨_,rfl⟩;rw [<-hid];have E:id.length=8:=by rw [hid];exact Aw _
 have Q:=zh hid;have U:=zh E;clear hv hs hl hc hid E
 go_enter Tryz.func28,Tryz.ntmps28
 go_upto_region 1 with fail;obtain ⟨D,r0,r1,r2,r3,r4,r5⟩:=CO w m Af cf Au cu At ct;simp only [Fr] at D r0 r1 r2 r3 r4 r5;generalize w.alloc _=w2 at D r0 r1 r2 r3 r4 r5⊢;have o:=zh D;have b0:za w2 w2:=za.refl w2;have I:Hid (Calls Tryz.prog 62 #[.agg #[.int .i64 m.w,.int .i64 m.h,.int .i64 m.l,.slice Af m.free.length cf,.slice Au m.up.length cu,.slice At m.tasks.length ct]] w2 fun e w'=>e=.returned (.int .i64 0)/\za w2 w'):=by have h:=BQ w2 (HM.out.maze.below o.out) HL.out;rw [HC.out] at h;exact h
 clear D
 go_wp2_with fail
 refine I.out.mono ?_;rintro e w3 ⟨rfl,M⟩;have G:za w2 w3:=M;have HD:Hid (∀W,za w2 W->Calls Tryz.prog 76 #[.agg #[.int .i64 m.w,.int .i64 m.h,.int .i64 m.l,.slice Af m.free.length cf,.slice Au m.up.length cu,.slice At m.tasks.length ct]] W fun e w'=>e=.returned (.string ⟨id.toArray⟩)/\za W w'):=fun W h=>by have:=ET W (HV.out.ext (o.out.trans h)) (HM.out.below (o.out.trans h)) HS.out;rw [<-Q.out] at this;exact this
 clear M I
 go_wp2_with fail
 refine (HD.out _ G).mono ?_;rintro e w4 ⟨rfl,O⟩;have J:Hid (za w w4):=(o.out.trans G).trans O;clear O HD G
 go_wp2_with fail
 refine (Eh w4 (HV.out.ext J.out) (by have:=U.out;omega)).mono ?_;rintro e w5 ⟨rfl,V⟩
 go_wp2_with fail
 go_ret2
 exact ⟨rfl,J.out.trans V⟩
def ReadPost (w:World) (m:MZ) (id s:List UInt8) (e:Ending) (w':World):Prop:=
 ∃vc x er,e=.returned (.tuple #[vc,.int .i64 x.steps,.int .i64 x.fin,.int .i64 er])/\za w w'/\zg w' (fun b=>w.heap.size<=b) vc x.ch/\(Aa m (zx id) id s=none->er=4/\x=⟨[],0,0,[]⟩)/\(∀y,Aa m (zx id) id s=some y->er=0/\x=y)
def RdX (w:World) (p:JS×Int) (e:Ending) (w':World):Prop:=∃vc,e=.returned (.tuple #[vc,.int .i64 p.1.steps,.int .i64 p.1.fin,.int .i64 p.2])/\za w w'/\zg w' (fun b=>w.heap.size<=b) vc p.1.ch
theorem jReadT_calls {ok:Nat->Prop} {m:MZ} {s:List UInt8} (w:World) (hv:zv w) (h:JP w ok v m ns) (O:s.length<=40000000):
  Calls Tryz.prog 33 #[v,.string ⟨s.toArray⟩] w (RdX w (opT m (BB (zr m ns)) s)):=by
 obtain ⟨f,u,t,rfl,⟨_,⟨Af,cf,rfl,-,-⟩,-⟩,⟨Au,cu,rfl,-,-⟩,⟨-,_,⟨At,ct,rfl,-,-⟩,-⟩⟩:=_root_.id h.hm;obtain ⟨⟨x,er⟩,hp⟩:∃p,p=opT m (BB (zr m ns)) s:=⟨_,rfl⟩;have HO:Hid (∀W,za w W->Calls Tryz.prog 79 #[.agg #[.int .i64 m.w,.int .i64 m.h,.int .i64 m.l,.slice Af m.free.length cf,.slice Au m.up.length cu,.slice At m.tasks.length ct],.string ⟨s.toArray⟩] W (OpX W (x,er))):=fun W I=>by rw [hp];exact ED W (hv.ext I) (h.below I) O
 rw [<-hp];clear hv h O hp
 go_enter Tryz.func33,Tryz.ntmps33
 go_upto_region 1 with fail;obtain ⟨D,r0,r1,r2,r3,r4,r5⟩:=CO w m Af cf Au cu At ct;simp only [Fr] at D r0 r1 r2 r3 r4 r5;generalize w.alloc _=w2 at D r0 r1 r2 r3 r4 r5⊢;have E:=zh D;have a3:za w2 w2:=za.refl w2;clear D
 go_wp2_with fail
 refine (HO.out _ E.out).mono ?_;rintro e w3 ⟨vc,rfl,J,M⟩;have U:=zh M;have V:Hid (za w w3):=E.out.trans J;obtain ⟨Ac,cc,rfl,-,-⟩:=M;clear J;simp only [jsc];go_upto_region 2 with fail;have hB:=ze.new w3 #[.slice Ac x.ch.length cc,.int .i64 x.steps,.int .i64 x.fin,.string ⟨x.sg.toArray⟩] 126 (g:=w3.heap.size) rfl;have G:za w3 (w3.alloc (.cells #[.slice Ac x.ch.length cc,.int .i64 x.steps,.int .i64 x.fin,.string ⟨x.sg.toArray⟩] 126)):=(za.refl w3).alloc _;generalize w3.alloc _=w4 at hB G⊢;obtain ⟨k0,k1,k2,k3⟩:=zR hB;have k0:=za.rule k0;have k1:=za.rule k1;have k2:=za.rule k2;have Q:=zh G;have hx:za w4 w4:=za.refl w4;clear hB G k3 r0 r1 r2 r3 r4 r5 a3;refine Cj fun Q' o a2=>?_;refine zB (S:=(fun W=>za w4 W)) zG (hx.drew) fun zH=>?_;generalize w4.drew=wd at zH⊢;refine AQ 0 o zH ?_;simp only [zc,Fv];refine AQ 1 o zH ?_;simp only [zc,Fv];refine AQ 2 o zH ?_;simp only [zc,Fv];refine AQ 3 o zH ?_;simp only [zc,Fv];refine AQ 4 o zH ?_;simp only [zc,Fv];refine AQ 5 o zH ?_;simp only [zc,Fv];refine AQ 6 o zH ?_;simp only [zc,Fv];refine AQ 7 o zH ?_;simp only [zc,Fv];refine AQ 8 o zH ?_;simp only [zc,Fv];refine AQ 9 o zH ?_;simp only [zc,Fv];refine rlZ 10 fun K hK=>?_;go_simp;have a0:Hid (za w4 _):=zH;go_simp;refine hK.out _ _ ?_;clear hK K;refine zP (by kernel_rfl) ?_ _;subst a2;clear hx k0 k1 k2;go_wp2;have I:=Q.out.trans a0.out;refine za5 (by simp [results,Tryz.results33,go_sem]) rfl ⟨_,rfl,V.out.trans I,(U.out.below I).weaken fun b hb=>FA E.out.size hb⟩
theorem jRead_calls {ok:Nat->Prop} {m:MZ} {s:List UInt8} (w:World) (J:zv w) (hm:Bx w ok v m ns) (I:CP m ns) (G:Lens m) (D:AV m=0) (o:s.length<=40000000):
  Calls Tryz.prog 33 #[v,.string ⟨s.toArray⟩] w (ReadPost w m (BB (zr m ns)) s):=by
 refine (jReadT_calls w J ⟨hm,G,fun _=>I⟩ o).mono ?_;rintro e w' ⟨vc,rfl,E,hI⟩;refine ⟨vc,_,_,rfl,E,hI,fun h=>?_,fun y h=>?_⟩
 ·unfold opT;rw [if_pos D,h];exact ⟨rfl,rfl⟩
 ·unfold opT;rw [if_pos D,h];exact ⟨rfl,rfl⟩
theorem jBeginT_calls {ok:Nat->Prop} {m:MZ} (w:World) (Q:zv w) (h:JP w ok v m ns):
  Calls Tryz.prog 28 #[v] w fun e w'=>e=.returned (.tuple #[.string ⟨(if AV m=0 then zx (BB (zr m ns)) else []).toArray⟩,.int .i64 (AV m)])/\za w w':=by
 by_cases D:AV m=0
 ·rw [if_pos D];refine (jBegin_calls w Q h.hm (h.hs D) h.hl D).mono ?_;rintro e w' ⟨rfl,hE⟩;exact ⟨by rw [D],hE⟩
 ·rw [if_neg D];have V:=zh h.hm.maze;have U:=zh h.hl;obtain ⟨Af,cf,Au,cu,At,ct,rfl,-,-,-⟩:=h.hm.maze.parts;obtain ⟨ck,E⟩:∃c,c=AV m:=⟨_,rfl⟩;rw [<-E] at D⊢;have a1:(ck != 0)=true:=by simp [D]
  have M:=zh E;clear Q h E
  go_enter Tryz.func28,Tryz.ntmps28
  go_upto_region 1 with fail;obtain ⟨o,r0,r1,r2,r3,r4,r5⟩:=CO w m Af cf Au cu At ct;simp only [Fr] at o r0 r1 r2 r3 r4 r5;generalize w.alloc _=w2 at o r0 r1 r2 r3 r4 r5⊢;have I:=zh o;have a2:za w2 w2:=za.refl w2;have G:Hid (Calls Tryz.prog 62 #[.agg #[.int .i64 m.w,.int .i64 m.h,.int .i64 m.l,.slice Af m.free.length cf,.slice Au m.up.length cu,.slice At m.tasks.length ct]] w2 fun e w'=>e=.returned (.int .i64 ck)/\za w2 w'):=by rw [M.out];exact BQ w2 (V.out.below I.out) U.out
  clear o
  go_wp2_with fail
  refine G.out.mono ?_;rintro e w3 ⟨rfl,J⟩;have O:Hid (za w w3):=I.out.trans J;clear J G
  go_wp2_with fail
  go_ret2
  exact ⟨rfl,O.out⟩
end
section
open Go.RowKit
attribute [local go_sem ↓] Go.wp_at_zero Go.wp_at_succ
structure QAt (w:World) (ok:Nat->Prop) (g:Nat) (m:MZ) (s:RS) (f u t vn:Value):Prop where
 blk:ze w g 190 #[.int .i64 m.w,.int .i64 m.h,.int .i64 m.l,f,u,t,vn,.bool s.done,.int .i64 s.steps,.bool true]
 maze:zL w ok (.agg #[.int .i64 m.w,.int .i64 m.h,.int .i64 m.l,f,u,t]) m
 now:zg w ok vn s.ch
 ng:¬ ok g
def QR2 (w:World) (ok:Nat->Prop) (g:Nat) (m:MZ) (s:RS):Prop:=∃f u t vn,QAt w ok g m s f u t vn
section
variable {w w':World} {ok ok':Nat->Prop} {g:Nat} {m:MZ} {s:RS} {f u t vn:Value}
theorem QAt.lt (h:QAt w ok g m s f u t vn):g<w.heap.size:=zd h.blk
theorem QAt.ext (h:QAt w ok g m s f u t vn) (o:za w w'):QAt w' ok g m s f u t vn:=⟨h.blk.ext o,h.maze.below o,h.now.below o,h.ng⟩
theorem QAt.keep (h:QAt w ok g m s f u t vn) (E:∀b,b<w.heap.size->b=g\/ok b->w'.heap[b]?=w.heap[b]?):QAt w' ok g m s f u t vn:=
 ⟨(E g h.lt (.inl rfl)).trans h.blk,h.maze.keep (fun b D o=>E b o (.inr D)),h.now.keep (fun b D o=>E b o (.inr D)),h.ng⟩
theorem QR2.keep (h:QR2 w ok g m s) (o:∀b,b<w.heap.size->b=g\/ok b->w'.heap[b]?=w.heap[b]?):QR2 w' ok g m s:=by
 obtain ⟨f,u,t,vn,h⟩:=h;exact ⟨f,u,t,vn,h.keep o⟩
theorem QR2.ext (h:QR2 w ok g m s) (o:za w w'):QR2 w' ok g m s:=by
 obtain ⟨f,u,t,vn,h⟩:=h;exact ⟨f,u,t,vn,h.ext o⟩
theorem QR2.weaken (h:QR2 w ok g m s) (o:∀b,ok b->ok' b) (D:¬ ok' g):QR2 w ok' g m s:=by
 obtain ⟨f,u,t,vn,h⟩:=h;exact ⟨f,u,t,vn,h.blk,h.maze.weaken o,h.now.weaken o,D⟩
theorem QR2.lt (h:QR2 w ok g m s):g<w.heap.size:=by
 obtain ⟨f,u,t,vn,h⟩:=h;exact h.lt
end
def DJ (w:World) (ok okc:Nat->Prop) (m:MZ) (ch:List Int) (st:Int) (e:Ending) (w':World):Prop:=
 ∃v,e=.returned (.tuple #[v,.int .i64 (loadE m ch st)])/\za w w'/\
  ((loadE m ch st≠0/\v=.pointer none)\/(loadE m ch st=0/\zZ m/\zw m ch/\∃g,v=ptrV g/\w.heap.size<=g/\QR2 w' (fun b=>(ok b\/w.heap.size<=b)/\b≠g) g m (loadS m ch st)))
theorem Fi {ok okc:Nat->Prop} {vc:Value} {m:MZ} {ch:List Int} (st:Int) (w:World) (hm:zL w ok v m) (hl:Lens m) (e9:zg w okc vc ch) (g0:ch.length<=20000000000000):
  Calls Tryz.prog 137 #[v,vc,.int .i64 st] w (DJ w ok okc m ch st):=by
 have b0:=zh hm;obtain ⟨vfr,vup,vts,rfl,-,-,-⟩:=hm;have b2:=zh e9;obtain ⟨A,c,rfl,g5,-⟩:=e9;have HL:=zh hl;clear hl;obtain ⟨ck,f0⟩:=zaI (AV m);have a8:=zh f0;clear f0
 go_enter Tryz.func137,Tryz.ntmps137
 go_wp2_with fail
 generalize e5:w.alloc (.cells #[.int .i64 m.w,.int .i64 m.h,.int .i64 m.l,vfr,vup,vts] 32)=w1;have a0:za w w1:=by rw [<-e5];exact (za.refl w).alloc _
 have f1:ze w1 w.heap.size 32 #[.int .i64 m.w,.int .i64 m.h,.int .i64 m.l,vfr,vup,vts]:=by rw [<-e5];exact zax _ _
 clear e5;obtain ⟨m0,m1,m2,m3,m4,m5⟩:=zt f1;have c0:=za.rule m0;have c1:=za.rule m1;have c2:=za.rule m2;have c3:=za.rule m3;have c4:=za.rule m4;have c5:=za.rule m5;clear m0 m1 m2 m3 m4 m5 f1;refine (BX w1 (b0.out.below a0) HL.out).mono ?_;rintro e w2 ⟨rfl,d6⟩;have d6:za w1 w2:=d6;have b5:za w w2:=a0.trans d6;rw [<-a8.out];by_cases h0:ck=0
 case neg=>
  have f2:(ck==0)=false:=by rw [FM];exact h0
  have U:(ck != 0)=true:=by rw [bne_iff_ne];exact h0
  have Q:loadE m ch st=ck:=by unfold loadE;rw [<-a8.out,if_pos h0]
  have o:Hid (DJ w ok okc m ch st (.returned (.tuple #[.pointer none,.int .i64 ck])) w2):=⟨_,by rw [Q],b5,.inl ⟨by rw [Q];exact h0,rfl⟩⟩;clear h0 Q
  go_wp2_with fail
  go_ret2
  exact o.out
 case pos=>
  subst h0;have HG:=zh (zZ.of a8.out.symm);by_cases b1:st<0
  ·have f2:decide (st<0)=true:=FB b1;have Q:loadE m ch st=1:=by unfold loadE;rw [<-a8.out,if_neg (by simp),if_pos b1]
   have o:Hid (DJ w ok okc m ch st (.returned (.tuple #[.pointer none,.int .i64 1])) w2):=⟨_,by rw [Q],b5,.inl ⟨by rw [Q];decide,rfl⟩⟩;clear Q
   go_wp2_with fail
   go_ret2
   exact o.out
  ·have f2:decide (st<0)=false:=FC b1;have d8:Hid (loadE m ch st=if (isChB m ch && (decide (ch=[]) || AA m ch))=true then 0 else 51):=by show _=_;unfold loadE;rw [<-a8.out,if_neg (by simp),if_neg b1]
   have g4:=zh b1;clear b1;by_cases a1:ch=[]
   ·have f9:ch.length=0:=by rw [a1];rfl
    have U:decide ((0:Int)<(ch.length:Int))=false:=FC (by omega);have a3:decide (0<ch.length)=false:=FC (by omega);have b4:Hid (loadE m ch st=0):=by show _=_;rw [d8.out,a1];rfl
    have a9:Hid (zw m ch):=by show zw _ _;rw [a1];exact zw.nil
    have d9:Hid (decide (ch=[])=decide (ch.length=0)):=by show _=_;rw [a1];rfl
    have e4:ch.length<=300:=by omega
    obtain ⟨wN,e6⟩:=zaI w2;have d7:za w1 wN:=by rw [e6];exact d6
    clear a1 f9;rw [<-e6];clear e6 b5 d6
    go_wp2_with fail
    go_upto_region 8 with fail;refine zab (S:=(fun W=>za w1 W)) zG (d7.drew) fun zH=>?_;have O:za w1 wN.drew:=zH;have e2:za wN wN.drew:=(za.refl wN).drew;generalize wN.drew=wd at e2 zH O⊢;refine zi 0 zH ?_;refine zi 2 zH ?_;simp only [zc,Fv];refine zi 4 zH ?_;simp only [zc,Fv];refine BO 1 fun K G=>?_;go_simp;refine zaJ G (zH.alloc _) fun zH=>?_;clear G K;try simp only [zc,Fv]
    refine BO 3 fun K G=>?_;refine zE (ok:=okc) (by rfl) _ _ _ (by rfl) wd.heap.size [] ch _ _ (by rfl) (by rfl) (Bw wd wd.heap.size (Fy _)) (b2.out.below ((a0.trans O).alloc _)) (by simp) (by simp;omega) ?_;intro vN w9 a2 c6 b7;have b3:Hid (za wd w9):=zK ((za.refl wd).alloc (.cells #[] 3)) c6 (by simp) (fun k J=>Ad (Bw wd wd.heap.size (Fy _)) J);rw [List.nil_append] at a2;have e0:=zh a2;obtain ⟨A9,n9,c9,rfl⟩:=AI a2;clear a2 c6 b7;refine zaJ G (O.trans b3.out) fun zH=>?_;clear G K;try simp only [zc,Fv]
    refine BO 5 fun K G=>?_;go_simp;refine zaJ G (zH) fun zH=>?_;clear G K;try simp only [zc,Fv]
    refine BO 6 fun K G=>?_;go_simp;refine zaJ G (zH.alloc _) fun zH=>?_;clear G K;try simp only [zc,Fv]
    refine BO 7 fun K G=>?_;go_simp;refine zaJ G (zH) fun zH=>?_;clear G K;try simp only [zc,Fv]
    refine zao (by kernel_rfl) ?_ _
    go_wp2_with fail
    have D:za w w9:=a0.trans (O.trans b3.out);have c8:=D.size;have a6:ze (w9.alloc (.cells #[.int .i64 m.w,.int .i64 m.h,.int .i64 m.l,vfr,vup,vts,.slice A9 n9 c9,.bool false,.int .i64 st,.bool true] 190)) w9.heap.size 190 #[.int .i64 m.w,.int .i64 m.h,.int .i64 m.l,vfr,vup,vts,.slice A9 n9 c9,.bool false,.int .i64 st,.bool true]:=ze.new _ _ _ rfl;have I:za w9 (w9.alloc (.cells #[.int .i64 m.w,.int .i64 m.h,.int .i64 m.l,vfr,vup,vts,.slice A9 n9 c9,.bool false,.int .i64 st,.bool true] 190)):=(za.refl w9).alloc _;generalize w9.alloc _=wX at a6 I zH⊢;refine (CD wX (b0.out.below (D.trans I)) HG.out HL.out (b2.out.below (D.trans I)) a9.out).mono ?_;rintro e wY ⟨rfl,a5⟩;have V:ze wY w9.heap.size 190 #[.int .i64 m.w,.int .i64 m.h,.int .i64 m.l,vfr,vup,vts,.slice A9 n9 c9,.bool false,.int .i64 st,.bool true]:=a6.ext a5;have f7:wY.cell? ⟨w9.heap.size,7,none⟩=some (.bool false):=V.cell (k:=7) rfl;have f8:wY.frozen? ⟨w9.heap.size,7,none⟩=false:=V.frozen 7
    have o:Hid (∀b,b=(zV m ch || (decide (ch=[]) && decide (0<st)))->DJ w ok okc m ch st (.returned (.tuple #[ptrV w9.heap.size,.int .i64 0])) (wY.setCell ⟨w9.heap.size,7,none⟩ (.bool b))):=fun b hb=>by
     have b6:za w wY:=D.trans (I.trans a5);have c7:Ao (fun b=>b≠w9.heap.size) wY (wY.setCell ⟨w9.heap.size,7,none⟩ (.bool b)):=fun k J _=>FH wY ⟨w9.heap.size,7,none⟩ _ k J
     refine ⟨_,by rw [b4.out],b6.setCell (by show _<=w9.heap.size;omega) _,.inr ⟨b4.out,HG.out,a9.out,w9.heap.size,rfl,by omega,vfr,vup,vts,.slice A9 n9 c9,?_,?_,?_,fun h=>h.2 rfl⟩⟩
     ·have h1:=V.set (k:=7) (.bool b);rw [hb] at h1⊢;exact h1
     ·have h1:=(b0.out.bound.below b6);exact (h1.weaken (ok':=fun b=>(ok b\/w.heap.size<=b)/\b≠w9.heap.size) (fun k J=>⟨.inl J.1,by have:=J.2;omega⟩)).keep (fun k J a7=>c7 k J.2 a7)
     ·have h1:zg w9 (fun k=>wd.heap.size<=k/\k<w9.heap.size) (.slice A9 n9 c9) ch:=(zg.bound (AS.of_own e0.out));have h2:=O.size;have h3:=a0.size;exact ((h1.below (I.trans a5)).weaken (ok':=fun b=>(ok b\/w.heap.size<=b)/\b≠w9.heap.size) (fun k J=>⟨.inr (by have:=J.1;omega),by have:=J.2;omega⟩)).keep (fun k J a7=>c7 k J.2 a7)
    clear a6 V I zH a5 D c8;obtain ⟨cb,b8⟩:=zaI (zV m ch);rw [<-b8] at o⊢;clear b8;cases cb
    ·rw [d9.out] at o;by_cases M:ch.length=0
     ·rw [FB M] at o;by_cases a4:0<st
      ·have E:=zh (o.out true (by rw [FB a4];rfl));have e3:decide (0<st)=true:=FB a4;have b9:((ch.length:Int)==0)=true:=by rw [beq_iff_eq];omega
       clear o M U a3
       go_wp2_with fail
       go_ret2
       exact E.out
      ·have E:=zh (o.out false (by rw [FC a4];rfl));have e3:decide (0<st)=false:=FC a4;have b9:((ch.length:Int)==0)=true:=by rw [beq_iff_eq];omega
       clear o M U a3
       go_wp2_with fail
       go_ret2
       exact E.out
     ·rw [FC M] at o;have E:=zh (o.out false rfl);have b9:((ch.length:Int)==0)=false:=by rw [FM];omega
      clear o M U a3
      go_wp2_with fail
      go_ret2
      exact E.out
    ·have E:=zh (o.out true rfl);clear o U a3
     go_wp2_with fail
     go_ret2
     exact E.out
   ·have g1:=List.length_pos_iff.2 a1;have U:decide ((0:Int)<(ch.length:Int))=true:=FB (by omega);have a3:decide (0<ch.length)=true:=FB g1;have d9:Hid (decide (ch=[])=decide (ch.length=0)):=by show _=_;rw [FC a1,FC (by omega)]
    have e1:Hid (openO m ch=(isChB m ch && AA m ch)):=by show _=_;unfold openO EH;rw [<-a8.out];rfl
    have e7:Hid (decide (ch=[])=false):=FC a1;clear a1
    go_wp2_with fail
    refine (qOpen_calls w2 (b0.out.below b5) HL.out (b2.out.below b5) g0).mono ?_;rintro e wN ⟨rfl,f3⟩;have d7:za w1 wN:=za.trans ‹za w1 w2› f3;have f5:za w wN:=a0.trans d7
    cases d5:openO m ch
    ·have Q:loadE m ch st=51:=by
      rw [d8.out,e7.out,Bool.false_or,<-e1.out,d5];rfl
     have o:Hid (DJ w ok okc m ch st (.returned (.tuple #[.pointer none,.int .i64 51])) wN):=⟨_,by rw [Q],f5,.inl ⟨by rw [Q];decide,rfl⟩⟩;clear Q d5
     go_wp2_with fail
     go_ret2
     exact o.out
    ·have b4:Hid (loadE m ch st=0):=by
      show _=_;rw [d8.out,e7.out,Bool.false_or,<-e1.out,d5];rfl
     have a9:Hid (zw m ch):=by
      have h1:=e1.out;rw [d5,eq_comm,FK] at h1;exact AX.1 h1.1
     have e4:ch.length<=300:=a9.out.len300 HG.out;clear d5
     go_wp2_with fail
     refine zab (S:=(fun W=>za w1 W)) zG (d7.drew) fun zH=>?_;have O:za w1 wN.drew:=zH;have e2:za wN wN.drew:=(za.refl wN).drew;generalize wN.drew=wd at e2 zH O⊢;refine zi 0 zH ?_;refine zi 2 zH ?_;simp only [zc,Fv];refine zi 4 zH ?_;simp only [zc,Fv];refine BO 1 fun K G=>?_;go_simp;refine zaJ G (zH.alloc _) fun zH=>?_;clear G K;try simp only [zc,Fv]
     refine BO 3 fun K G=>?_;refine zE (ok:=okc) (by rfl) _ _ _ (by rfl) wd.heap.size [] ch _ _ (by rfl) (by rfl) (Bw wd wd.heap.size (Fy _)) (b2.out.below ((a0.trans O).alloc _)) (by simp) (by simp;omega) ?_;intro vN w9 a2 c6 b7;have b3:Hid (za wd w9):=zK ((za.refl wd).alloc (.cells #[] 3)) c6 (by simp) (fun k J=>Ad (Bw wd wd.heap.size (Fy _)) J);rw [List.nil_append] at a2;have e0:=zh a2;obtain ⟨A9,n9,c9,rfl⟩:=AI a2;clear a2 c6 b7;refine zaJ G (O.trans b3.out) fun zH=>?_;clear G K;try simp only [zc,Fv]
     refine BO 5 fun K G=>?_;go_simp;refine zaJ G (zH) fun zH=>?_;clear G K;try simp only [zc,Fv]
     refine BO 6 fun K G=>?_;go_simp;refine zaJ G (zH.alloc _) fun zH=>?_;clear G K;try simp only [zc,Fv]
     refine BO 7 fun K G=>?_;go_simp;refine zaJ G (zH) fun zH=>?_;clear G K;try simp only [zc,Fv]
     refine zao (by kernel_rfl) ?_ _
     go_wp2_with fail
     have D:za w w9:=a0.trans (O.trans b3.out);have c8:=D.size;have a6:ze (w9.alloc (.cells #[.int .i64 m.w,.int .i64 m.h,.int .i64 m.l,vfr,vup,vts,.slice A9 n9 c9,.bool false,.int .i64 st,.bool true] 190)) w9.heap.size 190 #[.int .i64 m.w,.int .i64 m.h,.int .i64 m.l,vfr,vup,vts,.slice A9 n9 c9,.bool false,.int .i64 st,.bool true]:=ze.new _ _ _ rfl;have I:za w9 (w9.alloc (.cells #[.int .i64 m.w,.int .i64 m.h,.int .i64 m.l,vfr,vup,vts,.slice A9 n9 c9,.bool false,.int .i64 st,.bool true] 190)):=(za.refl w9).alloc _;generalize w9.alloc _=wX at a6 I zH⊢;refine (CD wX (b0.out.below (D.trans I)) HG.out HL.out (b2.out.below (D.trans I)) a9.out).mono ?_;rintro e wY ⟨rfl,a5⟩;have V:ze wY w9.heap.size 190 #[.int .i64 m.w,.int .i64 m.h,.int .i64 m.l,vfr,vup,vts,.slice A9 n9 c9,.bool false,.int .i64 st,.bool true]:=a6.ext a5;have f7:wY.cell? ⟨w9.heap.size,7,none⟩=some (.bool false):=V.cell (k:=7) rfl;have f8:wY.frozen? ⟨w9.heap.size,7,none⟩=false:=V.frozen 7
     have o:Hid (∀b,b=(zV m ch || (decide (ch=[]) && decide (0<st)))->DJ w ok okc m ch st (.returned (.tuple #[ptrV w9.heap.size,.int .i64 0])) (wY.setCell ⟨w9.heap.size,7,none⟩ (.bool b))):=fun b hb=>by
      have b6:za w wY:=D.trans (I.trans a5);have c7:Ao (fun b=>b≠w9.heap.size) wY (wY.setCell ⟨w9.heap.size,7,none⟩ (.bool b)):=fun k J _=>FH wY ⟨w9.heap.size,7,none⟩ _ k J
      refine ⟨_,by rw [b4.out],b6.setCell (by show _<=w9.heap.size;omega) _,.inr ⟨b4.out,HG.out,a9.out,w9.heap.size,rfl,by omega,vfr,vup,vts,.slice A9 n9 c9,?_,?_,?_,fun h=>h.2 rfl⟩⟩
      ·have h1:=V.set (k:=7) (.bool b);rw [hb] at h1⊢;exact h1
      ·have h1:=(b0.out.bound.below b6);exact (h1.weaken (ok':=fun b=>(ok b\/w.heap.size<=b)/\b≠w9.heap.size) (fun k J=>⟨.inl J.1,by have:=J.2;omega⟩)).keep (fun k J a7=>c7 k J.2 a7)
      ·have h1:zg w9 (fun k=>wd.heap.size<=k/\k<w9.heap.size) (.slice A9 n9 c9) ch:=(zg.bound (AS.of_own e0.out));have h2:=O.size;have h3:=a0.size;exact ((h1.below (I.trans a5)).weaken (ok':=fun b=>(ok b\/w.heap.size<=b)/\b≠w9.heap.size) (fun k J=>⟨.inr (by have:=J.1;omega),by have:=J.2;omega⟩)).keep (fun k J a7=>c7 k J.2 a7)
     clear a6 V I zH a5 D c8;obtain ⟨cb,b8⟩:=zaI (zV m ch);rw [<-b8] at o⊢;clear b8;cases cb
     ·rw [d9.out] at o;by_cases M:ch.length=0
      ·rw [FB M] at o;by_cases a4:0<st
       ·have E:=zh (o.out true (by rw [FB a4];rfl));have e3:decide (0<st)=true:=FB a4;have b9:((ch.length:Int)==0)=true:=by rw [beq_iff_eq];omega
        clear o M U a3
        go_wp2_with fail
        go_ret2
        exact E.out
       ·have E:=zh (o.out false (by rw [FC a4];rfl));have e3:decide (0<st)=false:=FC a4;have b9:((ch.length:Int)==0)=true:=by rw [beq_iff_eq];omega
        clear o M U a3
        go_wp2_with fail
        go_ret2
        exact E.out
      ·rw [FC M] at o;have E:=zh (o.out false rfl);have b9:((ch.length:Int)==0)=false:=by rw [FM];omega
       clear o M U a3
       go_wp2_with fail
       go_ret2
       exact E.out
     ·have E:=zh (o.out true rfl);clear o U a3
      go_wp2_with fail
      go_ret2
      exact E.out
end
section
open Go.RowKit Go.Shelf
attribute [local go_sem ↓] Go.wp_at_zero Go.wp_at_succ
attribute [local go_sem] Oper.semAt_some
def rdC (s:List UInt8) (x:JS):List Int:=(AJ ((Cd (s.drop x.fin,false)).1,false)).1
def rdK (s:List UInt8) (x:JS):Int×Rd:=Br (AJ ((Cd (s.drop x.fin,false)).1,false)).2
theorem nextJ_n1 {m:MZ} {s:List UInt8} (h:(rdK s x).2.2=true\/(rdK s x).1<=x.steps):Aj m s x=none:=by
 unfold Aj;exact if_pos (.inr h)
theorem nextJ_n2 {m:MZ} {s:List UInt8} (h:loadE m (rdC s x) (rdK s x).1≠0):Aj m s x=none:=by
 unfold Aj;simp only
 split
 ·rfl
 split
 ·rfl
 exact if_pos h
theorem nextJ_n3 {m:MZ} {s:List UInt8} (h:¬ Ay x.sg (rdC s x) (rdK s x).1 <+: s.drop x.fin):Aj m s x=none:=by
 unfold Aj;simp only
 split
 ·rfl
 exact if_pos h
theorem rdC_len (s:List UInt8) (x:JS):(rdC s x).length<=s.length:=by
 have h1:=intsF_cl ((Cd (s.drop x.fin,false)).1,false);have h2:=(textF_len (s.drop x.fin,false)).1;have h3:(s.drop x.fin).length<=s.length:=by rw [zaC];omega
 unfold rdC;dsimp only at h1 h2;omega
theorem rdC_ok (s:List UInt8) (x:JS):∀n∈rdC s x,Cz n:=(intsF_lv _).2
theorem rd_body {s:List UInt8} (h:s.length<=40000000):(BP (rdC s x) (rdK s x).1).length<=900000000:=by
 have h1:=wIs_len2 (l:=rdC s x) (rdC_ok s x);have h2:=Ca (n:=(rdK s x).1) (Do _);have h3:=rdC_len s x;unfold BP;rw [FG];omega
theorem nextJ_y {m:MZ} {s:List UInt8} (o:s.length<=40000000) (h:Ay x.sg (rdC s x) (rdK s x).1 <+: s.drop x.fin) (h1:x.steps<(rdK s x).1) (h2:loadE m (rdC s x) (rdK s x).1=0):
  Aj m s x=some ⟨rdC s x,(rdK s x).1,x.fin+(Ay x.sg (rdC s x) (rdK s x).1).length,zY x.sg (rdC s x) (rdK s x).1⟩:=
 nextJ_rec ⟨rdC_ok s x,Do _,by have:=rd_body (x:=x) o;omega⟩ h h1 h2
theorem ext_chg {a b c:World} {r:Nat} (h:za a b) (o:zu (·=r) b c) (D:a.heap.size<=r):za a c:=Below.trans h (o.below (Below.size h) (fun k e=>by subst e;exact D))
def JBox (W:World) (g:Nat) (A:Option Addr) (n c:Nat) (x:JS):Prop:=ze W g 146 #[.slice A n c,.int .i64 x.steps,.string ⟨x.sg.toArray⟩,.int .i64 x.fin]
theorem DX {g:Nat} (h:JBox W g A n c x):W.cell? ⟨g,0,none⟩=some (.slice A n c)/\W.cell? ⟨g,1,none⟩=some (.int .i64 x.steps)/\W.cell? ⟨g,2,none⟩=some (.string ⟨x.sg.toArray⟩)/\W.cell? ⟨g,3,none⟩=some (.int .i64 x.fin):=
 ⟨h.cell (k:=0) rfl,h.cell (k:=1) rfl,h.cell (k:=2) rfl,h.cell (k:=3) rfl⟩
def jSize (g L:Nat) (w:World):Nat:=match w.cell? ⟨g,3,none⟩ with
 | some (.int _ p)=>L - p.toNat
 | _=>0
theorem jSize_of {g L:Nat} (h:JBox W g A n c x):jSize g L W=L - x.fin:=by
 unfold jSize;rw [(DX h).2.2.2];simp
end
end Go.Proofs.YtjomnbdjajjgfaaGreatDoor
