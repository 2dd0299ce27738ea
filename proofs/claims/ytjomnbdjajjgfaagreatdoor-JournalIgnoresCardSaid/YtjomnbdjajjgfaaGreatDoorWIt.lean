import Derived.Test.YtjomnbdjajjgfaaGreatDoorWIs
import Derived.Scope
import Derived.LoopIn
set_option linter.unusedVariables false
set_option linter.unusedSimpArgs false
set_option maxRecDepth 100000
set_option maxHeartbeats 16000000
namespace Go.Proofs.YtjomnbdjajjgfaaGreatDoor
variable {x:JS} {ns:List ByteArray} {id s:List UInt8} {bs xs:List Value} {m:MZ} {B base n size:Nat} {K X ok:Nat->Prop} {P:Program} {v:Value} {w w':World}
section
open Go.RowKit Go.Shelf
attribute [local go_sem ↓] Go.wp_at_zero Go.wp_at_succ
attribute [local go_sem] Oper.semAt_some
theorem AT.apartJ {b:Nat} {A:Option Addr} (h:AT w ok size A n xs) (G:0<size) (E:∀off,w.cell? ⟨b,off,none⟩=none):AT w (fun k=>ok k/\k≠b) size A n xs:=by
 refine ⟨h.1,fun o=>?_⟩;obtain ⟨k,off,e,D,d⟩:=h.2 o;have h0:0<xs.length:=by rw [h.1];exact Nat.mul_pos o G
 refine ⟨k,off,e,⟨D,?_⟩,d⟩;rintro rfl;have h1:=d 0 _ (DW h0);rw [E] at h1;cases h1
theorem zk.apartJ {w:World} {ok:Nat->Prop} {v:Value} {l:List Int} {b:Nat} (h:zk w ok v l) (o:∀off,w.cell? ⟨b,off,none⟩=none):zk w (fun k=>ok k/\k≠b) v l:=by
 obtain ⟨A,c,e,d,D⟩:=h;exact ⟨A,c,e,d,D.apartJ (by decide) o⟩
theorem jStates_calls {R:Nat->Prop} {cf cu ct:Nat} {Af Au At:Option Addr} (id s:List UInt8) (w:World) (o:zq w) (hm:zY w R (.agg (mzc m Af cf Au cu At ct)) m):
  Calls Tryz.prog 145 #[.agg #[.int .i64 m.w,.int .i64 m.h,.int .i64 m.l,.slice Af m.free.length cf,.slice Au m.up.length cu,.slice At m.tasks.length ct],.string ⟨s.toArray⟩,.string ⟨id.toArray⟩] w fun e w'=>∃gi gs gm,e=.returned (.func (.func 197) #[] #[.pointer (some ⟨gi,0,none⟩),.pointer (some ⟨gs,0,none⟩),.pointer (some ⟨gm,0,none⟩)])/\za w w'/\w.heap.size<=gi/\w.heap.size<=gs/\w.heap.size<=gm/\JCtx w' gi gs gm id s (mzc m Af cf Au cu At ct) m R:=by
 have D:=zh hm;have E:=zh o;clear hm o
 go_enter Tryz.func145,Tryz.ntmps145
 go_wp2_with fail
 go_ret;have h1:za w (w.alloc (.cells (mzc m Af cf Au cu At ct) 32)):=(za.refl w).alloc _;have d:=(h1.alloc (.cells #[.string ⟨s.toArray⟩] 9)).alloc (.cells #[.string ⟨id.toArray⟩] 9);refine ⟨_,_,_,rfl,d,by omega,by omega,by omega,?_,?_,?_,D.out.below d,E.out.ext d⟩
 ·exact zl.new _ _ _ (by simp)
 ·exact (zl.new (w.alloc (.cells (mzc m Af cf Au cu At ct) 32)) #[.string ⟨s.toArray⟩] 9 (by simp)).alloc _
 ·exact ((zl.new w (mzc m Af cf Au cu At ct) 32 rfl).alloc _).alloc _
def OpenPost (w:World) (m:MZ) (id s:List UInt8) (e:Ending) (w':World):Prop:=
 ∃vc x er,e=.returned (.tuple #[.agg (jsc vc x),.int .i64 er])/\za w w'/\zk w' (fun b=>w.heap.size<=b) vc x.ch/\(zG m (zr id) id s=none->er=4/\x=⟨[],0,0,[]⟩)/\(∀y,zG m (zr id) id s=some y->er=0/\x=y)
def OpI (wp:World) (g4:Nat) (L:List JS) (gx k:Nat) (W:World):Prop:=
 zC (fun b=>b=g4) wp W/\∃a b c d,zl W g4 126 #[a,b,c,d]/\∀j,k=j+1->∃y vc,L[j]?=some y/\#[a,b,c,d]=jsc vc y/\zk W (fun b=>wp.heap.size+2<=b/\b≠gx) vc y.ch
theorem jOpen_calls (w:World) (hv:zq w) (hm:Bt w ok v m ns) (hs:CF m ns) (hl:Lens m) (hc:BM m=0) (g6:s.length<=40000000):
  Calls Tryz.prog 79 #[v,.string ⟨s.toArray⟩] w (OpenPost w m (BT (zw m ns)) s):=by
 refine (callsIn_wide (n:=6)).1 ?_;have HM:=zh hm;have HV:=zh hv;have HS:=zh hs;have HL:=zh hl;have HC:=zh hc;have i9:=zh g6;obtain ⟨f,u,t,rfl,⟨_,⟨Af,cf,rfl,-,-⟩,-⟩,⟨Au,cu,rfl,-,-⟩,⟨-,_,⟨At,ct,rfl,-,-⟩,-⟩⟩:=hm;obtain ⟨id,hid⟩:∃x,x=BT (zw m ns):=⟨_,rfl⟩;rw [<-hid];have i5:=zh hid;have a9:id.length=8:=by rw [hid];exact AN _
 have e7:=zh a9;clear hv hs hl hc g6 hid a9;refine callsIn_of_wp_marks Tryz.func79 rfl trivial ?_ rfl;simp only [Tryz.ntmps79,List.size_toArray,Fb,Fc,Nat.reduceAdd,Nat.reduceSub,Array.replicate_succ,Array.replicate_zero,List.push_toArray,List.append_toArray,List.nil_append,List.cons_append]
 gi_upto_region 1 with fail
 have a3:=zl.new w #[.int .i64 m.w,.int .i64 m.h,.int .i64 m.l,.slice Af m.free.length cf,.slice Au m.up.length cu,.slice At m.tasks.length ct] 32 (g:=w.heap.size) rfl;have b6:za w (w.alloc (.cells #[.int .i64 m.w,.int .i64 m.h,.int .i64 m.l,.slice Af m.free.length cf,.slice Au m.up.length cu,.slice At m.tasks.length ct] 32)):=(za.refl w).alloc _;have a7:(w.alloc (.cells #[.int .i64 m.w,.int .i64 m.h,.int .i64 m.l,.slice Af m.free.length cf,.slice Au m.up.length cu,.slice At m.tasks.length ct] 32)).heap.size=w.heap.size+1:=by simp
 generalize w.alloc _=w1 at a3 b6 a7⊢;have Q:=zl.new w1 #[.slice none 0 0,.int .i64 0,.int .i64 0,.string ⟨#[]⟩] 126 (g:=w1.heap.size) rfl;have a4:za w1 (w1.alloc (.cells #[.slice none 0 0,.int .i64 0,.int .i64 0,.string ⟨#[]⟩] 126)):=(za.refl w1).alloc _;have d6:(w1.alloc (.cells #[.slice none 0 0,.int .i64 0,.int .i64 0,.string ⟨#[]⟩] 126)).heap.size=w.heap.size+2:=by simp [a7]
 generalize w1.alloc _=w2 at Q a4 d6⊢;rw [a7] at Q;obtain ⟨gm,c6⟩:∃g,g=w.heap.size:=⟨_,rfl⟩;obtain ⟨g4,b9⟩:∃g,g=w.heap.size+1:=⟨_,rfl⟩;rw [<-b9] at Q⊢;rw [<-c6] at a3⊢;have HG:Hid (gm=w.heap.size/\g4=w.heap.size+1/\w2.heap.size=w.heap.size+2):=⟨c6,b9,d6⟩;have i1:=zh (a3.ext a4);have b1:=zh Q;have E:Hid (za w w2):=b6.trans a4;obtain ⟨r0,r1,r2,r3,r4,r5⟩:=zt i1.out;have r0:=za.rule r0;have r1:=za.rule r1;have r2:=za.rule r2;have r3:=za.rule r3;have r4:=za.rule r4;have r5:=za.rule r5;obtain ⟨k0,k1,k2,k3⟩:=z7 b1.out;have k0:=za.rule k0;have k1:=za.rule k1;have k2:=za.rule k2;have k3:=za.rule k3;have m2:za w2 w2:=za.refl w2;clear a3 b6 a7 Q a4 d6 c6 b9;have e1:Hid (Calls Tryz.prog 62 #[.agg #[.int .i64 m.w,.int .i64 m.h,.int .i64 m.l,.slice Af m.free.length cf,.slice Au m.up.length cu,.slice At m.tasks.length ct]] w2 fun e w'=>e=.returned (.int .i64 0)/\za w2 w'):=by have h:=De w2 (HM.out.maze.below E.out) HL.out;rw [HC.out] at h;exact h
 gi_wp2_with fail
 refine ⟨trivial,?_⟩;refine (callsIn_wide.2 e1.out).mono ?_;rintro e w3 ⟨rfl,f8⟩;have c9:za w2 w3:=f8;have HD:Hid (∀W,za w2 W->Calls Tryz.prog 76 #[.agg #[.int .i64 m.w,.int .i64 m.h,.int .i64 m.l,.slice Af m.free.length cf,.slice Au m.up.length cu,.slice At m.tasks.length ct]] W fun e w'=>e=.returned (.string ⟨id.toArray⟩)/\za W w'):=fun W h=>by have:=DE W (HV.out.ext (E.out.trans h)) (HM.out.below (E.out.trans h)) HS.out;rw [<-i5.out] at this;exact this
 clear f8 e1
 gi_wp2_with fail
 refine ⟨trivial,?_⟩;refine (callsIn_wide.2 (HD.out _ c9)).mono ?_;rintro e w4 ⟨rfl,f9⟩;have d4:za w2 w4:=c9.trans f9;clear f9 HD c9;have e5:Hid (∀W,za w2 W->Calls Tryz.prog 75 #[.string ⟨id.toArray⟩] W fun e w'=>e=.returned (.string ⟨(zr id).toArray⟩)/\za W w'):=fun W h=>Dk W (HV.out.ext (E.out.trans h)) (by have:=e7.out;omega)
 gi_wp2_with fail
 refine ⟨trivial,?_⟩;refine (callsIn_wide.2 (e5.out _ d4)).mono ?_;rintro e w5 ⟨rfl,g0⟩;have J:za w2 w5:=d4.trans g0;clear g0 e5 d4;have O:=zh (pre_calls s (zr id) w5);by_cases hp:zr id <+: s
 ·have U:(zr id).isPrefixOf s=true:=List.isPrefixOf_iff_prefix.2 hp;rw [U] at O;have HP:=zh hp;have f0:=zh (jStates_calls (R:=fun b=>b<w.heap.size) id s w5 (HV.out.ext (E.out.trans J)) (((HM.out.maze.bound).weaken fun b G=>G.2).below (E.out.trans J)));clear hp U
  gi_wp2_with fail
  refine ⟨trivial,?_⟩;refine (callsIn_wide.2 O.out).mono ?_;rintro e wb ⟨rfl,rfl⟩
  gi_wp2_with fail
  refine ⟨trivial,?_⟩;refine (callsIn_wide.2 f0.out).mono ?_;rintro e wp ⟨gi,gs,gq,rfl,g1,j5,j8,j7,g3⟩;have d5:za w2 wp:=J.trans g1;have f2:=zh d5;have i2:=zh (b1.out.ext d5);have j2:=J.size;have I:Hid (w2.heap.size<=wp.heap.size):=d5.size
  have e4:=zh (fun n=>jStates_gives (Z:=fun b=>b=g4) wp g3 HL.out HC.out e7.out i9.out HP.out.length_le (fun b G=>by have h1:=HG.out;have h2:=I.out;exact ⟨by omega,by omega⟩) (by have h1:=HG.out;exact ⟨by omega,by omega,by omega⟩)
   (fun b G=>by have h1:=HG.out;have h2:=I.out;exact ⟨by omega,var_new HV.out (by omega)⟩) n)
  obtain ⟨L,hL⟩:=Fd (allJ m s s.length (j0 id));rw [<-hL] at e4;have e8:=zh hL;clear g1 j5 j8 j7 g3 J f0 O j2 hL k0 k1 k2 k3
  gi_wp2_with fail
  refine wpIn_loopJ (gf:=197) (lb:=#[.pointer (some ⟨gi,0,none⟩),.pointer (some ⟨gs,0,none⟩),.pointer (some ⟨gq,0,none⟩)]) rfl (enters_of Tryz.func197 (by kernel_rfl) rfl) (Z:=fun b=>b=g4) (fun b G=>by have h1:=HG.out;have h2:=I.out;omega) (e4.out _) (za.refl wp) (fun _=>rfl)
   (OpI wp g4 L) ?hI (fun gx k x a W'=>∃y vc g8 u0 u1 u2 u3 u5 u6 u7 u9 u10 u11 u12 u13 u14 u15 u16 u17 u18 u19 u20 u21 u22 u23 u24 u25 u26 u27 u28 u29,L[k]?=some y/\x=.agg (jsc vc y)/\a={ tmps:=#[u0,u1,u2,u3,.pointer (some ⟨g4,0,none⟩),u5,u6,u7,.pointer (some ⟨g8,0,none⟩),u9,u10,u11,u12,u13,u14,u15,u16,u17,u18,u19,u20,u21,u22,u23,u24,u25,u26,u27,u28,u29],defers:=[] }/\zl W' g8 126 (jsc vc y)/\wp.heap.size<=g8/\zk W' (fun b=>wp.heap.size+2<=b/\b≠gx) vc y.ch) ?hAx ?hI0 ?hassign ?hbody ?hdone
  case hI=>
   rintro gx k A B c7 ⟨h1,a,b,c,d,h2,h3⟩ b3;have h4:=HG.out;have h5:=I.out;refine ⟨zC.trans h1 b3 (fun k hk hX=>by omega),a,b,c,d,b3.blk h2 (by omega),fun j hj=>?_⟩;obtain ⟨y,vc,h6,h7,h8⟩:=h3 j hj;exact ⟨y,vc,h6,h7,h8.keep (b3.same fun b G e=>by omega)⟩
  case hAx=>
   rintro gx k x a A l ⟨y,vc,g8,u0,u1,u2,u3,u5,u6,u7,u9,u10,u11,u12,u13,u14,u15,u16,u17,u18,u19,u20,u21,u22,u23,u24,u25,u26,u27,u28,u29,h1,h2,h3,h4,h5,h6⟩ h7 h8 ⟨r,hr⟩ o;have k5:∀off,A.cell? ⟨l,off,none⟩=none:=fun off=>by unfold World.cell?;simp only [hr]
   have j6:g8≠l:=by
    rintro rfl;unfold zl at h4;rw [hr] at h4;cases h4
   refine ⟨y,vc,g8,u0,u1,u2,u3,u5,u6,u7,u9,u10,u11,u12,u13,u14,u15,u16,u17,u18,u19,u20,u21,u22,u23,u24,u25,u26,u27,u28,u29,h1,h2,h3,(World.putObj_heap_other j6).trans h4,h5,?_⟩;exact ((h6.apartJ k5).keep (fun b G _=>World.putObj_heap_other G.2)).weaken fun b G=>G.1
  case hI0=>
   intro gx W hE;exact ⟨zC.of_ext hE,_,_,_,_,i2.out.ext hE,fun j hj=>by omega⟩
  case hassign=>
   rintro l gx k x W0 K c7 k4 - ⟨y,vc,a5,rfl,hi⟩ hs hK;obtain ⟨Av,cv,rfl,-,-⟩:=_root_.id hi;rw [fold_one];simp only [jsc];have i6:=zh hi;clear hi
   gi_wp2_with fail
   have hE:=(za.refl W0).alloc (.cells (jsc (.slice Av y.ch.length cv) y) 126);exact hK _ _ hE ⟨y,.slice Av y.ch.length cv,_,_,_,_,_,_,_,_,_,_,_,_,_,_,_,_,_,_,_,_,_,_,_,_,_,_,_,_,_,a5,rfl,rfl,zl.new _ _ _ rfl,Nat.le_of_lt hs,i6.out.below hE⟩
  case hbody=>
   rintro l gx k x a W0 c7 k4 ⟨f3,a0,b0,c0,d0,a2,-⟩ ⟨y,vc,g8,u0,u1,u2,u3,u5,u6,u7,u9,u10,u11,u12,u13,u14,u15,u16,u17,u18,u19,u20,u21,u22,u23,u24,u25,u26,u27,u28,u29,a5,rfl,rfl,b4,j4,b7⟩ hs ⟨rl,k6⟩;obtain ⟨Av,cv,rfl,-,-⟩:=_root_.id b7;simp only [jsc] at b4;obtain ⟨p0,p1,p2,p3⟩:=z7 b4;obtain ⟨q0,q1,q2,q3⟩:=z7 a2;have fz:∀j,W0.frozen? ⟨g4,j,none⟩=false:=fun j=>a2.frozen j
   have i0:=zh a2;have i3:=zh f3;have i4:=zh b7;have i7:=zh a5;clear b4 a2 f3 b7 a5 k6 hs j4
   gi_wp2_with fail
   have h1:=HG.out;have h2:=I.out;have hC:zC (fun b=>b=g4) W0 ((((W0.setCell ⟨g4,0,none⟩ (.slice Av y.ch.length cv)).setCell ⟨g4,1,none⟩ (.int .i64 y.steps)).setCell ⟨g4,2,none⟩ (.int .i64 y.fin)).setCell ⟨g4,3,none⟩ (.string ⟨y.sg.toArray⟩)):=((((zC.refl (fun b=>b=g4) W0).set g4 0 _ rfl).set g4 1 _ rfl).set g4 2 _ rfl).set g4 3 _ rfl;refine ⟨hC,i3.out.tr hC,_,_,_,_,(((i0.out.set (k:=0) _).set (k:=1) _).set (k:=2) _).set (k:=3) _,fun j hj=>?_⟩;obtain rfl:k=j:=by omega
   exact ⟨y,.slice Av y.ch.length cv,i7.out,rfl,i4.out.keep (hC.same fun b G e=>by omega)⟩
  case hdone=>
   rintro D gx W3 f5 f6 c7 ⟨f4,a0,b0,c0,d0,M,V⟩ b8;have g5:0<L.length:=by rw [e8.out];exact allJ_pos _ _ _ _
   obtain ⟨y,vc,hy,he,hi⟩:=V (L.length - 1) (by omega)
   have g7:y=endJ m s (j0 id):=by
    have h:=allJ_last m s s.length (j0 id);rw [<-e8.out,hy] at h;injection h
   obtain ⟨Av,cv,rfl,-,-⟩:=_root_.id hi;rw [he] at M;simp only [jsc] at M;obtain ⟨q0,q1,q2,q3⟩:=z7 M;have fz:∀j,W3.frozen? ⟨g4,j,none⟩=false:=fun j=>M.frozen j
   have h1:=HG.out;have h2:=I.out;have hC:zC (fun b=>b=g4) wp ((((W3.setCell ⟨g4,0,none⟩ (.slice Av y.ch.length cv)).setCell ⟨g4,1,none⟩ (.int .i64 y.steps)).setCell ⟨g4,2,none⟩ (.int .i64 y.fin)).setCell ⟨g4,3,none⟩ (.string ⟨y.sg.toArray⟩)):=(((f4.set g4 0 _ rfl).set g4 1 _ rfl).set g4 2 _ rfl).set g4 3 _ rfl;have hB:zl ((((W3.setCell ⟨g4,0,none⟩ (.slice Av y.ch.length cv)).setCell ⟨g4,1,none⟩ (.int .i64 y.steps)).setCell ⟨g4,2,none⟩ (.int .i64 y.fin)).setCell ⟨g4,3,none⟩ (.string ⟨y.sg.toArray⟩)) g4 126 #[.slice Av y.ch.length cv,.int .i64 y.steps,.int .i64 y.fin,.string ⟨y.sg.toArray⟩]:=(((M.set (k:=0) _).set (k:=1) _).set (k:=2) _).set (k:=3) _;have b5:zC (fun b=>b=g4) W3 ((((W3.setCell ⟨g4,0,none⟩ (.slice Av y.ch.length cv)).setCell ⟨g4,1,none⟩ (.int .i64 y.steps)).setCell ⟨g4,2,none⟩ (.int .i64 y.fin)).setCell ⟨g4,3,none⟩ (.string ⟨y.sg.toArray⟩)):=((((zC.refl (fun b=>b=g4) W3).set g4 0 _ rfl).set g4 1 _ rfl).set g4 2 _ rfl).set g4 3 _ rfl;have e0:=zh hC;have d9:=zh hB;have e6:=zh (hi.keep (b5.same fun b G e=>by omega));have e3:Hid (((((W3.setCell ⟨g4,0,none⟩ (.slice Av y.ch.length cv)).setCell ⟨g4,1,none⟩ (.int .i64 y.steps)).setCell ⟨g4,2,none⟩ (.int .i64 y.fin)).setCell ⟨g4,3,none⟩ (.string ⟨y.sg.toArray⟩)).heap[D]?=some (.deferred (some []))):=(b5.block D (zc b8) (by omega)).trans b8;have j1:=zh g7;have e2:Hid (wp.heap.size<=D/\D<=wp.heap.size):=⟨f5,f6⟩;clear hC hB b5 g7 f4 M V b8 hy he hi g5 h1 h2 f5 f6
   gi_wp2_with fail
   generalize ((((W3.setCell ⟨g4,0,none⟩ (.slice Av y.ch.length cv)).setCell ⟨g4,1,none⟩ (.int .i64 y.steps)).setCell ⟨g4,2,none⟩ (.int .i64 y.fin)).setCell ⟨g4,3,none⟩ (.string ⟨y.sg.toArray⟩))=wf at e0 d9 e6 e3⊢;refine ⟨by simp,.inl ⟨_,_,rfl,run_takeDeferred e3.out,?_⟩⟩;have h1:=HG.out;have h2:=I.out;have h3:=e2.out;have hS:∀b,b≠D->(wf.putObj D (.deferred none)).heap[b]?=wf.heap[b]?:=fun b G=>World.putObj_heap_other G
   obtain ⟨y0,y1,y2,y3⟩:=z7 (show zl (wf.putObj D (.deferred none)) g4 _ _ from (hS g4 (by omega)).trans d9.out);refine ⟨.tuple #[.agg #[.slice Av y.ch.length cv,.int .i64 y.steps,.int .i64 y.fin,.string ⟨y.sg.toArray⟩],.int .i64 0],by simp [results,Tryz.results79,go_sem,y0,y1,y2,y3],?_⟩;refine ⟨.slice Av y.ch.length cv,y,0,rfl,?_,?_,fun h=>?_,fun z hz=>⟨rfl,?_⟩⟩
   ·have h4:=(e0.out.grown (grownBy_putObj' _ D (.deferred none)) (fun k e hk=>absurd hk (by have e':D=k:=Option.some.inj e;omega)));exact Below.trans (E.out.trans f2.out) (h4.below (E.out.trans f2.out).size (fun b G=>by omega))
   ·exact (e6.out.keep (fun b G _=>hS b (by omega))).weaken fun b G=>by omega
   ·unfold zG at h;rw [if_pos HP.out] at h;cases h
   ·unfold zG at hz;rw [if_pos HP.out] at hz;injection hz with hz;rw [j1.out];exact hz
 ·have U:(zr id).isPrefixOf s=false:=by
   cases h:(zr id).isPrefixOf s with
   | false=>rfl
   | true=>exact absurd (List.isPrefixOf_iff_prefix.1 h) hp
  rw [U] at O;have HP:=zh hp;have d8:=zh (b1.out.ext J);have fz:∀j,w5.frozen? ⟨g4,j,none⟩=false:=fun j=>d8.out.frozen j
  have f1:Hid (za w w5):=E.out.trans J;clear hp U
  gi_wp2_with fail
  refine ⟨trivial,?_⟩;refine (callsIn_wide.2 O.out).mono ?_;rintro e wb ⟨rfl,rfl⟩
  gi_wp2_with fail
  have h1:=HG.out;have hC:zC (fun b=>b=g4) w5 ((((w5.setCell ⟨g4,0,none⟩ (.slice none 0 0)).setCell ⟨g4,1,none⟩ (.int .i64 0)).setCell ⟨g4,2,none⟩ (.int .i64 0)).setCell ⟨g4,3,none⟩ (.string ⟨#[]⟩)):=((((zC.refl (fun b=>b=g4) w5).set g4 0 _ rfl).set g4 1 _ rfl).set g4 2 _ rfl).set g4 3 _ rfl;have hB:zl ((((w5.setCell ⟨g4,0,none⟩ (.slice none 0 0)).setCell ⟨g4,1,none⟩ (.int .i64 0)).setCell ⟨g4,2,none⟩ (.int .i64 0)).setCell ⟨g4,3,none⟩ (.string ⟨#[]⟩)) g4 126 #[.slice none 0 0,.int .i64 0,.int .i64 0,.string ⟨#[]⟩]:=(((d8.out.set (k:=0) _).set (k:=1) _).set (k:=2) _).set (k:=3) _;obtain ⟨y0,y1,y2,y3⟩:=z7 hB;refine ⟨.tuple #[.agg #[.slice none 0 0,.int .i64 0,.int .i64 0,.string ⟨#[]⟩],.int .i64 4],by simp [results,Tryz.results79,go_sem,y0,y1,y2,y3],?_⟩;refine ⟨_,⟨[],0,0,[]⟩,4,rfl,?_,zk.nil _ _,fun _=>⟨rfl,rfl⟩,fun z hz=>?_⟩
  ·exact Below.trans f1.out (hC.below f1.out.size (fun b G=>by omega))
  ·unfold zG at hz;rw [if_neg HP.out] at hz;cases hz
theorem jOpenBad_calls (w:World) (hm:zY w ok v m) (hl:Lens m) (hc:BM m≠0):
  Calls Tryz.prog 79 #[v,.string ⟨s.toArray⟩] w fun e w'=>e=.returned (.tuple #[.agg #[.slice none 0 0,.int .i64 0,.int .i64 0,.string ⟨#[]⟩],.int .i64 (BM m)])/\za w w':=by
 refine (callsIn_wide (n:=6)).1 ?_;have HM:=zh hm;have HL:=zh hl;obtain ⟨Af,cf,Au,cu,At,ct,rfl,-,-,-⟩:=hm.parts;obtain ⟨ck,J⟩:∃c,c=BM m:=⟨_,rfl⟩;rw [<-J] at hc⊢;have b1:(ck != 0)=true:=by simp [hc]
 have a2:=zh J;clear hm hl J;refine callsIn_of_wp_marks Tryz.func79 rfl trivial ?_ rfl;simp only [Tryz.ntmps79,List.size_toArray,Fb,Fc,Nat.reduceAdd,Nat.reduceSub,Array.replicate_succ,Array.replicate_zero,List.push_toArray,List.append_toArray,List.nil_append,List.cons_append]
 gi_upto_region 1 with fail
 have o:=zl.new w #[.int .i64 m.w,.int .i64 m.h,.int .i64 m.l,.slice Af m.free.length cf,.slice Au m.up.length cu,.slice At m.tasks.length ct] 32 (g:=w.heap.size) rfl;have G:za w (w.alloc (.cells #[.int .i64 m.w,.int .i64 m.h,.int .i64 m.l,.slice Af m.free.length cf,.slice Au m.up.length cu,.slice At m.tasks.length ct] 32)):=(za.refl w).alloc _;have M:(w.alloc (.cells #[.int .i64 m.w,.int .i64 m.h,.int .i64 m.l,.slice Af m.free.length cf,.slice Au m.up.length cu,.slice At m.tasks.length ct] 32)).heap.size=w.heap.size+1:=by simp
 generalize w.alloc _=w1 at o G M⊢;have d:=zl.new w1 #[.slice none 0 0,.int .i64 0,.int .i64 0,.string ⟨#[]⟩] 126 (g:=w1.heap.size) rfl;have D:za w1 (w1.alloc (.cells #[.slice none 0 0,.int .i64 0,.int .i64 0,.string ⟨#[]⟩] 126)):=(za.refl w1).alloc _;generalize w1.alloc _=w2 at d D⊢;rw [M] at d;obtain ⟨gm,a0⟩:∃g,g=w.heap.size:=⟨_,rfl⟩;obtain ⟨g4,V⟩:∃g,g=w.heap.size+1:=⟨_,rfl⟩;rw [<-V] at d⊢;rw [<-a0] at o⊢;have HG:Hid (w.heap.size<=g4):=by (show _<=_);omega
 have a1:=zh d;have Q:Hid (za w w2):=G.trans D;obtain ⟨r0,r1,r2,r3,r4,r5⟩:=zt (o.ext D);have r0:=za.rule r0;have r1:=za.rule r1;have r2:=za.rule r2;have r3:=za.rule r3;have r4:=za.rule r4;have r5:=za.rule r5;have a3:za w2 w2:=za.refl w2;clear o G M d D a0 V;have O:Hid (Calls Tryz.prog 62 #[.agg #[.int .i64 m.w,.int .i64 m.h,.int .i64 m.l,.slice Af m.free.length cf,.slice Au m.up.length cu,.slice At m.tasks.length ct]] w2 fun e w'=>e=.returned (.int .i64 ck)/\za w2 w'):=by rw [a2.out];exact De w2 (HM.out.below Q.out) HL.out
 gi_wp2_with fail
 refine ⟨trivial,?_⟩;refine (callsIn_wide.2 O.out).mono ?_;rintro e w5 ⟨rfl,I⟩;have E:=zh (a1.out.ext I);have fz:∀j,w5.frozen? ⟨g4,j,none⟩=false:=fun j=>E.out.frozen j
 obtain ⟨k0,k1,k2,k3⟩:=z7 E.out;have U:Hid (za w w5):=Q.out.trans I;clear I O r0 r1 r2 r3 r4 r5 a3
 gi_wp2_with fail
 have h1:=HG.out;have hC:zC (fun b=>b=g4) w5 ((((w5.setCell ⟨g4,0,none⟩ (.slice none 0 0)).setCell ⟨g4,1,none⟩ (.int .i64 0)).setCell ⟨g4,2,none⟩ (.int .i64 0)).setCell ⟨g4,3,none⟩ (.string ⟨#[]⟩)):=((((zC.refl (fun b=>b=g4) w5).set g4 0 _ rfl).set g4 1 _ rfl).set g4 2 _ rfl).set g4 3 _ rfl;have hB:zl ((((w5.setCell ⟨g4,0,none⟩ (.slice none 0 0)).setCell ⟨g4,1,none⟩ (.int .i64 0)).setCell ⟨g4,2,none⟩ (.int .i64 0)).setCell ⟨g4,3,none⟩ (.string ⟨#[]⟩)) g4 126 #[.slice none 0 0,.int .i64 0,.int .i64 0,.string ⟨#[]⟩]:=(((E.out.set (k:=0) _).set (k:=1) _).set (k:=2) _).set (k:=3) _;obtain ⟨y0,y1,y2,y3⟩:=z7 hB;refine ⟨.tuple #[.agg #[.slice none 0 0,.int .i64 0,.int .i64 0,.string ⟨#[]⟩],.int .i64 ck],by simp [results,Tryz.results79,go_sem,y0,y1,y2,y3],rfl,?_⟩;exact Below.trans U.out (hC.below U.out.size (fun b hb=>by omega))
noncomputable def opT (m:MZ) (id s:List UInt8):JS×Int:=
 if BM m=0 then (match zG m (zr id) id s with
  | none=>(⟨[],0,0,[]⟩,4)
  | some x=>(x,0)) else (⟨[],0,0,[]⟩,BM m)
theorem opT_ok (h:opT m id s=(x,0)):BM m=0/\zG m (zr id) id s=some x:=by
 unfold opT at h
 split at h
 ·rename_i d
  cases o:zG m (zr id) id s with
  | none=>rw [o] at h;simp at h
  | some y=>rw [o] at h;simp at h;exact ⟨d,by rw [h]⟩
 ·rename_i d
  simp at h;exact absurd h.2 d
theorem opT_err {er:Int} (h:opT m id s=(x,er)) (he:er≠0):x=⟨[],0,0,[]⟩/\(BM m=0/\zG m (zr id) id s=none/\er=4\/BM m≠0/\er=BM m):=by
 unfold opT at h
 split at h
 ·rename_i d
  cases o:zG m (zr id) id s with
  | none=>rw [o] at h;simp at h;exact ⟨h.1.symm,.inl ⟨d,rfl,h.2.symm⟩⟩
  | some y=>rw [o] at h;simp at h;exact absurd h.2.symm he
 ·rename_i d
  simp at h;exact ⟨h.1.symm,.inr ⟨d,h.2.symm⟩⟩
def OpX (w:World) (p:JS×Int) (e:Ending) (w':World):Prop:=∃vc,e=.returned (.tuple #[.agg (jsc vc p.1),.int .i64 p.2])/\za w w'/\zk w' (fun b=>w.heap.size<=b) vc p.1.ch
structure JP (w:World) (ok:Nat->Prop) (v:Value) (m:MZ) (ns:List ByteArray):Prop where
 hm:Bt w ok v m ns
 hl:Lens m
 hs:BM m=0->CF m ns
theorem JP.below {w w':World} {ok:Nat->Prop} {v:Value} {m:MZ} {ns:List ByteArray} (h:JP w ok v m ns) (d:za w w'):JP w' ok v m ns:=⟨h.hm.below d,h.hl,h.hs⟩
theorem Du (w:World) (G:zq w) (h:JP w ok v m ns) (D:s.length<=40000000):
  Calls Tryz.prog 79 #[v,.string ⟨s.toArray⟩] w (OpX w (opT m (BT (zw m ns)) s)):=by
 by_cases d:BM m=0
 ·refine (jOpen_calls w G h.hm (h.hs d) h.hl d D).mono ?_;rintro e w' ⟨vc,x,er,rfl,o,hI,h1,h2⟩;unfold opT;rw [if_pos d]
  cases E:zG m (zr (BT (zw m ns))) (BT (zw m ns)) s with
  | none=>
   obtain ⟨rfl,rfl⟩:=h1 E;exact ⟨vc,rfl,o,hI⟩
  | some y=>
   obtain ⟨rfl,rfl⟩:=h2 y E;exact ⟨vc,rfl,o,hI⟩
 ·refine (jOpenBad_calls w h.hm.maze h.hl d).mono ?_;rintro e w' ⟨rfl,o⟩;unfold opT;rw [if_neg d];exact ⟨_,rfl,o,zk.nil _ _⟩
end
section
open Go.RowKit Go.Shelf
attribute [local go_sem ↓] Go.wp_at_zero Go.wp_at_succ
theorem own_next {t u ty e:TypeId} {i:TypeInfo} (ht:P.underlying t=some (.slice e)) (hu:P.underlying u=some .string) (Q:P.info? e=some i) (hz:i.zero=some (.int .u8 0)) (d:i.size=1) (I:i.bytes=1)
  {v':Value} (o:w.ownsRowF base e 1 v n xs) (s:ByteArray) (G:n+s.size<=maxLen) (D:n+s.size<=140737488355328) (U:(Builtin.append_ #[t,u] ty #[v,.string s]).run P w=.ok v' w'):
  v'.ownBlock=v.ownBlock\/∀g,v'.ownBlock=some g->w.heap.size<=g:=by
 rcases o.2 with ⟨rfl,rfl⟩ | ⟨g,cap,cur,fz,rfl,a4,O,hfz,a7,a5,M,V⟩
 ·obtain ⟨v2,w2,h1,h2,-,-⟩:=Lib.run_append_own_string (P:=P) w w.heap.size t u ty e i ht hu Q hz d I (.slice none 0 0) 0 xs ⟨o.1,.inl ⟨rfl,rfl⟩⟩ s G D (DY _);rw [U] at h1;injection h1 with e1 e2;subst e1;exact .inr fun g O=>(World.ownsRow.lt h2 g O).1
 ·have J:n+s.size<=9223372036854775807:=by simp only [maxLen] at G;omega
  have a1:xs.length=n:=by simpa using o.1
  by_cases E:n+s.size<=cap
  ·have a2:cur.size=cap:=by simpa using M
   have h1:=Lib.run_append_room_stringF (P:=P) w t u ty e i ht hu Q d g n cap cur fz O (by simpa using hfz) s E (by omega);rw [U] at h1;injection h1 with e1 e2;subst e1;exact .inl rfl
  ·have h1:=Lib.run_append_grow_string (P:=P) w t u ty e i (.int .u8 0) ht hu Q hz ⟨g,0,none⟩ n cap xs (by rw [d];simpa using a1) (o.cells (g:=g) rfl) s (by omega) (by omega) (by rw [I];exact growslice_fits (by omega) (by omega));rw [U] at h1;injection h1 with e1 e2;subst e1;refine .inr fun k hk=>?_
   simp [Value.ownBlock] at hk;omega
theorem ownF_chg {e:TypeId} (h:w.ownsRowF base e size v n xs) (o:zC X w w') (D:∀g,v.ownBlock=some g->¬ X g):w'.ownsRowF base e size v n xs:=by
 refine ⟨h.1,?_⟩;rcases h.2 with G | ⟨g,cap,cur,fz,rfl,E,d,rest⟩
 ·exact .inl G
 ·exact .inr ⟨g,cap,cur,fz,rfl,E,(o.block g (CL d) (D g rfl)).trans d,rest⟩
def BuiK (K:Nat->Prop) (B:Nat) (bs:List Value) (w:World):Prop:=
 K B/\∃p v,(p=.pointer none\/p=.pointer (some ⟨B,0,none⟩))/\w.heap[B]?=some (.cells #[p,v] 134 (0,0))/\w.ownsRowF B 5 1 v bs.length bs/\v.ownBlock≠some B/\∀g,v.ownBlock=some g->K g
theorem BuiK.bui (h:BuiK K B bs w):DS B bs w:=by
 obtain ⟨-,p,v,rfl | rfl,h1,h2,h3,-⟩:=h
 ·exact .inl ⟨DY _,v,h1,h2,h3⟩
 ·exact .inr ⟨DY _,v,h1,h2,h3⟩
theorem BuiK.chg (h:BuiK K B bs w) (o:zC X w w') (E:∀k,K k->¬ X k):BuiK K B bs w':=by
 obtain ⟨D,p,v,hp,h1,h2,h3,d⟩:=h;exact ⟨D,p,v,hp,(o.block B (CL h1) (E B D)).trans h1,ownF_chg h2 o (fun g G=>E g (d g G)),h3,d⟩
theorem BuiK.lt (h:BuiK K B bs w):B<w.heap.size:=by
 obtain ⟨-,p,v,-,h1,-⟩:=h;exact CL h1
theorem BuiK.wide {K':Nat->Prop} (h:BuiK K B bs w) (d:∀k,K k->K' k):BuiK K' B bs w:=by
 obtain ⟨h0,p,v,hp,h1,h2,h3,o⟩:=h;exact ⟨d _ h0,p,v,hp,h1,h2,h3,fun g D=>d _ (o g D)⟩
theorem BuiK.new (w:World):BuiK (fun b=>b=w.heap.size) w.heap.size [] (w.alloc (.cells #[.pointer none,.slice none 0 0] 134)):=
 ⟨rfl,_,_,.inl rfl,EL w _,World.ownsRowF_nil _ _ _ _,by simp [Value.ownBlock],fun g d=>by simp [Value.ownBlock] at d⟩
theorem wpApp_K {ops:Array Oper} {rest:List Oper} {o:Oper} {a:Act} {Q:Exit->Act->World->Prop} (M:o.guard=none) (sl x:Operand) (t u:TypeId)
  (ho:o.op=.call { callee:=.builtin .append,args:=#[sl,x],argTypes:=#[t,u] })
  (base:Nat) (e:TypeId) (i:TypeInfo) (ht:P.underlying t=some (.slice e)) (V:P.underlying u=some .string) (O:P.info? e=some i) (hz:i.zero=some (.int .u8 0)) (D:i.size=1) (J:i.bytes=1)
  (v:Value) (n:Nat) (xs:List Value) (hs:a.eval sl=v) (E:w.ownsRowF base e 1 v n xs) (s:ByteArray) (hx:a.eval x=.string s)
  (I:n+s.size<=maxLen) (d:n+s.size<=140737488355328) (G:base<=w.heap.size)
  (h:∀v' w',w'.ownsRowF base e 1 v' (n+s.size) (xs++Lib.strCells s)->w.grownBy w' v.ownBlock->(v'.ownBlock=v.ownBlock\/∀g,v'.ownBlock=some g->w.heap.size<=g)->wpList P ops Q rest (a.put o.dst v') w'):wpList P ops Q (o :: rest) a w:=by
 obtain ⟨v',w',U,h2,h3,-⟩:=Lib.run_append_own_stringF (P:=P) w base t u o.type e i ht V O hz D J v n xs E s I d G;have hn:=own_next ht V O hz D J E s I d U;refine wpList_plain M fun K hK=>?_
 unfold Oper.wp execOp;simp only [ho,resolve,invoke,builtin,Sem.run_bind,Sem.run_pure,Result.andThen_ok,List.map_toArray,List.map_cons,List.map_nil,hs,hx,U];exact hK _ _ (h v' w' h2 h3 hn)
theorem cc_K (h:BuiK K B bs w):Calls Tryz.prog 152 #[.pointer (some ⟨B,0,none⟩)] w fun e w'=>e=.returned (.tuple #[])/\zC K w w'/\w'.heap.size=w.heap.size/\
  ∃v,w'.heap[B]?=some (.cells #[.pointer (some ⟨B,0,none⟩),v] 134 (0,0))/\w'.ownsRowF B 5 1 v bs.length bs/\v.ownBlock≠some B/\∀g,v.ownBlock=some g->K g:=by
 obtain ⟨E,p,v,rfl | rfl,h1,h2,h3,o⟩:=h
 ·have d:Lib.BuilderAtF 134 5 B B (.pointer none) bs w:=⟨DY _,v,h1,h2,h3⟩;refine (ccNew B w d.cell0 d.shape d.frozen0).mono ?_;rintro e w' ⟨rfl,rfl⟩;have D:zC (fun b=>b=B) w (w.setCell ⟨B,0,none⟩ (.pointer (some ⟨B,0,none⟩))):=(zC.refl (fun b=>b=B) w).set B 0 _ rfl;exact ⟨rfl,D.wide fun k e=>e ▸ E,by simp [World.setCell],v,(show zl w B 134 #[.pointer none,v] from h1).set (k:=0) _,ownF_chg h2 D (fun g G e=>h3 (by rw [G,e])),h3,o⟩
 ·have d:Lib.BuilderAtF 134 5 B B (.pointer (some ⟨B,0,none⟩)) bs w:=⟨DY _,v,h1,h2,h3⟩;refine (ccUsed B w d.cell0).mono ?_;rintro e w' ⟨rfl,rfl⟩;exact ⟨rfl,zC.refl _ _,rfl,v,h1,h2,h3,o⟩
theorem wString_K (s:ByteArray) (h:BuiK K B bs w) (hl:bs.length+s.size<=140737488355328):
  Calls Tryz.prog 81 #[.pointer (some ⟨B,0,none⟩),.string s] w fun e w'=>e=.returned (.tuple #[.int .i64 s.size,.nilIface])/\zC K w w'/\BuiK (fun b=>K b\/(w.heap.size<=b/\b<w'.heap.size)) B (bs++Lib.strCells s) w':=by
 obtain ⟨i0,hi,a5,a6,a7⟩:=info_parts sExt.infoByte;have M:=h.1;have H:=zh h;clear h
 go_enter Tryz.func81,Tryz.ntmps81
 go_wp2_with fail
 refine (cc_K H.out).mono ?_;rintro e w1 ⟨rfl,J,a0,v,G,V,Q,I⟩;have c1:w1.cell? ⟨B,1,none⟩=some v:=by rw [Lib.cell_of_heap G];rfl
 have a3:=CL G;have a2:=zh a0;clear a0
 go_wp2_with (at_builtin;refine wpApp_K rfl _ _ 76 9 rfl B 5 i0 Tryz.underlying76 Tryz.underlying9 hi a5 a6 a7 _ _ _ rfl V s rfl ?c3 ?c4 ?c5 ?_)
 case c3=>unfold maxLen;omega
 case c4=>omega
 case c5=>omega
 intro v' w2 o hg U
 have E:w2.heap[B]?=some (.cells #[.pointer (some ⟨B,0,none⟩),v] 134 (0,0)):=by
  rw [hg.block B a3 (fun e=>Q e.symm)];exact G
 have d1:w2.cell? ⟨B,1,none⟩=some v:=by rw [Lib.cell_of_heap E];rfl
 have f1:w2.frozen? ⟨B,1,none⟩=false:=Lib.frozen_of_heap E 1
 obtain ⟨ao,n',cap,rfl⟩:∃ao n' cap,v'=.slice ao n' cap:=by
  rcases o.2 with ⟨hv,_⟩ | ⟨g,cap,cur,fz,hv,_⟩
  ·exact ⟨_,_,_,hv⟩
  ·exact ⟨_,_,_,hv⟩
 have D:Hid (∀g,(Value.slice ao n' cap).ownBlock=some g->(K g\/(w.heap.size<=g/\g<w2.heap.size))/\g≠B):=fun g d=>by
  have O:=(o.lt g d).2;rcases U with hn | hn
  ·rw [hn] at d;exact ⟨.inl (I g d),fun e=>Q (e ▸ d)⟩
  ·have:=hn g d;exact ⟨.inr ⟨by rw [<-a2.out];exact this,O⟩,fun e=>by omega⟩
 have a1:Hid (zC K w w2):=J.grown hg (fun k hk _=>I k hk);clear U J I;go_wp2
 go_ret2
 refine ⟨rfl,a1.out.set B 1 _ M,.inl M,_,.slice ao n' cap,.inr rfl,(show zl w2 B 134 #[.pointer (some ⟨B,0,none⟩),v] from E).set (k:=1) _,?_,?_,fun g d=>?_⟩
 ·refine ownF_chg (X:=fun b=>b=B) ?_ ((zC.refl (fun b=>b=B) w2).set B 1 _ rfl) (fun g d e=>(D.out g d).2 e);simpa [Lib.strCells_length] using o
 ·exact fun e=>(D.out B e).2 rfl
 ·have h1:=(D.out g d).1;simpa [World.setCell] using h1
theorem buiK_app {x y z:List UInt8} (h:BuiK K B (Lib.byteCells x++Lib.strCells ⟨y.toArray⟩) w) (e:z=x++y):BuiK K B (Lib.byteCells z) w:=by
 rw [bui_str] at h;rw [e];exact h
end
section
open Go.RowKit Go.Shelf
attribute [local go_sem ↓] Go.wp_at_zero Go.wp_at_succ
attribute [local go_sem] Oper.semAt_some
theorem mz_box (w:World) (m:MZ) (Af:Option Addr) (cf:Nat) (Au:Option Addr) (cu:Nat) (At:Option Addr) (ct:Nat):za w (w.alloc (.cells (mzc m Af cf Au cu At ct) 32))/\
  (∀W,za (w.alloc (.cells (mzc m Af cf Au cu At ct) 32)) W->W.cell? ⟨w.heap.size,0,none⟩=some (.int .i64 m.w))/\(∀W,za (w.alloc (.cells (mzc m Af cf Au cu At ct) 32)) W->W.cell? ⟨w.heap.size,1,none⟩=some (.int .i64 m.h))/\
  (∀W,za (w.alloc (.cells (mzc m Af cf Au cu At ct) 32)) W->W.cell? ⟨w.heap.size,2,none⟩=some (.int .i64 m.l))/\(∀W,za (w.alloc (.cells (mzc m Af cf Au cu At ct) 32)) W->W.cell? ⟨w.heap.size,3,none⟩=some (.slice Af m.free.length cf))/\
  (∀W,za (w.alloc (.cells (mzc m Af cf Au cu At ct) 32)) W->W.cell? ⟨w.heap.size,4,none⟩=some (.slice Au m.up.length cu))/\(∀W,za (w.alloc (.cells (mzc m Af cf Au cu At ct) 32)) W->W.cell? ⟨w.heap.size,5,none⟩=some (.slice At m.tasks.length ct)):=by
 obtain ⟨r0,r1,r2,r3,r4,r5⟩:=zt (zl.new w (mzc m Af cf Au cu At ct) 32 (g:=w.heap.size) rfl);exact ⟨(za.refl w).alloc _,za.rule r0,za.rule r1,za.rule r2,za.rule r3,za.rule r4,za.rule r5⟩
theorem jBegin_calls (w:World) (hv:zq w) (hm:Bt w ok v m ns) (hs:CF m ns) (hl:Lens m) (hc:BM m=0):
  Calls Tryz.prog 28 #[v] w fun e w'=>e=.returned (.tuple #[.string ⟨(zr (BT (zw m ns))).toArray⟩,.int .i64 0])/\za w w':=by
 have HM:=zh hm;have HV:=zh hv;have HS:=zh hs;have HL:=zh hl;have HC:=zh hc;obtain ⟨f,u,t,rfl,⟨_,⟨Af,cf,rfl,-,-⟩,-⟩,⟨Au,cu,rfl,-,-⟩,⟨-,_,⟨At,ct,rfl,-,-⟩,-⟩⟩:=hm;obtain ⟨id,hid⟩:∃x,x=BT (zw m ns):=⟨_,rfl⟩;rw [<-hid];have D:id.length=8:=by rw [hid];exact AN _
 have O:=zh hid;have Q:=zh D;clear hv hs hl hc hid D
 go_enter Tryz.func28,Tryz.ntmps28
 go_upto_region 1 with fail;obtain ⟨o,r0,r1,r2,r3,r4,r5⟩:=mz_box w m Af cf Au cu At ct;simp only [mzc] at o r0 r1 r2 r3 r4 r5;generalize w.alloc _=w2 at o r0 r1 r2 r3 r4 r5⊢;have d:=zh o;have a9:za w2 w2:=za.refl w2;have G:Hid (Calls Tryz.prog 62 #[.agg #[.int .i64 m.w,.int .i64 m.h,.int .i64 m.l,.slice Af m.free.length cf,.slice Au m.up.length cu,.slice At m.tasks.length ct]] w2 fun e w'=>e=.returned (.int .i64 0)/\za w2 w'):=by have h:=De w2 (HM.out.maze.below d.out) HL.out;rw [HC.out] at h;exact h
 clear o
 go_wp2_with fail
 refine G.out.mono ?_;rintro e w3 ⟨rfl,J⟩;have E:za w2 w3:=J;have V:Hid (∀W,za w2 W->Calls Tryz.prog 76 #[.agg #[.int .i64 m.w,.int .i64 m.h,.int .i64 m.l,.slice Af m.free.length cf,.slice Au m.up.length cu,.slice At m.tasks.length ct]] W fun e w'=>e=.returned (.string ⟨id.toArray⟩)/\za W w'):=fun W h=>by have:=DE W (HV.out.ext (d.out.trans h)) (HM.out.below (d.out.trans h)) HS.out;rw [<-O.out] at this;exact this
 clear J G
 go_wp2_with fail
 refine (V.out _ E).mono ?_;rintro e w4 ⟨rfl,M⟩;have I:Hid (za w w4):=(d.out.trans E).trans M;clear M V E
 go_wp2_with fail
 refine (Dk w4 (HV.out.ext I.out) (by have:=Q.out;omega)).mono ?_;rintro e w5 ⟨rfl,U⟩
 go_wp2_with fail
 go_ret2
 exact ⟨rfl,I.out.trans U⟩
def ReadPost (w:World) (m:MZ) (id s:List UInt8) (e:Ending) (w':World):Prop:=
 ∃vc x er,e=.returned (.tuple #[vc,.int .i64 x.steps,.int .i64 x.fin,.int .i64 er])/\za w w'/\zk w' (fun b=>w.heap.size<=b) vc x.ch/\(zG m (zr id) id s=none->er=4/\x=⟨[],0,0,[]⟩)/\(∀y,zG m (zr id) id s=some y->er=0/\x=y)
def RdX (w:World) (p:JS×Int) (e:Ending) (w':World):Prop:=∃vc,e=.returned (.tuple #[vc,.int .i64 p.1.steps,.int .i64 p.1.fin,.int .i64 p.2])/\za w w'/\zk w' (fun b=>w.heap.size<=b) vc p.1.ch
theorem jReadT_calls (w:World) (hv:zq w) (h:JP w ok v m ns) (Q:s.length<=40000000):
  Calls Tryz.prog 33 #[v,.string ⟨s.toArray⟩] w (RdX w (opT m (BT (zw m ns)) s)):=by
 obtain ⟨f,u,t,rfl,⟨_,⟨Af,cf,rfl,-,-⟩,-⟩,⟨Au,cu,rfl,-,-⟩,⟨-,_,⟨At,ct,rfl,-,-⟩,-⟩⟩:=_root_.id h.hm;obtain ⟨⟨x,er⟩,hp⟩:∃p,p=opT m (BT (zw m ns)) s:=⟨_,rfl⟩;have HO:Hid (∀W,za w W->Calls Tryz.prog 79 #[.agg #[.int .i64 m.w,.int .i64 m.h,.int .i64 m.l,.slice Af m.free.length cf,.slice Au m.up.length cu,.slice At m.tasks.length ct],.string ⟨s.toArray⟩] W (OpX W (x,er))):=fun W J=>by rw [hp];exact Du W (hv.ext J) (h.below J) Q
 rw [<-hp];clear hv h Q hp
 go_enter Tryz.func33,Tryz.ntmps33
 go_upto_region 1 with fail;obtain ⟨E,r0,r1,r2,r3,r4,r5⟩:=mz_box w m Af cf Au cu At ct;simp only [mzc] at E r0 r1 r2 r3 r4 r5;generalize w.alloc _=w2 at E r0 r1 r2 r3 r4 r5⊢;have G:=zh E;have a4:za w2 w2:=za.refl w2;clear E
 go_wp2_with fail
 refine (HO.out _ G.out).mono ?_;rintro e w3 ⟨vc,rfl,M,O⟩;have V:=zh O;have a0:Hid (za w w3):=G.out.trans M;obtain ⟨Ac,cc,rfl,-,-⟩:=O;clear M;simp only [jsc];go_upto_region 2 with fail;have hB:=zl.new w3 #[.slice Ac x.ch.length cc,.int .i64 x.steps,.int .i64 x.fin,.string ⟨x.sg.toArray⟩] 126 (g:=w3.heap.size) rfl;have I:za w3 (w3.alloc (.cells #[.slice Ac x.ch.length cc,.int .i64 x.steps,.int .i64 x.fin,.string ⟨x.sg.toArray⟩] 126)):=(za.refl w3).alloc _;generalize w3.alloc _=w4 at hB I⊢;obtain ⟨k0,k1,k2,k3⟩:=z7 hB;have k0:=za.rule k0;have k1:=za.rule k1;have k2:=za.rule k2;have U:=zh I;have hx:za w4 w4:=za.refl w4;clear hB I k3 r0 r1 r2 r3 r4 r5 a4;refine Di (fun Q' D a3=>?_) (fun c a a' w hd h=>by obtain ⟨t,d⟩:=a;obtain ⟨t',d'⟩:=a';cases hd;exact h);refine AA (S:=(fun W=>za w4 W)) AI (hx.drew) fun zH=>?_;generalize w4.drew=wd at zH⊢;refine ze (i:=0) (v:=?v1) rfl (by kernel_rfl) (by kernel_rfl) (by kernel_rfl) (by kernel_rfl) (fun _ _ _ h=>D _ _ _ _ (by rfl) h) (Or.inl ⟨?w1,?y1⟩) zH ?r1
 case w1=>rfl
 case y1=>(intro w o;go_simp;try with_reducible rfl)
 simp only [zd,DV];refine ze (i:=1) (v:=?v2) rfl (by kernel_rfl) (by kernel_rfl) (by kernel_rfl) (by kernel_rfl) (fun _ _ _ h=>D _ _ _ _ (by rfl) h) (Or.inl ⟨?w2,?y2⟩) zH ?r2
 case w2=>rfl
 case y2=>(intro w o;go_simp;try with_reducible rfl)
 simp only [zd,DV];refine ze (i:=2) (v:=?v3) rfl (by kernel_rfl) (by kernel_rfl) (by kernel_rfl) (by kernel_rfl) (fun _ _ _ h=>D _ _ _ _ (by rfl) h) (Or.inl ⟨?w3,?y3⟩) zH ?r3
 case w3=>rfl
 case y3=>(intro w o;go_simp;try with_reducible rfl)
 simp only [zd,DV];refine ze (i:=3) (v:=?v4) rfl (by kernel_rfl) (by kernel_rfl) (by kernel_rfl) (by kernel_rfl) (fun _ _ _ h=>D _ _ _ _ (by rfl) h) (Or.inl ⟨?w4,?y4⟩) zH ?r4
 case w4=>rfl
 case y4=>(intro w o;go_simp;try with_reducible rfl)
 simp only [zd,DV];refine ze (i:=4) (v:=?v5) rfl (by kernel_rfl) (by kernel_rfl) (by kernel_rfl) (by kernel_rfl) (fun _ _ _ h=>D _ _ _ _ (by rfl) h) (Or.inl ⟨?w5,?y5⟩) zH ?r5
 case w5=>rfl
 case y5=>(intro w o;go_simp;try with_reducible rfl)
 simp only [zd,DV];refine ze (i:=5) (v:=?v6) rfl (by kernel_rfl) (by kernel_rfl) (by kernel_rfl) (by kernel_rfl) (fun _ _ _ h=>D _ _ _ _ (by rfl) h) (Or.inl ⟨?w6,?y6⟩) zH ?r6
 case w6=>rfl
 case y6=>(intro w o;go_simp;try with_reducible rfl)
 simp only [zd,DV];refine ze (i:=6) (v:=?v7) rfl (by kernel_rfl) (by kernel_rfl) (by kernel_rfl) (by kernel_rfl) (fun _ _ _ h=>D _ _ _ _ (by rfl) h) (Or.inl ⟨?w7,?y7⟩) zH ?r7
 case w7=>rfl
 case y7=>(intro w o;go_simp;try with_reducible rfl)
 simp only [zd,DV];refine ze (i:=7) (v:=?v8) rfl (by kernel_rfl) (by kernel_rfl) (by kernel_rfl) (by kernel_rfl) (fun _ _ _ h=>D _ _ _ _ (by rfl) h) (Or.inl ⟨?w8,?y8⟩) zH ?r8
 case w8=>rfl
 case y8=>(intro w o;go_simp;try with_reducible rfl)
 simp only [zd,DV];refine ze (i:=8) (v:=?v9) rfl (by kernel_rfl) (by kernel_rfl) (by kernel_rfl) (by kernel_rfl) (fun _ _ _ h=>D _ _ _ _ (by rfl) h) (Or.inl ⟨?w9,?y9⟩) zH ?r9
 case w9=>rfl
 case y9=>(intro w o;go_simp;try with_reducible rfl)
 simp only [zd,DV];refine ze (i:=9) (v:=?v10) rfl (by kernel_rfl) (by kernel_rfl) (by kernel_rfl) (by kernel_rfl) (fun _ _ _ h=>D _ _ _ _ (by rfl) h) (Or.inl ⟨?w10,?y10⟩) zH ?r10
 case w10=>rfl
 case y10=>(intro w o;go_simp;try with_reducible rfl)
 simp only [zd,DV];refine zp (rs:=[10]) (by kernel_rfl) (by simp) ?_;refine zg.last rfl (by kernel_rfl) fun K hK=>?_;go_simp;have a1:Hid (za w4 _):=zH;go_simp;refine hK.out _ _ ?_;clear hK K;refine AV (by kernel_rfl) ?_ _;subst a3;clear hx k0 k1 k2;go_wp2;have J:=U.out.trans a1.out;refine ER (by simp [results,Tryz.results33,go_sem]) rfl ⟨_,rfl,a0.out.trans J,(V.out.below J).weaken fun b hb=>Ea G.out.size hb⟩
theorem jRead_calls (w:World) (I:zq w) (hm:Bt w ok v m ns) (G:CF m ns) (E:Lens m) (o:BM m=0) (d:s.length<=40000000):
  Calls Tryz.prog 33 #[v,.string ⟨s.toArray⟩] w (ReadPost w m (BT (zw m ns)) s):=by
 refine (jReadT_calls w I ⟨hm,E,fun _=>G⟩ d).mono ?_;rintro e w' ⟨vc,rfl,D,hI⟩;refine ⟨vc,_,_,rfl,D,hI,fun h=>?_,fun y h=>?_⟩
 ·unfold opT;rw [if_pos o,h];exact ⟨rfl,rfl⟩
 ·unfold opT;rw [if_pos o,h];exact ⟨rfl,rfl⟩
end
end Go.Proofs.YtjomnbdjajjgfaaGreatDoor
