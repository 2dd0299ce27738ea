import Derived.Test.YtfjjdmpndmbfoaaGreatDoorWJp
import Derived.Scope
import Derived.LoopIn
set_option linter.unusedVariables false
set_option linter.unusedSimpArgs false
set_option maxRecDepth 100000
set_option maxHeartbeats 16000000
namespace Go.Proofs.YtfjjdmpndmbfoaaGreatDoor
variable {ns:List ByteArray} {s:List UInt8} {bs xs:List Value} {m:MZ} {B base n size:Nat} {K X ok:Nat->Prop} {P:Program} {v:Value} {w w':World}
section
open Go.RowKit Go.Shelf
attribute [local go_sem ↓] Go.wp_at_zero Go.wp_at_succ
attribute [local go_sem] Oper.semAt_some
theorem Ag.apartJ {b:Nat} {A:Option Addr} (h:Ag w ok size A n xs) (G:0<size) (E:∀off,w.cell? ⟨b,off,none⟩=none):Ag w (fun k=>ok k/\k≠b) size A n xs:=by
 refine ⟨h.1,fun o=>?_⟩;obtain ⟨k,off,e,D,d⟩:=h.2 o;have h0:0<xs.length:=by rw [h.1];exact Nat.mul_pos o G
 refine ⟨k,off,e,⟨D,?_⟩,d⟩;rintro rfl;have h1:=d 0 _ (CQ h0);rw [E] at h1;cases h1
theorem zk.apartJ {w:World} {ok:Nat->Prop} {v:Value} {l:List Int} {b:Nat} (h:zk w ok v l) (o:∀off,w.cell? ⟨b,off,none⟩=none):zk w (fun k=>ok k/\k≠b) v l:=by
 obtain ⟨A,c,e,d,D⟩:=h;exact ⟨A,c,e,d,D.apartJ (by decide) o⟩
theorem jStates_calls {R:Nat->Prop} {cf cu ct:Nat} {Af Au At:Option Addr} (id s:List UInt8) (w:World) (o:zn w) (hm:zV w R (.agg (mzc m Af cf Au cu At ct)) m):
  Calls Tryz.prog 54 #[.agg #[.int .i64 m.w,.int .i64 m.h,.int .i64 m.l,.slice Af m.free.length cf,.slice Au m.up.length cu,.slice At m.tasks.length ct],.string ⟨s.toArray⟩,.string ⟨id.toArray⟩] w fun e w'=>∃gi gs gm,e=.returned (.func (.func 85) #[] #[.pointer (some ⟨gi,0,none⟩),.pointer (some ⟨gs,0,none⟩),.pointer (some ⟨gm,0,none⟩)])/\zc w w'/\w.heap.size<=gi/\w.heap.size<=gs/\w.heap.size<=gm/\JCtx w' gi gs gm id s (mzc m Af cf Au cu At ct) m R:=by
 have D:=zh hm;have E:=zh o;clear hm o
 go_enter Tryz.func54,Tryz.ntmps54
 go_wp2_with fail
 go_ret;have h1:zc w (w.alloc (.cells (mzc m Af cf Au cu At ct) 29)):=(zc.refl w).alloc _;have d:=(h1.alloc (.cells #[.string ⟨s.toArray⟩] 9)).alloc (.cells #[.string ⟨id.toArray⟩] 9);refine ⟨_,_,_,rfl,d,by omega,by omega,by omega,?_,?_,?_,D.out.below d,E.out.ext d⟩
 ·exact zj.new _ _ _ (by simp)
 ·exact (zj.new (w.alloc (.cells (mzc m Af cf Au cu At ct) 29)) #[.string ⟨s.toArray⟩] 9 (by simp)).alloc _
 ·exact ((zj.new w (mzc m Af cf Au cu At ct) 29 rfl).alloc _).alloc _
def OpenPost (w:World) (m:MZ) (id s:List UInt8) (e:Ending) (w':World):Prop:=
 ∃vc x er,e=.returned (.tuple #[.agg (jsc vc x),.int .i64 er])/\zc w w'/\zk w' (fun b=>w.heap.size<=b) vc x.ch/\(zE m (zv id) id s=none->er=4)/\(∀y,zE m (zv id) id s=some y->er=0/\x=y)
def OpI (wp:World) (g4:Nat) (L:List JS) (gx k:Nat) (W:World):Prop:=
 zG (fun b=>b=g4) wp W/\∃a b c d,zj W g4 77 #[a,b,c,d]/\∀j,k=j+1->∃y vc,L[j]?=some y/\#[a,b,c,d]=jsc vc y/\zk W (fun b=>wp.heap.size+2<=b/\b≠gx) vc y.ch
theorem CG (w:World) (hv:zn w) (hm:Be w ok v m ns) (hs:Small m ns) (hl:Lens m) (hc:Cw m=0) (g7:s.length<=40000000):
  Calls Tryz.prog 30 #[v,.string ⟨s.toArray⟩] w (OpenPost w m (Cy (Ae m ns)) s):=by
 refine (callsIn_wide (n:=6)).1 ?_;have HM:=zh hm;have HV:=zh hv;have HS:=zh hs;have HL:=zh hl;have HC:=zh hc;have j2:=zh g7;obtain ⟨f,u,t,rfl,⟨_,⟨Af,cf,rfl,-,-⟩,-⟩,⟨Au,cu,rfl,-,-⟩,⟨-,_,⟨At,ct,rfl,-,-⟩,-⟩⟩:=hm;obtain ⟨id,hid⟩:∃x,x=Cy (Ae m ns):=⟨_,rfl⟩;rw [<-hid];have i7:=zh hid;have b1:id.length=8:=by rw [hid];exact AF _
 have e8:=zh b1;clear hv hs hl hc g7 hid b1;refine callsIn_of_wp_marks Tryz.func30 rfl trivial ?_ rfl;simp only [Tryz.ntmps30,List.size_toArray,DR,DS,Nat.reduceAdd,Nat.reduceSub,Array.replicate_succ,Array.replicate_zero,List.push_toArray,List.append_toArray,List.nil_append,List.cons_append]
 gi_upto_region 1 with fail
 have a4:=zj.new w #[.int .i64 m.w,.int .i64 m.h,.int .i64 m.l,.slice Af m.free.length cf,.slice Au m.up.length cu,.slice At m.tasks.length ct] 29 (g:=w.heap.size) rfl;have b7:zc w (w.alloc (.cells #[.int .i64 m.w,.int .i64 m.h,.int .i64 m.l,.slice Af m.free.length cf,.slice Au m.up.length cu,.slice At m.tasks.length ct] 29)):=(zc.refl w).alloc _;have a8:(w.alloc (.cells #[.int .i64 m.w,.int .i64 m.h,.int .i64 m.l,.slice Af m.free.length cf,.slice Au m.up.length cu,.slice At m.tasks.length ct] 29)).heap.size=w.heap.size+1:=by simp
 generalize w.alloc _=w1 at a4 b7 a8⊢;have Q:=zj.new w1 #[.slice none 0 0,.int .i64 0,.int .i64 0,.string ⟨#[]⟩] 77 (g:=w1.heap.size) rfl;have a5:zc w1 (w1.alloc (.cells #[.slice none 0 0,.int .i64 0,.int .i64 0,.string ⟨#[]⟩] 77)):=(zc.refl w1).alloc _;have d7:(w1.alloc (.cells #[.slice none 0 0,.int .i64 0,.int .i64 0,.string ⟨#[]⟩] 77)).heap.size=w.heap.size+2:=by simp [a8]
 generalize w1.alloc _=w2 at Q a5 d7⊢;rw [a8] at Q;obtain ⟨gm,c7⟩:∃g,g=w.heap.size:=⟨_,rfl⟩;obtain ⟨g4,c6⟩:∃g,g=w.heap.size+1:=⟨_,rfl⟩;rw [<-c6] at Q⊢;rw [<-c7] at a4⊢;have HG:Hid (gm=w.heap.size/\g4=w.heap.size+1/\w2.heap.size=w.heap.size+2):=⟨c7,c6,d7⟩;have i3:=zh (a4.ext a5);have b2:=zh Q;have E:Hid (zc w w2):=b7.trans a5;obtain ⟨r0,r1,r2,r3,r4,r5⟩:=zu i3.out;have r0:=zc.rule r0;have r1:=zc.rule r1;have r2:=zc.rule r2;have r3:=zc.rule r3;have r4:=zc.rule r4;have r5:=zc.rule r5;obtain ⟨k0,k1,k2,k3⟩:=z6 b2.out;have k0:=zc.rule k0;have k1:=zc.rule k1;have k2:=zc.rule k2;have k3:=zc.rule k3;have m4:zc w2 w2:=zc.refl w2;clear a4 b7 a8 Q a5 d7 c7 c6;have e2:Hid (Calls Tryz.prog 27 #[.agg #[.int .i64 m.w,.int .i64 m.h,.int .i64 m.l,.slice Af m.free.length cf,.slice Au m.up.length cu,.slice At m.tasks.length ct]] w2 fun e w'=>e=.returned (.int .i64 0)/\zc w2 w'):=by have h:=CA w2 (HM.out.maze.below E.out) HL.out;rw [HC.out] at h;exact h
 gi_wp2_with fail
 refine ⟨trivial,?_⟩;refine (callsIn_wide.2 e2.out).mono ?_;rintro e w3 ⟨rfl,f9⟩;have d4:zc w2 w3:=f9;have HD:Hid (∀W,zc w2 W->Calls Tryz.prog 29 #[.agg #[.int .i64 m.w,.int .i64 m.h,.int .i64 m.l,.slice Af m.free.length cf,.slice Au m.up.length cu,.slice At m.tasks.length ct]] W fun e w'=>e=.returned (.string ⟨id.toArray⟩)/\zc W w'):=fun W h=>by have:=Cv W (HV.out.ext (E.out.trans h)) (HM.out.below (E.out.trans h)) HS.out;rw [<-i7.out] at this;exact this
 clear f9 e2
 gi_wp2_with fail
 refine ⟨trivial,?_⟩;refine (callsIn_wide.2 (HD.out _ d4)).mono ?_;rintro e w4 ⟨rfl,g0⟩;have d5:zc w2 w4:=d4.trans g0;clear g0 HD d4;have e6:Hid (∀W,zc w2 W->Calls Tryz.prog 28 #[.string ⟨id.toArray⟩] W fun e w'=>e=.returned (.string ⟨(zv id).toArray⟩)/\zc W w'):=fun W h=>Ce W (HV.out.ext (E.out.trans h)) (by have:=e8.out;omega)
 gi_wp2_with fail
 refine ⟨trivial,?_⟩;refine (callsIn_wide.2 (e6.out _ d5)).mono ?_;rintro e w5 ⟨rfl,g1⟩;have J:zc w2 w5:=d5.trans g1;clear g1 e6 d5;have O:=zh (pre_calls s (zv id) w5);by_cases hp:zv id <+: s
 ·have U:(zv id).isPrefixOf s=true:=List.isPrefixOf_iff_prefix.2 hp;rw [U] at O;have HP:=zh hp;have f1:=zh (jStates_calls (R:=fun b=>b<w.heap.size) id s w5 (HV.out.ext (E.out.trans J)) (((HM.out.maze.bound).weaken fun b G=>G.2).below (E.out.trans J)));clear hp U
  gi_wp2_with fail
  refine ⟨trivial,?_⟩;refine (callsIn_wide.2 O.out).mono ?_;rintro e wb ⟨rfl,rfl⟩
  gi_wp2_with fail
  refine ⟨trivial,?_⟩;refine (callsIn_wide.2 f1.out).mono ?_;rintro e wp ⟨gi,gs,gq,rfl,g3,j7,k4,j9,g5⟩;have d6:zc w2 wp:=J.trans g3;have f3:=zh d6;have i4:=zh (b2.out.ext d6);have j4:=J.size;have I:Hid (w2.heap.size<=wp.heap.size):=d6.size
  have e5:=zh (fun n=>jStates_gives (Z:=fun b=>b=g4) wp g5 HL.out HC.out e8.out j2.out HP.out.length_le (fun b G=>by have h1:=HG.out;have h2:=I.out;exact ⟨by omega,by omega⟩) (by have h1:=HG.out;exact ⟨by omega,by omega,by omega⟩)
   (fun b G=>by have h1:=HG.out;have h2:=I.out;exact ⟨by omega,var_new HV.out (by omega)⟩) n)
  obtain ⟨L,hL⟩:=DT (allJ m s s.length (j0 id));rw [<-hL] at e5;have e9:=zh hL;clear g3 j7 k4 j9 g5 J f1 O j4 hL k0 k1 k2 k3
  gi_wp2_with fail
  refine wpIn_loopJ (gf:=85) (lb:=#[.pointer (some ⟨gi,0,none⟩),.pointer (some ⟨gs,0,none⟩),.pointer (some ⟨gq,0,none⟩)]) rfl (enters_of Tryz.func85 (by kernel_rfl) rfl) (Z:=fun b=>b=g4) (fun b G=>by have h1:=HG.out;have h2:=I.out;omega) (e5.out _) (zc.refl wp) (fun _=>rfl)
   (OpI wp g4 L) ?hI (fun gx k x a W'=>∃y vc g8 u0 u1 u2 u3 u5 u6 u7 u9 u10 u11 u12 u13 u14 u15 u16 u17 u18 u19 u20 u21 u22 u23 u24 u25 u26 u27 u28 u29,L[k]?=some y/\x=.agg (jsc vc y)/\a={ tmps:=#[u0,u1,u2,u3,.pointer (some ⟨g4,0,none⟩),u5,u6,u7,.pointer (some ⟨g8,0,none⟩),u9,u10,u11,u12,u13,u14,u15,u16,u17,u18,u19,u20,u21,u22,u23,u24,u25,u26,u27,u28,u29],defers:=[] }/\zj W' g8 77 (jsc vc y)/\wp.heap.size<=g8/\zk W' (fun b=>wp.heap.size+2<=b/\b≠gx) vc y.ch) ?hAx ?hI0 ?hassign ?hbody ?hdone
  case hI=>
   rintro gx k A B c8 ⟨h1,a,b,c,d,h2,h3⟩ b4;have h4:=HG.out;have h5:=I.out;refine ⟨zG.trans h1 b4 (fun k hk hX=>by omega),a,b,c,d,b4.blk h2 (by omega),fun j hj=>?_⟩;obtain ⟨y,vc,h6,h7,h8⟩:=h3 j hj;exact ⟨y,vc,h6,h7,h8.keep (b4.same fun b G e=>by omega)⟩
  case hAx=>
   rintro gx k x a A l ⟨y,vc,g8,u0,u1,u2,u3,u5,u6,u7,u9,u10,u11,u12,u13,u14,u15,u16,u17,u18,u19,u20,u21,u22,u23,u24,u25,u26,u27,u28,u29,h1,h2,h3,h4,h5,h6⟩ h7 h8 ⟨r,hr⟩ o;have k7:∀off,A.cell? ⟨l,off,none⟩=none:=fun off=>by unfold World.cell?;simp only [hr]
   have j8:g8≠l:=by
    rintro rfl;unfold zj at h4;rw [hr] at h4;cases h4
   refine ⟨y,vc,g8,u0,u1,u2,u3,u5,u6,u7,u9,u10,u11,u12,u13,u14,u15,u16,u17,u18,u19,u20,u21,u22,u23,u24,u25,u26,u27,u28,u29,h1,h2,h3,(World.putObj_heap_other j8).trans h4,h5,?_⟩;exact ((h6.apartJ k7).keep (fun b G _=>World.putObj_heap_other G.2)).weaken fun b G=>G.1
  case hI0=>
   intro gx W hE;exact ⟨zG.of_ext hE,_,_,_,_,i4.out.ext hE,fun j hj=>by omega⟩
  case hassign=>
   rintro l gx k x W0 K c8 k6 - ⟨y,vc,a6,rfl,hi⟩ hs hK;obtain ⟨Av,cv,rfl,-,-⟩:=_root_.id hi;rw [fold_one];simp only [jsc];have i8:=zh hi;clear hi
   gi_wp2_with fail
   have hE:=(zc.refl W0).alloc (.cells (jsc (.slice Av y.ch.length cv) y) 77);exact hK _ _ hE ⟨y,.slice Av y.ch.length cv,_,_,_,_,_,_,_,_,_,_,_,_,_,_,_,_,_,_,_,_,_,_,_,_,_,_,_,_,_,a6,rfl,rfl,zj.new _ _ _ rfl,Nat.le_of_lt hs,i8.out.below hE⟩
  case hbody=>
   rintro l gx k x a W0 c8 k6 ⟨f4,a0,b0,c0,d0,a3,-⟩ ⟨y,vc,g8,u0,u1,u2,u3,u5,u6,u7,u9,u10,u11,u12,u13,u14,u15,u16,u17,u18,u19,u20,u21,u22,u23,u24,u25,u26,u27,u28,u29,a6,rfl,rfl,b5,j6,b8⟩ hs ⟨rl,k8⟩;obtain ⟨Av,cv,rfl,-,-⟩:=_root_.id b8;simp only [jsc] at b5;obtain ⟨p0,p1,p2,p3⟩:=z6 b5;obtain ⟨q0,q1,q2,q3⟩:=z6 a3;have fz:∀j,W0.frozen? ⟨g4,j,none⟩=false:=fun j=>a3.frozen j
   have i2:=zh a3;have i5:=zh f4;have i6:=zh b8;have i9:=zh a6;clear b5 a3 f4 b8 a6 k8 hs j6
   gi_wp2_with fail
   have h1:=HG.out;have h2:=I.out;have hC:zG (fun b=>b=g4) W0 ((((W0.setCell ⟨g4,0,none⟩ (.slice Av y.ch.length cv)).setCell ⟨g4,1,none⟩ (.int .i64 y.steps)).setCell ⟨g4,2,none⟩ (.int .i64 y.fin)).setCell ⟨g4,3,none⟩ (.string ⟨y.sg.toArray⟩)):=((((zG.refl (fun b=>b=g4) W0).set g4 0 _ rfl).set g4 1 _ rfl).set g4 2 _ rfl).set g4 3 _ rfl;refine ⟨hC,i5.out.tr hC,_,_,_,_,(((i2.out.set (k:=0) _).set (k:=1) _).set (k:=2) _).set (k:=3) _,fun j hj=>?_⟩;obtain rfl:k=j:=by omega
   exact ⟨y,.slice Av y.ch.length cv,i9.out,rfl,i6.out.keep (hC.same fun b G e=>by omega)⟩
  case hdone=>
   rintro D gx W3 f6 f7 c8 ⟨f5,a0,b0,c0,d0,M,V⟩ b9;have g6:0<L.length:=by rw [e9.out];exact allJ_pos _ _ _ _
   obtain ⟨y,vc,hy,he,hi⟩:=V (L.length - 1) (by omega)
   have g9:y=endJ m s (j0 id):=by
    have h:=allJ_last m s s.length (j0 id);rw [<-e9.out,hy] at h;injection h
   obtain ⟨Av,cv,rfl,-,-⟩:=_root_.id hi;rw [he] at M;simp only [jsc] at M;obtain ⟨q0,q1,q2,q3⟩:=z6 M;have fz:∀j,W3.frozen? ⟨g4,j,none⟩=false:=fun j=>M.frozen j
   have h1:=HG.out;have h2:=I.out;have hC:zG (fun b=>b=g4) wp ((((W3.setCell ⟨g4,0,none⟩ (.slice Av y.ch.length cv)).setCell ⟨g4,1,none⟩ (.int .i64 y.steps)).setCell ⟨g4,2,none⟩ (.int .i64 y.fin)).setCell ⟨g4,3,none⟩ (.string ⟨y.sg.toArray⟩)):=(((f5.set g4 0 _ rfl).set g4 1 _ rfl).set g4 2 _ rfl).set g4 3 _ rfl;have hB:zj ((((W3.setCell ⟨g4,0,none⟩ (.slice Av y.ch.length cv)).setCell ⟨g4,1,none⟩ (.int .i64 y.steps)).setCell ⟨g4,2,none⟩ (.int .i64 y.fin)).setCell ⟨g4,3,none⟩ (.string ⟨y.sg.toArray⟩)) g4 77 #[.slice Av y.ch.length cv,.int .i64 y.steps,.int .i64 y.fin,.string ⟨y.sg.toArray⟩]:=(((M.set (k:=0) _).set (k:=1) _).set (k:=2) _).set (k:=3) _;have b6:zG (fun b=>b=g4) W3 ((((W3.setCell ⟨g4,0,none⟩ (.slice Av y.ch.length cv)).setCell ⟨g4,1,none⟩ (.int .i64 y.steps)).setCell ⟨g4,2,none⟩ (.int .i64 y.fin)).setCell ⟨g4,3,none⟩ (.string ⟨y.sg.toArray⟩)):=((((zG.refl (fun b=>b=g4) W3).set g4 0 _ rfl).set g4 1 _ rfl).set g4 2 _ rfl).set g4 3 _ rfl;have e1:=zh hC;have e0:=zh hB;have e7:=zh (hi.keep (b6.same fun b G e=>by omega));have e4:Hid (((((W3.setCell ⟨g4,0,none⟩ (.slice Av y.ch.length cv)).setCell ⟨g4,1,none⟩ (.int .i64 y.steps)).setCell ⟨g4,2,none⟩ (.int .i64 y.fin)).setCell ⟨g4,3,none⟩ (.string ⟨y.sg.toArray⟩)).heap[D]?=some (.deferred (some []))):=(b6.block D (za b9) (by omega)).trans b9;have j3:=zh g9;have e3:Hid (wp.heap.size<=D/\D<=wp.heap.size):=⟨f6,f7⟩;clear hC hB b6 g9 f5 M V b9 hy he hi g6 h1 h2 f6 f7
   gi_wp2_with fail
   generalize ((((W3.setCell ⟨g4,0,none⟩ (.slice Av y.ch.length cv)).setCell ⟨g4,1,none⟩ (.int .i64 y.steps)).setCell ⟨g4,2,none⟩ (.int .i64 y.fin)).setCell ⟨g4,3,none⟩ (.string ⟨y.sg.toArray⟩))=wf at e1 e0 e7 e4⊢;refine ⟨by simp,.inl ⟨_,_,rfl,run_takeDeferred e4.out,?_⟩⟩;have h1:=HG.out;have h2:=I.out;have h3:=e3.out;have hS:∀b,b≠D->(wf.putObj D (.deferred none)).heap[b]?=wf.heap[b]?:=fun b G=>World.putObj_heap_other G
   obtain ⟨y0,y1,y2,y3⟩:=z6 (show zj (wf.putObj D (.deferred none)) g4 _ _ from (hS g4 (by omega)).trans e0.out);refine ⟨.tuple #[.agg #[.slice Av y.ch.length cv,.int .i64 y.steps,.int .i64 y.fin,.string ⟨y.sg.toArray⟩],.int .i64 0],by simp [results,Tryz.results30,go_sem,y0,y1,y2,y3],?_⟩;refine ⟨.slice Av y.ch.length cv,y,0,rfl,?_,?_,fun h=>?_,fun z hz=>⟨rfl,?_⟩⟩
   ·have h4:=(e1.out.grown (grownBy_putObj' _ D (.deferred none)) (fun k e hk=>absurd hk (by have e':D=k:=Option.some.inj e;omega)));exact Below.trans (E.out.trans f3.out) (h4.below (E.out.trans f3.out).size (fun b G=>by omega))
   ·exact (e7.out.keep (fun b G _=>hS b (by omega))).weaken fun b G=>by omega
   ·unfold zE at h;rw [if_pos HP.out] at h;cases h
   ·unfold zE at hz;rw [if_pos HP.out] at hz;injection hz with hz;rw [j3.out];exact hz
 ·have U:(zv id).isPrefixOf s=false:=by
   cases h:(zv id).isPrefixOf s with
   | false=>rfl
   | true=>exact absurd (List.isPrefixOf_iff_prefix.1 h) hp
  rw [U] at O;have HP:=zh hp;have d9:=zh (b2.out.ext J);have fz:∀j,w5.frozen? ⟨g4,j,none⟩=false:=fun j=>d9.out.frozen j
  have f2:Hid (zc w w5):=E.out.trans J;clear hp U
  gi_wp2_with fail
  refine ⟨trivial,?_⟩;refine (callsIn_wide.2 O.out).mono ?_;rintro e wb ⟨rfl,rfl⟩
  gi_wp2_with fail
  have h1:=HG.out;have hC:zG (fun b=>b=g4) w5 ((((w5.setCell ⟨g4,0,none⟩ (.slice none 0 0)).setCell ⟨g4,1,none⟩ (.int .i64 0)).setCell ⟨g4,2,none⟩ (.int .i64 0)).setCell ⟨g4,3,none⟩ (.string ⟨#[]⟩)):=((((zG.refl (fun b=>b=g4) w5).set g4 0 _ rfl).set g4 1 _ rfl).set g4 2 _ rfl).set g4 3 _ rfl;have hB:zj ((((w5.setCell ⟨g4,0,none⟩ (.slice none 0 0)).setCell ⟨g4,1,none⟩ (.int .i64 0)).setCell ⟨g4,2,none⟩ (.int .i64 0)).setCell ⟨g4,3,none⟩ (.string ⟨#[]⟩)) g4 77 #[.slice none 0 0,.int .i64 0,.int .i64 0,.string ⟨#[]⟩]:=(((d9.out.set (k:=0) _).set (k:=1) _).set (k:=2) _).set (k:=3) _;obtain ⟨y0,y1,y2,y3⟩:=z6 hB;refine ⟨.tuple #[.agg #[.slice none 0 0,.int .i64 0,.int .i64 0,.string ⟨#[]⟩],.int .i64 4],by simp [results,Tryz.results30,go_sem,y0,y1,y2,y3],?_⟩;refine ⟨_,⟨[],0,0,[]⟩,4,rfl,?_,zk.nil _ _,fun _=>rfl,fun z hz=>?_⟩
  ·exact Below.trans f2.out (hC.below f2.out.size (fun b G=>by omega))
  ·unfold zE at hz;rw [if_neg HP.out] at hz;cases hz
end
section
open Go.RowKit Go.Shelf
attribute [local go_sem ↓] Go.wp_at_zero Go.wp_at_succ
theorem own_next {t u ty e:TypeId} {i:TypeInfo} (ht:P.underlying t=some (.slice e)) (hu:P.underlying u=some .string) (Q:P.info? e=some i) (hz:i.zero=some (.int .u8 0)) (d:i.size=1) (I:i.bytes=1)
  {v':Value} (o:w.ownsRowF base e 1 v n xs) (s:ByteArray) (G:n+s.size<=maxLen) (D:n+s.size<=140737488355328) (U:(Builtin.append_ #[t,u] ty #[v,.string s]).run P w=.ok v' w'):
  v'.ownBlock=v.ownBlock\/∀g,v'.ownBlock=some g->w.heap.size<=g:=by
 rcases o.2 with ⟨rfl,rfl⟩ | ⟨g,cap,cur,fz,rfl,a5,O,hfz,a8,a6,M,V⟩
 ·obtain ⟨v2,w2,h1,h2,-,-⟩:=Lib.run_append_own_string (P:=P) w w.heap.size t u ty e i ht hu Q hz d I (.slice none 0 0) 0 xs ⟨o.1,.inl ⟨rfl,rfl⟩⟩ s G D (CS _);rw [U] at h1;injection h1 with e1 e2;subst e1;exact .inr fun g O=>(World.ownsRow.lt h2 g O).1
 ·have J:n+s.size<=9223372036854775807:=by simp only [maxLen] at G;omega
  have a1:xs.length=n:=by simpa using o.1
  by_cases E:n+s.size<=cap
  ·have a2:cur.size=cap:=by simpa using M
   have h1:=Lib.run_append_room_stringF (P:=P) w t u ty e i ht hu Q d g n cap cur fz O (by simpa using hfz) s E (by omega);rw [U] at h1;injection h1 with e1 e2;subst e1;exact .inl rfl
  ·have h1:=Lib.run_append_grow_string (P:=P) w t u ty e i (.int .u8 0) ht hu Q hz ⟨g,0,none⟩ n cap xs (by rw [d];simpa using a1) (o.cells (g:=g) rfl) s (by omega) (by omega) (by rw [I];exact growslice_fits (by omega) (by omega));rw [U] at h1;injection h1 with e1 e2;subst e1;refine .inr fun k hk=>?_
   simp [Value.ownBlock] at hk;omega
theorem ownF_chg {e:TypeId} (h:w.ownsRowF base e size v n xs) (o:zG X w w') (D:∀g,v.ownBlock=some g->¬ X g):w'.ownsRowF base e size v n xs:=by
 refine ⟨h.1,?_⟩;rcases h.2 with G | ⟨g,cap,cur,fz,rfl,E,d,rest⟩
 ·exact .inl G
 ·exact .inr ⟨g,cap,cur,fz,rfl,E,(o.block g (BJ d) (D g rfl)).trans d,rest⟩
def BuiK (K:Nat->Prop) (B:Nat) (bs:List Value) (w:World):Prop:=
 K B/\∃p v,(p=.pointer none\/p=.pointer (some ⟨B,0,none⟩))/\w.heap[B]?=some (.cells #[p,v] 83 (0,0))/\w.ownsRowF B 5 1 v bs.length bs/\v.ownBlock≠some B/\∀g,v.ownBlock=some g->K g
theorem BuiK.bui (h:BuiK K B bs w):CN B bs w:=by
 obtain ⟨-,p,v,rfl | rfl,h1,d,o,-⟩:=h
 ·exact .inl ⟨CS _,v,h1,d,o⟩
 ·exact .inr ⟨CS _,v,h1,d,o⟩
theorem BuiK.chg (h:BuiK K B bs w) (o:zG X w w') (E:∀k,K k->¬ X k):BuiK K B bs w':=by
 obtain ⟨D,p,v,hp,h1,G,I,d⟩:=h;exact ⟨D,p,v,hp,(o.block B (BJ h1) (E B D)).trans h1,ownF_chg G o (fun g J=>E g (d g J)),I,d⟩
theorem BuiK.lt (h:BuiK K B bs w):B<w.heap.size:=by
 obtain ⟨-,p,v,-,h1,-⟩:=h;exact BJ h1
theorem BuiK.wide {K':Nat->Prop} (h:BuiK K B bs w) (d:∀k,K k->K' k):BuiK K' B bs w:=by
 obtain ⟨h0,p,v,hp,h1,o,D,E⟩:=h;exact ⟨d _ h0,p,v,hp,h1,o,D,fun g G=>d _ (E g G)⟩
theorem BuiK.new (w:World):BuiK (fun b=>b=w.heap.size) w.heap.size [] (w.alloc (.cells #[.pointer none,.slice none 0 0] 83)):=
 ⟨rfl,_,_,.inl rfl,DD w _,World.ownsRowF_nil _ _ _ _,by simp [Value.ownBlock],fun g d=>by simp [Value.ownBlock] at d⟩
theorem wpApp_K {ops:Array Oper} {rest:List Oper} {o:Oper} {a:Act} {Q:Exit->Act->World->Prop} (M:o.guard=none) (sl x:Operand) (t u:TypeId)
  (ho:o.op=.call { callee:=.builtin .append,args:=#[sl,x],argTypes:=#[t,u] })
  (base:Nat) (e:TypeId) (i:TypeInfo) (ht:P.underlying t=some (.slice e)) (V:P.underlying u=some .string) (O:P.info? e=some i) (hz:i.zero=some (.int .u8 0)) (D:i.size=1) (J:i.bytes=1)
  (v:Value) (n:Nat) (xs:List Value) (hs:a.eval sl=v) (E:w.ownsRowF base e 1 v n xs) (s:ByteArray) (hx:a.eval x=.string s)
  (I:n+s.size<=maxLen) (d:n+s.size<=140737488355328) (G:base<=w.heap.size)
  (h:∀v' w',w'.ownsRowF base e 1 v' (n+s.size) (xs++Lib.strCells s)->w.grownBy w' v.ownBlock->(v'.ownBlock=v.ownBlock\/∀g,v'.ownBlock=some g->w.heap.size<=g)->wpList P ops Q rest (a.put o.dst v') w'):wpList P ops Q (o :: rest) a w:=by
 obtain ⟨v',w',U,h2,h3,-⟩:=Lib.run_append_own_stringF (P:=P) w base t u o.type e i ht V O hz D J v n xs E s I d G;have hn:=own_next ht V O hz D J E s I d U;refine wpList_plain M fun K hK=>?_
 unfold Oper.wp execOp;simp only [ho,resolve,invoke,builtin,Sem.run_bind,Sem.run_pure,Result.andThen_ok,List.map_toArray,List.map_cons,List.map_nil,hs,hx,U];exact hK _ _ (h v' w' h2 h3 hn)
theorem cc_K (h:BuiK K B bs w):Calls Tryz.prog 61 #[.pointer (some ⟨B,0,none⟩)] w fun e w'=>e=.returned (.tuple #[])/\zG K w w'/\w'.heap.size=w.heap.size/\
  ∃v,w'.heap[B]?=some (.cells #[.pointer (some ⟨B,0,none⟩),v] 83 (0,0))/\w'.ownsRowF B 5 1 v bs.length bs/\v.ownBlock≠some B/\∀g,v.ownBlock=some g->K g:=by
 obtain ⟨I,p,v,rfl | rfl,h1,D,d,E⟩:=h
 ·have o:Lib.BuilderAtF 83 5 B B (.pointer none) bs w:=⟨CS _,v,h1,D,d⟩;refine (ccNew B w o.cell0 o.shape o.frozen0).mono ?_;rintro e w' ⟨rfl,rfl⟩;have G:zG (fun b=>b=B) w (w.setCell ⟨B,0,none⟩ (.pointer (some ⟨B,0,none⟩))):=(zG.refl (fun b=>b=B) w).set B 0 _ rfl;exact ⟨rfl,G.wide fun k e=>e ▸ I,by simp [World.setCell],v,(show zj w B 83 #[.pointer none,v] from h1).set (k:=0) _,ownF_chg D G (fun g J e=>d (by rw [J,e])),d,E⟩
 ·have o:Lib.BuilderAtF 83 5 B B (.pointer (some ⟨B,0,none⟩)) bs w:=⟨CS _,v,h1,D,d⟩;refine (ccUsed B w o.cell0).mono ?_;rintro e w' ⟨rfl,rfl⟩;exact ⟨rfl,zG.refl _ _,rfl,v,h1,D,d,E⟩
theorem wString_K (s:ByteArray) (h:BuiK K B bs w) (hl:bs.length+s.size<=140737488355328):
  Calls Tryz.prog 32 #[.pointer (some ⟨B,0,none⟩),.string s] w fun e w'=>e=.returned (.tuple #[.int .i64 s.size,.nilIface])/\zG K w w'/\BuiK (fun b=>K b\/(w.heap.size<=b/\b<w'.heap.size)) B (bs++Lib.strCells s) w':=by
 obtain ⟨i0,hi,a5,a6,a7⟩:=info_parts sExt.infoByte;have M:=h.1;have H:=zh h;clear h
 go_enter Tryz.func32,Tryz.ntmps32
 go_wp2_with fail
 refine (cc_K H.out).mono ?_;rintro e w1 ⟨rfl,J,a0,v,G,V,Q,I⟩;have c1:w1.cell? ⟨B,1,none⟩=some v:=by rw [Lib.cell_of_heap G];rfl
 have a3:=BJ G;have a2:=zh a0;clear a0
 go_wp2_with (at_builtin;refine wpApp_K rfl _ _ 51 9 rfl B 5 i0 Tryz.underlying51 Tryz.underlying9 hi a5 a6 a7 _ _ _ rfl V s rfl ?c3 ?c4 ?c5 ?_)
 case c3=>unfold maxLen;omega
 case c4=>omega
 case c5=>omega
 intro v' w2 o hg U
 have E:w2.heap[B]?=some (.cells #[.pointer (some ⟨B,0,none⟩),v] 83 (0,0)):=by
  rw [hg.block B a3 (fun e=>Q e.symm)];exact G
 have d1:w2.cell? ⟨B,1,none⟩=some v:=by rw [Lib.cell_of_heap E];rfl
 have f1:w2.frozen? ⟨B,1,none⟩=false:=Lib.frozen_of_heap E 1
 obtain ⟨ao,n',cap,rfl⟩:∃ao n' cap,v'=.slice ao n' cap:=by
  rcases o.2 with ⟨hv,_⟩ | ⟨g,cap,cur,fz,hv,_⟩
  ·exact ⟨_,_,_,hv⟩
  ·exact ⟨_,_,_,hv⟩
 have D:Hid (∀g,(Value.slice ao n' cap).ownBlock=some g->(K g\/(w.heap.size<=g/\g<w2.heap.size))/\g≠B):=fun g d=>by
  have O:=(o.lt g d).2;rcases U with hn | hn
  ·rw [hn] at d;exact ⟨.inl (I g d),fun e=>Q (e ▸ d)⟩
  ·have:=hn g d;exact ⟨.inr ⟨by rw [<-a2.out];exact this,O⟩,fun e=>by omega⟩
 have a1:Hid (zG K w w2):=J.grown hg (fun k hk _=>I k hk);clear U J I;go_wp2
 go_ret2
 refine ⟨rfl,a1.out.set B 1 _ M,.inl M,_,.slice ao n' cap,.inr rfl,(show zj w2 B 83 #[.pointer (some ⟨B,0,none⟩),v] from E).set (k:=1) _,?_,?_,fun g d=>?_⟩
 ·refine ownF_chg (X:=fun b=>b=B) ?_ ((zG.refl (fun b=>b=B) w2).set B 1 _ rfl) (fun g d e=>(D.out g d).2 e);simpa [Lib.strCells_length] using o
 ·exact fun e=>(D.out B e).2 rfl
 ·have h1:=(D.out g d).1;simpa [World.setCell] using h1
theorem buiK_app {x y z:List UInt8} (h:BuiK K B (Lib.byteCells x++Lib.strCells ⟨y.toArray⟩) w) (e:z=x++y):BuiK K B (Lib.byteCells z) w:=by
 rw [bui_str] at h;rw [e];exact h
end
section
open Go.RowKit Go.Shelf
attribute [local go_sem ↓] Go.wp_at_zero Go.wp_at_succ
attribute [local go_sem] Oper.semAt_some
theorem mz_box (w:World) (m:MZ) (Af:Option Addr) (cf:Nat) (Au:Option Addr) (cu:Nat) (At:Option Addr) (ct:Nat):zc w (w.alloc (.cells (mzc m Af cf Au cu At ct) 29))/\
  (∀W,zc (w.alloc (.cells (mzc m Af cf Au cu At ct) 29)) W->W.cell? ⟨w.heap.size,0,none⟩=some (.int .i64 m.w))/\(∀W,zc (w.alloc (.cells (mzc m Af cf Au cu At ct) 29)) W->W.cell? ⟨w.heap.size,1,none⟩=some (.int .i64 m.h))/\
  (∀W,zc (w.alloc (.cells (mzc m Af cf Au cu At ct) 29)) W->W.cell? ⟨w.heap.size,2,none⟩=some (.int .i64 m.l))/\(∀W,zc (w.alloc (.cells (mzc m Af cf Au cu At ct) 29)) W->W.cell? ⟨w.heap.size,3,none⟩=some (.slice Af m.free.length cf))/\
  (∀W,zc (w.alloc (.cells (mzc m Af cf Au cu At ct) 29)) W->W.cell? ⟨w.heap.size,4,none⟩=some (.slice Au m.up.length cu))/\(∀W,zc (w.alloc (.cells (mzc m Af cf Au cu At ct) 29)) W->W.cell? ⟨w.heap.size,5,none⟩=some (.slice At m.tasks.length ct)):=by
 obtain ⟨r0,r1,r2,r3,r4,r5⟩:=zu (zj.new w (mzc m Af cf Au cu At ct) 29 (g:=w.heap.size) rfl);exact ⟨(zc.refl w).alloc _,zc.rule r0,zc.rule r1,zc.rule r2,zc.rule r3,zc.rule r4,zc.rule r5⟩
theorem jBegin_calls (w:World) (hv:zn w) (hm:Be w ok v m ns) (hs:Small m ns) (hl:Lens m) (hc:Cw m=0):
  Calls Tryz.prog 8 #[v] w fun e w'=>e=.returned (.tuple #[.string ⟨(zv (Cy (Ae m ns))).toArray⟩,.int .i64 0])/\zc w w':=by
 have HM:=zh hm;have HV:=zh hv;have HS:=zh hs;have HL:=zh hl;have HC:=zh hc;obtain ⟨f,u,t,rfl,⟨_,⟨Af,cf,rfl,-,-⟩,-⟩,⟨Au,cu,rfl,-,-⟩,⟨-,_,⟨At,ct,rfl,-,-⟩,-⟩⟩:=hm;obtain ⟨id,hid⟩:∃x,x=Cy (Ae m ns):=⟨_,rfl⟩;rw [<-hid];have D:id.length=8:=by rw [hid];exact AF _
 have O:=zh hid;have Q:=zh D;clear hv hs hl hc hid D
 go_enter Tryz.func8,Tryz.ntmps8
 go_upto_region 1 with fail;obtain ⟨o,r0,r1,r2,r3,r4,r5⟩:=mz_box w m Af cf Au cu At ct;simp only [mzc] at o r0 r1 r2 r3 r4 r5;generalize w.alloc _=w2 at o r0 r1 r2 r3 r4 r5⊢;have d:=zh o;have a9:zc w2 w2:=zc.refl w2;have G:Hid (Calls Tryz.prog 27 #[.agg #[.int .i64 m.w,.int .i64 m.h,.int .i64 m.l,.slice Af m.free.length cf,.slice Au m.up.length cu,.slice At m.tasks.length ct]] w2 fun e w'=>e=.returned (.int .i64 0)/\zc w2 w'):=by have h:=CA w2 (HM.out.maze.below d.out) HL.out;rw [HC.out] at h;exact h
 clear o
 go_wp2_with fail
 refine G.out.mono ?_;rintro e w3 ⟨rfl,J⟩;have E:zc w2 w3:=J;have V:Hid (∀W,zc w2 W->Calls Tryz.prog 29 #[.agg #[.int .i64 m.w,.int .i64 m.h,.int .i64 m.l,.slice Af m.free.length cf,.slice Au m.up.length cu,.slice At m.tasks.length ct]] W fun e w'=>e=.returned (.string ⟨id.toArray⟩)/\zc W w'):=fun W h=>by have:=Cv W (HV.out.ext (d.out.trans h)) (HM.out.below (d.out.trans h)) HS.out;rw [<-O.out] at this;exact this
 clear J G
 go_wp2_with fail
 refine (V.out _ E).mono ?_;rintro e w4 ⟨rfl,M⟩;have I:Hid (zc w w4):=(d.out.trans E).trans M;clear M V E
 go_wp2_with fail
 refine (Ce w4 (HV.out.ext I.out) (by have:=Q.out;omega)).mono ?_;rintro e w5 ⟨rfl,U⟩
 go_wp2_with fail
 go_ret2
 exact ⟨rfl,I.out.trans U⟩
def ReadPost (w:World) (m:MZ) (id s:List UInt8) (e:Ending) (w':World):Prop:=
 ∃vc x er,e=.returned (.tuple #[vc,.int .i64 x.steps,.int .i64 x.fin,.int .i64 er])/\zc w w'/\zk w' (fun b=>w.heap.size<=b) vc x.ch/\(zE m (zv id) id s=none->er=4)/\(∀y,zE m (zv id) id s=some y->er=0/\x=y)
theorem jRead_calls (w:World) (hv:zn w) (hm:Be w ok v m ns) (hs:Small m ns) (hl:Lens m) (hc:Cw m=0) (O:s.length<=40000000):
  Calls Tryz.prog 13 #[v,.string ⟨s.toArray⟩] w (ReadPost w m (Cy (Ae m ns)) s):=by
 have HM:=zh hm;obtain ⟨f,u,t,rfl,⟨_,⟨Af,cf,rfl,-,-⟩,-⟩,⟨Au,cu,rfl,-,-⟩,⟨-,_,⟨At,ct,rfl,-,-⟩,-⟩⟩:=hm;have HO:Hid (∀W,zc w W->Calls Tryz.prog 30 #[.agg #[.int .i64 m.w,.int .i64 m.h,.int .i64 m.l,.slice Af m.free.length cf,.slice Au m.up.length cu,.slice At m.tasks.length ct],.string ⟨s.toArray⟩] W (OpenPost W m (Cy (Ae m ns)) s)):=fun W h=>CG W (hv.ext h) (HM.out.below h) hs hl hc O
 clear hv hs hl hc O
 go_enter Tryz.func13,Tryz.ntmps13
 go_upto_region 1 with fail;obtain ⟨E,r0,r1,r2,r3,r4,r5⟩:=mz_box w m Af cf Au cu At ct;simp only [mzc] at E r0 r1 r2 r3 r4 r5;generalize w.alloc _=w2 at E r0 r1 r2 r3 r4 r5⊢;have G:=zh E;have a3:zc w2 w2:=zc.refl w2;clear E
 go_wp2_with fail
 refine (HO.out _ G.out).mono ?_;rintro e w3 ⟨vc,x,er,rfl,J,M,h1,h2⟩;have U:=zh M;have HR:=zh (And.intro h1 h2);have V:Hid (zc w w3):=G.out.trans J;obtain ⟨Ac,cc,rfl,-,-⟩:=M;clear h1 h2 J;simp only [jsc];go_upto_region 2 with fail;have hB:=zj.new w3 #[.slice Ac x.ch.length cc,.int .i64 x.steps,.int .i64 x.fin,.string ⟨x.sg.toArray⟩] 77 (g:=w3.heap.size) rfl;have I:zc w3 (w3.alloc (.cells #[.slice Ac x.ch.length cc,.int .i64 x.steps,.int .i64 x.fin,.string ⟨x.sg.toArray⟩] 77)):=(zc.refl w3).alloc _;generalize w3.alloc _=w4 at hB I⊢;obtain ⟨k0,k1,k2,k3⟩:=z6 hB;have k0:=zc.rule k0;have k1:=zc.rule k1;have k2:=zc.rule k2;have Q:=zh I;have hx:zc w4 w4:=zc.refl w4;clear hB I k3 r0 r1 r2 r3 r4 r5 a3;refine wp_dark (fun Q' D a2=>?_) (fun c a a' w hd h=>by obtain ⟨t,d⟩:=a;obtain ⟨t',d'⟩:=a';cases hd;exact h);refine Aj (S:=(fun W=>zc w4 W)) AG (hx.drew) fun zH=>?_;generalize w4.drew=wd at zH⊢;refine ze (i:=0) (v:=?v1) rfl (by kernel_rfl) (by kernel_rfl) (by kernel_rfl) (by kernel_rfl) (fun _ _ _ h=>D _ _ _ _ (by rfl) h) (Or.inl ⟨?w1,?y1⟩) zH ?r1
 case w1=>rfl
 case y1=>(intro w o;go_simp;try with_reducible rfl)
 simp only [zd,CP];refine ze (i:=1) (v:=?v2) rfl (by kernel_rfl) (by kernel_rfl) (by kernel_rfl) (by kernel_rfl) (fun _ _ _ h=>D _ _ _ _ (by rfl) h) (Or.inl ⟨?w2,?y2⟩) zH ?r2
 case w2=>rfl
 case y2=>(intro w o;go_simp;try with_reducible rfl)
 simp only [zd,CP];refine ze (i:=2) (v:=?v3) rfl (by kernel_rfl) (by kernel_rfl) (by kernel_rfl) (by kernel_rfl) (fun _ _ _ h=>D _ _ _ _ (by rfl) h) (Or.inl ⟨?w3,?y3⟩) zH ?r3
 case w3=>rfl
 case y3=>(intro w o;go_simp;try with_reducible rfl)
 simp only [zd,CP];refine ze (i:=3) (v:=?v4) rfl (by kernel_rfl) (by kernel_rfl) (by kernel_rfl) (by kernel_rfl) (fun _ _ _ h=>D _ _ _ _ (by rfl) h) (Or.inl ⟨?w4,?y4⟩) zH ?r4
 case w4=>rfl
 case y4=>(intro w o;go_simp;try with_reducible rfl)
 simp only [zd,CP];refine ze (i:=4) (v:=?v5) rfl (by kernel_rfl) (by kernel_rfl) (by kernel_rfl) (by kernel_rfl) (fun _ _ _ h=>D _ _ _ _ (by rfl) h) (Or.inl ⟨?w5,?y5⟩) zH ?r5
 case w5=>rfl
 case y5=>(intro w o;go_simp;try with_reducible rfl)
 simp only [zd,CP];refine ze (i:=5) (v:=?v6) rfl (by kernel_rfl) (by kernel_rfl) (by kernel_rfl) (by kernel_rfl) (fun _ _ _ h=>D _ _ _ _ (by rfl) h) (Or.inl ⟨?w6,?y6⟩) zH ?r6
 case w6=>rfl
 case y6=>(intro w o;go_simp;try with_reducible rfl)
 simp only [zd,CP];refine ze (i:=6) (v:=?v7) rfl (by kernel_rfl) (by kernel_rfl) (by kernel_rfl) (by kernel_rfl) (fun _ _ _ h=>D _ _ _ _ (by rfl) h) (Or.inl ⟨?w7,?y7⟩) zH ?r7
 case w7=>rfl
 case y7=>(intro w o;go_simp;try with_reducible rfl)
 simp only [zd,CP];refine ze (i:=7) (v:=?v8) rfl (by kernel_rfl) (by kernel_rfl) (by kernel_rfl) (by kernel_rfl) (fun _ _ _ h=>D _ _ _ _ (by rfl) h) (Or.inl ⟨?w8,?y8⟩) zH ?r8
 case w8=>rfl
 case y8=>(intro w o;go_simp;try with_reducible rfl)
 simp only [zd,CP];refine ze (i:=8) (v:=?v9) rfl (by kernel_rfl) (by kernel_rfl) (by kernel_rfl) (by kernel_rfl) (fun _ _ _ h=>D _ _ _ _ (by rfl) h) (Or.inl ⟨?w9,?y9⟩) zH ?r9
 case w9=>rfl
 case y9=>(intro w o;go_simp;try with_reducible rfl)
 simp only [zd,CP];refine ze (i:=9) (v:=?v10) rfl (by kernel_rfl) (by kernel_rfl) (by kernel_rfl) (by kernel_rfl) (fun _ _ _ h=>D _ _ _ _ (by rfl) h) (Or.inl ⟨?w10,?y10⟩) zH ?r10
 case w10=>rfl
 case y10=>(intro w o;go_simp;try with_reducible rfl)
 simp only [zd,CP];refine zo (rs:=[10]) (by kernel_rfl) (by simp) ?_;refine zi.last rfl (by kernel_rfl) fun K hK=>?_;go_simp;have a0:Hid (zc w4 _):=zH;go_simp;refine hK.out _ _ ?_;clear hK K;refine AK (by kernel_rfl) ?_ _;subst a2;clear hx k0 k1 k2;go_wp2;have hE:=Q.out.trans a0.out;refine DI (by simp [results,Tryz.results13,go_sem]) rfl ⟨_,x,er,rfl,V.out.trans hE,(U.out.below hE).weaken fun b hb=>CU G.out.size hb,HR.out.1,HR.out.2⟩
end
end Go.Proofs.YtfjjdmpndmbfoaaGreatDoor
