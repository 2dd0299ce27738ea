import Derived.Test.YthbjngbhbbkkgaaGreatHRzk
import Derived.Test.YthbjngbhbbkkgaaGreatHRzl
set_option linter.unusedVariables false
set_option linter.unusedSimpArgs false
set_option maxRecDepth 100000
set_option maxHeartbeats 16000000
namespace Go.Proofs.YthbjngbhbbkkgaaGreat
variable {l:Nat} {ok okp:Nat->Prop} {p:PT} {vp:Value} {W:World}
section
open Go.RowKit
attribute [local go_sem ↓] Go.wp_at_zero Go.wp_at_succ
attribute [local go_sem] Oper.semAt_some
theorem yield_any {m:Nat} {P:Program} {args:Array Value} {R:Ending->World->Prop} (h:YieldAt Fence.wide m P l args W R):
  ∃fn tmps assign body,(Instr.yield l args).run P W=.ok (.round l fn tmps assign body) W/\∀m',RoundIn Fence.wide m' P l fn tmps assign body W R:=by
 obtain ⟨fn,tmps,assign,body,z,o⟩:=h;exact ⟨fn,tmps,assign,body,z,fun m'=>⟨o.1,fun c cs _=>o.2 c cs (room_wide _)⟩⟩
def Marks (D:List Nat):List Deferred:=D.map fun r=>{ target:=.collected r,args:=#[] }
theorem Da {F:Fence} {n:Nat} {P:Program} {fn:Func} {tmps:Array Value} {R:Ending->World->Prop} (J:fn.results=#[]):∀(D:List Nat) (B:Nat) (w:World),D.Nodup->(∀r∈D,B<=r/\w.heap[r]?=some (.deferred (some [])))->(∀w',Below B w w'->R (.returned (.tuple #[])) w')->LeavesInM F n P fn tmps R (Marks D) .returning w
 | [],B,w,_,_,h=>by
  unfold Marks LeavesInM LeavesIn;exact ⟨_,results_none J _ _ _,h w (Below.refl _ w)⟩
 | r :: D,B,w,E,G,h=>by
  obtain ⟨L,I⟩:=G r (Ft ..);have z:=(FE.1 I).1;refine ⟨by simp,.inl ⟨_,_,rfl,run_takeDeferred I,?_⟩⟩;rw [List.nodup_cons] at E;refine Da J D B _ E.2 (fun r' o=>?_) (fun w' M=>h w' ((zG _ L z).trans M));obtain ⟨h1,h2⟩:=G r' (Fa _ o);exact ⟨h1,(World.putObj_heap_other (fun e:r'=r=>E.1 (by rw [<-e];exact o))).trans h2⟩
theorem zp.belowR {X:Nat->Prop} {a b c:World} {B:Nat} (h:zp X a b) (o:Below B b c) (D:a.heap.size<=B):zp X a c:=
 h.trans (X':=fun k=>B<=k) ⟨o.os,o.tape,o.output,o.size,fun k z E=>o.block k (by omega)⟩ (fun k z h=>absurd h (by omega))
theorem arr25 (T:Array Value) (h:T.size=25):∃x0 x1 x2 x3 x4 x5 x6 x7 x8 x9 x10 x11 x12 x13 x14 x15 x16 x17 x18 x19 x20 x21 x22 x23 x24,T=#[x0,x1,x2,x3,x4,x5,x6,x7,x8,x9,x10,x11,x12,x13,x14,x15,x16,x17,x18,x19,x20,x21,x22,x23,x24]:=by
 obtain ⟨l⟩:=T
 match l,h with
 | [x0,x1,x2,x3,x4,x5,x6,x7,x8,x9,x10,x11,x12,x13,x14,x15,x16,x17,x18,x19,x20,x21,x22,x23,x24],_=>exact ⟨_,_,_,_,_,_,_,_,_,_,_,_,_,_,_,_,_,_,_,_,_,_,_,_,_,rfl⟩
theorem cell_loop {g:Nat} {r:Loop} {t:TypeId} {cs:Array Value} (h:zk W g t cs) (B:W.heap[l]?=some (.loop r)) (o:Obj):zk (W.putObj l o) g t cs:=by
 refine (World.putObj_heap_other ?_).trans h;rintro rfl;have z:W.heap[g]?=some (.cells cs t):=h;rw [B] at z
 cases z
theorem fold_one (p:Tmp) (v:Value) (T:Array Value):(#[p].zip #[v]).foldl (fun t (p,v)=>t.setIfInBounds p v) T=T.setIfInBounds p v:=by
 simp
theorem sizeL_take:∀(l:List PT) (k:Nat) (o:k<l.length),PT.sizeL (l.take (k+1))=PT.sizeL (l.take k)+(l[k]).size
 | [],k,o=>by simp at o
 | x :: l,0,o=>by simp [PT.sizeL]
 | x :: l,k+1,o=>by
  have h:=sizeL_take l k (by simpa using o);simp only [List.take_succ_cons,PT.sizeL,List.getElem_cons_succ];omega
theorem size_pos (p:PT):1<=p.size:=by cases p;unfold PT.size;omega
theorem sizeL_len:∀(l:List PT),l.length<=PT.sizeL l
 | []=>EG _
 | x :: l=>by
  have h1:=sizeL_len l;have h2:=size_pos x;simp only [zab,PT.sizeL];omega
theorem sizeL_le:∀(l:List PT) (k:Nat),PT.sizeL (l.take k)<=PT.sizeL l
 | [],k=>by simp [PT.sizeL]
 | x :: l,0=>by simp [PT.sizeL]
 | x :: l,k+1=>by
  have h:=sizeL_le l k;simp only [List.take_succ_cons,PT.sizeL];omega
theorem Dz.inv {w:World} {t:Int} {vs vk:Value} (h:Dz w ok (.agg #[.int .i64 t,vs,vk]) p):∃side kids cs,p=.node t side kids/\zj w ok vs side/\AI w ok 3 vk kids.length cs/\
  ∀(i:Nat) (o:i<kids.length),Dz w ok (.agg #[cs.getD (i*3) undef,cs.getD (i*3+1) undef,cs.getD (i*3+2) undef]) kids[i]:=by
 cases h with
 | mk h1 h2 h3=>exact ⟨_,_,_,rfl,h1,h2,h3⟩
theorem parts_calls {a0 a1 a2:Value} (w:World):
  Calls Tryz.prog 88 #[.agg #[a0,a1,a2]] w fun e w'=>∃gl,e=.returned (.func (.func 111) #[] #[.pointer (some ⟨gl,0,none⟩)])/\zb w w'/\w.heap.size<=gl/\w'.cell? ⟨gl,0,none⟩=some a0/\w'.cell? ⟨gl,1,none⟩=some a1/\w'.cell? ⟨gl,2,none⟩=some a2:=by
 go_enter Tryz.func88,Tryz.ntmps88
 go_wp2;go_ret;have o:=zk.new w #[a0,a1,a2] 37 (g:=w.heap.size) rfl;exact ⟨_,rfl,(zb.refl w).alloc _,EG _,o.cell (k:=0) rfl,o.cell (k:=1) rfl,o.cell (k:=2) rfl⟩
theorem parts_gives:∀(N:Nat) (p:PT),p.size<=N->N<=4000000000000000000->∀{t:Int} {vs vk:Value} (w:World) (gl:Nat) (Z:Nat->Prop),Dz w (fun b=>¬ Z b) (.agg #[.int .i64 t,vs,vk]) p->¬ Z gl->(∀b,Z b->b<w.heap.size)->
  w.cell? ⟨gl,0,none⟩=some (.int .i64 t)->w.cell? ⟨gl,1,none⟩=some vs->w.cell? ⟨gl,2,none⟩=some vk->∀n,GivesZ n Tryz.prog 111 #[.pointer (some ⟨gl,0,none⟩)] (fun x:Value=>#[x]) (fun k x W=>∃(t:Int) (A:Option Addr) (n c:Nat) (B:Option Addr) (k d:Nat),x=.agg #[.int .i64 t,.slice A n c,.slice B k d]) p.size Z w:=by
 intro N
 induction N with
 | zero=>intro p hp;have:=size_pos p;omega
 | succ N ih=>
  intro p l0 n0 t vs vk w gl Z hp g6 hZ d7 f9 g3 n;obtain ⟨side,kids,cs,rfl,hs,hk,he⟩:=hp.bound.inv;have IH:=zh ih;intro l J Jx W hW i5 h8 hJ f3 hY h0;have l3:(PT.node t side kids).size=1+PT.sizeL kids:=by unfold PT.size;rfl
  rw [l3] at l0 hY⊢;have n3:=sizeL_len kids;obtain ⟨Ak,ck,rfl,n1,i3⟩:=hk;obtain ⟨As0,cs0,rfl,-,-⟩:=hs;have e6:=zh i3;have HE:=zh he;have HJ:=zh hJ;have HY:=zh hY;have HZ:=zh hZ;have HG:=zh g6;have HW:=zh hW;have HL:Hid (w.heap.size<=l/\l<W.heap.size/\gl<w.heap.size):=⟨i5,h8,zo d7⟩;have d0:=hW.cell d7;have d1:=hW.cell f9;have d2:=hW.cell g3;have e0:=zb.rule d0;have e1:=zb.rule d1;have e2:=zb.rule d2;have e3:zb W W:=zb.refl W;have d9:=zS W;clear d0 d1 d2;have g8:=hJ 0 W _ h0 ((zb.refl W).alloc (.cells #[.func (.yield l) #[] #[]] 105));have f8:zk (W.alloc (.cells #[.func (.yield l) #[] #[]] 105)) W.heap.size 105 _:=zk.new W #[.func (.yield l) #[] #[]] 105 rfl;have i7:=hY 0 (.agg #[.int .i64 t,.slice As0 side.length cs0,.slice Ak kids.length ck]) _ (by omega) g8 ⟨_,_,_,_,_,_,_,rfl⟩;obtain ⟨fn,tmps,assign,body,i9,hR⟩:=yield_any i7;have HR:=zh hR;clear hp he i3 hJ hY hZ g6 hW i5 h8 h0 d7 f9 g3 hR i7 g8 ih;refine callsIn_of_wp_marks Tryz.func111 rfl trivial ?_ rfl;simp only [Tryz.ntmps111,List.size_toArray,zab,zac,Nat.reduceAdd,Nat.reduceSub,Array.replicate_succ,Array.replicate_zero,List.push_toArray,List.append_toArray,List.nil_append,List.cons_append];have c7:=zh f3;clear f3 f8
  gi_wp2_with fail
  refine ⟨fun h=>absurd h (by simp [Fence.wide]),?_⟩;refine (HR.out _).mono ?_;clear HR i9;have E:Hid (zb W (W.alloc (.cells #[.func (.yield l) #[] #[]] 105))/\(W.alloc (.cells #[.func (.yield l) #[] #[]] 105)).cell? ⟨W.heap.size,0,none⟩=some (.func (.yield l) #[] #[])):=⟨(zb.refl W).alloc _,(zk.new W #[.func (.yield l) #[] #[]] 105 rfl).cell (k:=0) rfl⟩;generalize W.alloc _=W1 at E⊢;obtain ⟨gy,d8⟩:∃g,g=W.heap.size:=⟨_,rfl⟩;rw [<-d8] at E⊢;have j3:Hid (gy=W.heap.size):=d8;clear d8 d9 e3;rintro e W2 (⟨rfl,b8,z⟩ | ⟨rfl,b1⟩)
  case inr=>
   gi_wp2_with fail
   exact Da rfl [] W.heap.size _ List.nodup_nil (fun _ h=>absurd h (FF)) fun w' hw=>⟨⟨_,rfl⟩,.inr (c7.out _ _ b1.1 hw)⟩
  have e5:Hid (J (1+PT.sizeL (kids.take 0)) W2):=by (show J _ _);simpa [PT.sizeL] using b8
  have b2:=zh z
  have f2:W2.cell? ⟨gl,2,none⟩=some (.slice Ak kids.length ck):=z.cellk (e2 W1 E.out.1) (by
   have h1:=HL.out;rintro (h | h)
   ·have:gl=l:=h;omega
   ·exact HG.out h)
  clear b8 z
  gi_wp2_with fail
  clear f2;refine wpIn_loop (fun a wr=>∃(k:Nat) (D:List Nat) (y0 y1 y3 y4 y5 y6 y7 y8 y9 y10 y14 y15 y16 y17 y18 y19 y20 y21 y22 y23 y24:Value),k<=kids.length/\a={ tmps:=#[y0,y1,.pointer (some ⟨gy,0,none⟩),y3,y4,y5,y6,y7,y8,y9,y10,.slice Ak kids.length ck,.int .i64 kids.length,.int .i64 k,y14,y15,y16,y17,y18,y19,y20,y21,y22,y23,y24],defers:=Marks D }/\D.Nodup/\Hid (∀r∈D,W1.heap.size<=r/\wr.heap[r]?=some (.deferred (some [])))/\Hid (J (1+PT.sizeL (kids.take k)) wr)/\Hid (zp (fun b=>b=l\/Z b) W1 wr)) (fun a _=>kids.length - (intOf (a.tmps.getD 13 undef)).toNat) ?atStart ?round
  case atStart=>exact ⟨0,[],_,_,_,_,_,_,_,_,_,_,_,_,_,_,_,_,_,_,_,_,_,EU _,rfl,List.nodup_nil,(fun _ h=>absurd h (FF)),e5.out,b2.out⟩
  clear e5 b2
  case round=>
   rintro a wk ⟨k,D,y0,y1,y3,y4,y5,y6,y7,y8,y9,y10,y14,y15,y16,y17,y18,y19,y20,y21,y22,y23,y24,hk,rfl,hD,a9,hj,b6⟩;by_cases h9:k<kids.length
   ·have l9:(k:Int)<(kids.length:Int):=by omega
    have l8:(0:Int)<=(k:Int):=by omega
    have a7:=HE.out k h9;have h7:=sizeL_take kids k h9;have k9:=sizeL_le kids (k+1);obtain ⟨b0,off0,rfl,k6,U⟩:=e6.out.2 (by omega);have g5:=e6.out.1;obtain ⟨kid,c5⟩:=zad (kids[k]);rw [<-c5] at a7 h7;obtain ⟨As,c1,Ak2,c2,I,-⟩:=a7.form;rw [I] at a7;simp only [Value.agg.injEq,Array.mk.injEq,List.cons.injEq,and_true] at I;obtain ⟨g0,g1,g2⟩:=I
    have b7:∀j,j<cs.length->wk.cell? ⟨b0,off0+j,none⟩=some (cs.getD j undef):=fun j hj=>by
     have h1:=U j (cs.getD j undef) (by rw [List.getD_eq_getElem?_getD,List.getElem?_eq_getElem hj];rfl);refine b6.out.cellk (E.out.1.cell (HW.out.cell h1)) ?_;have h2:=HL.out;rintro (h | h)
     ·have:b0=l:=h;omega
     ·exact k6.1 h
    have m0:=b7 (k*3) (by omega);have m1:=b7 (k*3+1) (by omega);have m2:=b7 (k*3+2) (by omega);rw [g0] at m0;rw [g1,<-Nat.add_assoc] at m1;rw [g2,<-Nat.add_assoc] at m2;have j8:=zh a7;have c8:Hid (kid.size<=N/\1+PT.sizeL (kids.take (k+1))=1+PT.sizeL (kids.take k)+kid.size/\PT.sizeL (kids.take (k+1))<=PT.sizeL kids):=⟨by omega,by omega,by omega⟩;clear b7 g5 U c5 g0 g1 g2 a7 h7 k9;have e3:zb wk wk:=zb.refl wk;have d9:=zS wk
    gi_wp2_with fail
    refine ⟨trivial,fun h=>absurd h (by simp [Fence.wide]),?_⟩;refine (callsIn_wide.2 (parts_calls _)).mono ?_;rintro e wp ⟨gx,rfl,b9,c4,i0,i1,i2⟩;have O:zb wk wp:=((zb.refl wk).alloc _).trans b9;have k7:wk.heap.size<=gx:=by simp at c4;omega
    clear b9 c4;have L:Hid (W.heap.size<=W1.heap.size/\W1.heap.size<=wk.heap.size/\wk.heap.size<=wp.heap.size):=⟨E.out.1.size,b6.out.size,O.size⟩;have e8:zp (fun b=>b=l\/Z b) w wp:=((zp.of_ext (X:=fun b=>b=l\/Z b) (HW.out.trans E.out.1)).tr b6.out).ext_r O
    have f7:zW (fun b=>¬ Z b/\b<w.heap.size) w wp:=e8.same (fun b Q=>by
     rintro (h | h)
     ·have h1:=HL.out;have h2:=Q.2;omega
     ·exact Q.1 h)
    have f4:=j8.out.keepW (ok':=fun b=>¬ (b=l\/Z b)) f7 (fun b Q=>by
     rintro (h | h)
     ·have h1:=HL.out;have h2:=Q.2;omega
     ·exact Q.1 h)
    have f0:=IH.out kid c8.out.1 (by omega) wp gx (fun b=>b=l\/Z b) f4 (by
     have h1:=HL.out;have h2:=L.out;rintro (h | h)
     ·omega
     ·have:=HZ.out _ h;omega) (fun b Q=>by
     have h1:=HL.out;have h2:=L.out;rcases Q with h | h
     ·omega
     ·have:=HZ.out _ h;omega) i0 i1 i2
    have j5:=zh f0
    have G:Hid (∀r∈D,W1.heap.size<=r/\r<wp.heap.size):=fun r hr=>⟨(a9.out r hr).1,by
     have h1:=(FE.1 (a9.out r hr).2).1;have h2:=L.out;omega⟩
    have j4:Hid (J (1+PT.sizeL (kids.take k)+0) wp/\zp (fun b=>b=l\/Z b) W1 wp/\∀r∈D,wp.heap[r]?=some (.deferred (some []))):=⟨HJ.out _ _ _ hj.out (O.mono (by have:=L.out;omega)),b6.out.ext_r O,fun r hr=>(O.block _ (by have:=(FE.1 (a9.out r hr).2).1;omega)).trans (a9.out r hr).2⟩;have m5:Hid (N<=4000000000000000000):=by (show _<=_);omega
    clear e8 f7 f4 f0 i0 i1 i2 k7 m0 m1 m2 e3 d9
    gi_wp2_with fail
    refine wpIn_loopZ (gf:=111) (lb:=#[.pointer (some ⟨gx,0,none⟩)]) rfl (enters_of Tryz.func111 (by kernel_rfl) rfl) (Z:=fun b=>b=l\/Z b) (fun b Q=>by
     have h1:=HL.out;have h2:=L.out;rcases Q with h | h
     ·omega
     ·have:=HZ.out _ h;omega) (j5.out _) (zb.refl wp) (fun _=>rfl)
     (fun j W'=>J (1+PT.sizeL (kids.take k)+j) W'/\zp (fun b=>b=l\/Z b) W1 W'/\∀r∈D,W'.heap[r]?=some (.deferred (some [])))
     (fun c W'=>c=.ret/\Jx W'/\∀r∈D,W'.heap[r]?=some (.deferred (some [])))
     ?hI ?hIx (fun j x a W'=>∃(gx2:Nat) (t:Int) (A:Option Addr) (n c:Nat) (B:Option Addr) (k d:Nat),x=.agg #[.int .i64 t,.slice A n c,.slice B k d]/\a.tmps.size=25/\a.defers=[]/\a.tmps.getD 2 undef=.pointer (some ⟨gy,0,none⟩)/\a.tmps.getD 5 undef=.pointer (some ⟨gx2,0,none⟩)/\zk W' gx2 37 #[.int .i64 t,.slice A n c,.slice B k d]) ?hG j4.out ?assign ?body ?done ?stop
    case hI=>
     rintro j A B ⟨h1,h2,h3⟩ M;have hs:=L.out;exact ⟨HJ.out _ _ _ h1 (M.mono (by omega)),h2.belowR M (by omega),fun r hr=>(M.block _ (G.out r hr).2).trans (h3 r hr)⟩
    case hIx=>
     rintro c A B ⟨h1,h2,h3⟩ M;have hs:=L.out;exact ⟨h1,c7.out _ _ h2 (M.mono (by omega)),fun r hr=>(M.block _ (G.out r hr).2).trans (h3 r hr)⟩
    case hG=>
     rintro j x a A l' ⟨gx2,a0,a1,a2,a3,a4,a5,a6,h1,h2,h3,h4,h5,Q⟩ _ _ ⟨r,hr⟩ o;exact ⟨gx2,a0,a1,a2,a3,a4,a5,a6,h1,h2,h3,h4,h5,cell_loop Q hr o⟩
    case assign=>
     rintro l2 j x W0 K k8 hi ⟨a0,a1,a2,a3,a4,a5,a6,rfl⟩ hs hK;clear hi;rw [fold_one];simp only [List.setIfInBounds_toArray,List.set_cons_zero,List.set_cons_succ]
     gi_wp2_with fail
     refine hK _ _ ((zb.refl W0).alloc (.cells #[.int .i64 a0,.slice a1 a2 a3,.slice a4 a5 a6] 37)) ?_;exact ⟨W0.heap.size,a0,a1,a2,a3,a4,a5,a6,rfl,rfl,rfl,rfl,rfl,zk.new W0 #[.int .i64 a0,.slice a1 a2 a3,.slice a4 a5 a6] 37 rfl⟩
    case body=>
     rintro l2 j x ⟨T,Df⟩ W0 k8 ⟨f1,d4,f5⟩ ⟨gx2,a0,a1,a2,a3,a4,a5,a6,rfl,hT,e9,d5,d6,b5⟩ hs ⟨rl,l1⟩;dsimp only at hT e9 d5 d6;subst e9;obtain ⟨x0,x1,x2,x3,x4,x5,x6,x7,x8,x9,x10,x11,x12,x13,x14,x15,x16,x17,x18,x19,x20,x21,x22,x23,x24,rfl⟩:=arr25 T hT;have b1:x2=.pointer (some ⟨gy,0,none⟩):=d5;have l4:x5=.pointer (some ⟨gx2,0,none⟩):=d6;subst b1 l4
     have y0:W0.cell? ⟨gy,0,none⟩=some (.func (.yield l) #[] #[]):=d4.cellk E.out.2 (by
      have h1:=HL.out;have h2:=j3.out;rintro (h | h)
      ·have:gy=l:=h;omega
      ·have:Z gy:=h;have:=HZ.out _ this;omega)
     have c0:=b5.cell (k:=0) rfl;have c1:=b5.cell (k:=1) rfl;have c2:=b5.cell (k:=2) rfl;have i8:=HY.out (1+PT.sizeL (kids.take k)+j) (.agg #[.int .i64 a0,.slice a1 a2 a3,.slice a4 a5 a6]) W0 (by have:=c8.out;omega) f1 ⟨_,_,_,_,_,_,_,rfl⟩;obtain ⟨fn,tmps,assign,body,i9,hR⟩:=yield_any i8;have HR:=zh hR;have b2:=zh d4;have b4:=zh f5;clear hT d5 d6 i8 hR f1 d4 f5 b5 l1 hs
     gi_wp2_with fail
     refine ⟨fun h=>absurd h (by simp [Fence.wide]),?_⟩;refine (HR.out _).mono ?_;rintro e W2 (⟨rfl,b8,z⟩ | ⟨rfl,b1,h6⟩)
     ·gi_wp2_with fail
      refine ⟨z,b8,b2.out.tr z,fun r hr=>(z.block r ((FE.1 (b4.out r hr)).1) ?_).trans (b4.out r hr)⟩;have h1:=HL.out;have h2:=G.out r hr;have h3:=L.out;rintro (h | h)
      ·omega
      ·have:=HZ.out _ h;omega
     ·gi_wp2_with fail
      refine ⟨fun b f8 k5=>h6 b (by have:=L.out;omega) k5,rfl,b1,fun r hr=>(h6 r ?_ ((FE.1 (b4.out r hr)).1)).trans (b4.out r hr)⟩;have h2:=G.out r hr;have h3:=L.out;omega
    case done=>
     rintro D0 W3 k2 ⟨g9,g4,a8⟩ V;have j7:Hid (J (1+PT.sizeL (kids.take (k+1))) W3):=by (show J _ _);rw [c8.out.2.1];exact g9
     have j2:=zh g4
     have c9:Hid (∀r∈D0 :: D,W1.heap.size<=r/\W3.heap[r]?=some (.deferred (some []))):=fun r hr=>by
      rcases Fw.1 hr with rfl | hr
      ·exact ⟨by have:=L.out;omega,V⟩
      ·exact ⟨(G.out r hr).1,a8 r hr⟩
     have c6:Hid ((D0 :: D).Nodup):=List.nodup_cons.2 ⟨fun h=>by have:=G.out _ h;omega,hD⟩;clear g9 g4 a8 V
     gi_wp2_with fail
     exact ⟨⟨k+1,D0 :: D,_,_,_,_,_,_,_,_,_,_,_,_,_,_,_,_,_,_,_,_,_,by omega,rfl,c6.out,c9.out,j7.out,j2.out⟩,by simp [intOf];omega⟩
    case stop=>
     rintro D0 c W3 k2 ⟨rfl,i6,a8⟩ V
     have c9:Hid (∀r∈D0 :: D,W1.heap.size<=r/\W3.heap[r]?=some (.deferred (some []))):=fun r hr=>by
      rcases Fw.1 hr with rfl | hr
      ·exact ⟨by have:=L.out;omega,V⟩
      ·exact ⟨(G.out r hr).1,a8 r hr⟩
     have c6:Hid ((D0 :: D).Nodup):=List.nodup_cons.2 ⟨fun h=>by have:=G.out _ h;omega,hD⟩;have j9:=zh i6;clear i6 a8 V
     gi_wp2_with fail
     exact Da rfl (D0 :: D) W1.heap.size _ c6.out c9.out fun w' hw=>⟨⟨_,rfl⟩,.inr (c7.out _ _ j9.out (hw.mono (by have:=L.out;omega)))⟩
   ·obtain rfl:k=kids.length:=by omega
    rw [ER] at hj
    gi_wp2_with fail
    exact Da rfl D W1.heap.size _ hD a9.out fun w' hw=>⟨⟨_,rfl⟩,.inl (HJ.out _ _ _ hj.out (hw.mono (by have:=E.out.1.size;omega)))⟩
theorem psize_calls (w:World) (hp:Dz w okp vp p) (b9:p.size<=4000000000000000000):
  Calls Tryz.prog 65 #[vp] w fun e w'=>e=.returned (.int .i64 (p.size:Nat))/\zb w w':=by
 refine (callsIn_wide (n:=6)).1 ?_;obtain ⟨As,cs,Ak,ck,rfl,-⟩:=hp.form;have HP:=zh hp;obtain ⟨z,hz⟩:=zad p.size;have HZ:=zh hz;rw [<-hz] at b9⊢;clear hz hp;refine callsIn_of_wp_marks Tryz.func65 rfl trivial ?_ rfl;simp only [Tryz.ntmps65,List.size_toArray,zab,zac,Nat.reduceAdd,Nat.reduceSub,Array.replicate_succ,Array.replicate_zero,List.push_toArray,List.append_toArray,List.nil_append,List.cons_append]
 gi_wp2_with (refine ⟨trivial,?_⟩;gi_at_call 88;refine (callsIn_wide.2 (parts_calls _)).mono ?_;rintro e wp ⟨gx,rfl,E,a6,a7,a8,a9⟩)
 have M:zb w ((w.alloc (.cells #[.int .i64 p.task,.slice As p.side.length cs,.slice Ak p.kids.length ck] 37)).alloc (.cells #[.int .i64 0] 3)):=((zb.refl w).alloc _).alloc _;have V:((w.alloc (.cells #[.int .i64 p.task,.slice As p.side.length cs,.slice Ak p.kids.length ck] 37)).alloc (.cells #[.int .i64 0] 3)).heap.size=w.heap.size+2:=by simp
 have I:=zk.new (w.alloc (.cells #[.int .i64 p.task,.slice As p.side.length cs,.slice Ak p.kids.length ck] 37)) #[.int .i64 0] 3 (g:=w.heap.size+1) (by simp);generalize (w.alloc (.cells #[.int .i64 p.task,.slice As p.side.length cs,.slice Ak p.kids.length ck] 37)).alloc (.cells #[.int .i64 0] 3)=w1 at M V I E a6⊢;have O:=M.trans E;have L:=I.ext E;obtain ⟨gn,T⟩:∃g,g=w.heap.size+1:=⟨_,rfl⟩;rw [<-T] at I L⊢;have D:Hid (gn=w.heap.size+1/\w1.heap.size=w.heap.size+2/\w1.heap.size<=wp.heap.size):=⟨T,V,E.size⟩;have U:=parts_gives p.size p (EG _) (by have:=HZ.out;omega) wp gx (fun b=>b=gn) ((HP.out.bound.ext O).keepW (zW.of_below (zb.refl wp)) (fun b Q h=>by have h1:=Q.2;have h2:b=gn:=h;omega)) (by (show ¬ gx=gn);have:=D.out.2.1;omega) (fun b Q=>by have h2:b=gn:=Q;have h3:=D.out;omega) a7 a8 a9;rw [<-HZ.out] at U;have b6:=zh U;have a0:=zh O;have b2:=zh L;clear U M V I E a6 a7 a8 a9 O L T
 gi_wp2_with fail
 refine wpIn_loopZ (gf:=111) (lb:=#[.pointer (some ⟨gx,0,none⟩)]) rfl (enters_of Tryz.func111 (by kernel_rfl) rfl) (Z:=fun b=>b=gn) (fun b Q=>by have h1:=D.out;omega) (b6.out _) (zb.refl wp) (fun _=>rfl)
  (fun j W'=>zk W' gn 3 #[.int .i64 (j:Nat)]/\zp (fun b=>b=gn) wp W')
  (fun c W'=>False)
  ?hI ?hIx (fun j x a W'=>a={ tmps:=#[Value.agg #[.int .i64 p.task,.slice As p.side.length cs,.slice Ak p.kids.length ck],.pointer (some ⟨w.heap.size,0,none⟩),.pointer (some ⟨gn,0,none⟩),.agg #[.int .i64 p.task,.slice As p.side.length cs,.slice Ak p.kids.length ck],.func (.func 111) #[] #[.pointer (some ⟨gx,0,none⟩)],x,undef,undef,undef],defers:=[] }) ?hG ⟨b2.out,zp.refl _ _⟩ ?assign ?body ?done ?stop
 case hI=>
  rintro j A B ⟨h1,h2⟩ a1;have hs:=D.out;exact ⟨h1.below a1 (by omega),h2.belowR a1 (EG _)⟩
 case hIx=>intro c A B h;exact h.elim
 case hG=>intro j x a A l' h _ _ _ o;exact h
 case assign=>
  intro l2 j x W0 K b8 hi hg hs hK;clear hi;rw [fold_one]
  gi_wp2_with fail
  exact hK _ _ (zb.refl _) rfl
 case body=>
  rintro l2 j x a W0 b8 ⟨G,a3⟩ rfl hs ⟨rl,c4⟩;have c0:=G.cell (k:=0) rfl;have hfz:=G.frozen 0;have a2:=G.set (k:=0) (.int .i64 ((j+1:Nat):Int));have d6:IntKind.i64.wrap ((j:Int)+1)=((j+1:Nat):Int):=by rw [Fb];omega
  have b0:=zh a2;have b3:=zh a3;clear G a3 a2 c4 hs
  gi_wp2_with fail
  exact ⟨(zp.refl _ _).set gn 0 _ rfl,b0.out,b3.out.set gn 0 _ rfl⟩
 case done=>
  rintro D0 W3 b7 ⟨J,a4⟩ a5;have c0:=J.cell (k:=0) rfl;have hfz:=J.frozen 0;have b1:Hid (zk (W3.setCell ⟨gn,0,none⟩ (.int .i64 (z:Nat))) gn 3 #[.int .i64 (z:Nat)]):=J.set (k:=0) _;have b4:Hid (zp (fun b=>b=gn) wp (W3.setCell ⟨gn,0,none⟩ (.int .i64 (z:Nat)))):=a4.set gn 0 _ rfl;have b5:Hid ((W3.setCell ⟨gn,0,none⟩ (.int .i64 (z:Nat))).heap[D0]?=some (.deferred (some []))):=(EP W3 ⟨gn,0,none⟩ _ D0 (by have:=D.out;(show D0≠gn);omega)).trans a5;clear J a4 a5
  gi_wp2_with fail
  refine ⟨by simp,.inl ⟨_,_,rfl,run_takeDeferred b5.out,?_⟩⟩;have hS:∀b,b≠D0->((W3.setCell ⟨gn,0,none⟩ (.int .i64 (z:Nat))).putObj D0 (.deferred none)).heap[b]?=(W3.setCell ⟨gn,0,none⟩ (.int .i64 (z:Nat))).heap[b]?:=fun b Q=>World.putObj_heap_other Q
  have y:=(show zk ((W3.setCell ⟨gn,0,none⟩ (.int .i64 (z:Nat))).putObj D0 (.deferred none)) gn _ _ from (hS gn (by have:=D.out;omega)).trans b1.out).cell (k:=0) rfl;refine ⟨.int .i64 (z:Nat),by simp [results,Tryz.results65,go_sem,y],rfl,?_⟩;have h1:=D.out;have h2:=(b4.out.grown (grownBy_putObj' _ _ (.deferred none)) (fun k e hk=>absurd hk (by have e':D0=k:=Option.some.inj e;omega)));exact Below.trans a0.out (h2.below a0.out.size (fun b Q=>by omega))
 case stop=>intro D0 c W3 b7 h;exact h.elim
end
section
open Go.RowKit
attribute [local go_sem ↓] Go.wp_at_zero Go.wp_at_succ
theorem pcheck_calls {v:Value} {m:MZ} (w:World) (hm:zw w ok v m) (hl:Lens m) (hp:Dz w okp vp p) (b4:p.Lens) (b5:p.size<=4000000000000000000):
  Calls Tryz.prog 30 #[v,vp] w fun e w'=>e=.returned (.bool (BD m p))/\zb w w':=by
 have HM:=zh hm;have HL:=zh hl;have HP:=zh hp;have c4:=zh b4;have a9:=zh b5;obtain ⟨Af,cf,Au,cu,At,ct,rfl,-,-,-⟩:=hm.parts;obtain ⟨As,cs,Ak,ck,rfl,-⟩:=hp.form;clear hm hl hp b4 b5;obtain ⟨R,hR⟩:=zad (BD m p);rw [<-hR];have HR:=zh hR;clear hR
 go_enter Tryz.func30,Tryz.ntmps30
 go_upto_region 1 with fail;obtain ⟨Q,r0,r1,r2,r3,r4,r5⟩:=box6 w (.int .i64 m.w) (.int .i64 m.h) (.int .i64 m.l) (.slice Af m.free.length cf) (.slice Au m.up.length cu) (.slice At m.tasks.length ct);have T:(w.alloc (.cells #[.int .i64 m.w,.int .i64 m.h,.int .i64 m.l,.slice Af m.free.length cf,.slice Au m.up.length cu,.slice At m.tasks.length ct] 32)).heap.size=w.heap.size+1:=by simp
 generalize w.alloc _=w0 at Q r0 r1 r2 r3 r4 r5 T⊢;obtain ⟨L,p0,p1,p2⟩:=box3 w0 (.int .i64 p.task) (.slice As p.side.length cs) (.slice Ak p.kids.length ck);generalize w0.alloc _=w1 at L p0 p1 p2⊢;rw [T] at p0 p1 p2;obtain ⟨gm,b2⟩:=zad w.heap.size;rw [<-b2] at r0 r1 r2 r3 r4 r5 p0 p1 p2⊢;have G:=zh L;have B:=zh (Q.trans L);have r0:=fun W h=>r0 W (G.out.trans h)
 have r1:=fun W h=>r1 W (G.out.trans h)
 have r2:=fun W h=>r2 W (G.out.trans h)
 have r3:=fun W h=>r3 W (G.out.trans h)
 have r4:=fun W h=>r4 W (G.out.trans h)
 have r5:=fun W h=>r5 W (G.out.trans h)
 clear b2 Q L T;have hx:zb w1 w1:=zb.refl w1;obtain ⟨ck0,I⟩:∃c,c=AO m:=⟨_,rfl⟩;have U:=zh I
 have J:Hid (∀W,zb w1 W->Calls Tryz.prog 41 #[.agg #[.int .i64 m.w,.int .i64 m.h,.int .i64 m.l,.slice Af m.free.length cf,.slice Au m.up.length cu,.slice At m.tasks.length ct]] W fun e w'=>e=.returned (.int .i64 ck0)/\zb W w'):=fun W hW=>by
  rw [I];exact Bv W (HM.out.below (B.out.trans hW)) HL.out
 clear I;obtain ⟨z,hz⟩:=zad p.size;have HZ:=zh hz
 have b0:Hid (∀W,zb w1 W->Calls Tryz.prog 65 #[.agg #[.int .i64 p.task,.slice As p.side.length cs,.slice Ak p.kids.length ck]] W fun e w'=>e=.returned (.int .i64 (z:Nat))/\zb W w'):=fun W hW=>by
  rw [hz];exact psize_calls W (HP.out.ext (B.out.trans hW)) a9.out
 clear hz;by_cases h0:ck0=0
 ·subst h0;have HC:Hid (AO m=0):=U.out.symm
  have V:Hid (∀W,zb w1 W->Calls Tryz.prog 66 #[.agg #[.int .i64 m.w,.int .i64 m.h,.int .i64 m.l,.slice Af m.free.length cf,.slice Au m.up.length cu,.slice At m.tasks.length ct],.slice none 0 0] W fun e w'=>∃a0 a1 a2 a3 a4 a5 a6 a7 a8,e=.returned (.agg #[a0,a1,a2,a3,a4,a5,a6,a7,a8])/\zb W w'/\∀W',zb w' W'->Calls Tryz.prog 67 #[.agg #[a0,a1,a2,a3,a4,a5,a6,a7,a8],.agg #[.int .i64 p.task,.slice As p.side.length cs,.slice Ak p.kids.length ck]] W' fun e w'=>e=.returned (.bool (Bl m p []))/\zb W' w'):=fun W hW=>by
   refine (of_calls (ok:=fun b=>ok b) W (HM.out.below (B.out.trans hW)) HL.out HC.out (zj.nil _ _) zx.nil).mono ?_;rintro e w' ⟨vp',rfl,b1,hS⟩;refine ⟨_,_,_,_,_,_,_,_,_,rfl,b1,fun W' hW'=>?_⟩;exact pholds_calls HL.out HC.out 4000000000000000000 _ _ _ _ _ _ _ _ _ _ W' (hS.more hW') zx.nil (HP.out.ext ((B.out.trans hW).trans (b1.trans hW'))) a9.out c4.out
  by_cases h1:0<m.tasks.length
  ·have c5:(0:Int)<(m.tasks.length:Int):=by omega
   by_cases h2:z<=3000
   ·have c6:(z:Int)<=3000:=by omega
    have M:Hid (R=Bl m p []):=by (show _=_);rw [HR.out];unfold BD;rw [EJ HC.out,EJ h1,<-HZ.out,EJ h2];rfl
    obtain ⟨hb,b3⟩:=zad (Bl m p []);rw [<-b3] at V M;clear b3;refine EW (S:=(fun W=>zb w1 W)) Ag (hx.drew) fun zH=>?_;have E:zb w1 w1.drew:=zH;clear E;generalize w1.drew=wd at zH⊢;refine zf 0 zH ?_;simp only [za,ED];refine zE 1 fun K o=>?_;go_simp;go_at_call 41;refine (J.out _ zH).mono ?_;rintro e w2 ⟨rfl,D⟩;go_simp;refine zae o (zH.trans D) fun zH=>?_;clear o K;try simp only [za,ED]
    refine zf 2 zH ?_;refine zf 3 zH ?_;simp only [za,ED];refine zf 4 zH ?_;refine zf 5 zH ?_;simp only [za,ED];refine zf 6 zH ?_;refine zf 7 zH ?_;simp only [za,ED];refine zf 8 zH ?_;refine zf 9 zH ?_;simp only [za,ED];refine zf 10 zH ?_;simp only [za,ED];refine zE 11 fun K o=>?_;go_simp;go_at_call 65;refine (b0.out _ zH).mono ?_;rintro e w3 ⟨rfl,O⟩;go_simp;refine zae o (zH.trans O) fun zH=>?_;clear o K;try simp only [za,ED]
    refine zf 12 zH ?_;refine zf 13 zH ?_;simp only [za,ED];refine zf 14 zH ?_;refine zf 15 zH ?_;simp only [za,ED];refine zf 17 zH ?_;simp only [za,ED];refine zE 16 fun K o=>?_;go_simp;go_at_call 66;refine (V.out _ zH).mono ?_;rintro e w4 ⟨a0,a1,a2,a3,a4,a5,a6,a7,a8,rfl,c7,HK⟩;have b9:=zh HK;clear HK;go_simp;refine zae o (zH.trans c7) fun zH=>?_;clear o K;try simp only [za,ED]
    refine zE 18 fun K o=>?_;go_simp;go_at_call 67;refine (b9.out _ (zb.refl _)).mono ?_;rintro e w5 ⟨rfl,c8⟩;go_simp;refine zae o (zH.trans c8) fun zH=>?_;clear o K;try simp only [za,ED]
    refine zf 19 zH ?_;refine zf 20 zH ?_;simp only [za,ED];refine Fk (by kernel_rfl) ?_ _
    go_wp2_with fail
    go_ret;exact ⟨ze M.out.symm,B.out.trans zH⟩
   ·have c6:¬ ((z:Int)<=3000):=by omega
    have M:Hid (R=false):=by (show _=_);rw [HR.out];unfold BD;rw [<-HZ.out,EK h2];simp
    refine EW (S:=(fun W=>zb w1 W)) Ag (hx.drew) fun zH=>?_;have E:zb w1 w1.drew:=zH;clear E;generalize w1.drew=wd at zH⊢;refine zf 0 zH ?_;simp only [za,ED];refine zE 1 fun K o=>?_;go_simp;go_at_call 41;refine (J.out _ zH).mono ?_;rintro e w2 ⟨rfl,D⟩;go_simp;refine zae o (zH.trans D) fun zH=>?_;clear o K;try simp only [za,ED]
    refine zf 2 zH ?_;refine zf 3 zH ?_;simp only [za,ED];refine zf 4 zH ?_;refine zf 5 zH ?_;simp only [za,ED];refine zf 6 zH ?_;refine zf 7 zH ?_;simp only [za,ED];refine zf 8 zH ?_;refine zf 9 zH ?_;simp only [za,ED];refine zf 10 zH ?_;simp only [za,ED];refine zE 11 fun K o=>?_;go_simp;go_at_call 65;refine (b0.out _ zH).mono ?_;rintro e w3 ⟨rfl,O⟩;go_simp;refine zae o (zH.trans O) fun zH=>?_;clear o K;try simp only [za,ED]
    refine zf 12 zH ?_;refine zf 13 zH ?_;simp only [za,ED];refine zf 14 zH ?_;refine zV 15 zH ?_;simp only [za,ED];refine zV 16 zH ?_;refine zV 17 zH ?_;simp only [za,ED];refine zV 18 zH ?_;refine zf 19 zH ?_;simp only [za,ED];refine zf 20 zH ?_;simp only [za,ED];refine Fk (by kernel_rfl) ?_ _
    go_wp2_with fail
    go_ret;exact ⟨ze M.out.symm,B.out.trans zH⟩
  ·have c5:¬ ((0:Int)<(m.tasks.length:Int)):=by omega
   have M:Hid (R=false):=by (show _=_);rw [HR.out];unfold BD;rw [EK h1];simp
   have e3:decide (0<m.tasks.length)=false:=EK h1;refine EW (S:=(fun W=>zb w1 W)) Ag (hx.drew) fun zH=>?_;have E:zb w1 w1.drew:=zH;clear E;generalize w1.drew=wd at zH⊢;refine zf 0 zH ?_;simp only [za,ED];refine zE 1 fun K o=>?_;go_simp;go_at_call 41;refine (J.out _ zH).mono ?_;rintro e w2 ⟨rfl,D⟩;go_simp;refine zae o (zH.trans D) fun zH=>?_;clear o K;try simp only [za,ED]
   refine zf 2 zH ?_;refine zf 3 zH ?_;simp only [za,ED];refine zf 4 zH ?_;refine zf 5 zH ?_;simp only [za,ED];refine zf 6 zH ?_;refine zf 7 zH ?_;simp only [za,ED];refine zf 8 zH ?_;refine zf 9 zH ?_;simp only [za,ED];refine zV 10 zH ?_;refine zV 11 zH ?_;simp only [za,ED];refine zV 12 zH ?_;refine zf 13 zH ?_;simp only [za,ED];refine zf 14 zH ?_;refine zV 15 zH ?_;simp only [za,ED];refine zV 16 zH ?_;refine zV 17 zH ?_;simp only [za,ED];refine zV 18 zH ?_;refine zf 19 zH ?_;simp only [za,ED];refine zf 20 zH ?_;simp only [za,ED];refine Fk (by kernel_rfl) ?_ _
   go_wp2_with fail
   go_ret;exact ⟨ze M.out.symm,B.out.trans zH⟩
 ·have e4:(ck0==0)=false:=by rw [ET];exact h0
  have M:Hid (R=false):=by (show _=_);rw [HR.out];unfold BD;rw [EK (by rw [<-U.out];exact h0)];rfl
  refine EW (S:=(fun W=>zb w1 W)) Ag (hx.drew) fun zH=>?_;have E:zb w1 w1.drew:=zH;clear E;generalize w1.drew=wd at zH⊢;refine zf 0 zH ?_;simp only [za,ED];refine zE 1 fun K o=>?_;go_simp;go_at_call 41;refine (J.out _ zH).mono ?_;rintro e w2 ⟨rfl,D⟩;go_simp;refine zae o (zH.trans D) fun zH=>?_;clear o K;try simp only [za,ED]
  refine zf 2 zH ?_;refine zf 3 zH ?_;simp only [za,ED];refine zV 4 zH ?_;refine zV 5 zH ?_;simp only [za,ED];refine zV 6 zH ?_;refine zV 7 zH ?_;simp only [za,ED];refine zf 8 zH ?_;refine zf 9 zH ?_;simp only [za,ED];refine zV 10 zH ?_;refine zV 11 zH ?_;simp only [za,ED];refine zV 12 zH ?_;refine zf 13 zH ?_;simp only [za,ED];refine zf 14 zH ?_;refine zV 15 zH ?_;simp only [za,ED];refine zV 16 zH ?_;refine zV 17 zH ?_;simp only [za,ED];refine zV 18 zH ?_;refine zf 19 zH ?_;simp only [za,ED];refine zf 20 zH ?_;simp only [za,ED];refine Fk (by kernel_rfl) ?_ _
  go_wp2_with fail
  go_ret;exact ⟨ze M.out.symm,B.out.trans zH⟩
end
section
open Go.ChangeShapes Go.WideShapes Go.ChangeAt Go.RowKit
attribute [local go_sem ↓] Go.wp_at_zero Go.wp_at_succ
theorem refuses_calls {ok1 ok2:Nat->Prop} {vm vl:Value} {ls:List (List Int)} {l:List Int} {tk:Nat} (o0 o1 o2:Int) (w:World) (hm:zv w ok1 vm ls) (g7:ls.length<=9223372036854775807) (g8:∀x∈ls,x.length<=9223372036854775807) (hl:zj w ok2 vl l) (g6:l.length<=9223372036854775807) (h8:tk<256):
  Calls Tryz.prog 6 #[.agg #[vm,vl,.int .i64 o0,.int .i64 o1,.int .i64 o2,.int .u8 tk]] w fun e w'=>e=.returned (.bool true)/\zb w w':=by
 have i5:=zh hm;have i4:=zh hl;have i6:=zh g8;obtain ⟨_,⟨A,c,rfl,-,-⟩,-⟩:=hm;obtain ⟨A2,c2,rfl,-,-⟩:=hl;clear g8
 go_enter Tryz.func6,Tryz.ntmps6
 go_wp2_with fail
 generalize d7:w.alloc (.cells #[.slice A ls.length c,.slice A2 l.length c2,.int .i64 o0,.int .i64 o1,.int .i64 o2,.int .u8 tk] 26)=wa;have G:zb w wa:=by rw [<-d7];exact (zb.refl _).alloc _
 have E:zk wa w.heap.size 26 #[.slice A ls.length c,.slice A2 l.length c2,.int .i64 o0,.int .i64 o1,.int .i64 o2,.int .u8 tk]:=by rw [<-d7];exact zk.new _ _ _ rfl
 clear d7;have r0:∀W,zb wa W->W.cell? ⟨w.heap.size,0,none⟩=some (.slice A ls.length c):=zb.rule (E.cell (k:=0) rfl);have r1:∀W,zb wa W->W.cell? ⟨w.heap.size,1,none⟩=some (.slice A2 l.length c2):=zb.rule (E.cell (k:=1) rfl);have r2:∀W,zb wa W->W.cell? ⟨w.heap.size,2,none⟩=some (.int .i64 o0):=zb.rule (E.cell (k:=2) rfl);have r3:∀W,zb wa W->W.cell? ⟨w.heap.size,3,none⟩=some (.int .i64 o1):=zb.rule (E.cell (k:=3) rfl);have r4:∀W,zb wa W->W.cell? ⟨w.heap.size,4,none⟩=some (.int .i64 o2):=zb.rule (E.cell (k:=4) rfl);have r5:∀W,zb wa W->W.cell? ⟨w.heap.size,5,none⟩=some (.int .u8 tk):=zb.rule (E.cell (k:=5) rfl);clear E;refine (ksanity_calls wa).mono ?_;rintro e w1 ⟨rfl,f4⟩;have a4:zb wa w1:=f4
 go_wp2_with fail
 refine (kmade_calls w1 (i5.out.below (G.trans a4)) g7 i6.out (i4.out.below (G.trans a4)) g6 h8).mono ?_;rintro e w2 ⟨vz,vp,z,ps,t,rfl,f5,hz,g0,d4,T,h9,h5⟩;obtain ⟨Af,cf,Au,cu,At,ct,rfl,-,-,-⟩:=hz.parts;obtain ⟨_,⟨Ap,cp,rfl,-,-⟩,-⟩:=id d4;have HZ:=zh hz;have Q:=zh g0;have b5:=zh d4;have L:=zh T;have b7:=zh h9;have i7:=zh h5;have i3:=zh ((G.trans a4).trans f5);clear hz g0 d4 T h9 h5 a4 f4 G f5 r0 r1 r2 r3 r4 r5 g7 g6 h8
 have b2:ps.length<=6:=by
  have h1:=(AN.1 L.out).2.1;have h2:=Q.out.tk.2;omega
 have V:=zh b2;have e8:Hid (∀x∈ps,x.length<=300):=laid_lens0 L.out;have j5:(t:Int)<(z.tasks.length:Int):=by have:=b7.out;omega
 clear j5 b2;go_upto_region 3 with fail;obtain ⟨c4,q0,q1,q2,q3,q4,q5⟩:=box6 w2 (.int .i64 z.w) (.int .i64 z.h) (.int .i64 z.l) (.slice Af z.free.length cf) (.slice Au z.up.length cu) (.slice At z.tasks.length ct);generalize w2.alloc _=w3 at c4 q0 q1 q2 q3 q4 q5⊢;obtain ⟨gm,g3⟩:∃g,g=w2.heap.size:=⟨_,rfl⟩;rw [<-g3] at q0 q1 q2 q3 q4 q5⊢;clear g3;have M:=zh c4;clear c4;obtain ⟨r,hr⟩:=zad (BW z ps (t:Int));have I:=hadd_calls (t:Int) w3 (HZ.out.below M.out) Q.out.lens (b5.out.below M.out) (by have:=V.out;omega) (fun x hx=>by have:=e8.out x hx;omega);rw [<-hr] at I
 have b9:r.err=54->AO (Bx z ps t)=0/\BD (Bx z ps t) r.why=true/\(endS z ps t).done=true/\zX (Bx z ps t) (endS z ps t).ch=false:=fun h=>by
  rw [hr] at h⊢;have h1:=addP_refused h;rw [Fy] at h1;exact ⟨h1.1,h1.2.2.1,h1.2.2.2.1,h1.2.2.2.2⟩
 have c7:r.err=54\/((r.err=0\/r.err=53)/\r.why=.zero):=by
  rw [hr];exact addP_errs L.out (AX.2 ⟨(AN.1 L.out).1,by omega,by have:=b7.out;omega⟩) (by rw [Fy];exact i7.out)
 have d8:r.why.Lens:=by
  rw [hr];exact addP_lens Q.out.lens (by have:=V.out;omega)
 clear hr;obtain ⟨qs,mv,why,er⟩:=r;dsimp only at I b9 c7 d8;have a7:=zh I;have D:=zh b9;have b3:=zh c7;have i9:=zh d8;clear I b9 c7 d8;have d9:zb w3 w3:=zb.refl w3
 go_wp2_with fail
 refine a7.out.mono ?_;rintro e w4 ⟨vq,vmv,vy,rfl,f6,d5,c8,a6⟩;dsimp only at d5 c8 a6;have f1:=zh a6;obtain ⟨As,cs,Ak,ck,rfl,-⟩:=a6.form;obtain ⟨_,⟨Bq,dq,rfl,-,-⟩,-⟩:=id d5;obtain ⟨Bm,dm,rfl,-,-⟩:=id c8;have B:=zh f6;clear d5 c8 a6 f6 d9 a7;go_upto_region 4 with fail;obtain ⟨c5,p0,p1,p2⟩:=box3 w4 (.int .i64 why.task) (.slice As why.side.length cs) (.slice Ak why.kids.length ck);generalize w4.alloc _=w5 at c5 p0 p1 p2⊢;obtain ⟨gy,g5⟩:∃g,g=w4.heap.size:=⟨_,rfl⟩;rw [<-g5] at p0 p1 p2⊢;clear g5;have o:=zh c5;clear c5;have HX:Hid (zb w w5):=((i3.out.trans M.out).trans B.out).trans o.out;have a9:=zh (((b5.out.below M.out).below B.out).below o.out);have f3:=zh (((HZ.out.below M.out).below B.out).below o.out);have f2:=zh (f1.out.ext o.out);have q0:=fun W h=>q0 W ((B.out.trans o.out).trans h)
 have q1:=fun W h=>q1 W ((B.out.trans o.out).trans h)
 have q2:=fun W h=>q2 W ((B.out.trans o.out).trans h)
 have q3:=fun W h=>q3 W ((B.out.trans o.out).trans h)
 have q4:=fun W h=>q4 W ((B.out.trans o.out).trans h)
 have q5:=fun W h=>q5 W ((B.out.trans o.out).trans h)
 obtain ⟨ns,g9⟩:=f3.out.nets;have J:=sub_calls (t:Int) w5 g9 Q.out.lens a9.out (by have:=V.out;omega) (fun x hx=>by have:=e8.out x hx;omega)
 have h7:subO z ps (t:Int)=Bx z ps t:=by
  unfold subO;rw [if_pos (by rw [ES];exact ⟨L.out,AX.2 ⟨(AN.1 L.out).1,by omega,by have:=b7.out;omega⟩⟩),Fy]
 rw [h7] at J;have b6:=zh (subM_lens Q.out.lens (ps:=ps) (by have:=V.out;omega) t);obtain ⟨sm,d6⟩:=zad (Bx z ps t);rw [<-d6] at J b6 D;have i8:=zh d6;have b0:=zh J;have d9:zb w5 w5:=zb.refl w5;clear h7 g9 J d6 f1 B o M b5 HZ
 go_wp2_with fail
 refine b0.out.mono ?_;rintro e w6 ⟨vs,rfl,f7,c9⟩;have e9:=zh c9.maze;obtain ⟨Bf,df,Bu,du,Bt,dt,rfl,-,-,-⟩:=c9.maze.parts;have e7:=zh f7;clear f7 c9 q0 q1 q2 q3 q4 q5 d9 b0;go_upto_region 5 with fail;obtain ⟨a3,q0,q1,q2,q3,q4,q5⟩:=box6 w6 (.int .i64 sm.w) (.int .i64 sm.h) (.int .i64 sm.l) (.slice Bf sm.free.length df) (.slice Bu sm.up.length du) (.slice Bt sm.tasks.length dt);generalize w6.alloc _=w7 at a3 q0 q1 q2 q3 q4 q5⊢;obtain ⟨gs,g4⟩:∃g,g=w6.heap.size:=⟨_,rfl⟩;rw [<-g4] at q0 q1 q2 q3 q4 q5⊢;clear g4;have O:=zh (e7.out.trans a3);have a8:=zh (e9.out.below a3);have b8:=zh (HX.out.trans O.out);have j1:=zh (f2.out.ext O.out);have p0:=fun W h=>p0 W (O.out.trans h)
 have p1:=fun W h=>p1 W (O.out.trans h)
 have p2:=fun W h=>p2 W (O.out.trans h)
 clear a3 e9 e7 HX f2 a9 f3;have hx:zb w7 w7:=zb.refl w7;rcases b3.out with rfl | ⟨h4,hz⟩
 ·have HC:Hid (AO sm=0):=(D.out rfl).1;have e5:Hid (BD sm why=true):=(D.out rfl).2.1;have e6:Hid ((endS z ps t).done=true):=(D.out rfl).2.2.1;have e4:Hid (zX sm (endS z ps t).ch=false):=(D.out rfl).2.2.2;clear b3 D
  go_wp2_with fail
  refine (new1 w7 w7 (zb.refl w7) a8.out b6.out HC.out).mono ?_;rintro e w8 ⟨g,rfl,f8,c0⟩;obtain ⟨S0,a2⟩:=zad (loadS sm [] 0);rw [<-a2] at c0;have b1:S0.steps<=3000000000000000000:=by rw [a2];unfold loadS;simp
  obtain ⟨S,hS⟩:=zad (RS.run sm 20000 S0);have U:S=endS z ps t:=by rw [hS,a2,loadS_nil,i8.out];rfl
  have f0:Hid (Calls Tryz.prog 28 #[.pointer (some ⟨g,0,none⟩),.int .i64 (20000:Nat)] w8 fun e w'=>e=.returned (.bool true)/\OneR w7 w' g sm S):=by
   (show Calls _ _ _ _ _)
   have h:=c0.step 20000 (by omega) b1;rw [<-hS,U,e6.out,<-U] at h;exact h
  have i2:Hid (zX sm S.ch=false):=by (show _=_);rw [U];exact e4.out
  have j6:zb w7 w8:=f8;clear f8 c0 a2 b1 hS U e4 e6 hx
  go_wp2_with fail
  refine f0.out.mono ?_;rintro e w9 ⟨rfl,a1⟩;have a0:=a1.found;have i1:zb w7 w9:=a1.ext;have k1:=zh a1;clear f0 j6 a1;unfold Dd at a0;rw [i2.out] at a0
  go_wp2_with fail
  refine a0.mono ?_;rintro e wa ⟨vfd,rfl,G,j4⟩;obtain ⟨_,⟨Afd,cfd,rfl,-,-⟩,-⟩:=j4;have a5:zb w7 wa:=i1.trans G;have c6:=pcheck_calls wa (a8.out.below a5) b6.out (j1.out.ext a5) i9.out (by have:=checkP_size e5.out;omega);rw [e5.out] at c6;have e3:=zh c6;clear a0 G i1 c6
  go_wp2_with fail
  refine e3.out.mono ?_;rintro e wb ⟨rfl,f9⟩;have j0:Hid (zb w wb):=b8.out.trans (a5.trans f9);clear f9 a5
  go_wp2_with fail
  go_ret;exact ⟨rfl,j0.out⟩
 ·have e1:why.side.length=0:=by rw [hz];rfl
  have e2:why.kids.length=0:=by rw [hz];rfl
  have b4:=zh h4;rw [e1] at p1;rw [e2] at p2;clear e1 e2 hz b3 D h4;rcases b4.out with rfl | rfl
  ·clear b4
   go_wp2_with fail
   go_ret;exact ⟨rfl,b8.out⟩
  ·clear b4
   go_wp2_with fail
   go_ret;exact ⟨rfl,b8.out⟩
theorem shoveRefuses_walk {H:Type} {enc:TypeId×Value->H} {base:Nat} {v0:Value} {d0:DataW H} {p0:List MemPlace} (W:World) (o:Value.okWide Tryz.prog W .any base 26 v0) (h0:DataW.Trod enc Tryz.prog W 0 (fun _=>true) true 26 v0 d0 p0):
  Calls Tryz.prog 6 #[v0] W fun e w'=>e=.returned (.bool true)/\Below W.heap.size W w':=by
 obtain ⟨va,vb,o0,o1,o2,ls,ns,tk,rfl,h2,h3,z,B,D,E,-⟩:=case31Open h0 (case31Agg o);exact refuses_calls o0 o1 o2 W h2 h3 z B D E
end
end Go.Proofs.YthbjngbhbbkkgaaGreat
