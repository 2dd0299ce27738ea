import Derived.Test.YtjomnbdjajjgfaaGreatDoorWKt
set_option linter.unusedVariables false
set_option linter.unusedSimpArgs false
set_option maxRecDepth 100000
set_option maxHeartbeats 16000000
namespace Go.Proofs.YtjomnbdjajjgfaaGreatDoor
variable {m:MZ} {l:Nat} {ok okp:Nat->Prop} {p:PT} {v vp:Value} {W:World}
section
open Go.RowKit
attribute [local go_sem ↓] Go.wp_at_zero Go.wp_at_succ
attribute [local go_sem] Oper.semAt_some
theorem yield_any {m:Nat} {P:Program} {args:Array Value} {R:Ending->World->Prop} (h:YieldAt Fence.wide m P l args W R):
  ∃fn tmps assign body,(Instr.yield l args).run P W=.ok (.round l fn tmps assign body) W/\∀m',RoundIn Fence.wide m' P l fn tmps assign body W R:=by
 obtain ⟨fn,tmps,assign,body,B,o⟩:=h;exact ⟨fn,tmps,assign,body,B,fun m'=>⟨o.1,fun c cs _=>o.2 c cs (room_wide _)⟩⟩
def Marks (D:List Nat):List Deferred:=D.map fun r=>{ target:=.collected r,args:=#[] }
theorem Cw {F:Fence} {n:Nat} {P:Program} {fn:Func} {tmps:Array Value} {R:Ending->World->Prop} (K:fn.results=#[]):∀(D:List Nat) (B:Nat) (w:World),D.Nodup->(∀r∈D,B<=r/\w.heap[r]?=some (.deferred (some [])))->(∀w',Below B w w'->R (.returned (.tuple #[])) w')->LeavesInM F n P fn tmps R (Marks D) .returning w
 | [],B,w,_,_,h=>by
  unfold Marks LeavesInM LeavesIn;exact ⟨_,results_none K _ _ _,h w (Below.refl _ w)⟩
 | r :: D,B,w,G,I,h=>by
  obtain ⟨L,J⟩:=I r (ED ..);have E:=(EM.1 J).1;refine ⟨by simp,.inl ⟨_,_,rfl,run_takeDeferred J,?_⟩⟩;rw [List.nodup_cons] at G;refine Cw K D B _ G.2 (fun r' o=>?_) (fun w' M=>h w' ((AV _ L E).trans M));obtain ⟨h1,h2⟩:=I r' (El _ o);exact ⟨h1,(World.putObj_heap_other (fun e:r'=r=>G.1 (by rw [<-e];exact o))).trans h2⟩
theorem zp.belowR {X:Nat->Prop} {a b c:World} {B:Nat} (h:zp X a b) (o:Below B b c) (E:a.heap.size<=B):zp X a c:=
 h.trans (X':=fun k=>B<=k) ⟨o.os,o.tape,o.output,o.size,fun k D G=>o.block k (by omega)⟩ (fun k D h=>absurd h (by omega))
theorem arr25 (T:Array Value) (h:T.size=25):∃x0 x1 x2 x3 x4 x5 x6 x7 x8 x9 x10 x11 x12 x13 x14 x15 x16 x17 x18 x19 x20 x21 x22 x23 x24,T=#[x0,x1,x2,x3,x4,x5,x6,x7,x8,x9,x10,x11,x12,x13,x14,x15,x16,x17,x18,x19,x20,x21,x22,x23,x24]:=by
 obtain ⟨l⟩:=T
 match l,h with
 | [x0,x1,x2,x3,x4,x5,x6,x7,x8,x9,x10,x11,x12,x13,x14,x15,x16,x17,x18,x19,x20,x21,x22,x23,x24],_=>exact ⟨_,_,_,_,_,_,_,_,_,_,_,_,_,_,_,_,_,_,_,_,_,_,_,_,_,rfl⟩
theorem cell_loop {g:Nat} {r:Loop} {t:TypeId} {cs:Array Value} (h:zd W g t cs) (D:W.heap[l]?=some (.loop r)) (o:Obj):zd (W.putObj l o) g t cs:=by
 refine (World.putObj_heap_other ?_).trans h;rintro rfl;have B:W.heap[g]?=some (.cells cs t):=h;rw [D] at B
 cases B
theorem fold_one (p:Tmp) (v:Value) (T:Array Value):(#[p].zip #[v]).foldl (fun t (p,v)=>t.setIfInBounds p v) T=T.setIfInBounds p v:=by
 simp
theorem sizeL_take:∀(l:List PT) (k:Nat) (o:k<l.length),PT.sizeL (l.take (k+1))=PT.sizeL (l.take k)+(l[k]).size
 | [],k,o=>by simp at o
 | x :: l,0,o=>by simp [PT.sizeL]
 | x :: l,k+1,o=>by
  have h:=sizeL_take l k (by simpa using o);simp only [List.take_succ_cons,PT.sizeL,List.getElem_cons_succ];omega
theorem size_pos (p:PT):1<=p.size:=by cases p;unfold PT.size;omega
theorem sizeL_len:∀(l:List PT),l.length<=PT.sizeL l
 | []=>DR _
 | x :: l=>by
  have h1:=sizeL_len l;have h2:=size_pos x;simp only [EW,PT.sizeL];omega
theorem sizeL_le:∀(l:List PT) (k:Nat),PT.sizeL (l.take k)<=PT.sizeL l
 | [],k=>by simp [PT.sizeL]
 | x :: l,0=>by simp [PT.sizeL]
 | x :: l,k+1=>by
  have h:=sizeL_le l k;simp only [List.take_succ_cons,PT.sizeL];omega
theorem zM.inv {w:World} {t:Int} {vs vk:Value} (h:zM w ok (.agg #[.int .i64 t,vs,vk]) p):∃side kids cs,p=.node t side kids/\zk w ok vs side/\Ae w ok 3 vk kids.length cs/\
  ∀(i:Nat) (o:i<kids.length),zM w ok (.agg #[cs.getD (i*3) undef,cs.getD (i*3+1) undef,cs.getD (i*3+2) undef]) kids[i]:=by
 cases h with
 | mk h1 h2 h3=>exact ⟨_,_,_,rfl,h1,h2,h3⟩
theorem parts_calls {a0 a1 a2:Value} (w:World):
  Calls Tryz.prog 116 #[.agg #[a0,a1,a2]] w fun e w'=>∃gl,e=.returned (.func (.func 175) #[] #[.pointer (some ⟨gl,0,none⟩)])/\za w w'/\w.heap.size<=gl/\w'.cell? ⟨gl,0,none⟩=some a0/\w'.cell? ⟨gl,1,none⟩=some a1/\w'.cell? ⟨gl,2,none⟩=some a2:=by
 go_enter Tryz.func116,Tryz.ntmps116
 go_wp2;go_ret;have o:=zd.new w #[a0,a1,a2] 41 (g:=w.heap.size) rfl;exact ⟨_,rfl,(za.refl w).alloc _,DR _,o.cell (k:=0) rfl,o.cell (k:=1) rfl,o.cell (k:=2) rfl⟩
theorem parts_gives:∀(N:Nat) (p:PT),p.size<=N->N<=4000000000000000000->∀{t:Int} {vs vk:Value} (w:World) (gl:Nat) (Z:Nat->Prop),zM w (fun b=>¬ Z b) (.agg #[.int .i64 t,vs,vk]) p->¬ Z gl->(∀b,Z b->b<w.heap.size)->
  w.cell? ⟨gl,0,none⟩=some (.int .i64 t)->w.cell? ⟨gl,1,none⟩=some vs->w.cell? ⟨gl,2,none⟩=some vk->∀n,GivesZ n Tryz.prog 175 #[.pointer (some ⟨gl,0,none⟩)] (fun x:Value=>#[x]) (fun k x W=>∃(t:Int) (A:Option Addr) (n c:Nat) (B:Option Addr) (k d:Nat),x=.agg #[.int .i64 t,.slice A n c,.slice B k d]) p.size Z w:=by
 intro N
 induction N with
 | zero=>intro p hp;have:=size_pos p;omega
 | succ N ih=>
  intro p l6 n5 t vs vk w gl Z hp g9 hZ e3 g5 g6 n;obtain ⟨side,kids,cs,rfl,hs,hk,he⟩:=hp.bound.inv;have IH:=zh ih;intro l J Jx W hW i8 i1 hJ f6 hY h0;have l8:(PT.node t side kids).size=1+PT.sizeL kids:=by unfold PT.size;rfl
  rw [l8] at l6 hY⊢;have n8:=sizeL_len kids;obtain ⟨Ak,ck,rfl,n6,i6⟩:=hk;obtain ⟨As0,cs0,rfl,-,-⟩:=hs;have e9:=zh i6;have HE:=zh he;have HJ:=zh hJ;have HY:=zh hY;have HZ:=zh hZ;have HG:=zh g9;have HW:=zh hW;have HL:Hid (w.heap.size<=l/\l<W.heap.size/\gl<w.heap.size):=⟨i8,i1,zA e3⟩;have d0:=hW.cell e3;have d1:=hW.cell g5;have d2:=hW.cell g6;have e0:=za.rule d0;have e1:=za.rule d1;have e2:=za.rule d2;have e6:za W W:=za.refl W;have e5:=Bj W;clear d0 d1 d2;have h7:=hJ 0 W _ h0 ((za.refl W).alloc (.cells #[.func (.yield l) #[] #[]] 109));have g4:zd (W.alloc (.cells #[.func (.yield l) #[] #[]] 109)) W.heap.size 109 _:=zd.new W #[.func (.yield l) #[] #[]] 109 rfl;have j0:=hY 0 (.agg #[.int .i64 t,.slice As0 side.length cs0,.slice Ak kids.length ck]) _ (by omega) h7 ⟨_,_,_,_,_,_,_,rfl⟩;obtain ⟨fn,tmps,assign,body,j2,hR⟩:=yield_any j0;have HR:=zh hR;clear hp he i6 hJ hY hZ g9 hW i8 i1 h0 e3 g5 g6 hR j0 h7 ih;refine callsIn_of_wp_marks Tryz.func175 rfl trivial ?_ rfl;simp only [Tryz.ntmps175,List.size_toArray,EW,EX,Nat.reduceAdd,Nat.reduceSub,Array.replicate_succ,Array.replicate_zero,List.push_toArray,List.append_toArray,List.nil_append,List.cons_append];have d4:=zh f6;clear f6 g4
  gi_wp2_with fail
  refine ⟨fun h=>absurd h (by simp [Fence.wide]),?_⟩;refine (HR.out _).mono ?_;clear HR j2;have G:Hid (za W (W.alloc (.cells #[.func (.yield l) #[] #[]] 109))/\(W.alloc (.cells #[.func (.yield l) #[] #[]] 109)).cell? ⟨W.heap.size,0,none⟩=some (.func (.yield l) #[] #[])):=⟨(za.refl W).alloc _,(zd.new W #[.func (.yield l) #[] #[]] 109 rfl).cell (k:=0) rfl⟩;generalize W.alloc _=W1 at G⊢;obtain ⟨gy,e4⟩:∃g,g=W.heap.size:=⟨_,rfl⟩;rw [<-e4] at G⊢;have j6:Hid (gy=W.heap.size):=e4;clear e4 e5 e6;rintro e W2 (⟨rfl,b9,E⟩ | ⟨rfl,b2⟩)
  case inr=>
   gi_wp2_with fail
   exact Cw rfl [] W.heap.size _ List.nodup_nil (fun _ h=>absurd h (EN)) fun w' hw=>⟨⟨_,rfl⟩,.inr (d4.out _ _ b2.1 hw)⟩
  have e8:Hid (J (1+PT.sizeL (kids.take 0)) W2):=by (show J _ _);simpa [PT.sizeL] using b9
  have b3:=zh E
  have f2:W2.cell? ⟨gl,2,none⟩=some (.slice Ak kids.length ck):=E.cellk (e2 W1 G.out.1) (by
   have h1:=HL.out;rintro (h | h)
   ·have:gl=l:=h;omega
   ·exact HG.out h)
  clear b9 E
  gi_wp2_with fail
  clear f2;refine wpIn_loop (fun a wr=>∃(k:Nat) (D:List Nat) (y0 y1 y3 y4 y5 y6 y7 y8 y9 y10 y14 y15 y16 y17 y18 y19 y20 y21 y22 y23 y24:Value),k<=kids.length/\a={ tmps:=#[y0,y1,.pointer (some ⟨gy,0,none⟩),y3,y4,y5,y6,y7,y8,y9,y10,.slice Ak kids.length ck,.int .i64 kids.length,.int .i64 k,y14,y15,y16,y17,y18,y19,y20,y21,y22,y23,y24],defers:=Marks D }/\D.Nodup/\Hid (∀r∈D,W1.heap.size<=r/\wr.heap[r]?=some (.deferred (some [])))/\Hid (J (1+PT.sizeL (kids.take k)) wr)/\Hid (zp (fun b=>b=l\/Z b) W1 wr)) (fun a _=>kids.length - (intOf (a.tmps.getD 13 undef)).toNat) ?atStart ?round
  case atStart=>exact ⟨0,[],_,_,_,_,_,_,_,_,_,_,_,_,_,_,_,_,_,_,_,_,_,Ef _,rfl,List.nodup_nil,(fun _ h=>absurd h (EN)),e8.out,b3.out⟩
  clear e8 b3
  case round=>
   rintro a wk ⟨k,D,y0,y1,y3,y4,y5,y6,y7,y8,y9,y10,y14,y15,y16,y17,y18,y19,y20,y21,y22,y23,y24,hk,rfl,hD,b1,hj,b7⟩;by_cases i2:k<kids.length
   ·have m7:(k:Int)<(kids.length:Int):=by omega
    have m6:(0:Int)<=(k:Int):=by omega
    have a8:=HE.out k i2;have i0:=sizeL_take kids k i2;have l5:=sizeL_le kids (k+1);obtain ⟨b0,off0,rfl,l1,V⟩:=e9.out.2 (by omega);have g8:=e9.out.1;obtain ⟨kid,c8⟩:=EY (kids[k]);rw [<-c8] at a8 i0;obtain ⟨As,c1,Ak2,c2,L,-⟩:=a8.form;rw [L] at a8;simp only [Value.agg.injEq,Array.mk.injEq,List.cons.injEq,and_true] at L;obtain ⟨g0,g1,g2⟩:=L
    have b8:∀j,j<cs.length->wk.cell? ⟨b0,off0+j,none⟩=some (cs.getD j undef):=fun j hj=>by
     have h1:=V j (cs.getD j undef) (by rw [DP];rw [DO hj];rfl);refine b7.out.cellk (G.out.1.cell (HW.out.cell h1)) ?_;have h2:=HL.out;rintro (h | h)
     ·have:b0=l:=h;omega
     ·exact l1.1 h
    have m0:=b8 (k*3) (by omega);have m1:=b8 (k*3+1) (by omega);have m2:=b8 (k*3+2) (by omega);rw [g0] at m0;rw [g1,<-Nat.add_assoc] at m1;rw [g2,<-Nat.add_assoc] at m2;have k4:=zh a8;have d5:Hid (kid.size<=N/\1+PT.sizeL (kids.take (k+1))=1+PT.sizeL (kids.take k)+kid.size/\PT.sizeL (kids.take (k+1))<=PT.sizeL kids):=⟨by omega,by omega,by omega⟩;clear b8 g8 V c8 g0 g1 g2 a8 i0 l5;have e6:za wk wk:=za.refl wk;have e5:=Bj wk
    gi_wp2_with fail
    refine ⟨trivial,fun h=>absurd h (by simp [Fence.wide]),?_⟩;refine (callsIn_wide.2 (parts_calls _)).mono ?_;rintro e wp ⟨gx,rfl,c6,c7,i3,i4,i5⟩;have Q:za wk wp:=((za.refl wk).alloc _).trans c6;have l3:wk.heap.size<=gx:=by simp at c7;omega
    clear c6 c7;have M:Hid (W.heap.size<=W1.heap.size/\W1.heap.size<=wk.heap.size/\wk.heap.size<=wp.heap.size):=⟨G.out.1.size,b7.out.size,Q.size⟩;have f1:zp (fun b=>b=l\/Z b) w wp:=((zp.of_ext (X:=fun b=>b=l\/Z b) (HW.out.trans G.out.1)).tr b7.out).ext_r Q
    have g3:zK (fun b=>¬ Z b/\b<w.heap.size) w wp:=f1.same (fun b U=>by
     rintro (h | h)
     ·have h1:=HL.out;have h2:=U.2;omega
     ·exact U.1 h)
    have f7:=k4.out.keepW (ok':=fun b=>¬ (b=l\/Z b)) g3 (fun b U=>by
     rintro (h | h)
     ·have h1:=HL.out;have h2:=U.2;omega
     ·exact U.1 h)
    have f4:=IH.out kid d5.out.1 (by omega) wp gx (fun b=>b=l\/Z b) f7 (by
     have h1:=HL.out;have h2:=M.out;rintro (h | h)
     ·omega
     ·have:=HZ.out _ h;omega) (fun b U=>by
     have h1:=HL.out;have h2:=M.out;rcases U with h | h
     ·omega
     ·have:=HZ.out _ h;omega) i3 i4 i5
    have j8:=zh f4
    have I:Hid (∀r∈D,W1.heap.size<=r/\r<wp.heap.size):=fun r hr=>⟨(b1.out r hr).1,by
     have h1:=(EM.1 (b1.out r hr).2).1;have h2:=M.out;omega⟩
    have j7:Hid (J (1+PT.sizeL (kids.take k)+0) wp/\zp (fun b=>b=l\/Z b) W1 wp/\∀r∈D,wp.heap[r]?=some (.deferred (some []))):=⟨HJ.out _ _ _ hj.out (Q.mono (by have:=M.out;omega)),b7.out.ext_r Q,fun r hr=>(Q.block _ (by have:=(EM.1 (b1.out r hr).2).1;omega)).trans (b1.out r hr).2⟩;have n0:Hid (N<=4000000000000000000):=by (show _<=_);omega
    clear f1 g3 f7 f4 i3 i4 i5 l3 m0 m1 m2 e6 e5
    gi_wp2_with fail
    refine wpIn_loopZ (gf:=175) (lb:=#[.pointer (some ⟨gx,0,none⟩)]) rfl (enters_of Tryz.func175 (by kernel_rfl) rfl) (Z:=fun b=>b=l\/Z b) (fun b U=>by
     have h1:=HL.out;have h2:=M.out;rcases U with h | h
     ·omega
     ·have:=HZ.out _ h;omega) (j8.out _) (za.refl wp) (fun _=>rfl)
     (fun j W'=>J (1+PT.sizeL (kids.take k)+j) W'/\zp (fun b=>b=l\/Z b) W1 W'/\∀r∈D,W'.heap[r]?=some (.deferred (some [])))
     (fun c W'=>c=.ret/\Jx W'/\∀r∈D,W'.heap[r]?=some (.deferred (some [])))
     ?hI ?hIx (fun j x a W'=>∃(gx2:Nat) (t:Int) (A:Option Addr) (n c:Nat) (B:Option Addr) (k d:Nat),x=.agg #[.int .i64 t,.slice A n c,.slice B k d]/\a.tmps.size=25/\a.defers=[]/\a.tmps.getD 2 undef=.pointer (some ⟨gy,0,none⟩)/\a.tmps.getD 5 undef=.pointer (some ⟨gx2,0,none⟩)/\zd W' gx2 41 #[.int .i64 t,.slice A n c,.slice B k d]) ?hG j7.out ?assign ?body ?done ?stop
    case hI=>
     rintro j A B ⟨h1,h2,h3⟩ O;have hs:=M.out;exact ⟨HJ.out _ _ _ h1 (O.mono (by omega)),h2.belowR O (by omega),fun r hr=>(O.block _ (I.out r hr).2).trans (h3 r hr)⟩
    case hIx=>
     rintro c A B ⟨h1,h2,h3⟩ O;have hs:=M.out;exact ⟨h1,d4.out _ _ h2 (O.mono (by omega)),fun r hr=>(O.block _ (I.out r hr).2).trans (h3 r hr)⟩
    case hG=>
     rintro j x a A l' ⟨gx2,a0,a1,a2,a3,a4,a5,a6,h1,h2,h3,h4,h5,U⟩ _ _ ⟨r,hr⟩ o;exact ⟨gx2,a0,a1,a2,a3,a4,a5,a6,h1,h2,h3,h4,h5,cell_loop U hr o⟩
    case assign=>
     rintro l2 j x W0 K l4 hi ⟨a0,a1,a2,a3,a4,a5,a6,rfl⟩ hs hK;clear hi;rw [fold_one];simp only [List.setIfInBounds_toArray,List.set_cons_zero,List.set_cons_succ]
     gi_wp2_with fail
     refine hK _ _ ((za.refl W0).alloc (.cells #[.int .i64 a0,.slice a1 a2 a3,.slice a4 a5 a6] 41)) ?_;exact ⟨W0.heap.size,a0,a1,a2,a3,a4,a5,a6,rfl,rfl,rfl,rfl,rfl,zd.new W0 #[.int .i64 a0,.slice a1 a2 a3,.slice a4 a5 a6] 41 rfl⟩
    case body=>
     rintro l2 j x ⟨T,Df⟩ W0 l4 ⟨f5,d7,f8⟩ ⟨gx2,a0,a1,a2,a3,a4,a5,a6,rfl,hT,f3,d8,d9,b6⟩ hs ⟨rl,l7⟩;dsimp only at hT f3 d8 d9;subst f3;obtain ⟨x0,x1,x2,x3,x4,x5,x6,x7,x8,x9,x10,x11,x12,x13,x14,x15,x16,x17,x18,x19,x20,x21,x22,x23,x24,rfl⟩:=arr25 T hT;have b2:x2=.pointer (some ⟨gy,0,none⟩):=d8;have l9:x5=.pointer (some ⟨gx2,0,none⟩):=d9;subst b2 l9
     have y0:W0.cell? ⟨gy,0,none⟩=some (.func (.yield l) #[] #[]):=d7.cellk G.out.2 (by
      have h1:=HL.out;have h2:=j6.out;rintro (h | h)
      ·have:gy=l:=h;omega
      ·have:Z gy:=h;have:=HZ.out _ this;omega)
     have c0:=b6.cell (k:=0) rfl;have c1:=b6.cell (k:=1) rfl;have c2:=b6.cell (k:=2) rfl;have j1:=HY.out (1+PT.sizeL (kids.take k)+j) (.agg #[.int .i64 a0,.slice a1 a2 a3,.slice a4 a5 a6]) W0 (by have:=d5.out;omega) f5 ⟨_,_,_,_,_,_,_,rfl⟩;obtain ⟨fn,tmps,assign,body,j2,hR⟩:=yield_any j1;have HR:=zh hR;have b3:=zh d7;have b5:=zh f8;clear hT d8 d9 j1 hR f5 d7 f8 b6 l7 hs
     gi_wp2_with fail
     refine ⟨fun h=>absurd h (by simp [Fence.wide]),?_⟩;refine (HR.out _).mono ?_;rintro e W2 (⟨rfl,b9,E⟩ | ⟨rfl,b2,h9⟩)
     ·gi_wp2_with fail
      refine ⟨E,b9,b3.out.tr E,fun r hr=>(E.block r ((EM.1 (b5.out r hr)).1) ?_).trans (b5.out r hr)⟩;have h1:=HL.out;have h2:=I.out r hr;have h3:=M.out;rintro (h | h)
      ·omega
      ·have:=HZ.out _ h;omega
     ·gi_wp2_with fail
      refine ⟨fun b g4 l0=>h9 b (by have:=M.out;omega) l0,rfl,b2,fun r hr=>(h9 r ?_ ((EM.1 (b5.out r hr)).1)).trans (b5.out r hr)⟩;have h2:=I.out r hr;have h3:=M.out;omega
    case done=>
     rintro D0 W3 k7 ⟨h8,g7,a9⟩ a7;have k3:Hid (J (1+PT.sizeL (kids.take (k+1))) W3):=by (show J _ _);rw [d5.out.2.1];exact h8
     have j5:=zh g7
     have d6:Hid (∀r∈D0 :: D,W1.heap.size<=r/\W3.heap[r]?=some (.deferred (some []))):=fun r hr=>by
      rcases EG.1 hr with rfl | hr
      ·exact ⟨by have:=M.out;omega,a7⟩
      ·exact ⟨(I.out r hr).1,a9 r hr⟩
     have c9:Hid ((D0 :: D).Nodup):=List.nodup_cons.2 ⟨fun h=>by have:=I.out _ h;omega,hD⟩;clear h8 g7 a9 a7
     gi_wp2_with fail
     exact ⟨⟨k+1,D0 :: D,_,_,_,_,_,_,_,_,_,_,_,_,_,_,_,_,_,_,_,_,_,by omega,rfl,c9.out,d6.out,k3.out,j5.out⟩,by simp [intOf];omega⟩
    case stop=>
     rintro D0 c W3 k7 ⟨rfl,i9,a9⟩ a7
     have d6:Hid (∀r∈D0 :: D,W1.heap.size<=r/\W3.heap[r]?=some (.deferred (some []))):=fun r hr=>by
      rcases EG.1 hr with rfl | hr
      ·exact ⟨by have:=M.out;omega,a7⟩
      ·exact ⟨(I.out r hr).1,a9 r hr⟩
     have c9:Hid ((D0 :: D).Nodup):=List.nodup_cons.2 ⟨fun h=>by have:=I.out _ h;omega,hD⟩;have k5:=zh i9;clear i9 a9 a7
     gi_wp2_with fail
     exact Cw rfl (D0 :: D) W1.heap.size _ c9.out d6.out fun w' hw=>⟨⟨_,rfl⟩,.inr (d4.out _ _ k5.out (hw.mono (by have:=M.out;omega)))⟩
   ·obtain rfl:k=kids.length:=by omega
    rw [Ec] at hj
    gi_wp2_with fail
    exact Cw rfl D W1.heap.size _ hD b1.out fun w' hw=>⟨⟨_,rfl⟩,.inl (HJ.out _ _ _ hj.out (hw.mono (by have:=G.out.1.size;omega)))⟩
theorem psize_calls (w:World) (hp:zM w okp vp p) (c6:p.size<=4000000000000000000):
  Calls Tryz.prog 59 #[vp] w fun e w'=>e=.returned (.int .i64 (p.size:Nat))/\za w w':=by
 refine (callsIn_wide (n:=6)).1 ?_;obtain ⟨As,cs,Ak,ck,rfl,-⟩:=hp.form;have HP:=zh hp;obtain ⟨z,hz⟩:=EY p.size;have HZ:=zh hz;rw [<-hz] at c6⊢;clear hz hp;refine callsIn_of_wp_marks Tryz.func59 rfl trivial ?_ rfl;simp only [Tryz.ntmps59,List.size_toArray,EW,EX,Nat.reduceAdd,Nat.reduceSub,Array.replicate_succ,Array.replicate_zero,List.push_toArray,List.append_toArray,List.nil_append,List.cons_append]
 gi_wp2_with (refine ⟨trivial,?_⟩;gi_at_call 116;refine (callsIn_wide.2 (parts_calls _)).mono ?_;rintro e wp ⟨gx,rfl,E,a7,a8,a9,b0⟩)
 have M:za w ((w.alloc (.cells #[.int .i64 p.task,.slice As p.side.length cs,.slice Ak p.kids.length ck] 41)).alloc (.cells #[.int .i64 0] 3)):=((za.refl w).alloc _).alloc _;have a0:((w.alloc (.cells #[.int .i64 p.task,.slice As p.side.length cs,.slice Ak p.kids.length ck] 41)).alloc (.cells #[.int .i64 0] 3)).heap.size=w.heap.size+2:=by simp
 have I:=zd.new (w.alloc (.cells #[.int .i64 p.task,.slice As p.side.length cs,.slice Ak p.kids.length ck] 41)) #[.int .i64 0] 3 (g:=w.heap.size+1) (by simp);generalize (w.alloc (.cells #[.int .i64 p.task,.slice As p.side.length cs,.slice Ak p.kids.length ck] 41)).alloc (.cells #[.int .i64 0] 3)=w1 at M a0 I E a7⊢;have O:=M.trans E;have L:=I.ext E;obtain ⟨gn,U⟩:∃g,g=w.heap.size+1:=⟨_,rfl⟩;rw [<-U] at I L⊢;have D:Hid (gn=w.heap.size+1/\w1.heap.size=w.heap.size+2/\w1.heap.size<=wp.heap.size):=⟨U,a0,E.size⟩;have V:=parts_gives p.size p (DR _) (by have:=HZ.out;omega) wp gx (fun b=>b=gn) ((HP.out.bound.ext O).keepW (zK.of_below (za.refl wp)) (fun b Q h=>by have h1:=Q.2;have h2:b=gn:=h;omega)) (by (show ¬ gx=gn);have:=D.out.2.1;omega) (fun b Q=>by have h2:b=gn:=Q;have h3:=D.out;omega) a8 a9 b0;rw [<-HZ.out] at V;have b7:=zh V;have a1:=zh O;have b3:=zh L;clear V M a0 I E a7 a8 a9 b0 O L U
 gi_wp2_with fail
 refine wpIn_loopZ (gf:=175) (lb:=#[.pointer (some ⟨gx,0,none⟩)]) rfl (enters_of Tryz.func175 (by kernel_rfl) rfl) (Z:=fun b=>b=gn) (fun b Q=>by have h1:=D.out;omega) (b7.out _) (za.refl wp) (fun _=>rfl)
  (fun j W'=>zd W' gn 3 #[.int .i64 (j:Nat)]/\zp (fun b=>b=gn) wp W')
  (fun c W'=>False)
  ?hI ?hIx (fun j x a W'=>a={ tmps:=#[Value.agg #[.int .i64 p.task,.slice As p.side.length cs,.slice Ak p.kids.length ck],.pointer (some ⟨w.heap.size,0,none⟩),.pointer (some ⟨gn,0,none⟩),.agg #[.int .i64 p.task,.slice As p.side.length cs,.slice Ak p.kids.length ck],.func (.func 175) #[] #[.pointer (some ⟨gx,0,none⟩)],x,undef,undef,undef],defers:=[] }) ?hG ⟨b3.out,zp.refl _ _⟩ ?assign ?body ?done ?stop
 case hI=>
  rintro j A B ⟨h1,h2⟩ a2;have hs:=D.out;exact ⟨h1.below a2 (by omega),h2.belowR a2 (DR _)⟩
 case hIx=>intro c A B h;exact h.elim
 case hG=>intro j x a A l' h _ _ _ o;exact h
 case assign=>
  intro l2 j x W0 K b9 hi hg hs hK;clear hi;rw [fold_one]
  gi_wp2_with fail
  exact hK _ _ (za.refl _) rfl
 case body=>
  rintro l2 j x a W0 b9 ⟨G,a4⟩ rfl hs ⟨rl,c7⟩;have c0:=G.cell (k:=0) rfl;have hfz:=G.frozen 0;have a3:=G.set (k:=0) (.int .i64 ((j+1:Nat):Int));have d8:IntKind.i64.wrap ((j:Int)+1)=((j+1:Nat):Int):=by rw [Em];omega
  have b1:=zh a3;have b4:=zh a4;clear G a4 a3 c7 hs
  gi_wp2_with fail
  exact ⟨(zp.refl _ _).set gn 0 _ rfl,b1.out,b4.out.set gn 0 _ rfl⟩
 case done=>
  rintro D0 W3 b8 ⟨J,a5⟩ a6;have c0:=J.cell (k:=0) rfl;have hfz:=J.frozen 0;have b2:Hid (zd (W3.setCell ⟨gn,0,none⟩ (.int .i64 (z:Nat))) gn 3 #[.int .i64 (z:Nat)]):=J.set (k:=0) _;have b5:Hid (zp (fun b=>b=gn) wp (W3.setCell ⟨gn,0,none⟩ (.int .i64 (z:Nat)))):=a5.set gn 0 _ rfl;have b6:Hid ((W3.setCell ⟨gn,0,none⟩ (.int .i64 (z:Nat))).heap[D0]?=some (.deferred (some []))):=(Ea W3 ⟨gn,0,none⟩ _ D0 (by have:=D.out;(show D0≠gn);omega)).trans a6;clear J a5 a6
  gi_wp2_with fail
  refine ⟨by simp,.inl ⟨_,_,rfl,run_takeDeferred b6.out,?_⟩⟩;have hS:∀b,b≠D0->((W3.setCell ⟨gn,0,none⟩ (.int .i64 (z:Nat))).putObj D0 (.deferred none)).heap[b]?=(W3.setCell ⟨gn,0,none⟩ (.int .i64 (z:Nat))).heap[b]?:=fun b Q=>World.putObj_heap_other Q
  have y:=(show zd ((W3.setCell ⟨gn,0,none⟩ (.int .i64 (z:Nat))).putObj D0 (.deferred none)) gn _ _ from (hS gn (by have:=D.out;omega)).trans b2.out).cell (k:=0) rfl;refine ⟨.int .i64 (z:Nat),by simp [results,Tryz.results59,go_sem,y],rfl,?_⟩;have h1:=D.out;have h2:=(b5.out.grown (grownBy_putObj' _ _ (.deferred none)) (fun k e hk=>absurd hk (by have e':D0=k:=Option.some.inj e;omega)));exact Below.trans a1.out (h2.below a1.out.size (fun b Q=>by omega))
 case stop=>intro D0 c W3 b8 h;exact h.elim
theorem pathsO_nil (o:Bq m=0):zm m []=[]:=by
 unfold zm;rw [if_pos (okC_of o zy.nil)];rw [List.filter_eq_nil_iff];intro x B;have h1:=(zy.nil (m:=m)).psOk;have h3:=flat_le B;rw [h1.fl] at h3;have:x.length=0:=by simpa using h3
 simp [this]
theorem curT_nil (o:Bq m=0):zF m []=0:=by
 unfold zF;rw [pathsO_nil o];rfl
theorem vCheck_calls (w:World) (hm:zt w ok v m) (hl:Lens m) (hp:zM w okp vp p) (a0:p.Lens) (b0:p.size<=4000000000000000000):
  Calls Tryz.prog 24 #[v,vp] w fun e w'=>e=.returned (.bool (AR m p))/\za w w':=by
 have HM:=zh hm;have HL:=zh hl;have HP:=zh hp;have M:=zh a0;have O:=zh b0;obtain ⟨Af,cf,Au,cu,At,ct,rfl,-,-,-⟩:=hm.parts;obtain ⟨As,cs,Ak,ck,rfl,-⟩:=hp.form;have b6:=hl.ts;clear hm hl hp a0;obtain ⟨R,hR⟩:=EY (AR m p);rw [<-hR];have HR:=zh hR;clear hR
 go_enter Tryz.func24,Tryz.ntmps24
 go_upto_region 1 with fail;obtain ⟨J,r0,r1,r2,r3,r4,r5⟩:=box6 w (.int .i64 m.w) (.int .i64 m.h) (.int .i64 m.l) (.slice Af m.free.length cf) (.slice Au m.up.length cu) (.slice At m.tasks.length ct);have K:(w.alloc (.cells #[.int .i64 m.w,.int .i64 m.h,.int .i64 m.l,.slice Af m.free.length cf,.slice Au m.up.length cu,.slice At m.tasks.length ct] 32)).heap.size=w.heap.size+1:=by simp
 generalize w.alloc _=w0 at J r0 r1 r2 r3 r4 r5 K⊢;obtain ⟨G,p0,p1,p2⟩:=box3 w0 (.int .i64 p.task) (.slice As p.side.length cs) (.slice Ak p.kids.length ck);generalize w0.alloc _=w1 at G p0 p1 p2⊢;rw [K] at p0 p1 p2;obtain ⟨gm,V⟩:=EY w.heap.size;rw [<-V] at r0 r1 r2 r3 r4 r5 p0 p1 p2⊢;have B:=zh G;have o:=zh (J.trans G);have r0:=fun W h=>r0 W (B.out.trans h)
 have r1:=fun W h=>r1 W (B.out.trans h)
 have r2:=fun W h=>r2 W (B.out.trans h)
 have r3:=fun W h=>r3 W (B.out.trans h)
 have r4:=fun W h=>r4 W (B.out.trans h)
 have r5:=fun W h=>r5 W (B.out.trans h)
 clear V J G K;have E:za w1 w1:=za.refl w1
 go_wp2_with fail
 refine (Ce w1 (HM.out.below o.out) HL.out).mono ?_;rintro e w2 ⟨rfl,Q⟩;clear E;have E:za w1 w2:=Q;obtain ⟨ck0,D⟩:∃c,c=Bq m:=⟨_,rfl⟩;rw [<-D];have L:=zh D;clear Q D;by_cases h0:ck0=0
 ·subst h0;have HC:Hid (Bq m=0):=L.out.symm;by_cases h1:0<m.tasks.length
  ·have a4:(0:Int)<(m.tasks.length:Int):=by omega
   have a3:Hid (¬ m.tasks.length<=zF m []):=by (show ¬ _);rw [curT_nil HC.out];omega
   go_wp2_with fail
   refine (vsize_calls 4000000000000000000 w2 (HP.out.ext (o.out.trans E)) O.out M.out (DR _)).mono ?_;rintro e w3 ⟨rfl,U⟩;have E:za w1 w3:=E.trans U;obtain ⟨z,hz⟩:=EY p.size;rw [<-hz];have HZ:=zh hz;clear hz U;by_cases h2:z<=3000
   ·have a6:(z:Int)<=3000:=by omega
    go_wp2_with fail
    refine (vholds_calls HL.out HC.out 4000000000000000000 _ _ _ _ _ _ _ _ w3 (HM.out.below (o.out.trans E)) (zk.nil _ (fun _=>True)) zy.nil a3.out (HP.out.ext (o.out.trans E)) O.out M.out).mono ?_;rintro e w4 ⟨rfl,a7⟩;have I:Hid (R=AU m p []):=by (show _=_);rw [HR.out];unfold AR;rw [DU HC.out,DU h1,<-HZ.out,DU h2];rfl
    go_wp2_with fail
    go_ret;exact ⟨zi I.out.symm,(o.out.trans E).trans a7⟩
   ·have a6:¬ ((z:Int)<=3000):=by omega
    have I:Hid (R=false):=by (show _=_);rw [HR.out];unfold AR;rw [<-HZ.out,DV h2];simp
    go_wp2_with fail
    go_ret;exact ⟨zi I.out.symm,o.out.trans E⟩
  ·have a4:¬ ((0:Int)<(m.tasks.length:Int)):=by omega
   have a5:m.tasks.length=0:=by omega
   have I:Hid (R=false):=by (show _=_);rw [HR.out];unfold AR;rw [DV h1];simp
   clear a5
   go_wp2_with fail
   go_ret;exact ⟨zi I.out.symm,o.out.trans E⟩
 ·have b5:(ck0==0)=false:=by rw [Ee];exact h0
  have I:Hid (R=false):=by (show _=_);rw [HR.out];unfold AR;rw [DV (by rw [<-L.out];exact h0)];rfl
  clear h0
  go_wp2_with fail
  go_ret;exact ⟨zi I.out.symm,o.out.trans E⟩
end
section
open Go.RowKit
attribute [local go_sem ↓] Go.wp_at_zero Go.wp_at_succ
theorem BH (w:World) (hm:zt w ok v m) (hl:Lens m) (hp:zM w okp vp p) (b5:p.Lens) (b6:p.size<=4000000000000000000):
  Calls Tryz.prog 23 #[v,vp] w fun e w'=>e=.returned (.bool (AR m p))/\za w w':=by
 have HM:=zh hm;have HL:=zh hl;have HP:=zh hp;have c7:=zh b5;have b0:=zh b6;obtain ⟨Af,cf,Au,cu,At,ct,rfl,-,-,-⟩:=hm.parts;obtain ⟨As,cs,Ak,ck,rfl,-⟩:=hp.form;clear hm hl hp b5 b6;obtain ⟨R,hR⟩:=EY (AR m p);rw [<-hR];have HR:=zh hR;clear hR
 go_enter Tryz.func23,Tryz.ntmps23
 go_upto_region 1 with fail;obtain ⟨Q,r0,r1,r2,r3,r4,r5⟩:=box6 w (.int .i64 m.w) (.int .i64 m.h) (.int .i64 m.l) (.slice Af m.free.length cf) (.slice Au m.up.length cu) (.slice At m.tasks.length ct);have U:(w.alloc (.cells #[.int .i64 m.w,.int .i64 m.h,.int .i64 m.l,.slice Af m.free.length cf,.slice Au m.up.length cu,.slice At m.tasks.length ct] 32)).heap.size=w.heap.size+1:=by simp
 generalize w.alloc _=w0 at Q r0 r1 r2 r3 r4 r5 U⊢;obtain ⟨L,p0,p1,p2⟩:=box3 w0 (.int .i64 p.task) (.slice As p.side.length cs) (.slice Ak p.kids.length ck);generalize w0.alloc _=w1 at L p0 p1 p2⊢;rw [U] at p0 p1 p2;obtain ⟨gm,b3⟩:=EY w.heap.size;rw [<-b3] at r0 r1 r2 r3 r4 r5 p0 p1 p2⊢;have G:=zh L;have B:=zh (Q.trans L);have r0:=fun W h=>r0 W (G.out.trans h)
 have r1:=fun W h=>r1 W (G.out.trans h)
 have r2:=fun W h=>r2 W (G.out.trans h)
 have r3:=fun W h=>r3 W (G.out.trans h)
 have r4:=fun W h=>r4 W (G.out.trans h)
 have r5:=fun W h=>r5 W (G.out.trans h)
 clear b3 Q L U;have hx:za w1 w1:=za.refl w1;obtain ⟨ck0,I⟩:∃c,c=Bq m:=⟨_,rfl⟩;have V:=zh I
 have J:Hid (∀W,za w1 W->Calls Tryz.prog 62 #[.agg #[.int .i64 m.w,.int .i64 m.h,.int .i64 m.l,.slice Af m.free.length cf,.slice Au m.up.length cu,.slice At m.tasks.length ct]] W fun e w'=>e=.returned (.int .i64 ck0)/\za W w'):=fun W hW=>by
  rw [I];exact Cr W (HM.out.below (B.out.trans hW)) HL.out
 clear I;obtain ⟨z,hz⟩:=EY p.size;have HZ:=zh hz
 have b1:Hid (∀W,za w1 W->Calls Tryz.prog 59 #[.agg #[.int .i64 p.task,.slice As p.side.length cs,.slice Ak p.kids.length ck]] W fun e w'=>e=.returned (.int .i64 (z:Nat))/\za W w'):=fun W hW=>by
  rw [hz];exact psize_calls W (HP.out.ext (B.out.trans hW)) b0.out
 clear hz;by_cases h0:ck0=0
 ·subst h0;have HC:Hid (Bq m=0):=V.out.symm
  have a9:Hid (∀W,za w1 W->Calls Tryz.prog 63 #[.agg #[.int .i64 m.w,.int .i64 m.h,.int .i64 m.l,.slice Af m.free.length cf,.slice Au m.up.length cu,.slice At m.tasks.length ct],.slice none 0 0] W fun e w'=>∃a0 a1 a2 a3 a4 a5 a6 a7 a8,e=.returned (.agg #[a0,a1,a2,a3,a4,a5,a6,a7,a8])/\za W w'/\∀W',za w' W'->Calls Tryz.prog 64 #[.agg #[a0,a1,a2,a3,a4,a5,a6,a7,a8],.agg #[.int .i64 p.task,.slice As p.side.length cs,.slice Ak p.kids.length ck]] W' fun e w'=>e=.returned (.bool (AU m p []))/\za W' w'):=fun W hW=>by
   refine (of_calls (ok:=fun b=>ok b) W (HM.out.below (B.out.trans hW)) HL.out HC.out (zk.nil _ _) zy.nil).mono ?_;rintro e w' ⟨vp',rfl,b2,hS⟩;refine ⟨_,_,_,_,_,_,_,_,_,rfl,b2,fun W' hW'=>?_⟩;exact pholds_calls HL.out HC.out 4000000000000000000 _ _ _ _ _ _ _ _ _ _ W' (hS.more hW') zy.nil (HP.out.ext ((B.out.trans hW).trans (b2.trans hW'))) b0.out c7.out
  by_cases h1:0<m.tasks.length
  ·have c8:(0:Int)<(m.tasks.length:Int):=by omega
   by_cases h2:z<=3000
   ·have c9:(z:Int)<=3000:=by omega
    have M:Hid (R=AU m p []):=by (show _=_);rw [HR.out];unfold AR;rw [DU HC.out,DU h1,<-HZ.out,DU h2];rfl
    obtain ⟨hb,b4⟩:=EY (AU m p []);rw [<-b4] at a9 M;clear b4;refine Eh (S:=(fun W=>za w1 W)) zI (hx.drew) fun zH=>?_;have E:za w1 w1.drew:=zH;clear E;generalize w1.drew=wd at zH⊢;refine zg 0 zH ?_;simp only [zb,DN];refine AD 1 fun K o=>?_;go_simp;go_at_call 62;refine (J.out _ zH).mono ?_;rintro e w2 ⟨rfl,D⟩;go_simp;refine EZ o (zH.trans D) fun zH=>?_;clear o K;try simp only [zb,DN]
    refine zg 2 zH ?_;refine zg 3 zH ?_;simp only [zb,DN];refine zg 4 zH ?_;refine zg 5 zH ?_;simp only [zb,DN];refine zg 6 zH ?_;refine zg 7 zH ?_;simp only [zb,DN];refine zg 8 zH ?_;refine zg 9 zH ?_;simp only [zb,DN];refine zg 10 zH ?_;simp only [zb,DN];refine AD 11 fun K o=>?_;go_simp;go_at_call 59;refine (b1.out _ zH).mono ?_;rintro e w3 ⟨rfl,O⟩;go_simp;refine EZ o (zH.trans O) fun zH=>?_;clear o K;try simp only [zb,DN]
    refine zg 12 zH ?_;refine zg 13 zH ?_;simp only [zb,DN];refine zg 14 zH ?_;refine zg 15 zH ?_;simp only [zb,DN];refine zg 17 zH ?_;simp only [zb,DN];refine AD 16 fun K o=>?_;go_simp;go_at_call 63;refine (a9.out _ zH).mono ?_;rintro e w4 ⟨a0,a1,a2,a3,a4,a5,a6,a7,a8,rfl,d4,HK⟩;have c0:=zh HK;clear HK;go_simp;refine EZ o (zH.trans d4) fun zH=>?_;clear o K;try simp only [zb,DN]
    refine AD 18 fun K o=>?_;go_simp;go_at_call 64;refine (c0.out _ (za.refl _)).mono ?_;rintro e w5 ⟨rfl,d5⟩;go_simp;refine EZ o (zH.trans d5) fun zH=>?_;clear o K;try simp only [zb,DN]
    refine zg 19 zH ?_;refine zg 20 zH ?_;simp only [zb,DN];refine Ev (by kernel_rfl) ?_ _
    go_wp2_with fail
    go_ret;exact ⟨zi M.out.symm,B.out.trans zH⟩
   ·have c9:¬ ((z:Int)<=3000):=by omega
    have M:Hid (R=false):=by (show _=_);rw [HR.out];unfold AR;rw [<-HZ.out,DV h2];simp
    refine Eh (S:=(fun W=>za w1 W)) zI (hx.drew) fun zH=>?_;have E:za w1 w1.drew:=zH;clear E;generalize w1.drew=wd at zH⊢;refine zg 0 zH ?_;simp only [zb,DN];refine AD 1 fun K o=>?_;go_simp;go_at_call 62;refine (J.out _ zH).mono ?_;rintro e w2 ⟨rfl,D⟩;go_simp;refine EZ o (zH.trans D) fun zH=>?_;clear o K;try simp only [zb,DN]
    refine zg 2 zH ?_;refine zg 3 zH ?_;simp only [zb,DN];refine zg 4 zH ?_;refine zg 5 zH ?_;simp only [zb,DN];refine zg 6 zH ?_;refine zg 7 zH ?_;simp only [zb,DN];refine zg 8 zH ?_;refine zg 9 zH ?_;simp only [zb,DN];refine zg 10 zH ?_;simp only [zb,DN];refine AD 11 fun K o=>?_;go_simp;go_at_call 59;refine (b1.out _ zH).mono ?_;rintro e w3 ⟨rfl,O⟩;go_simp;refine EZ o (zH.trans O) fun zH=>?_;clear o K;try simp only [zb,DN]
    refine zg 12 zH ?_;refine zg 13 zH ?_;simp only [zb,DN];refine zg 14 zH ?_;refine Cp 15 zH ?_;simp only [zb,DN];refine Cp 16 zH ?_;refine Cp 17 zH ?_;simp only [zb,DN];refine Cp 18 zH ?_;refine zg 19 zH ?_;simp only [zb,DN];refine zg 20 zH ?_;simp only [zb,DN];refine Ev (by kernel_rfl) ?_ _
    go_wp2_with fail
    go_ret;exact ⟨zi M.out.symm,B.out.trans zH⟩
  ·have c8:¬ ((0:Int)<(m.tasks.length:Int)):=by omega
   have M:Hid (R=false):=by (show _=_);rw [HR.out];unfold AR;rw [DV h1];simp
   have e3:decide (0<m.tasks.length)=false:=DV h1;refine Eh (S:=(fun W=>za w1 W)) zI (hx.drew) fun zH=>?_;have E:za w1 w1.drew:=zH;clear E;generalize w1.drew=wd at zH⊢;refine zg 0 zH ?_;simp only [zb,DN];refine AD 1 fun K o=>?_;go_simp;go_at_call 62;refine (J.out _ zH).mono ?_;rintro e w2 ⟨rfl,D⟩;go_simp;refine EZ o (zH.trans D) fun zH=>?_;clear o K;try simp only [zb,DN]
   refine zg 2 zH ?_;refine zg 3 zH ?_;simp only [zb,DN];refine zg 4 zH ?_;refine zg 5 zH ?_;simp only [zb,DN];refine zg 6 zH ?_;refine zg 7 zH ?_;simp only [zb,DN];refine zg 8 zH ?_;refine zg 9 zH ?_;simp only [zb,DN];refine Cp 10 zH ?_;refine Cp 11 zH ?_;simp only [zb,DN];refine Cp 12 zH ?_;refine zg 13 zH ?_;simp only [zb,DN];refine zg 14 zH ?_;refine Cp 15 zH ?_;simp only [zb,DN];refine Cp 16 zH ?_;refine Cp 17 zH ?_;simp only [zb,DN];refine Cp 18 zH ?_;refine zg 19 zH ?_;simp only [zb,DN];refine zg 20 zH ?_;simp only [zb,DN];refine Ev (by kernel_rfl) ?_ _
   go_wp2_with fail
   go_ret;exact ⟨zi M.out.symm,B.out.trans zH⟩
 ·have e4:(ck0==0)=false:=by rw [Ee];exact h0
  have M:Hid (R=false):=by (show _=_);rw [HR.out];unfold AR;rw [DV (by rw [<-V.out];exact h0)];rfl
  refine Eh (S:=(fun W=>za w1 W)) zI (hx.drew) fun zH=>?_;have E:za w1 w1.drew:=zH;clear E;generalize w1.drew=wd at zH⊢;refine zg 0 zH ?_;simp only [zb,DN];refine AD 1 fun K o=>?_;go_simp;go_at_call 62;refine (J.out _ zH).mono ?_;rintro e w2 ⟨rfl,D⟩;go_simp;refine EZ o (zH.trans D) fun zH=>?_;clear o K;try simp only [zb,DN]
  refine zg 2 zH ?_;refine zg 3 zH ?_;simp only [zb,DN];refine Cp 4 zH ?_;refine Cp 5 zH ?_;simp only [zb,DN];refine Cp 6 zH ?_;refine Cp 7 zH ?_;simp only [zb,DN];refine zg 8 zH ?_;refine zg 9 zH ?_;simp only [zb,DN];refine Cp 10 zH ?_;refine Cp 11 zH ?_;simp only [zb,DN];refine Cp 12 zH ?_;refine zg 13 zH ?_;simp only [zb,DN];refine zg 14 zH ?_;refine Cp 15 zH ?_;simp only [zb,DN];refine Cp 16 zH ?_;refine Cp 17 zH ?_;simp only [zb,DN];refine Cp 18 zH ?_;refine zg 19 zH ?_;simp only [zb,DN];refine zg 20 zH ?_;simp only [zb,DN];refine Ev (by kernel_rfl) ?_ _
  go_wp2_with fail
  go_ret;exact ⟨zi M.out.symm,B.out.trans zH⟩
theorem ymk1:(AP (exM 6 8)).1=51:=by rw [make_x (AN.of (by decide +kernel)).dim];exact ym1
theorem ymk2:AP (exM 4 8)=(0,yP):=by rw [make_x (AN.of (by decide +kernel)).dim];exact ym2
theorem ymk3:AP (exM 1 7)=(0,Cv):=by rw [make_x (AN.of (by decide +kernel)).dim];exact ym3
theorem ysanity_calls (w:World) (hv:zN w):Calls Tryz.prog 18 #[] w fun e w'=>e=.returned (.bool true)/\za w w':=by
 have HV:=zh hv;clear hv
 go_enter Tryz.func18,Tryz.ntmps18
 go_wp2_with fail
 refine (AQ 6 8 w).mono ?_;rintro e w1 ⟨v1,rfl,g4,h7⟩;have G:=DB w1 h7 (Di 6 8);rw [ymk1] at G;have O:=zh G;have d9:=zh g4;clear G h7 g4
 go_wp2_with fail
 refine O.out.mono ?_;rintro e w2 ⟨v2,rfl,g5,d7⟩;generalize (AP (exM 6 8)).2=pz at d7;obtain ⟨As,cs,Ak,ck,rfl,-⟩:=d7.form;have e0:Hid (za w w2):=d9.out.trans g5;clear g5 d7 O d9;go_upto_region 2 with fail;obtain ⟨I,-,-,-⟩:=box3 w2 (.int .i64 pz.task) (.slice As pz.side.length cs) (.slice Ak pz.kids.length ck);generalize w2.alloc _=w3 at I⊢;have e1:Hid (za w w3):=e0.out.trans I;clear I e0
 go_wp2_with fail
 refine (AQ 4 8 w3).mono ?_;rintro e w4 ⟨v4,rfl,g6,h8⟩;have G:=DB w4 h8 (Di 4 8);rw [ymk2] at G;have O:=zh G;have e2:Hid (za w w4):=e1.out.trans g6;clear G h8 g6 e1
 go_wp2_with fail
 refine O.out.mono ?_;rintro e w5 ⟨v5,rfl,g7,i0⟩;obtain ⟨p,hp⟩:=EY yP;have b1:zM w5 (fun b=>w4.heap.size<=b) v5 p:=by rw [hp];exact i0
 have HP:=zh hp;obtain ⟨As,cs,Ak,ck,rfl,-⟩:=b1.form;have e3:Hid (za w w5):=e2.out.trans g7;have f3:=zh b1;clear g7 i0 b1 O e2 hp;go_upto_region 3 with fail;obtain ⟨I,p0,p1,p2⟩:=box3 w5 (.int .i64 p.task) (.slice As p.side.length cs) (.slice Ak p.kids.length ck);generalize w5.alloc _=w6 at I p0 p1 p2⊢;obtain ⟨gp,i3⟩:∃g,g=w5.heap.size:=⟨_,rfl⟩;rw [<-i3] at p0 p1 p2⊢;have e4:Hid (za w w6):=e3.out.trans I;have f4:=zh (f3.out.ext I);clear I e3 i3 f3
 go_wp2_with fail
 refine (AQ 1 7 w6).mono ?_;rintro e w7 ⟨v7,rfl,g8,h9⟩;have G:=DB w7 h9 (Di 1 7);rw [ymk3] at G;have O:=zh G;have e5:=zh g8;clear G h9 g8
 go_wp2_with fail
 refine O.out.mono ?_;rintro e w8 ⟨v8,rfl,g9,i1⟩;obtain ⟨q,hq⟩:=EY Cv;have b2:zM w8 (fun b=>w7.heap.size<=b) v8 q:=by rw [hq];exact i1
 have Q:=zh hq;obtain ⟨Bs,ds,Bk,dk,rfl,-⟩:=b2.form;have e6:Hid (za w6 w8):=e5.out.trans g9;have f6:=zh b2;clear g9 i1 b2 O e5 hq;go_upto_region 4 with fail;obtain ⟨I,q0,q1,q2⟩:=box3 w8 (.int .i64 q.task) (.slice Bs q.side.length ds) (.slice Bk q.kids.length dk);generalize w8.alloc _=w9 at I q0 q1 q2⊢;obtain ⟨gq,i4⟩:∃g,g=w8.heap.size:=⟨_,rfl⟩;rw [<-i4] at q0 q1 q2⊢;have J:=zh (e6.out.trans I);have e7:Hid (za w w9):=e4.out.trans J.out;have a7:=zh (f4.out.ext J.out);have f7:=zh (f6.out.ext I);have p0:=fun W h=>p0 W (J.out.trans h)
 have p1:=fun W h=>p1 W (J.out.trans h)
 have p2:=fun W h=>p2 W (J.out.trans h)
 clear I J e4 e6 f4 f6 i4
 have b9:=zh (show ∀W,za w9 W->Calls Tryz.prog 57 #[.agg #[.int .i64 p.task,.slice As p.side.length cs,.slice Ak p.kids.length ck],.agg #[.int .i64 1,.slice none 0 0,.slice none 0 0]] W fun e w'=>e=.returned (.bool true)/\za W w' from fun W hW=>by
  have h:=CS 1000 W (a7.out.ext hW) (zM.leaf W (fun _=>True) 1) (by rw [HP.out];decide) (by rw [HP.out];exact yl0) yl0;rw [HP.out,show Ck yP (.node 1 [] [])=true from ysp] at h;rw [HP.out];exact h)
 have L:=zh (show ∀W (ok:Nat->Prop) v,za w9 W->zt W ok v (exM 4 8)->Calls Tryz.prog 23 #[v,.agg #[.int .i64 p.task,.slice As p.side.length cs,.slice Ak p.kids.length ck]] W fun e w'=>e=.returned (.bool true)/\za W w' from fun W ok v hW hM=>by
  have h:=BH W hM (Di 4 8) (a7.out.ext hW) (by rw [HP.out];exact yl0) (by rw [HP.out];decide);rw [show AR (exM 4 8) p=true by rw [HP.out];exact yk1] at h;exact h)
 have M:=zh (show ∀W (ok:Nat->Prop) v,za w9 W->zt W ok v (exM 6 8)->Calls Tryz.prog 23 #[v,.agg #[.int .i64 p.task,.slice As p.side.length cs,.slice Ak p.kids.length ck]] W fun e w'=>e=.returned (.bool false)/\za W w' from fun W ok v hW hM=>by
  have h:=BH W hM (Di 6 8) (a7.out.ext hW) (by rw [HP.out];exact yl0) (by rw [HP.out];decide);rw [show AR (exM 6 8) p=false by rw [HP.out];exact yk2] at h;exact h)
 have b6:za w9 w9:=za.refl w9;refine Eh (S:=(fun W=>za w9 W)) zI (b6.drew) fun zH=>?_;have a4:za w9 w9.drew:=zH;generalize w9.drew=wd at zH a4⊢;refine zg 0 zH ?_;refine zg 1 zH ?_;simp only [zb,DN];refine zg 2 zH ?_;refine zg 3 zH ?_;simp only [zb,DN];refine zg 4 zH ?_;refine zg 5 zH ?_;simp only [zb,DN];refine zg 6 zH ?_;refine zg 7 zH ?_;simp only [zb,DN];refine zg 8 zH ?_;simp only [zb,DN];refine AD 9 fun K B=>?_;go_simp;go_at_call 57;refine (b9.out _ zH).mono ?_;rintro e wa ⟨rfl,V⟩;go_simp;refine EZ B (zH.trans V) fun zH=>?_;clear B K;try simp only [zb,DN]
 refine zg 10 zH ?_;refine zg 11 zH ?_;simp only [zb,DN];refine zg 13 zH ?_;simp only [zb,DN];refine AD 12 fun K B=>?_;go_simp;go_at_call 56;refine (AQ 4 8 _).mono ?_;rintro e wb ⟨vb,rfl,a0,a9⟩;go_simp;refine EZ B (zH.trans a0) fun zH=>?_;clear B K;try simp only [zb,DN]
 refine AD 14 fun K B=>?_;go_simp;go_at_call 23;refine (L.out _ _ _ zH a9).mono ?_;rintro e wc ⟨rfl,a1⟩;go_simp;refine EZ B (zH.trans a1) fun zH=>?_;clear B K;try simp only [zb,DN]
 refine zg 15 zH ?_;refine zg 16 zH ?_;simp only [zb,DN];refine zg 18 zH ?_;simp only [zb,DN];refine AD 17 fun K B=>?_;go_simp;go_at_call 56;refine (AQ 6 8 _).mono ?_;rintro e wd' ⟨vd,rfl,a2,b0⟩;go_simp;refine EZ B (zH.trans a2) fun zH=>?_;clear B K;try simp only [zb,DN]
 refine AD 19 fun K B=>?_;go_simp;go_at_call 23;refine (M.out _ _ _ zH b0).mono ?_;rintro e we ⟨rfl,a3⟩;go_simp;refine EZ B (zH.trans a3) fun zH=>?_;clear B K;try simp only [zb,DN]
 refine zg 20 zH ?_;refine zg 21 zH ?_;simp only [zb,DN];refine zg 22 zH ?_;simp only [zb,DN];refine Ev (by kernel_rfl) ?_ _;have o:za w9 we:=((((a4.trans V).trans a0).trans a1).trans a2).trans a3;have p0:=fun W h=>p0 W (o.trans h)
 have p1:=fun W h=>p1 W (o.trans h)
 have p2:=fun W h=>p2 W (o.trans h)
 have q0:=fun W h=>q0 W (o.trans h)
 have q1:=fun W h=>q1 W (o.trans h)
 have q2:=fun W h=>q2 W (o.trans h)
 have a6:Hid (za w we):=e7.out.trans o;have f5:=zh (a7.out.ext o);have c8:=zh (f7.out.ext o);clear b9 L M o a4 V a0 a9 a1 a2 b0 a3 b6 a7 f7 e7;go_upto_region 7 with fail;refine fin_wp we [_,_,_,_,_,_,_] fun wf E hB=>?_
 have HW:Hid (zM wf (fun b=>we.heap.size<=b) (.agg #[.int .i64 0,.slice none 0 0,.slice (some ⟨we.heap.size+5,0,none⟩) 1 1]) Cv):=ywant_mem (hB 0 _ rfl) (hB 1 _ rfl) (hB 2 _ rfl) (hB 4 _ rfl) (hB 5 _ rfl);have b3:zd wf (we.heap.size+6) 41 #[.int .i64 0,.slice none 0 0,.slice (some ⟨we.heap.size+5,0,none⟩) 1 1]:=hB 6 _ rfl;obtain ⟨gw,i5⟩:∃g,g=we.heap.size+6:=⟨_,rfl⟩;have c7:we.heap.size+1+1+1+1+1+1=gw:=by omega
 rw [c7];rw [<-i5] at b3;have z0:=za.rule (b3.cell (k:=0) rfl);have z1:=za.rule (b3.cell (k:=1) rfl);have z2:=za.rule (b3.cell (k:=2) rfl);obtain ⟨gy,i6⟩:∃g,g=we.heap.size+5:=⟨_,rfl⟩;rw [<-i6] at HW z1 z2 z0;clear b3 hB i5 c7 i6;have b7:Hid (za w wf):=a6.out.trans E;have j8:za wf wf:=za.refl wf;have c6:=enc_calls 1000 wf (HV.out.ext b7.out) (c8.out.ext E) (by rw [Q.out];decide) (by rw [Q.out];exact yok) (by rw [Q.out];have:=yel;omega)
 go_wp2_with fail
 refine c6.mono ?_;rintro e wg ⟨rfl,d4⟩;obtain ⟨str,b5⟩:=EY (encP q);rw [<-b5];have a8:=zh b5;have e8:Hid (za w wg):=b7.out.trans d4;have U:=dec_calls (l:=str) wg (HV.out.ext e8.out);rw [show decR str=(0,q) by rw [a8.out,Q.out];exact yd1] at U;have a5:=zh U;have e9:Hid (za wf wg):=d4;clear c6 d4 b5 U j8
 go_wp2_with fail
 refine a5.out.mono ?_;rintro e wh ⟨vg,rfl,h4,hG⟩;have hG:zM wh (fun b=>wg.heap.size<=b) vg q:=hG;obtain ⟨Gs,fs,Gk,fk,rfl,-⟩:=hG.form;have f0:Hid (za wf wh):=e9.out.trans h4;have f1:=zh hG;clear h4 hG a5;go_upto_region 9 with fail;obtain ⟨I,g0,g1,g2⟩:=box3 wh (.int .i64 q.task) (.slice Gs q.side.length fs) (.slice Gk q.kids.length fk);generalize wh.alloc _=wi at I g0 g1 g2⊢;obtain ⟨gg,i2⟩:∃g,g=wh.heap.size:=⟨_,rfl⟩;rw [<-i2] at g0 g1 g2⊢;have D:za wf wi:=f0.out.trans I;have p0:=fun W h=>p0 W ((E.trans D).trans h)
 have p1:=fun W h=>p1 W ((E.trans D).trans h)
 have p2:=fun W h=>p2 W ((E.trans D).trans h)
 have q0:=fun W h=>q0 W ((E.trans D).trans h)
 have q1:=fun W h=>q1 W ((E.trans D).trans h)
 have q2:=fun W h=>q2 W ((E.trans D).trans h)
 have z0:=fun W h=>z0 W (D.trans h)
 have z1:=fun W h=>z1 W (D.trans h)
 have z2:=fun W h=>z2 W (D.trans h)
 have i8:Hid (za w wi):=b7.out.trans D;have j3:=zh (f5.out.ext (E.trans D));have b8:=zh (c8.out.ext (E.trans D));have j6:=zh (HW.out.ext D);have j1:=zh (f1.out.ext I);clear D I E f0 e9 b7 a6 e8 f5 c8 HW f1 i2
 have f9:=zh (show ∀W,za wi W->Calls Tryz.prog 57 #[.agg #[.int .i64 q.task,.slice Bs q.side.length ds,.slice Bk q.kids.length dk],.agg #[.int .i64 0,.slice none 0 0,.slice (some ⟨gy,0,none⟩) 1 1]] W fun e w'=>e=.returned (.bool true)/\za W w' from fun W hW=>by
  have h:=CS 1000 W (b8.out.ext hW) (j6.out.ext hW) (by rw [Q.out];decide) (by rw [Q.out];exact yl1) yl1;rw [show Ck q Cv=true by rw [Q.out];exact Do _] at h;exact h)
 have f8:=zh (show ∀W,za wi W->Calls Tryz.prog 57 #[.agg #[.int .i64 q.task,.slice Gs q.side.length fs,.slice Gk q.kids.length fk],.agg #[.int .i64 q.task,.slice Bs q.side.length ds,.slice Bk q.kids.length dk]] W fun e w'=>e=.returned (.bool true)/\za W w' from fun W hW=>by
  have h:=CS 1000 W (j1.out.ext hW) (b8.out.ext hW) (by rw [Q.out];decide) (by rw [Q.out];exact yl1) (by rw [Q.out];exact yl1);rw [Do] at h;exact h)
 have L:=zh (show ∀W (ok:Nat->Prop) v,za wi W->zt W ok v (exM 1 7)->Calls Tryz.prog 23 #[v,.agg #[.int .i64 q.task,.slice Bs q.side.length ds,.slice Bk q.kids.length dk]] W fun e w'=>e=.returned (.bool true)/\za W w' from fun W ok v hW hM=>by
  have h:=BH W hM (Di 1 7) (b8.out.ext hW) (by rw [Q.out];exact yl1) (by rw [Q.out];decide);rw [show AR (exM 1 7) q=true by rw [Q.out];exact yk3] at h;exact h)
 have M:=zh (show ∀W (ok:Nat->Prop) v,za wi W->zt W ok v (exM 1 7)->Calls Tryz.prog 23 #[v,.agg #[.int .i64 p.task,.slice As p.side.length cs,.slice Ak p.kids.length ck]] W fun e w'=>e=.returned (.bool false)/\za W w' from fun W ok v hW hM=>by
  have h:=BH W hM (Di 1 7) (j3.out.ext hW) (by rw [HP.out];exact yl0) (by rw [HP.out];decide);rw [show AR (exM 1 7) p=false by rw [HP.out];exact yk4] at h;exact h)
 have g3:=zh (show ∀W,za wi W->Calls Tryz.prog 59 #[.agg #[.int .i64 q.task,.slice Bs q.side.length ds,.slice Bk q.kids.length dk]] W fun e w'=>e=.returned (.int .i64 6)/\za W w' from fun W hW=>by
  have h:=psize_calls W (b8.out.ext hW) (by rw [Q.out];decide);rw [show q.size=6 by rw [Q.out];exact yz] at h;exact h)
 have b6:za wi wi:=za.refl wi;refine Eh (S:=(fun W=>za wi W)) zI (b6.drew) fun zH=>?_;have a4:za wi wi.drew:=zH;generalize wi.drew=wd at zH a4⊢;refine zg 0 zH ?_;refine zg 1 zH ?_;simp only [zb,DN];refine zg 2 zH ?_;refine zg 3 zH ?_;simp only [zb,DN];refine zg 4 zH ?_;simp only [zb,DN];refine AD 5 fun K B=>?_;go_simp;go_at_call 57;refine (f9.out _ zH).mono ?_;rintro e wa ⟨rfl,V⟩;go_simp;refine EZ B (zH.trans V) fun zH=>?_;clear B K;try simp only [zb,DN]
 refine zg 6 zH ?_;refine zg 7 zH ?_;simp only [zb,DN];refine zg 9 zH ?_;simp only [zb,DN];refine AD 8 fun K B=>?_;go_simp;go_at_call 56;refine (AQ 1 7 _).mono ?_;rintro e wb ⟨vb,rfl,a0,a9⟩;go_simp;refine EZ B (zH.trans a0) fun zH=>?_;clear B K;try simp only [zb,DN]
 refine AD 10 fun K B=>?_;go_simp;go_at_call 23;refine (L.out _ _ _ zH a9).mono ?_;rintro e wc ⟨rfl,a1⟩;go_simp;refine EZ B (zH.trans a1) fun zH=>?_;clear B K;try simp only [zb,DN]
 refine zg 11 zH ?_;refine zg 12 zH ?_;simp only [zb,DN];refine zg 14 zH ?_;simp only [zb,DN];refine AD 13 fun K B=>?_;go_simp;go_at_call 56;refine (AQ 1 7 _).mono ?_;rintro e wd' ⟨vd,rfl,a2,b0⟩;go_simp;refine EZ B (zH.trans a2) fun zH=>?_;clear B K;try simp only [zb,DN]
 refine AD 15 fun K B=>?_;go_simp;go_at_call 23;refine (M.out _ _ _ zH b0).mono ?_;rintro e we ⟨rfl,a3⟩;go_simp;refine EZ B (zH.trans a3) fun zH=>?_;clear B K;try simp only [zb,DN]
 refine zg 16 zH ?_;refine zg 17 zH ?_;simp only [zb,DN];refine zg 18 zH ?_;refine zg 19 zH ?_;simp only [zb,DN];refine AD 20 fun K B=>?_;go_simp;go_at_call 59;refine (g3.out _ zH).mono ?_;rintro e wo ⟨rfl,d5⟩;go_simp;refine EZ B (zH.trans d5) fun zH=>?_;clear B K;try simp only [zb,DN]
 refine zg 21 zH ?_;refine zg 22 zH ?_;simp only [zb,DN];refine zg 23 zH ?_;simp only [zb,DN];refine Ev (by kernel_rfl) ?_ _;have o:za wi wo:=(((((a4.trans V).trans a0).trans a1).trans a2).trans a3).trans d5;have g0:=fun W h=>g0 W (o.trans h)
 have g1:=fun W h=>g1 W (o.trans h)
 have g2:=fun W h=>g2 W (o.trans h)
 have q0:=fun W h=>q0 W (o.trans h)
 have q1:=fun W h=>q1 W (o.trans h)
 have q2:=fun W h=>q2 W (o.trans h)
 have a6:Hid (za w wo):=i8.out.trans o;have j2:=zh o;clear f9 L M g3 a4 V a0 a9 a1 a2 b0 a3 d5 b6 p0 p1 p2 z0 z1 z2;obtain ⟨st2,b4⟩:=EY (str++[120])
 have ha:∀w,(Op.stringOp .add ⟨str.toArray⟩ ⟨#[120]⟩).run Tryz.prog w=.ok (.string ⟨st2.toArray⟩) w:=fun w=>by
  rw [b4];exact add_str (y:=[120]) (by have h1:=yel;rw [<-Q.out,<-a8.out] at h1;simp;omega)
 have U:=dec_calls (l:=st2) wo (HV.out.ext a6.out);rw [show (decR st2).1=4 by rw [b4,a8.out,Q.out];exact yd2] at U;generalize (decR st2).2=pd at U;have a5:=zh U;have j9:za wo wo:=za.refl wo;clear U b4
 go_wp2_with fail
 refine a5.out.mono ?_;rintro e wp ⟨vp,rfl,h5,hp⟩;obtain ⟨Ds,es,Dk,ek,rfl,-⟩:=hp.form;have f2:=zh h5;clear h5 hp a5 ha j9;go_upto_region 11 with fail;obtain ⟨I,-,-,-⟩:=box3 wp (.int .i64 pd.task) (.slice Ds pd.side.length es) (.slice Dk pd.kids.length ek);generalize wp.alloc _=wq at I⊢;have d8:za wo wq:=f2.out.trans I;have i9:Hid (za w wq):=a6.out.trans d8;have i7:=f8.out wq (j2.out.trans d8);have c0:=zh i7;clear i7 f8 I f2
 go_wp2_with fail
 refine c0.out.mono ?_;rintro e wr ⟨rfl,h6⟩;have j0:Hid (za w wr):=i9.out.trans h6;clear h6 d8 c0
 go_wp2_with fail
 go_ret;exact ⟨rfl,j0.out⟩
end
end Go.Proofs.YtjomnbdjajjgfaaGreatDoor
