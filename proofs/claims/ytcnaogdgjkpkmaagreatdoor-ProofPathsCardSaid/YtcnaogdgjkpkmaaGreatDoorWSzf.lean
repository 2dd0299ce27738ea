import Derived.Test.YtcnaogdgjkpkmaaGreatDoorWSze
set_option linter.unusedVariables false
set_option linter.unusedSimpArgs false
set_option maxRecDepth 100000
set_option maxHeartbeats 16000000
namespace Go.Proofs.YtcnaogdgjkpkmaaGreatDoor
variable {l:Nat} {ok okp:Nat->Prop} {p:PT} {vp:Value} {W:World}
section
open Go.RowKit
attribute [local go_sem ↓] Go.wp_at_zero Go.wp_at_succ
attribute [local go_sem] Oper.semAt_some
theorem yield_any {m:Nat} {P:Program} {args:Array Value} {R:Ending->World->Prop} (h:YieldAt Fence.wide m P l args W R):
  ∃fn tmps assign body,(Instr.yield l args).run P W=.ok (.round l fn tmps assign body) W/\∀m',RoundIn Fence.wide m' P l fn tmps assign body W R:=by
 obtain ⟨fn,tmps,assign,body,o,d⟩:=h;exact ⟨fn,tmps,assign,body,o,fun m'=>⟨d.1,fun c cs _=>d.2 c cs (room_wide _)⟩⟩
def Marks (D:List Nat):List Deferred:=D.map fun r=>{ target:=.collected r,args:=#[] }
theorem Cj {F:Fence} {n:Nat} {P:Program} {fn:Func} {tmps:Array Value} {R:Ending->World->Prop} (J:fn.results=#[]):∀(D:List Nat) (B:Nat) (w:World),D.Nodup->(∀r∈D,B<=r/\w.heap[r]?=some (.deferred (some [])))->(∀w',Below B w w'->R (.returned (.tuple #[])) w')->LeavesInM F n P fn tmps R (Marks D) .returning w
 | [],B,w,_,_,h=>by
  unfold Marks LeavesInM LeavesIn;exact ⟨_,results_none J _ _ _,h w (Below.refl _ w)⟩
 | r :: D,B,w,E,G,h=>by
  obtain ⟨K,I⟩:=G r (En ..);have o:=(Ev.1 I).1;refine ⟨by simp,.inl ⟨_,_,rfl,run_takeDeferred I,?_⟩⟩;rw [List.nodup_cons] at E;refine Cj J D B _ E.2 (fun r' d=>?_) (fun w' L=>h w' ((zD _ K o).trans L));obtain ⟨h1,h2⟩:=G r' (DX _ d);exact ⟨h1,(World.putObj_heap_other (fun e:r'=r=>E.1 (by rw [<-e];exact d))).trans h2⟩
theorem zm.belowR {X:Nat->Prop} {a b c:World} {B:Nat} (h:zm X a b) (d:Below B b c) (r:a.heap.size<=B):zm X a c:=
 h.trans (X':=fun k=>B<=k) ⟨d.os,d.tape,d.output,d.size,fun k o D=>d.block k (by omega)⟩ (fun k o h=>absurd h (by omega))
theorem arr25 (T:Array Value) (h:T.size=25):∃x0 x1 x2 x3 x4 x5 x6 x7 x8 x9 x10 x11 x12 x13 x14 x15 x16 x17 x18 x19 x20 x21 x22 x23 x24,T=#[x0,x1,x2,x3,x4,x5,x6,x7,x8,x9,x10,x11,x12,x13,x14,x15,x16,x17,x18,x19,x20,x21,x22,x23,x24]:=by
 obtain ⟨l⟩:=T
 match l,h with
 | [x0,x1,x2,x3,x4,x5,x6,x7,x8,x9,x10,x11,x12,x13,x14,x15,x16,x17,x18,x19,x20,x21,x22,x23,x24],_=>exact ⟨_,_,_,_,_,_,_,_,_,_,_,_,_,_,_,_,_,_,_,_,_,_,_,_,_,rfl⟩
theorem cell_loop {g:Nat} {r:Loop} {t:TypeId} {cs:Array Value} (h:zj W g t cs) (B:W.heap[l]?=some (.loop r)) (o:Obj):zj (W.putObj l o) g t cs:=by
 refine (World.putObj_heap_other ?_).trans h;rintro rfl;have d:W.heap[g]?=some (.cells cs t):=h;rw [B] at d
 cases d
theorem fold_one (p:Tmp) (v:Value) (T:Array Value):(#[p].zip #[v]).foldl (fun t (p,v)=>t.setIfInBounds p v) T=T.setIfInBounds p v:=by
 simp
theorem sizeL_take:∀(l:List PT) (k:Nat) (d:k<l.length),PT.sizeL (l.take (k+1))=PT.sizeL (l.take k)+(l[k]).size
 | [],k,d=>by simp at d
 | x :: l,0,d=>by simp [PT.sizeL]
 | x :: l,k+1,d=>by
  have h:=sizeL_take l k (by simpa using d);simp only [List.take_succ_cons,PT.sizeL,List.getElem_cons_succ];omega
theorem size_pos (p:PT):1<=p.size:=by cases p;unfold PT.size;omega
theorem sizeL_len:∀(l:List PT),l.length<=PT.sizeL l
 | []=>DC _
 | x :: l=>by
  have h1:=sizeL_len l;have h2:=size_pos x;simp only [EF,PT.sizeL];omega
theorem sizeL_le:∀(l:List PT) (k:Nat),PT.sizeL (l.take k)<=PT.sizeL l
 | [],k=>by simp [PT.sizeL]
 | x :: l,0=>by simp [PT.sizeL]
 | x :: l,k+1=>by
  have h:=sizeL_le l k;simp only [List.take_succ_cons,PT.sizeL];omega
theorem Ay.inv {w:World} {t:Int} {vs vk:Value} (h:Ay w ok (.agg #[.int .i64 t,vs,vk]) p):∃side kids cs,p=.node t side kids/\zn w ok vs side/\An w ok 3 vk kids.length cs/\
  ∀(i:Nat) (o:i<kids.length),Ay w ok (.agg #[cs.getD (i*3) undef,cs.getD (i*3+1) undef,cs.getD (i*3+2) undef]) kids[i]:=by
 cases h with
 | mk h1 h2 d=>exact ⟨_,_,_,rfl,h1,h2,d⟩
theorem parts_calls {a0 a1 a2:Value} (w:World):
  Calls Tryz.prog 59 #[.agg #[a0,a1,a2]] w fun e w'=>∃gl,e=.returned (.func (.func 97) #[] #[.pointer (some ⟨gl,0,none⟩)])/\zc w w'/\w.heap.size<=gl/\w'.cell? ⟨gl,0,none⟩=some a0/\w'.cell? ⟨gl,1,none⟩=some a1/\w'.cell? ⟨gl,2,none⟩=some a2:=by
 go_enter Tryz.func59,Tryz.ntmps59
 go_wp2;go_ret;have d:=zj.new w #[a0,a1,a2] 27 (g:=w.heap.size) rfl;exact ⟨_,rfl,(zc.refl w).alloc _,DC _,d.cell (k:=0) rfl,d.cell (k:=1) rfl,d.cell (k:=2) rfl⟩
theorem parts_gives:∀(N:Nat) (p:PT),p.size<=N->N<=4000000000000000000->∀{t:Int} {vs vk:Value} (w:World) (gl:Nat) (Z:Nat->Prop),Ay w (fun b=>¬ Z b) (.agg #[.int .i64 t,vs,vk]) p->¬ Z gl->(∀b,Z b->b<w.heap.size)->
  w.cell? ⟨gl,0,none⟩=some (.int .i64 t)->w.cell? ⟨gl,1,none⟩=some vs->w.cell? ⟨gl,2,none⟩=some vk->∀n,GivesZ n Tryz.prog 97 #[.pointer (some ⟨gl,0,none⟩)] (fun x:Value=>#[x]) (fun k x W=>∃(t:Int) (A:Option Addr) (n c:Nat) (B:Option Addr) (k d:Nat),x=.agg #[.int .i64 t,.slice A n c,.slice B k d]) p.size Z w:=by
 intro N
 induction N with
 | zero=>intro p hp;have:=size_pos p;omega
 | succ N ih=>
  intro p l7 n6 t vs vk w gl Z hp h6 hZ e4 g6 g7 n;obtain ⟨side,kids,cs,rfl,hs,hk,he⟩:=hp.bound.inv;have IH:=zh ih;intro l J Jx W hW i9 i2 hJ f7 hY h0;have l9:(PT.node t side kids).size=1+PT.sizeL kids:=by unfold PT.size;rfl
  rw [l9] at l7 hY⊢;have n9:=sizeL_len kids;obtain ⟨Ak,ck,rfl,n7,i7⟩:=hk;obtain ⟨As0,cs0,rfl,-,-⟩:=hs;have f0:=zh i7;have HE:=zh he;have HJ:=zh hJ;have HY:=zh hY;have HZ:=zh hZ;have HG:=zh h6;have HW:=zh hW;have HL:Hid (w.heap.size<=l/\l<W.heap.size/\gl<w.heap.size):=⟨i9,i2,zp e4⟩;have d0:=hW.cell e4;have d1:=hW.cell g6;have d2:=hW.cell g7;have e0:=zc.rule d0;have e1:=zc.rule d1;have e2:=zc.rule d2;have e7:zc W W:=zc.refl W;have e6:=Ct W;clear d0 d1 d2;have h8:=hJ 0 W _ h0 ((zc.refl W).alloc (.cells #[.func (.yield l) #[] #[]] 72));have g5:zj (W.alloc (.cells #[.func (.yield l) #[] #[]] 72)) W.heap.size 72 _:=zj.new W #[.func (.yield l) #[] #[]] 72 rfl;have j1:=hY 0 (.agg #[.int .i64 t,.slice As0 side.length cs0,.slice Ak kids.length ck]) _ (by omega) h8 ⟨_,_,_,_,_,_,_,rfl⟩;obtain ⟨fn,tmps,assign,body,j3,hR⟩:=yield_any j1;have HR:=zh hR;clear hp he i7 hJ hY hZ h6 hW i9 i2 h0 e4 g6 g7 hR j1 h8 ih;refine callsIn_of_wp_marks Tryz.func97 rfl trivial ?_ rfl;simp only [Tryz.ntmps97,List.size_toArray,EF,EG,Nat.reduceAdd,Nat.reduceSub,Array.replicate_succ,Array.replicate_zero,List.push_toArray,List.append_toArray,List.nil_append,List.cons_append];have d4:=zh f7;clear f7 g5
  gi_wp2_with fail
  refine ⟨fun h=>absurd h (by simp [Fence.wide]),?_⟩;refine (HR.out _).mono ?_;clear HR j3;have G:Hid (zc W (W.alloc (.cells #[.func (.yield l) #[] #[]] 72))/\(W.alloc (.cells #[.func (.yield l) #[] #[]] 72)).cell? ⟨W.heap.size,0,none⟩=some (.func (.yield l) #[] #[])):=⟨(zc.refl W).alloc _,(zj.new W #[.func (.yield l) #[] #[]] 72 rfl).cell (k:=0) rfl⟩;generalize W.alloc _=W1 at G⊢;obtain ⟨gy,e5⟩:∃g,g=W.heap.size:=⟨_,rfl⟩;rw [<-e5] at G⊢;have j7:Hid (gy=W.heap.size):=e5;clear e5 e6 e7;rintro e W2 (⟨rfl,b9,E⟩ | ⟨rfl,b2⟩)
  case inr=>
   gi_wp2_with fail
   exact Cj rfl [] W.heap.size _ List.nodup_nil (fun _ h=>absurd h (Ew)) fun w' hw=>⟨⟨_,rfl⟩,.inr (d4.out _ _ b2.1 hw)⟩
  have e9:Hid (J (1+PT.sizeL (kids.take 0)) W2):=by (show J _ _);simpa [PT.sizeL] using b9
  have b3:=zh E
  have f2:W2.cell? ⟨gl,2,none⟩=some (.slice Ak kids.length ck):=E.cellk (e2 W1 G.out.1) (by
   have h1:=HL.out;rintro (h | h)
   ·have:gl=l:=h;omega
   ·exact HG.out h)
  clear b9 E
  gi_wp2_with fail
  clear f2;refine wpIn_loop (fun a wr=>∃(k:Nat) (D:List Nat) (y0 y1 y3 y4 y5 y6 y7 y8 y9 y10 y14 y15 y16 y17 y18 y19 y20 y21 y22 y23 y24:Value),k<=kids.length/\a={ tmps:=#[y0,y1,.pointer (some ⟨gy,0,none⟩),y3,y4,y5,y6,y7,y8,y9,y10,.slice Ak kids.length ck,.int .i64 kids.length,.int .i64 k,y14,y15,y16,y17,y18,y19,y20,y21,y22,y23,y24],defers:=Marks D }/\D.Nodup/\Hid (∀r∈D,W1.heap.size<=r/\wr.heap[r]?=some (.deferred (some [])))/\Hid (J (1+PT.sizeL (kids.take k)) wr)/\Hid (zm (fun b=>b=l\/Z b) W1 wr)) (fun a _=>kids.length - (intOf (a.tmps.getD 13 undef)).toNat) ?atStart ?round
  case atStart=>exact ⟨0,[],_,_,_,_,_,_,_,_,_,_,_,_,_,_,_,_,_,_,_,_,_,DR _,rfl,List.nodup_nil,(fun _ h=>absurd h (Ew)),e9.out,b3.out⟩
  clear e9 b3
  case round=>
   rintro a wk ⟨k,D,y0,y1,y3,y4,y5,y6,y7,y8,y9,y10,y14,y15,y16,y17,y18,y19,y20,y21,y22,y23,y24,hk,rfl,hD,b1,hj,b7⟩;by_cases i3:k<kids.length
   ·have m8:(k:Int)<(kids.length:Int):=by omega
    have m7:(0:Int)<=(k:Int):=by omega
    have a8:=HE.out k i3;have i1:=sizeL_take kids k i3;have l6:=sizeL_le kids (k+1);obtain ⟨b0,off0,rfl,l3,V⟩:=f0.out.2 (by omega);have g9:=f0.out.1;obtain ⟨kid,c8⟩:=EH (kids[k]);rw [<-c8] at a8 i1;obtain ⟨As,c1,Ak2,c2,L,-⟩:=a8.form;rw [L] at a8;simp only [Value.agg.injEq,Array.mk.injEq,List.cons.injEq,and_true] at L;obtain ⟨g0,g1,g2⟩:=L
    have b8:∀j,j<cs.length->wk.cell? ⟨b0,off0+j,none⟩=some (cs.getD j undef):=fun j hj=>by
     have h1:=V j (cs.getD j undef) (by rw [DB];rw [DA hj];rfl);refine b7.out.cellk (G.out.1.cell (HW.out.cell h1)) ?_;have h2:=HL.out;rintro (h | h)
     ·have:b0=l:=h;omega
     ·exact l3.1 h
    have m0:=b8 (k*3) (by omega);have m1:=b8 (k*3+1) (by omega);have m2:=b8 (k*3+2) (by omega);rw [g0] at m0;rw [g1,<-Nat.add_assoc] at m1;rw [g2,<-Nat.add_assoc] at m2;have k5:=zh a8;have d5:Hid (kid.size<=N/\1+PT.sizeL (kids.take (k+1))=1+PT.sizeL (kids.take k)+kid.size/\PT.sizeL (kids.take (k+1))<=PT.sizeL kids):=⟨by omega,by omega,by omega⟩;clear b8 g9 V c8 g0 g1 g2 a8 i1 l6;have e7:zc wk wk:=zc.refl wk;have e6:=Ct wk
    gi_wp2_with fail
    refine ⟨trivial,fun h=>absurd h (by simp [Fence.wide]),?_⟩;refine (callsIn_wide.2 (parts_calls _)).mono ?_;rintro e wp ⟨gx,rfl,c6,c7,i4,i5,i6⟩;have Q:zc wk wp:=((zc.refl wk).alloc _).trans c6;have l4:wk.heap.size<=gx:=by simp at c7;omega
    clear c6 c7;have M:Hid (W.heap.size<=W1.heap.size/\W1.heap.size<=wk.heap.size/\wk.heap.size<=wp.heap.size):=⟨G.out.1.size,b7.out.size,Q.size⟩;have f3:zm (fun b=>b=l\/Z b) w wp:=((zm.of_ext (X:=fun b=>b=l\/Z b) (HW.out.trans G.out.1)).tr b7.out).ext_r Q
    have g4:zW (fun b=>¬ Z b/\b<w.heap.size) w wp:=f3.same (fun b U=>by
     rintro (h | h)
     ·have h1:=HL.out;have h2:=U.2;omega
     ·exact U.1 h)
    have f8:=k5.out.keepW (ok':=fun b=>¬ (b=l\/Z b)) g4 (fun b U=>by
     rintro (h | h)
     ·have h1:=HL.out;have h2:=U.2;omega
     ·exact U.1 h)
    have f5:=IH.out kid d5.out.1 (by omega) wp gx (fun b=>b=l\/Z b) f8 (by
     have h1:=HL.out;have h2:=M.out;rintro (h | h)
     ·omega
     ·have:=HZ.out _ h;omega) (fun b U=>by
     have h1:=HL.out;have h2:=M.out;rcases U with h | h
     ·omega
     ·have:=HZ.out _ h;omega) i4 i5 i6
    have j9:=zh f5
    have I:Hid (∀r∈D,W1.heap.size<=r/\r<wp.heap.size):=fun r hr=>⟨(b1.out r hr).1,by
     have h1:=(Ev.1 (b1.out r hr).2).1;have h2:=M.out;omega⟩
    have j8:Hid (J (1+PT.sizeL (kids.take k)+0) wp/\zm (fun b=>b=l\/Z b) W1 wp/\∀r∈D,wp.heap[r]?=some (.deferred (some []))):=⟨HJ.out _ _ _ hj.out (Q.mono (by have:=M.out;omega)),b7.out.ext_r Q,fun r hr=>(Q.block _ (by have:=(Ev.1 (b1.out r hr).2).1;omega)).trans (b1.out r hr).2⟩;have n1:Hid (N<=4000000000000000000):=by (show _<=_);omega
    clear f3 g4 f8 f5 i4 i5 i6 l4 m0 m1 m2 e7 e6
    gi_wp2_with fail
    refine wpIn_loopZ (gf:=97) (lb:=#[.pointer (some ⟨gx,0,none⟩)]) rfl (enters_of Tryz.func97 (by kernel_rfl) rfl) (Z:=fun b=>b=l\/Z b) (fun b U=>by
     have h1:=HL.out;have h2:=M.out;rcases U with h | h
     ·omega
     ·have:=HZ.out _ h;omega) (j9.out _) (zc.refl wp) (fun _=>rfl)
     (fun j W'=>J (1+PT.sizeL (kids.take k)+j) W'/\zm (fun b=>b=l\/Z b) W1 W'/\∀r∈D,W'.heap[r]?=some (.deferred (some [])))
     (fun c W'=>c=.ret/\Jx W'/\∀r∈D,W'.heap[r]?=some (.deferred (some [])))
     ?hI ?hIx (fun j x a W'=>∃(gx2:Nat) (t:Int) (A:Option Addr) (n c:Nat) (B:Option Addr) (k d:Nat),x=.agg #[.int .i64 t,.slice A n c,.slice B k d]/\a.tmps.size=25/\a.defers=[]/\a.tmps.getD 2 undef=.pointer (some ⟨gy,0,none⟩)/\a.tmps.getD 5 undef=.pointer (some ⟨gx2,0,none⟩)/\zj W' gx2 27 #[.int .i64 t,.slice A n c,.slice B k d]) ?hG j8.out ?assign ?body ?done ?stop
    case hI=>
     rintro j A B ⟨h1,h2,h3⟩ O;have hs:=M.out;exact ⟨HJ.out _ _ _ h1 (O.mono (by omega)),h2.belowR O (by omega),fun r hr=>(O.block _ (I.out r hr).2).trans (h3 r hr)⟩
    case hIx=>
     rintro c A B ⟨h1,h2,h3⟩ O;have hs:=M.out;exact ⟨h1,d4.out _ _ h2 (O.mono (by omega)),fun r hr=>(O.block _ (I.out r hr).2).trans (h3 r hr)⟩
    case hG=>
     rintro j x a A l' ⟨gx2,a0,a1,a2,a3,a4,a5,a6,h1,h2,h3,h4,h5,U⟩ _ _ ⟨r,hr⟩ o;exact ⟨gx2,a0,a1,a2,a3,a4,a5,a6,h1,h2,h3,h4,h5,cell_loop U hr o⟩
    case assign=>
     rintro l2 j x W0 K l5 hi ⟨a0,a1,a2,a3,a4,a5,a6,rfl⟩ hs hK;clear hi;rw [fold_one];simp only [List.setIfInBounds_toArray,List.set_cons_zero,List.set_cons_succ]
     gi_wp2_with fail
     refine hK _ _ ((zc.refl W0).alloc (.cells #[.int .i64 a0,.slice a1 a2 a3,.slice a4 a5 a6] 27)) ?_;exact ⟨W0.heap.size,a0,a1,a2,a3,a4,a5,a6,rfl,rfl,rfl,rfl,rfl,zj.new W0 #[.int .i64 a0,.slice a1 a2 a3,.slice a4 a5 a6] 27 rfl⟩
    case body=>
     rintro l2 j x ⟨T,Df⟩ W0 l5 ⟨f6,d8,f9⟩ ⟨gx2,a0,a1,a2,a3,a4,a5,a6,rfl,hT,f4,d9,e3,b6⟩ hs ⟨rl,l8⟩;dsimp only at hT f4 d9 e3;subst f4;obtain ⟨x0,x1,x2,x3,x4,x5,x6,x7,x8,x9,x10,x11,x12,x13,x14,x15,x16,x17,x18,x19,x20,x21,x22,x23,x24,rfl⟩:=arr25 T hT;have b2:x2=.pointer (some ⟨gy,0,none⟩):=d9;have m3:x5=.pointer (some ⟨gx2,0,none⟩):=e3;subst b2 m3
     have y0:W0.cell? ⟨gy,0,none⟩=some (.func (.yield l) #[] #[]):=d8.cellk G.out.2 (by
      have h1:=HL.out;have h2:=j7.out;rintro (h | h)
      ·have:gy=l:=h;omega
      ·have:Z gy:=h;have:=HZ.out _ this;omega)
     have c0:=b6.cell (k:=0) rfl;have c1:=b6.cell (k:=1) rfl;have c2:=b6.cell (k:=2) rfl;have j2:=HY.out (1+PT.sizeL (kids.take k)+j) (.agg #[.int .i64 a0,.slice a1 a2 a3,.slice a4 a5 a6]) W0 (by have:=d5.out;omega) f6 ⟨_,_,_,_,_,_,_,rfl⟩;obtain ⟨fn,tmps,assign,body,j3,hR⟩:=yield_any j2;have HR:=zh hR;have b3:=zh d8;have b5:=zh f9;clear hT d9 e3 j2 hR f6 d8 f9 b6 l8 hs
     gi_wp2_with fail
     refine ⟨fun h=>absurd h (by simp [Fence.wide]),?_⟩;refine (HR.out _).mono ?_;rintro e W2 (⟨rfl,b9,E⟩ | ⟨rfl,b2,i0⟩)
     ·gi_wp2_with fail
      refine ⟨E,b9,b3.out.tr E,fun r hr=>(E.block r ((Ev.1 (b5.out r hr)).1) ?_).trans (b5.out r hr)⟩;have h1:=HL.out;have h2:=I.out r hr;have h3:=M.out;rintro (h | h)
      ·omega
      ·have:=HZ.out _ h;omega
     ·gi_wp2_with fail
      refine ⟨fun b g5 l1=>i0 b (by have:=M.out;omega) l1,rfl,b2,fun r hr=>(i0 r ?_ ((Ev.1 (b5.out r hr)).1)).trans (b5.out r hr)⟩;have h2:=I.out r hr;have h3:=M.out;omega
    case done=>
     rintro D0 W3 k8 ⟨h9,g8,a9⟩ a7;have k4:Hid (J (1+PT.sizeL (kids.take (k+1))) W3):=by (show J _ _);rw [d5.out.2.1];exact h9
     have j6:=zh g8
     have d6:Hid (∀r∈D0 :: D,W1.heap.size<=r/\W3.heap[r]?=some (.deferred (some []))):=fun r hr=>by
      rcases Ep.1 hr with rfl | hr
      ·exact ⟨by have:=M.out;omega,a7⟩
      ·exact ⟨(I.out r hr).1,a9 r hr⟩
     have c9:Hid ((D0 :: D).Nodup):=List.nodup_cons.2 ⟨fun h=>by have:=I.out _ h;omega,hD⟩;clear h9 g8 a9 a7
     gi_wp2_with fail
     exact ⟨⟨k+1,D0 :: D,_,_,_,_,_,_,_,_,_,_,_,_,_,_,_,_,_,_,_,_,_,by omega,rfl,c9.out,d6.out,k4.out,j6.out⟩,by simp [intOf];omega⟩
    case stop=>
     rintro D0 c W3 k8 ⟨rfl,j0,a9⟩ a7
     have d6:Hid (∀r∈D0 :: D,W1.heap.size<=r/\W3.heap[r]?=some (.deferred (some []))):=fun r hr=>by
      rcases Ep.1 hr with rfl | hr
      ·exact ⟨by have:=M.out;omega,a7⟩
      ·exact ⟨(I.out r hr).1,a9 r hr⟩
     have c9:Hid ((D0 :: D).Nodup):=List.nodup_cons.2 ⟨fun h=>by have:=I.out _ h;omega,hD⟩;have k6:=zh j0;clear j0 a9 a7
     gi_wp2_with fail
     exact Cj rfl (D0 :: D) W1.heap.size _ c9.out d6.out fun w' hw=>⟨⟨_,rfl⟩,.inr (d4.out _ _ k6.out (hw.mono (by have:=M.out;omega)))⟩
   ·obtain rfl:k=kids.length:=by omega
    rw [DN] at hj
    gi_wp2_with fail
    exact Cj rfl D W1.heap.size _ hD b1.out fun w' hw=>⟨⟨_,rfl⟩,.inl (HJ.out _ _ _ hj.out (hw.mono (by have:=G.out.1.size;omega)))⟩
theorem psize_calls (w:World) (hp:Ay w okp vp p) (b8:p.size<=4000000000000000000):
  Calls Tryz.prog 27 #[vp] w fun e w'=>e=.returned (.int .i64 (p.size:Nat))/\zc w w':=by
 refine (callsIn_wide (n:=6)).1 ?_;obtain ⟨As,cs,Ak,ck,rfl,-⟩:=hp.form;have HP:=zh hp;obtain ⟨z,hz⟩:=EH p.size;have HZ:=zh hz;rw [<-hz] at b8⊢;clear hz hp;refine callsIn_of_wp_marks Tryz.func27 rfl trivial ?_ rfl;simp only [Tryz.ntmps27,List.size_toArray,EF,EG,Nat.reduceAdd,Nat.reduceSub,Array.replicate_succ,Array.replicate_zero,List.push_toArray,List.append_toArray,List.nil_append,List.cons_append]
 gi_wp2_with (refine ⟨trivial,?_⟩;gi_at_call 59;refine (callsIn_wide.2 (parts_calls _)).mono ?_;rintro e wp ⟨gx,rfl,r,a5,a6,a7,a8⟩)
 have J:zc w ((w.alloc (.cells #[.int .i64 p.task,.slice As p.side.length cs,.slice Ak p.kids.length ck] 27)).alloc (.cells #[.int .i64 0] 3)):=((zc.refl w).alloc _).alloc _;have U:((w.alloc (.cells #[.int .i64 p.task,.slice As p.side.length cs,.slice Ak p.kids.length ck] 27)).alloc (.cells #[.int .i64 0] 3)).heap.size=w.heap.size+2:=by simp
 have E:=zj.new (w.alloc (.cells #[.int .i64 p.task,.slice As p.side.length cs,.slice Ak p.kids.length ck] 27)) #[.int .i64 0] 3 (g:=w.heap.size+1) (by simp);generalize (w.alloc (.cells #[.int .i64 p.task,.slice As p.side.length cs,.slice Ak p.kids.length ck] 27)).alloc (.cells #[.int .i64 0] 3)=w1 at J U E r a5⊢;have L:=J.trans r;have I:=E.ext r;obtain ⟨gn,O⟩:∃g,g=w.heap.size+1:=⟨_,rfl⟩;rw [<-O] at E I⊢;have d:Hid (gn=w.heap.size+1/\w1.heap.size=w.heap.size+2/\w1.heap.size<=wp.heap.size):=⟨O,U,r.size⟩;have Q:=parts_gives p.size p (DC _) (by have:=HZ.out;omega) wp gx (fun b=>b=gn) ((HP.out.bound.ext L).keepW (zW.of_below (zc.refl wp)) (fun b M h=>by have h1:=M.2;have h2:b=gn:=h;omega)) (by (show ¬ gx=gn);have:=d.out.2.1;omega) (fun b M=>by have h2:b=gn:=M;have h3:=d.out;omega) a6 a7 a8;rw [<-HZ.out] at Q;have b5:=zh Q;have V:=zh L;have b1:=zh I;clear Q J U E r a5 a6 a7 a8 L I O
 gi_wp2_with fail
 refine wpIn_loopZ (gf:=97) (lb:=#[.pointer (some ⟨gx,0,none⟩)]) rfl (enters_of Tryz.func97 (by kernel_rfl) rfl) (Z:=fun b=>b=gn) (fun b M=>by have h1:=d.out;omega) (b5.out _) (zc.refl wp) (fun _=>rfl)
  (fun j W'=>zj W' gn 3 #[.int .i64 (j:Nat)]/\zm (fun b=>b=gn) wp W')
  (fun c W'=>False)
  ?hI ?hIx (fun j x a W'=>a={ tmps:=#[Value.agg #[.int .i64 p.task,.slice As p.side.length cs,.slice Ak p.kids.length ck],.pointer (some ⟨w.heap.size,0,none⟩),.pointer (some ⟨gn,0,none⟩),.agg #[.int .i64 p.task,.slice As p.side.length cs,.slice Ak p.kids.length ck],.func (.func 97) #[] #[.pointer (some ⟨gx,0,none⟩)],x,undef,undef,undef],defers:=[] }) ?hG ⟨b1.out,zm.refl _ _⟩ ?assign ?body ?done ?stop
 case hI=>
  rintro j A B ⟨h1,h2⟩ a0;have hs:=d.out;exact ⟨h1.below a0 (by omega),h2.belowR a0 (DC _)⟩
 case hIx=>intro c A B h;exact h.elim
 case hG=>intro j x a A l' h _ _ _ o;exact h
 case assign=>
  intro l2 j x W0 K b7 hi hg hs hK;clear hi;rw [fold_one]
  gi_wp2_with fail
  exact hK _ _ (zc.refl _) rfl
 case body=>
  rintro l2 j x a W0 b7 ⟨D,a2⟩ rfl hs ⟨rl,b9⟩;have c0:=D.cell (k:=0) rfl;have hfz:=D.frozen 0;have a1:=D.set (k:=0) (.int .i64 ((j+1:Nat):Int));have d7:IntKind.i64.wrap ((j:Int)+1)=((j+1:Nat):Int):=by rw [DY];omega
  have a9:=zh a1;have b2:=zh a2;clear D a2 a1 b9 hs
  gi_wp2_with fail
  exact ⟨(zm.refl _ _).set gn 0 _ rfl,a9.out,b2.out.set gn 0 _ rfl⟩
 case done=>
  rintro D0 W3 b6 ⟨G,a3⟩ a4;have c0:=G.cell (k:=0) rfl;have hfz:=G.frozen 0;have b0:Hid (zj (W3.setCell ⟨gn,0,none⟩ (.int .i64 (z:Nat))) gn 3 #[.int .i64 (z:Nat)]):=G.set (k:=0) _;have b3:Hid (zm (fun b=>b=gn) wp (W3.setCell ⟨gn,0,none⟩ (.int .i64 (z:Nat)))):=a3.set gn 0 _ rfl;have b4:Hid ((W3.setCell ⟨gn,0,none⟩ (.int .i64 (z:Nat))).heap[D0]?=some (.deferred (some []))):=(DL W3 ⟨gn,0,none⟩ _ D0 (by have:=d.out;(show D0≠gn);omega)).trans a4;clear G a3 a4
  gi_wp2_with fail
  refine ⟨by simp,.inl ⟨_,_,rfl,run_takeDeferred b4.out,?_⟩⟩;have hS:∀b,b≠D0->((W3.setCell ⟨gn,0,none⟩ (.int .i64 (z:Nat))).putObj D0 (.deferred none)).heap[b]?=(W3.setCell ⟨gn,0,none⟩ (.int .i64 (z:Nat))).heap[b]?:=fun b M=>World.putObj_heap_other M
  have y:=(show zj ((W3.setCell ⟨gn,0,none⟩ (.int .i64 (z:Nat))).putObj D0 (.deferred none)) gn _ _ from (hS gn (by have:=d.out;omega)).trans b0.out).cell (k:=0) rfl;refine ⟨.int .i64 (z:Nat),by simp [results,Tryz.results27,go_sem,y],rfl,?_⟩;have h1:=d.out;have h2:=(b3.out.grown (grownBy_putObj' _ _ (.deferred none)) (fun k e hk=>absurd hk (by have e':D0=k:=Option.some.inj e;omega)));exact Below.trans V.out (h2.below V.out.size (fun b M=>by omega))
 case stop=>intro D0 c W3 b6 h;exact h.elim
end
section
open Go.RowKit
attribute [local go_sem ↓] Go.wp_at_zero Go.wp_at_succ
theorem Bl {v:Value} {m:MZ} (w:World) (hm:zM w ok v m) (hl:Lens m) (hp:Ay w okp vp p) (b3:p.Lens) (b4:p.size<=4000000000000000000):
  Calls Tryz.prog 12 #[v,vp] w fun e w'=>e=.returned (.bool (Ar m p))/\zc w w':=by
 have HM:=zh hm;have HL:=zh hl;have HP:=zh hp;have c0:=zh b3;have V:=zh b4;obtain ⟨Af,cf,Au,cu,At,ct,rfl,-,-,-⟩:=hm.parts;obtain ⟨As,cs,Ak,ck,rfl,-⟩:=hp.form;clear hm hl hp b3 b4;obtain ⟨R,hR⟩:=EH (Ar m p);rw [<-hR];have HR:=zh hR;clear hR
 go_enter Tryz.func12,Tryz.ntmps12
 go_upto_region 1 with fail;obtain ⟨M,r0,r1,r2,r3,r4,r5⟩:=box6 w (.int .i64 m.w) (.int .i64 m.h) (.int .i64 m.l) (.slice Af m.free.length cf) (.slice Au m.up.length cu) (.slice At m.tasks.length ct);have O:(w.alloc (.cells #[.int .i64 m.w,.int .i64 m.h,.int .i64 m.l,.slice Af m.free.length cf,.slice Au m.up.length cu,.slice At m.tasks.length ct] 35)).heap.size=w.heap.size+1:=by simp
 generalize w.alloc _=w0 at M r0 r1 r2 r3 r4 r5 O⊢;obtain ⟨I,p0,p1,p2⟩:=box3 w0 (.int .i64 p.task) (.slice As p.side.length cs) (.slice Ak p.kids.length ck);generalize w0.alloc _=w1 at I p0 p1 p2⊢;rw [O] at p0 p1 p2;obtain ⟨gm,b1⟩:=EH w.heap.size;rw [<-b1] at r0 r1 r2 r3 r4 r5 p0 p1 p2⊢;have D:=zh I;have o:=zh (M.trans I);have r0:=fun W h=>r0 W (D.out.trans h)
 have r1:=fun W h=>r1 W (D.out.trans h)
 have r2:=fun W h=>r2 W (D.out.trans h)
 have r3:=fun W h=>r3 W (D.out.trans h)
 have r4:=fun W h=>r4 W (D.out.trans h)
 have r5:=fun W h=>r5 W (D.out.trans h)
 clear b1 M I O;have hx:zc w1 w1:=zc.refl w1;obtain ⟨ck0,E⟩:∃c,c=Br m:=⟨_,rfl⟩;have Q:=zh E
 have G:Hid (∀W,zc w1 W->Calls Tryz.prog 31 #[.agg #[.int .i64 m.w,.int .i64 m.h,.int .i64 m.l,.slice Af m.free.length cf,.slice Au m.up.length cu,.slice At m.tasks.length ct]] W fun e w'=>e=.returned (.int .i64 ck0)/\zc W w'):=fun W hW=>by
  rw [E];exact Be W (HM.out.below (o.out.trans hW)) HL.out
 clear E;obtain ⟨z,hz⟩:=EH p.size;have HZ:=zh hz
 have a9:Hid (∀W,zc w1 W->Calls Tryz.prog 27 #[.agg #[.int .i64 p.task,.slice As p.side.length cs,.slice Ak p.kids.length ck]] W fun e w'=>e=.returned (.int .i64 (z:Nat))/\zc W w'):=fun W hW=>by
  rw [hz];exact psize_calls W (HP.out.ext (o.out.trans hW)) V.out
 clear hz;by_cases h0:ck0=0
 ·subst h0;have HC:Hid (Br m=0):=Q.out.symm
  have U:Hid (∀W,zc w1 W->Calls Tryz.prog 32 #[.agg #[.int .i64 m.w,.int .i64 m.h,.int .i64 m.l,.slice Af m.free.length cf,.slice Au m.up.length cu,.slice At m.tasks.length ct],.slice none 0 0] W fun e w'=>∃a0 a1 a2 a3 a4 a5 a6 a7 a8,e=.returned (.agg #[a0,a1,a2,a3,a4,a5,a6,a7,a8])/\zc W w'/\∀W',zc w' W'->Calls Tryz.prog 33 #[.agg #[a0,a1,a2,a3,a4,a5,a6,a7,a8],.agg #[.int .i64 p.task,.slice As p.side.length cs,.slice Ak p.kids.length ck]] W' fun e w'=>e=.returned (.bool (AP m p []))/\zc W' w'):=fun W hW=>by
   refine (of_calls (ok:=fun b=>ok b) W (HM.out.below (o.out.trans hW)) HL.out HC.out (zn.nil _ _) zw.nil).mono ?_;rintro e w' ⟨vp',rfl,b0,hS⟩;refine ⟨_,_,_,_,_,_,_,_,_,rfl,b0,fun W' hW'=>?_⟩;exact pholds_calls HL.out HC.out 4000000000000000000 _ _ _ _ _ _ _ _ _ _ W' (hS.more hW') zw.nil (HP.out.ext ((o.out.trans hW).trans (b0.trans hW'))) V.out c0.out
  by_cases h1:0<m.tasks.length
  ·have c6:(0:Int)<(m.tasks.length:Int):=by omega
   by_cases h2:z<=3000
   ·have c7:(z:Int)<=3000:=by omega
    have J:Hid (R=AP m p []):=by (show _=_);rw [HR.out];unfold Ar;rw [DF HC.out,DF h1,<-HZ.out,DF h2];rfl
    obtain ⟨hb,b2⟩:=EH (AP m p []);rw [<-b2] at U J;clear b2;refine DT (S:=(fun W=>zc w1 W)) zN (hx.drew) fun zH=>?_;have B:zc w1 w1.drew:=zH;clear B;generalize w1.drew=wd at zH⊢;refine ze 0 zH ?_;simp only [za,Dz];refine zC 1 fun K d=>?_;go_simp;go_at_call 31;refine (G.out _ zH).mono ?_;rintro e w2 ⟨rfl,r⟩;go_simp;refine EI d (zH.trans r) fun zH=>?_;clear d K;try simp only [za,Dz]
    refine ze 2 zH ?_;refine ze 3 zH ?_;simp only [za,Dz];refine ze 4 zH ?_;refine ze 5 zH ?_;simp only [za,Dz];refine ze 6 zH ?_;refine ze 7 zH ?_;simp only [za,Dz];refine ze 8 zH ?_;refine ze 9 zH ?_;simp only [za,Dz];refine ze 10 zH ?_;simp only [za,Dz];refine zC 11 fun K d=>?_;go_simp;go_at_call 27;refine (a9.out _ zH).mono ?_;rintro e w3 ⟨rfl,L⟩;go_simp;refine EI d (zH.trans L) fun zH=>?_;clear d K;try simp only [za,Dz]
    refine ze 12 zH ?_;refine ze 13 zH ?_;simp only [za,Dz];refine ze 14 zH ?_;refine ze 15 zH ?_;simp only [za,Dz];refine ze 17 zH ?_;simp only [za,Dz];refine zC 16 fun K d=>?_;go_simp;go_at_call 32;refine (U.out _ zH).mono ?_;rintro e w4 ⟨a0,a1,a2,a3,a4,a5,a6,a7,a8,rfl,c8,HK⟩;have b8:=zh HK;clear HK;go_simp;refine EI d (zH.trans c8) fun zH=>?_;clear d K;try simp only [za,Dz]
    refine zC 18 fun K d=>?_;go_simp;go_at_call 33;refine (b8.out _ (zc.refl _)).mono ?_;rintro e w5 ⟨rfl,c9⟩;go_simp;refine EI d (zH.trans c9) fun zH=>?_;clear d K;try simp only [za,Dz]
    refine ze 19 zH ?_;refine ze 20 zH ?_;simp only [za,Dz];refine Eg (by kernel_rfl) ?_ _
    go_wp2_with fail
    go_ret;exact ⟨zk J.out.symm,o.out.trans zH⟩
   ·have c7:¬ ((z:Int)<=3000):=by omega
    have J:Hid (R=false):=by (show _=_);rw [HR.out];unfold Ar;rw [<-HZ.out,DG h2];simp
    refine DT (S:=(fun W=>zc w1 W)) zN (hx.drew) fun zH=>?_;have B:zc w1 w1.drew:=zH;clear B;generalize w1.drew=wd at zH⊢;refine ze 0 zH ?_;simp only [za,Dz];refine zC 1 fun K d=>?_;go_simp;go_at_call 31;refine (G.out _ zH).mono ?_;rintro e w2 ⟨rfl,r⟩;go_simp;refine EI d (zH.trans r) fun zH=>?_;clear d K;try simp only [za,Dz]
    refine ze 2 zH ?_;refine ze 3 zH ?_;simp only [za,Dz];refine ze 4 zH ?_;refine ze 5 zH ?_;simp only [za,Dz];refine ze 6 zH ?_;refine ze 7 zH ?_;simp only [za,Dz];refine ze 8 zH ?_;refine ze 9 zH ?_;simp only [za,Dz];refine ze 10 zH ?_;simp only [za,Dz];refine zC 11 fun K d=>?_;go_simp;go_at_call 27;refine (a9.out _ zH).mono ?_;rintro e w3 ⟨rfl,L⟩;go_simp;refine EI d (zH.trans L) fun zH=>?_;clear d K;try simp only [za,Dz]
    refine ze 12 zH ?_;refine ze 13 zH ?_;simp only [za,Dz];refine ze 14 zH ?_;refine zI 15 zH ?_;simp only [za,Dz];refine zI 16 zH ?_;refine zI 17 zH ?_;simp only [za,Dz];refine zI 18 zH ?_;refine ze 19 zH ?_;simp only [za,Dz];refine ze 20 zH ?_;simp only [za,Dz];refine Eg (by kernel_rfl) ?_ _
    go_wp2_with fail
    go_ret;exact ⟨zk J.out.symm,o.out.trans zH⟩
  ·have c6:¬ ((0:Int)<(m.tasks.length:Int)):=by omega
   have J:Hid (R=false):=by (show _=_);rw [HR.out];unfold Ar;rw [DG h1];simp
   have e2:decide (0<m.tasks.length)=false:=DG h1;refine DT (S:=(fun W=>zc w1 W)) zN (hx.drew) fun zH=>?_;have B:zc w1 w1.drew:=zH;clear B;generalize w1.drew=wd at zH⊢;refine ze 0 zH ?_;simp only [za,Dz];refine zC 1 fun K d=>?_;go_simp;go_at_call 31;refine (G.out _ zH).mono ?_;rintro e w2 ⟨rfl,r⟩;go_simp;refine EI d (zH.trans r) fun zH=>?_;clear d K;try simp only [za,Dz]
   refine ze 2 zH ?_;refine ze 3 zH ?_;simp only [za,Dz];refine ze 4 zH ?_;refine ze 5 zH ?_;simp only [za,Dz];refine ze 6 zH ?_;refine ze 7 zH ?_;simp only [za,Dz];refine ze 8 zH ?_;refine ze 9 zH ?_;simp only [za,Dz];refine zI 10 zH ?_;refine zI 11 zH ?_;simp only [za,Dz];refine zI 12 zH ?_;refine ze 13 zH ?_;simp only [za,Dz];refine ze 14 zH ?_;refine zI 15 zH ?_;simp only [za,Dz];refine zI 16 zH ?_;refine zI 17 zH ?_;simp only [za,Dz];refine zI 18 zH ?_;refine ze 19 zH ?_;simp only [za,Dz];refine ze 20 zH ?_;simp only [za,Dz];refine Eg (by kernel_rfl) ?_ _
   go_wp2_with fail
   go_ret;exact ⟨zk J.out.symm,o.out.trans zH⟩
 ·have e3:(ck0==0)=false:=by rw [DP];exact h0
  have J:Hid (R=false):=by (show _=_);rw [HR.out];unfold Ar;rw [DG (by rw [<-Q.out];exact h0)];rfl
  refine DT (S:=(fun W=>zc w1 W)) zN (hx.drew) fun zH=>?_;have B:zc w1 w1.drew:=zH;clear B;generalize w1.drew=wd at zH⊢;refine ze 0 zH ?_;simp only [za,Dz];refine zC 1 fun K d=>?_;go_simp;go_at_call 31;refine (G.out _ zH).mono ?_;rintro e w2 ⟨rfl,r⟩;go_simp;refine EI d (zH.trans r) fun zH=>?_;clear d K;try simp only [za,Dz]
  refine ze 2 zH ?_;refine ze 3 zH ?_;simp only [za,Dz];refine zI 4 zH ?_;refine zI 5 zH ?_;simp only [za,Dz];refine zI 6 zH ?_;refine zI 7 zH ?_;simp only [za,Dz];refine ze 8 zH ?_;refine ze 9 zH ?_;simp only [za,Dz];refine zI 10 zH ?_;refine zI 11 zH ?_;simp only [za,Dz];refine zI 12 zH ?_;refine ze 13 zH ?_;simp only [za,Dz];refine ze 14 zH ?_;refine zI 15 zH ?_;simp only [za,Dz];refine zI 16 zH ?_;refine zI 17 zH ?_;simp only [za,Dz];refine zI 18 zH ?_;refine ze 19 zH ?_;simp only [za,Dz];refine ze 20 zH ?_;simp only [za,Dz];refine Eg (by kernel_rfl) ?_ _
  go_wp2_with fail
  go_ret;exact ⟨zk J.out.symm,o.out.trans zH⟩
end
end Go.Proofs.YtcnaogdgjkpkmaaGreatDoor
